-- Printed by this session's program (wip/tools: the kit's printer, turned for this claim), out of the translation.
import Derived.Test.YtahepinbmcgbnaaPAx0
import Derived.Test.YtahepinbmcgbnaaPAx2
import Derived.Test.YtahepinbmcgbnaaPAx4
import Derived.Test.YtahepinbmcgbnaaPAx5
import Derived.Test.YtahepinbmcgbnaaPAx8
namespace Go.Proofs.Ytahepinbmcgbnaa.PA
open Go.RowKit Go.Proofs.YtahepinbmcgbnaaW.PrintWords Go.Proofs.YtahepinbmcgbnaaW.PrintLast Go.Proofs.YtahepinbmcgbnaaW.PrintMore
attribute [local go_sem] max2_int min2_int max_two min_two max_three min_three max_four min_four   -- for this text's walks alone
attribute [local go_sem] Fl.frombits Fl.tobits
set_option linter.unusedVariables false
set_option linter.unusedSimpArgs false

/-! ### word_Conv: function 21 -/
mutual
def word_Conv.j0 : Nat → Int → Int → Int → Bool → Option (Int × Int)
  | 0, _, _, _, _ => none
  | k + 1, x0, x1, x2, x9 => if x9 = true then (some (0, 10)) else ((word_Is.f k x0 x2).bind fun t220 => (if t220 = true then (if x0 = 10 then (word_Conv.j1 k x0 x1 x2 false) else (word_Conv.j1 k x0 x1 x2 (x1 != 10))) else (some (0, 11))))
def word_Conv.j1 : Nat → Int → Int → Int → Bool → Option (Int × Int)
  | 0, _, _, _, _ => none
  | k + 1, x0, x1, x2, x25 => if x25 = true then ((word_Canon.f k x1 x2).bind fun t221 => (some (t221, 0))) else (if x0 = x1 then (some (x2, 0)) else (if x0 = 10 then ((word_cut.f ((x2).toNat)).bind fun t222 => ((word_Canon.f k x1 t222).bind fun t223 => (some (t223, 0)))) else ((word_signed.f x0).bind fun t224 => (if t224 = true then (some ((floatOfInt .f64 (wrap64 (x2)) : Int), 0)) else (some ((floatOfInt .f64 x2 : Int), 0))))))
end
def word_Conv.f (k : Nat) (a0 : Int) (a1 : Int) (a2 : Int) : Option (Int × Int) := (word_Conv_1.f a0).bind fun t218 => (if t218 = true then ((word_Conv_1.f a1).bind fun t219 => (word_Conv.j0 k a0 a1 a2 (!t219))) else (word_Conv.j0 k a0 a1 a2 true))
theorem word_Conv.mono_l : ∀ k, (∀ y0 y1 y2 y3, LeO (word_Conv.j0 k y0 y1 y2 y3) (word_Conv.j0 (k + 1) y0 y1 y2 y3)) ∧ (∀ y0 y1 y2 y3, LeO (word_Conv.j1 k y0 y1 y2 y3) (word_Conv.j1 (k + 1) y0 y1 y2 y3))
  | 0 => ⟨fun _ _ _ _ r h => by simp [word_Conv.j0] at h, fun _ _ _ _ r h => by simp [word_Conv.j1] at h⟩
  | k + 1 => by
    obtain ⟨ih0, ih1⟩ := word_Conv.mono_l k
    refine ⟨?_, ?_⟩
    · intro y0 y1 y2 y3
      unfold word_Conv.j0
      repeat' first
      | (with_reducible exact ih0 _ _ _ _)
      | (with_reducible exact ih1 _ _ _ _)
      | (with_reducible exact word_Canon.mono _ _ _)
      | (with_reducible exact word_Is.mono _ _ _)
      | (with_reducible exact LeO.refl _)
      | (with_reducible exact LeO.none _)
      | (with_reducible refine LeO.ite ?_ ?_)
      | (with_reducible refine LeO.bind ?_ (fun _ => ?_))
      | exact ih0 _ _ _ _
      | exact ih1 _ _ _ _
      | exact word_Canon.mono _ _ _
      | exact word_Is.mono _ _ _
      | exact LeO.none _
      | refine LeO.ite ?_ ?_
      | refine LeO.bind ?_ (fun _ => ?_)
    · intro y0 y1 y2 y3
      unfold word_Conv.j1
      repeat' first
      | (with_reducible exact ih0 _ _ _ _)
      | (with_reducible exact ih1 _ _ _ _)
      | (with_reducible exact word_Canon.mono _ _ _)
      | (with_reducible exact word_Is.mono _ _ _)
      | (with_reducible exact LeO.refl _)
      | (with_reducible exact LeO.none _)
      | (with_reducible refine LeO.ite ?_ ?_)
      | (with_reducible refine LeO.bind ?_ (fun _ => ?_))
      | exact ih0 _ _ _ _
      | exact ih1 _ _ _ _
      | exact word_Canon.mono _ _ _
      | exact word_Is.mono _ _ _
      | exact LeO.none _
      | refine LeO.ite ?_ ?_
      | refine LeO.bind ?_ (fun _ => ?_)
theorem word_Conv.mono : ∀ a0 a1 a2 k, LeO (word_Conv.f k a0 a1 a2) (word_Conv.f (k + 1) a0 a1 a2) := by
  intro a0 a1 a2 k
  obtain ⟨ih0, ih1⟩ := word_Conv.mono_l k
  unfold word_Conv.f
  repeat' first
      | (with_reducible exact ih0 _ _ _ _)
      | (with_reducible exact ih1 _ _ _ _)
      | (with_reducible exact word_Canon.mono _ _ _)
      | (with_reducible exact word_Is.mono _ _ _)
      | (with_reducible exact LeO.refl _)
      | (with_reducible exact LeO.none _)
      | (with_reducible refine LeO.ite ?_ ?_)
      | (with_reducible refine LeO.bind ?_ (fun _ => ?_))
      | exact ih0 _ _ _ _
      | exact ih1 _ _ _ _
      | exact word_Canon.mono _ _ _
      | exact word_Is.mono _ _ _
      | exact LeO.none _
      | refine LeO.ite ?_ ?_
      | refine LeO.bind ?_ (fun _ => ?_)
set_option maxHeartbeats 8000000 in
set_option maxRecDepth 100000 in
theorem word_Conv.calls (k : Nat) (a0 : Int) (a1 : Int) (a2 : Int) (r1 : Int) (r2 : Int) (w : World) (h : word_Conv.f k a0 a1 a2 = some (r1, r2)) :
    Calls Try.prog 21 #[.int .i64 a0, .int .i64 a1, .int .u64 a2] w fun e w' => e = .returned (.tuple #[.int .u64 r1, .int .i64 r2]) ∧ Drawn0 w w' := by
  have H : ((word_Conv_1.f a0).bind fun t218 => (if t218 = true then ((word_Conv_1.f a1).bind fun t219 => (word_Conv.j0 k a0 a1 a2 (!t219))) else (word_Conv.j0 k a0 a1 a2 true))) = some (r1, r2) := h
  clear h
  have HC4 := Aside0.mk H
  clear H
  go_enter Try.func21, Try.ntmps21
  go_upto_region 2 with (fail)
  go_cut [9] (fun v9 wc => ∃ (kq : Nat) (x9_3 : Bool), v9 = .bool x9_3 ∧ Aside0 (word_Conv.j0 kq a0 a1 a2 x9_3 = some (r1, r2)) ∧ Aside0 (kq ≤ k) ∧ Drawn0 w wc)
  case first =>
    have H := HC4.out
    clear HC4
    replace H := Option.bind_eq_some_iff.mp H
    obtain ⟨t218, A50, H⟩ := H
    replace H : (if t218 = true then ((word_Conv_1.f a1).bind fun t219 => (word_Conv.j0 k a0 a1 a2 (!t219))) else (word_Conv.j0 k a0 a1 a2 true)) = some (r1, r2) := H
    have A5 := Aside0.mk A50
    clear A50
    by_cases c6 : t218 = true
    · subst c6
      have H1 : ((word_Conv_1.f a1).bind fun t219 => (word_Conv.j0 k a0 a1 a2 (!t219))) = some (r1, r2) := by rw [if_pos rfl] at H; exact H
      clear H
      have H := H1
      clear H1
      replace H := Option.bind_eq_some_iff.mp H
      obtain ⟨t219, A70, H⟩ := H
      replace H : (word_Conv.j0 k a0 a1 a2 (!t219)) = some (r1, r2) := H
      have A7 := Aside0.mk A70
      clear A70
      have H' := Aside0.mk H
      clear H
      go_wp2_with (first | (go_at_call 51; (with_reducible refine (word_Conv_1.calls a0 true _ A5.out).mono ?_); rintro e w' ⟨rfl, ⟨nd, rfl⟩⟩) | (go_at_call 51; (with_reducible refine (word_Conv_1.calls a1 t219 _ A7.out).mono ?_); rintro e w' ⟨rfl, ⟨nd, rfl⟩⟩))
      go_meet
      case rel => exact ⟨_, (!t219), (by first | rfl | (simp; done) | (simp [*]; done)), H', ⟨by first | omega | exact Nat.le_refl _⟩, by repeat (first | exact Drawn0.refl _ | apply Drawn0.step)⟩
    · replace c6 := Bool.eq_false_iff.mpr c6
      subst c6
      have H1 : (word_Conv.j0 k a0 a1 a2 true) = some (r1, r2) := by rw [if_neg (show ¬ (false = true) by decide)] at H; exact H
      clear H
      have H := H1
      clear H1
      have H' := Aside0.mk H
      clear H
      go_wp2_with (first | (go_at_call 51; (with_reducible refine (word_Conv_1.calls a0 false _ A5.out).mono ?_); rintro e w' ⟨rfl, ⟨nd, rfl⟩⟩))
      go_meet
      case rel => exact ⟨_, (true), (by first | rfl | (simp; done) | (simp [*]; done)), H', ⟨by first | omega | exact Nat.le_refl _⟩, by repeat (first | exact Drawn0.refl _ | apply Drawn0.step)⟩
  case rest =>
    clear HC4
    try clear c2
    try clear p2
    try clear c6
    obtain ⟨kq, x9_3, rfl, HA, HJ3, ⟨mc3, rfl⟩⟩ := hcut
    cases kq with
    | zero => exact absurd HA.out (by simp [word_Conv.j0])
    | succ kj3 =>
      have H := HA.out
      clear HA
      simp only [word_Conv.j0] at H
      by_cases c8 : x9_3 = true
      · subst c8
        have H1 : (some (0, 10)) = some (r1, r2) := by rw [if_pos rfl] at H; exact H
        clear H
        have H := H1
        clear H1
        simp only [Option.some.injEq, Prod.mk.injEq] at H
        obtain ⟨rfl, rfl⟩ := H
        go_wp2
        go_ret2
        exact ⟨by first | rfl | (simp; done) | (simp [*]; done), by repeat (first | exact Drawn0.refl _ | apply Drawn0.step)⟩
      · replace c8 := Bool.eq_false_iff.mpr c8
        subst c8
        have H1 : ((word_Is.f kj3 a0 a2).bind fun t220 => (if t220 = true then (if a0 = 10 then (word_Conv.j1 kj3 a0 a1 a2 false) else (word_Conv.j1 kj3 a0 a1 a2 (a1 != 10))) else (some (0, 11)))) = some (r1, r2) := by rw [if_neg (show ¬ (false = true) by decide)] at H; exact H
        clear H
        have H := H1
        clear H1
        replace H := Option.bind_eq_some_iff.mp H
        obtain ⟨t220, A90, H⟩ := H
        replace H : (if t220 = true then (if a0 = 10 then (word_Conv.j1 kj3 a0 a1 a2 false) else (word_Conv.j1 kj3 a0 a1 a2 (a1 != 10))) else (some (0, 11))) = some (r1, r2) := H
        have A9 := Aside0.mk A90
        clear A90
        by_cases c10 : t220 = true
        · subst c10
          have H1 : (if a0 = 10 then (word_Conv.j1 kj3 a0 a1 a2 false) else (word_Conv.j1 kj3 a0 a1 a2 (a1 != 10))) = some (r1, r2) := by rw [if_pos rfl] at H; exact H
          clear H
          have H := H1
          clear H1
          have HC11 := Aside0.mk H
          clear H
          go_upto_region 6 with (first | ((with_reducible refine gate_callee (f := 17) rfl ?_); refine goesL_ (some 23) rfl rfl Try.func17 (by kernel_rfl) rfl #[.int .i64 a0, .int .u64 a2] rfl (by (try simp only [List.map_toArray, List.map_cons, List.map_nil]); first | done | rfl | (simp only [List.length_drop, List.length_take]; rfl)) ?_; (with_reducible refine (word_Is.calls kj3 a0 a2 true _ A9.out).mono ?_); rintro e w' ⟨rfl, ⟨nd, rfl⟩⟩; refine ⟨_, rfl, ?_⟩))
          (try simp only [Act.put, List.setIfInBounds_toArray, List.set_cons_zero, List.set_cons_succ])
          go_cut [25] (fun v25 wc => ∃ (kq : Nat) (x25_10 : Bool), v25 = .bool x25_10 ∧ Aside0 (word_Conv.j1 kq a0 a1 a2 x25_10 = some (r1, r2)) ∧ Aside0 (kq ≤ kj3) ∧ Drawn0 w wc)
          case first =>
            have H := HC11.out
            clear HC11
            by_cases c12 : a0 = 10
            · rw [if_pos c12] at H
              have c12b0 : (a0 == 10) = true := beq_iff_eq.mpr c12
              have c12b1 : (a0 != 10) = false := bne_eq_false_iff_eq.mpr c12
              clear c12
              (first | rw [c12b0] | (simp only [i64_w, i32_w]; rw [c12b0]) | skip)
              have H' := Aside0.mk H
              clear H
              go_wp2
              go_meet
              case rel => exact ⟨_, (false), (by first | rfl | (simp; done) | (simp [*]; done)), H', ⟨by have := HJ3.out; first | omega | exact Nat.le_refl _⟩, by repeat (first | exact Drawn0.refl _ | apply Drawn0.step)⟩
            · rw [if_neg c12] at H
              have c12b0 : (a0 == 10) = false := beq_eq_false_iff_ne.mpr c12
              have c12b1 : (a0 != 10) = true := bne_iff_ne.mpr c12
              (first | rw [c12b0] | (simp only [i64_w, i32_w]; rw [c12b0]) | skip)
              have H' := Aside0.mk H
              clear H
              go_wp2
              go_meet
              case rel => exact ⟨_, ((a1 != 10)), (by first | rfl | (simp; done) | (simp [*]; done)), H', ⟨by have := HJ3.out; first | omega | exact Nat.le_refl _⟩, by repeat (first | exact Drawn0.refl _ | apply Drawn0.step)⟩
          case rest =>
            clear HC11
            try clear c1
            try clear c2
            try clear p2
            try clear c3
            try clear c6
            try clear c8
            try clear c10
            try clear c12
            try clear c12b0
            try clear c12b1
            try clear p2
            obtain ⟨kq, x25_10, rfl, HA, HJ10, ⟨mc10, rfl⟩⟩ := hcut
            cases kq with
            | zero => exact absurd HA.out (by simp [word_Conv.j1])
            | succ kj10 =>
              have H := HA.out
              clear HA
              simp only [word_Conv.j1] at H
              by_cases c13 : x25_10 = true
              · subst c13
                have H1 : ((word_Canon.f kj10 a1 a2).bind fun t221 => (some (t221, 0))) = some (r1, r2) := by rw [if_pos rfl] at H; exact H
                clear H
                have H := H1
                clear H1
                replace H := Option.bind_eq_some_iff.mp H
                obtain ⟨t221, A140, H⟩ := H
                replace H : (some (t221, 0)) = some (r1, r2) := H
                have A14 := Aside0.mk A140
                clear A140
                simp only [Option.some.injEq, Prod.mk.injEq] at H
                obtain ⟨rfl, rfl⟩ := H
                go_wp2_with (first | ((with_reducible refine gate_callee (f := 15) rfl ?_); refine goesL_ (some 34) rfl rfl Try.func15 (by kernel_rfl) rfl #[.int .i64 a1, .int .u64 a2] rfl (by (try simp only [List.map_toArray, List.map_cons, List.map_nil]); first | done | rfl | (simp only [List.length_drop, List.length_take]; rfl)) ?_; (with_reducible refine (word_Canon.calls kj10 a1 a2 t221 _ A14.out).mono ?_); rintro e w' ⟨rfl, ⟨nd, rfl⟩⟩; refine ⟨_, rfl, ?_⟩))
                go_ret2
                exact ⟨by first | rfl | (simp; done) | (simp [*]; done), by repeat (first | exact Drawn0.refl _ | apply Drawn0.step)⟩
              · replace c13 := Bool.eq_false_iff.mpr c13
                subst c13
                have H1 : (if a0 = a1 then (some (a2, 0)) else (if a0 = 10 then ((word_cut.f ((a2).toNat)).bind fun t222 => ((word_Canon.f kj10 a1 t222).bind fun t223 => (some (t223, 0)))) else ((word_signed.f a0).bind fun t224 => (if t224 = true then (some ((floatOfInt .f64 (wrap64 (a2)) : Int), 0)) else (some ((floatOfInt .f64 a2 : Int), 0)))))) = some (r1, r2) := by rw [if_neg (show ¬ (false = true) by decide)] at H; exact H
                clear H
                have H := H1
                clear H1
                by_cases c15 : a0 = a1
                · rw [if_pos c15] at H
                  have c15b0 : (a0 == a1) = true := beq_iff_eq.mpr c15
                  have c15b1 : (a0 != a1) = false := bne_eq_false_iff_eq.mpr c15
                  clear c15
                  simp only [Option.some.injEq, Prod.mk.injEq] at H
                  obtain ⟨rfl, rfl⟩ := H
                  go_wp2
                  go_ret2
                  exact ⟨by first | rfl | (simp; done) | (simp [*]; done), by repeat (first | exact Drawn0.refl _ | apply Drawn0.step)⟩
                · rw [if_neg c15] at H
                  have c15b0 : (a0 == a1) = false := beq_eq_false_iff_ne.mpr c15
                  have c15b1 : (a0 != a1) = true := bne_iff_ne.mpr c15
                  by_cases c16 : a0 = 10
                  · rw [if_pos c16] at H
                    have c16b0 : (a0 == 10) = true := beq_iff_eq.mpr c16
                    have c16b1 : (a0 != 10) = false := bne_eq_false_iff_eq.mpr c16
                    clear c16
                    replace H := Option.bind_eq_some_iff.mp H
                    obtain ⟨t222, A170, H⟩ := H
                    replace H : ((word_Canon.f kj10 a1 t222).bind fun t223 => (some (t223, 0))) = some (r1, r2) := H
                    have A17 := Aside0.mk A170
                    clear A170
                    replace H := Option.bind_eq_some_iff.mp H
                    obtain ⟨t223, A180, H⟩ := H
                    replace H : (some (t223, 0)) = some (r1, r2) := H
                    have A18 := Aside0.mk A180
                    clear A180
                    simp only [Option.some.injEq, Prod.mk.injEq] at H
                    obtain ⟨rfl, rfl⟩ := H
                    go_wp2_with (first | ((with_reducible refine gate_callee (f := 52) rfl ?_); refine goesL_ (some 46) rfl rfl Try.func52 (by kernel_rfl) rfl #[.float .f64 ((a2).toNat)] rfl (by (try simp only [List.map_toArray, List.map_cons, List.map_nil]); first | done | rfl | (simp only [List.length_drop, List.length_take]; rfl)) ?_; (with_reducible refine (word_cut.calls ((a2).toNat) t222 _ A17.out).mono ?_); rintro e w' ⟨rfl, ⟨nd, rfl⟩⟩; refine ⟨_, rfl, ?_⟩) | ((with_reducible refine gate_callee (f := 15) rfl ?_); refine goesL_ (some 47) rfl rfl Try.func15 (by kernel_rfl) rfl #[.int .i64 a1, .int .u64 t222] rfl (by (try simp only [List.map_toArray, List.map_cons, List.map_nil]); first | done | rfl | (simp only [List.length_drop, List.length_take]; rfl)) ?_; (with_reducible refine (word_Canon.calls kj10 a1 t222 t223 _ A18.out).mono ?_); rintro e w' ⟨rfl, ⟨nd, rfl⟩⟩; refine ⟨_, rfl, ?_⟩))
                    go_ret2
                    exact ⟨by first | rfl | (simp; done) | (simp [*]; done), by repeat (first | exact Drawn0.refl _ | apply Drawn0.step)⟩
                  · rw [if_neg c16] at H
                    have c16b0 : (a0 == 10) = false := beq_eq_false_iff_ne.mpr c16
                    have c16b1 : (a0 != 10) = true := bne_iff_ne.mpr c16
                    replace H := Option.bind_eq_some_iff.mp H
                    obtain ⟨t224, A190, H⟩ := H
                    replace H : (if t224 = true then (some ((floatOfInt .f64 (wrap64 (a2)) : Int), 0)) else (some ((floatOfInt .f64 a2 : Int), 0))) = some (r1, r2) := H
                    have A19 := Aside0.mk A190
                    clear A190
                    by_cases c20 : t224 = true
                    · subst c20
                      have H1 : (some ((floatOfInt .f64 (wrap64 (a2)) : Int), 0)) = some (r1, r2) := by rw [if_pos rfl] at H; exact H
                      clear H
                      have H := H1
                      clear H1
                      simp only [Option.some.injEq, Prod.mk.injEq] at H
                      obtain ⟨rfl, rfl⟩ := H
                      go_wp2_with (first | ((with_reducible refine gate_callee (f := 49) rfl ?_); refine goesL_ (some 50) rfl rfl Try.func49 (by kernel_rfl) rfl #[.int .i64 a0] rfl (by (try simp only [List.map_toArray, List.map_cons, List.map_nil]); first | done | rfl | (simp only [List.length_drop, List.length_take]; rfl)) ?_; (with_reducible refine (word_signed.calls a0 true _ A19.out).mono ?_); rintro e w' ⟨rfl, ⟨nd, rfl⟩⟩; refine ⟨_, rfl, ?_⟩))
                      go_ret2
                      exact ⟨by first | rfl | (simp; done) | (simp [*]; done), by repeat (first | exact Drawn0.refl _ | apply Drawn0.step)⟩
                    · replace c20 := Bool.eq_false_iff.mpr c20
                      subst c20
                      have H1 : (some ((floatOfInt .f64 a2 : Int), 0)) = some (r1, r2) := by rw [if_neg (show ¬ (false = true) by decide)] at H; exact H
                      clear H
                      have H := H1
                      clear H1
                      simp only [Option.some.injEq, Prod.mk.injEq] at H
                      obtain ⟨rfl, rfl⟩ := H
                      go_wp2_with (first | ((with_reducible refine gate_callee (f := 49) rfl ?_); refine goesL_ (some 50) rfl rfl Try.func49 (by kernel_rfl) rfl #[.int .i64 a0] rfl (by (try simp only [List.map_toArray, List.map_cons, List.map_nil]); first | done | rfl | (simp only [List.length_drop, List.length_take]; rfl)) ?_; (with_reducible refine (word_signed.calls a0 false _ A19.out).mono ?_); rintro e w' ⟨rfl, ⟨nd, rfl⟩⟩; refine ⟨_, rfl, ?_⟩))
                      go_ret2
                      exact ⟨by first | rfl | (simp; done) | (simp [*]; done), by repeat (first | exact Drawn0.refl _ | apply Drawn0.step)⟩
        · replace c10 := Bool.eq_false_iff.mpr c10
          subst c10
          have H1 : (some (0, 11)) = some (r1, r2) := by rw [if_neg (show ¬ (false = true) by decide)] at H; exact H
          clear H
          have H := H1
          clear H1
          simp only [Option.some.injEq, Prod.mk.injEq] at H
          obtain ⟨rfl, rfl⟩ := H
          go_wp2_with (first | ((with_reducible refine gate_callee (f := 17) rfl ?_); refine goesL_ (some 23) rfl rfl Try.func17 (by kernel_rfl) rfl #[.int .i64 a0, .int .u64 a2] rfl (by (try simp only [List.map_toArray, List.map_cons, List.map_nil]); first | done | rfl | (simp only [List.length_drop, List.length_take]; rfl)) ?_; (with_reducible refine (word_Is.calls kj3 a0 a2 false _ A9.out).mono ?_); rintro e w' ⟨rfl, ⟨nd, rfl⟩⟩; refine ⟨_, rfl, ?_⟩))
          go_ret2
          exact ⟨by first | rfl | (simp; done) | (simp [*]; done), by repeat (first | exact Drawn0.refl _ | apply Drawn0.step)⟩

/-! ### gantrylaw1_WordConvs: function 6 -/
mutual
def gantrylaw1_WordConvs.l0 : Nat → List (S25) → Int → Option (Bool)
  | 0, _, _ => none
  | k + 1, x0, x3 => if x3 < (x0.length : Int) then (gantrylaw1_WordConvs.j1 k x0 x3 (decide (x3 < 200))) else (gantrylaw1_WordConvs.j1 k x0 x3 false)
def gantrylaw1_WordConvs.j1 : Nat → List (S25) → Int → Bool → Option (Bool)
  | 0, _, _, _ => none
  | k + 1, x0, x3, x24 => if x24 = true then (if 0 ≤ x3 then (if x3 < (x0.length : Int) then ((word_Canon.f k (wrap64 (2 + (wrap64 (Int.tmod (IntKind.u64.wrap ((rd_T25 x0 x3).f1)) 8)))) ((rd_T25 x0 x3).f3)).bind fun t228 => ((word_Conv.f k (wrap64 (2 + (wrap64 (Int.tmod (IntKind.u64.wrap ((rd_T25 x0 x3).f1)) 8)))) (wrap64 (2 + (wrap64 (Int.tmod (IntKind.u64.wrap ((rd_T25 x0 x3).f2)) 8)))) t228).bind fun bt229 => ((word_Conv.f k (wrap64 (2 + (wrap64 (Int.tmod (IntKind.u64.wrap ((rd_T25 x0 x3).f2)) 8)))) (wrap64 (2 + (wrap64 (Int.tmod (IntKind.u64.wrap ((rd_T25 x0 x3).f1)) 8)))) bt229.1).bind fun bt231 => ((gantrylaw1_num.f bt229.2).bind fun t233 => (if t233 = 0 then ((gantrylaw1_num.f bt231.2).bind fun t234 => (if t234 = 0 then ((word_Canon.f k (wrap64 (2 + (wrap64 (Int.tmod (IntKind.u64.wrap ((rd_T25 x0 x3).f2)) 8)))) t228).bind fun t235 => (if bt229.1 = t235 then ((word_Width.f k (wrap64 (2 + (wrap64 (Int.tmod (IntKind.u64.wrap ((rd_T25 x0 x3).f2)) 8))))).bind fun t236 => ((word_Width.f k (wrap64 (2 + (wrap64 (Int.tmod (IntKind.u64.wrap ((rd_T25 x0 x3).f1)) 8))))).bind fun t237 => (if t236 ≥ t237 then (gantrylaw1_WordConvs.j2 k x0 x3 (bt231.1 != t228) ((rd_T25 x0 x3).f0) ((rd_T25 x0 x3).f1) ((rd_T25 x0 x3).f2) ((rd_T25 x0 x3).f3) ((rd_T25 x0 x3).f4)) else (gantrylaw1_WordConvs.j2 k x0 x3 false ((rd_T25 x0 x3).f0) ((rd_T25 x0 x3).f1) ((rd_T25 x0 x3).f2) ((rd_T25 x0 x3).f3) ((rd_T25 x0 x3).f4))))) else (gantrylaw1_WordConvs.j2 k x0 x3 true ((rd_T25 x0 x3).f0) ((rd_T25 x0 x3).f1) ((rd_T25 x0 x3).f2) ((rd_T25 x0 x3).f3) ((rd_T25 x0 x3).f4)))) else (gantrylaw1_WordConvs.j2 k x0 x3 true ((rd_T25 x0 x3).f0) ((rd_T25 x0 x3).f1) ((rd_T25 x0 x3).f2) ((rd_T25 x0 x3).f3) ((rd_T25 x0 x3).f4)))) else (gantrylaw1_WordConvs.j2 k x0 x3 true ((rd_T25 x0 x3).f0) ((rd_T25 x0 x3).f1) ((rd_T25 x0 x3).f2) ((rd_T25 x0 x3).f3) ((rd_T25 x0 x3).f4))))))) else (none)) else (none)) else ((gantrylaw1_wakes.f k).bind fun t225 => (some t225))
def gantrylaw1_WordConvs.j2 : Nat → List (S25) → Int → Bool → Int → Int → Int → Int → Int → Option (Bool)
  | 0, _, _, _, _, _, _, _, _ => none
  | k + 1, x0, x3, x87, x228000, x228001, x228002, x228003, x228004 => if x87 = true then (some false) else ((word_Canon.f k 5 (x228003 / 2048)).bind fun t238 => ((word_Conv.f k 5 10 t238).bind fun bt239 => ((word_Conv.f k 10 5 bt239.1).bind fun bt241 => ((gantrylaw1_num.f bt239.2).bind fun t243 => (if t243 = 0 then ((gantrylaw1_num.f bt241.2).bind fun t244 => (if t244 = 0 then (if bt241.1 = t238 then (gantrylaw1_WordConvs.l0 k x0 (wrap64 (x3 + 1))) else (some false)) else (some false))) else (some false))))))
end
def gantrylaw1_WordConvs.f (k : Nat) (l0 : List (S25)) : Option (Bool) := gantrylaw1_WordConvs.l0 k l0 0
theorem gantrylaw1_WordConvs.mono_l : ∀ k, (∀ y0 y1, LeO (gantrylaw1_WordConvs.l0 k y0 y1) (gantrylaw1_WordConvs.l0 (k + 1) y0 y1)) ∧ (∀ y0 y1 y2, LeO (gantrylaw1_WordConvs.j1 k y0 y1 y2) (gantrylaw1_WordConvs.j1 (k + 1) y0 y1 y2)) ∧ (∀ y0 y1 y2 y3 y4 y5 y6 y7, LeO (gantrylaw1_WordConvs.j2 k y0 y1 y2 y3 y4 y5 y6 y7) (gantrylaw1_WordConvs.j2 (k + 1) y0 y1 y2 y3 y4 y5 y6 y7))
  | 0 => ⟨fun _ _ r h => by simp [gantrylaw1_WordConvs.l0] at h, fun _ _ _ r h => by simp [gantrylaw1_WordConvs.j1] at h, fun _ _ _ _ _ _ _ _ r h => by simp [gantrylaw1_WordConvs.j2] at h⟩
  | k + 1 => by
    obtain ⟨ih0, ih1, ih2⟩ := gantrylaw1_WordConvs.mono_l k
    refine ⟨?_, ?_, ?_⟩
    · intro y0 y1
      unfold gantrylaw1_WordConvs.l0
      repeat' first
      | (with_reducible exact ih0 _ _)
      | (with_reducible exact ih1 _ _ _)
      | (with_reducible exact ih2 _ _ _ _ _ _ _ _)
      | (with_reducible exact gantrylaw1_wakes.mono _)
      | (with_reducible exact word_Canon.mono _ _ _)
      | (with_reducible exact word_Conv.mono _ _ _ _)
      | (with_reducible exact word_Width.mono _ _)
      | (with_reducible exact LeO.refl _)
      | (with_reducible exact LeO.none _)
      | (with_reducible refine LeO.ite ?_ ?_)
      | (with_reducible refine LeO.bind ?_ (fun _ => ?_))
      | exact ih0 _ _
      | exact ih1 _ _ _
      | exact ih2 _ _ _ _ _ _ _ _
      | exact gantrylaw1_wakes.mono _
      | exact word_Canon.mono _ _ _
      | exact word_Conv.mono _ _ _ _
      | exact word_Width.mono _ _
      | exact LeO.none _
      | refine LeO.ite ?_ ?_
      | refine LeO.bind ?_ (fun _ => ?_)
    · intro y0 y1 y2
      unfold gantrylaw1_WordConvs.j1
      repeat' first
      | (with_reducible exact ih0 _ _)
      | (with_reducible exact ih1 _ _ _)
      | (with_reducible exact ih2 _ _ _ _ _ _ _ _)
      | (with_reducible exact gantrylaw1_wakes.mono _)
      | (with_reducible exact word_Canon.mono _ _ _)
      | (with_reducible exact word_Conv.mono _ _ _ _)
      | (with_reducible exact word_Width.mono _ _)
      | (with_reducible exact LeO.refl _)
      | (with_reducible exact LeO.none _)
      | (with_reducible refine LeO.ite ?_ ?_)
      | (with_reducible refine LeO.bind ?_ (fun _ => ?_))
      | exact ih0 _ _
      | exact ih1 _ _ _
      | exact ih2 _ _ _ _ _ _ _ _
      | exact gantrylaw1_wakes.mono _
      | exact word_Canon.mono _ _ _
      | exact word_Conv.mono _ _ _ _
      | exact word_Width.mono _ _
      | exact LeO.none _
      | refine LeO.ite ?_ ?_
      | refine LeO.bind ?_ (fun _ => ?_)
    · intro y0 y1 y2 y3 y4 y5 y6 y7
      unfold gantrylaw1_WordConvs.j2
      repeat' first
      | (with_reducible exact ih0 _ _)
      | (with_reducible exact ih1 _ _ _)
      | (with_reducible exact ih2 _ _ _ _ _ _ _ _)
      | (with_reducible exact gantrylaw1_wakes.mono _)
      | (with_reducible exact word_Canon.mono _ _ _)
      | (with_reducible exact word_Conv.mono _ _ _ _)
      | (with_reducible exact word_Width.mono _ _)
      | (with_reducible exact LeO.refl _)
      | (with_reducible exact LeO.none _)
      | (with_reducible refine LeO.ite ?_ ?_)
      | (with_reducible refine LeO.bind ?_ (fun _ => ?_))
      | exact ih0 _ _
      | exact ih1 _ _ _
      | exact ih2 _ _ _ _ _ _ _ _
      | exact gantrylaw1_wakes.mono _
      | exact word_Canon.mono _ _ _
      | exact word_Conv.mono _ _ _ _
      | exact word_Width.mono _ _
      | exact LeO.none _
      | refine LeO.ite ?_ ?_
      | refine LeO.bind ?_ (fun _ => ?_)
theorem gantrylaw1_WordConvs.mono : ∀ a0 k, LeO (gantrylaw1_WordConvs.f k a0) (gantrylaw1_WordConvs.f (k + 1) a0) := by
  intro a0 k
  obtain ⟨ih0, ih1, ih2⟩ := gantrylaw1_WordConvs.mono_l k
  unfold gantrylaw1_WordConvs.f
  repeat' first
      | (with_reducible exact ih0 _ _)
      | (with_reducible exact ih1 _ _ _)
      | (with_reducible exact ih2 _ _ _ _ _ _ _ _)
      | (with_reducible exact gantrylaw1_wakes.mono _)
      | (with_reducible exact word_Canon.mono _ _ _)
      | (with_reducible exact word_Conv.mono _ _ _ _)
      | (with_reducible exact word_Width.mono _ _)
      | (with_reducible exact LeO.refl _)
      | (with_reducible exact LeO.none _)
      | (with_reducible refine LeO.ite ?_ ?_)
      | (with_reducible refine LeO.bind ?_ (fun _ => ?_))
      | exact ih0 _ _
      | exact ih1 _ _ _
      | exact ih2 _ _ _ _ _ _ _ _
      | exact gantrylaw1_wakes.mono _
      | exact word_Canon.mono _ _ _
      | exact word_Conv.mono _ _ _ _
      | exact word_Width.mono _ _
      | exact LeO.none _
      | refine LeO.ite ?_ ?_
      | refine LeO.bind ?_ (fun _ => ?_)
set_option maxHeartbeats 8000000 in
set_option maxRecDepth 100000 in
theorem gantrylaw1_WordConvs.calls (k : Nat) (A0 : Option Addr) (c0 : Nat) (l0 : List (S25)) (r : Bool) (w : World) (hr0 : Kd.C k25 w A0 l0.length l0) (hc0 : l0.length ≤ c0) (h : gantrylaw1_WordConvs.f k l0 = some r) :
    Calls Try.prog 6 #[.slice A0 l0.length c0] w fun e w' => e = .returned (.bool r) ∧ Below w.heap.size w w' := by
  have hu25 := Try.underlying25
  have HR0 := Aside0.mk hr0
  have HC0 := Aside0.mk hc0
  clear hr0 hc0
  have HB := Aside0.mk (Below.refl w.heap.size w)
  have H : (gantrylaw1_WordConvs.l0 k l0 0) = some r := h
  clear h
  have H' := Aside0.mk H
  clear H
  go_enter Try.func6, Try.ntmps6
  go_wp2
  go_loopg [3] k (fun kq v3 w' => ∃ (x3_1 : Int), v3 = .int .i64 x3_1 ∧ Aside0 (gantrylaw1_WordConvs.l0 kq l0 x3_1 = some r) ∧ Aside0 (kq ≤ k) ∧ Aside0 (Below w.heap.size w w'))
  case atStart => exact ⟨(0), (by first | rfl | (simp; done) | (simp [*]; done)), H', ⟨Nat.le_refl _⟩, ⟨by repeat (first | (with_reducible first | exact HB.out | apply below_alloc | apply pw_below_drewN | apply below_drew1) | exact HB.out)⟩⟩
  case round =>
    clear H'
    obtain ⟨x3_1, rfl, HA, HK1, HB⟩ := hrel
    cases gk with
    | zero => exact absurd HA.out (by simp [gantrylaw1_WordConvs.l0])
    | succ k1 =>
      have H := HA.out
      clear HA
      simp only [gantrylaw1_WordConvs.l0] at H
      have HC2 := Aside0.mk H
      clear H
      go_upto_region 2 with (fail)
      go_cut [24] (fun v24 wc => ∃ (kq : Nat) (x24_1 : Bool), v24 = .bool x24_1 ∧ Aside0 (gantrylaw1_WordConvs.j1 kq l0 x3_1 x24_1 = some r) ∧ Aside0 (kq ≤ k1) ∧ Aside0 (Below w.heap.size w wc))
      case first =>
        have H := HC2.out
        clear HC2
        by_cases c3 : x3_1 < (l0.length : Int)
        · rw [if_pos c3] at H
          have c3b0 : decide (x3_1 < (l0.length : Int)) = true := decide_eq_true c3
          clear c3
          (first | rw [c3b0] | (simp only [i64_w, i32_w]; rw [c3b0]) | skip)
          have H' := Aside0.mk H
          clear H
          go_wp2
          go_meet
          case rel => exact ⟨_, (decide (x3_1 < 200)), (by first | rfl | (simp; done) | (simp [*]; done)), H', ⟨by have := HK1.out; first | omega | exact Nat.le_refl _⟩, ⟨by repeat (first | (with_reducible first | exact HB.out | apply below_alloc | apply pw_below_drewN | apply below_drew1) | exact HB.out)⟩⟩
        · rw [if_neg c3] at H
          have c3b0 : decide (x3_1 < (l0.length : Int)) = false := decide_eq_false c3
          clear c3
          (first | rw [c3b0] | (simp only [i64_w, i32_w]; rw [c3b0]) | skip)
          have H' := Aside0.mk H
          clear H
          go_wp2
          go_meet
          case rel => exact ⟨_, (false), (by first | rfl | (simp; done) | (simp [*]; done)), H', ⟨by have := HK1.out; first | omega | exact Nat.le_refl _⟩, ⟨by repeat (first | (with_reducible first | exact HB.out | apply below_alloc | apply pw_below_drewN | apply below_drew1) | exact HB.out)⟩⟩
      case rest =>
        clear HC2
        try clear p2
        try clear c3
        try clear c3b0
        obtain ⟨kq, x24_1, rfl, HA, HJ1, HB⟩ := hcut
        cases kq with
        | zero => exact absurd HA.out (by simp [gantrylaw1_WordConvs.j1])
        | succ kj1 =>
          have H := HA.out
          clear HA
          simp only [gantrylaw1_WordConvs.j1] at H
          by_cases c4 : x24_1 = true
          · subst c4
            have H1 : (if 0 ≤ x3_1 then (if x3_1 < (l0.length : Int) then ((word_Canon.f kj1 (wrap64 (2 + (wrap64 (Int.tmod (IntKind.u64.wrap ((rd_T25 l0 x3_1).f1)) 8)))) ((rd_T25 l0 x3_1).f3)).bind fun t228 => ((word_Conv.f kj1 (wrap64 (2 + (wrap64 (Int.tmod (IntKind.u64.wrap ((rd_T25 l0 x3_1).f1)) 8)))) (wrap64 (2 + (wrap64 (Int.tmod (IntKind.u64.wrap ((rd_T25 l0 x3_1).f2)) 8)))) t228).bind fun bt229 => ((word_Conv.f kj1 (wrap64 (2 + (wrap64 (Int.tmod (IntKind.u64.wrap ((rd_T25 l0 x3_1).f2)) 8)))) (wrap64 (2 + (wrap64 (Int.tmod (IntKind.u64.wrap ((rd_T25 l0 x3_1).f1)) 8)))) bt229.1).bind fun bt231 => ((gantrylaw1_num.f bt229.2).bind fun t233 => (if t233 = 0 then ((gantrylaw1_num.f bt231.2).bind fun t234 => (if t234 = 0 then ((word_Canon.f kj1 (wrap64 (2 + (wrap64 (Int.tmod (IntKind.u64.wrap ((rd_T25 l0 x3_1).f2)) 8)))) t228).bind fun t235 => (if bt229.1 = t235 then ((word_Width.f kj1 (wrap64 (2 + (wrap64 (Int.tmod (IntKind.u64.wrap ((rd_T25 l0 x3_1).f2)) 8))))).bind fun t236 => ((word_Width.f kj1 (wrap64 (2 + (wrap64 (Int.tmod (IntKind.u64.wrap ((rd_T25 l0 x3_1).f1)) 8))))).bind fun t237 => (if t236 ≥ t237 then (gantrylaw1_WordConvs.j2 kj1 l0 x3_1 (bt231.1 != t228) ((rd_T25 l0 x3_1).f0) ((rd_T25 l0 x3_1).f1) ((rd_T25 l0 x3_1).f2) ((rd_T25 l0 x3_1).f3) ((rd_T25 l0 x3_1).f4)) else (gantrylaw1_WordConvs.j2 kj1 l0 x3_1 false ((rd_T25 l0 x3_1).f0) ((rd_T25 l0 x3_1).f1) ((rd_T25 l0 x3_1).f2) ((rd_T25 l0 x3_1).f3) ((rd_T25 l0 x3_1).f4))))) else (gantrylaw1_WordConvs.j2 kj1 l0 x3_1 true ((rd_T25 l0 x3_1).f0) ((rd_T25 l0 x3_1).f1) ((rd_T25 l0 x3_1).f2) ((rd_T25 l0 x3_1).f3) ((rd_T25 l0 x3_1).f4)))) else (gantrylaw1_WordConvs.j2 kj1 l0 x3_1 true ((rd_T25 l0 x3_1).f0) ((rd_T25 l0 x3_1).f1) ((rd_T25 l0 x3_1).f2) ((rd_T25 l0 x3_1).f3) ((rd_T25 l0 x3_1).f4)))) else (gantrylaw1_WordConvs.j2 kj1 l0 x3_1 true ((rd_T25 l0 x3_1).f0) ((rd_T25 l0 x3_1).f1) ((rd_T25 l0 x3_1).f2) ((rd_T25 l0 x3_1).f3) ((rd_T25 l0 x3_1).f4))))))) else (none)) else (none)) = some r := by rw [if_pos rfl] at H; exact H
            clear H
            have H := H1
            clear H1
            by_cases c5 : 0 ≤ x3_1
            · rw [if_pos c5] at H
              have c5b0 : decide (0 ≤ x3_1) = true := decide_eq_true c5
              clear c5
              by_cases c6 : x3_1 < (l0.length : Int)
              · rw [if_pos c6] at H
                have c6b0 : decide (x3_1 < (l0.length : Int)) = true := decide_eq_true c6
                clear c6
                replace H := Option.bind_eq_some_iff.mp H
                obtain ⟨t228, A70, H⟩ := H
                replace H : ((word_Conv.f kj1 (wrap64 (2 + (wrap64 (Int.tmod (IntKind.u64.wrap ((rd_T25 l0 x3_1).f1)) 8)))) (wrap64 (2 + (wrap64 (Int.tmod (IntKind.u64.wrap ((rd_T25 l0 x3_1).f2)) 8)))) t228).bind fun bt229 => ((word_Conv.f kj1 (wrap64 (2 + (wrap64 (Int.tmod (IntKind.u64.wrap ((rd_T25 l0 x3_1).f2)) 8)))) (wrap64 (2 + (wrap64 (Int.tmod (IntKind.u64.wrap ((rd_T25 l0 x3_1).f1)) 8)))) bt229.1).bind fun bt231 => ((gantrylaw1_num.f bt229.2).bind fun t233 => (if t233 = 0 then ((gantrylaw1_num.f bt231.2).bind fun t234 => (if t234 = 0 then ((word_Canon.f kj1 (wrap64 (2 + (wrap64 (Int.tmod (IntKind.u64.wrap ((rd_T25 l0 x3_1).f2)) 8)))) t228).bind fun t235 => (if bt229.1 = t235 then ((word_Width.f kj1 (wrap64 (2 + (wrap64 (Int.tmod (IntKind.u64.wrap ((rd_T25 l0 x3_1).f2)) 8))))).bind fun t236 => ((word_Width.f kj1 (wrap64 (2 + (wrap64 (Int.tmod (IntKind.u64.wrap ((rd_T25 l0 x3_1).f1)) 8))))).bind fun t237 => (if t236 ≥ t237 then (gantrylaw1_WordConvs.j2 kj1 l0 x3_1 (bt231.1 != t228) ((rd_T25 l0 x3_1).f0) ((rd_T25 l0 x3_1).f1) ((rd_T25 l0 x3_1).f2) ((rd_T25 l0 x3_1).f3) ((rd_T25 l0 x3_1).f4)) else (gantrylaw1_WordConvs.j2 kj1 l0 x3_1 false ((rd_T25 l0 x3_1).f0) ((rd_T25 l0 x3_1).f1) ((rd_T25 l0 x3_1).f2) ((rd_T25 l0 x3_1).f3) ((rd_T25 l0 x3_1).f4))))) else (gantrylaw1_WordConvs.j2 kj1 l0 x3_1 true ((rd_T25 l0 x3_1).f0) ((rd_T25 l0 x3_1).f1) ((rd_T25 l0 x3_1).f2) ((rd_T25 l0 x3_1).f3) ((rd_T25 l0 x3_1).f4)))) else (gantrylaw1_WordConvs.j2 kj1 l0 x3_1 true ((rd_T25 l0 x3_1).f0) ((rd_T25 l0 x3_1).f1) ((rd_T25 l0 x3_1).f2) ((rd_T25 l0 x3_1).f3) ((rd_T25 l0 x3_1).f4)))) else (gantrylaw1_WordConvs.j2 kj1 l0 x3_1 true ((rd_T25 l0 x3_1).f0) ((rd_T25 l0 x3_1).f1) ((rd_T25 l0 x3_1).f2) ((rd_T25 l0 x3_1).f3) ((rd_T25 l0 x3_1).f4)))))) = some r := H
                have A7 := Aside0.mk A70
                clear A70
                replace H := Option.bind_eq_some_iff.mp H
                obtain ⟨⟨t229, t230⟩, A80, H⟩ := H
                replace H : ((word_Conv.f kj1 (wrap64 (2 + (wrap64 (Int.tmod (IntKind.u64.wrap ((rd_T25 l0 x3_1).f2)) 8)))) (wrap64 (2 + (wrap64 (Int.tmod (IntKind.u64.wrap ((rd_T25 l0 x3_1).f1)) 8)))) t229).bind fun bt231 => ((gantrylaw1_num.f t230).bind fun t233 => (if t233 = 0 then ((gantrylaw1_num.f bt231.2).bind fun t234 => (if t234 = 0 then ((word_Canon.f kj1 (wrap64 (2 + (wrap64 (Int.tmod (IntKind.u64.wrap ((rd_T25 l0 x3_1).f2)) 8)))) t228).bind fun t235 => (if t229 = t235 then ((word_Width.f kj1 (wrap64 (2 + (wrap64 (Int.tmod (IntKind.u64.wrap ((rd_T25 l0 x3_1).f2)) 8))))).bind fun t236 => ((word_Width.f kj1 (wrap64 (2 + (wrap64 (Int.tmod (IntKind.u64.wrap ((rd_T25 l0 x3_1).f1)) 8))))).bind fun t237 => (if t236 ≥ t237 then (gantrylaw1_WordConvs.j2 kj1 l0 x3_1 (bt231.1 != t228) ((rd_T25 l0 x3_1).f0) ((rd_T25 l0 x3_1).f1) ((rd_T25 l0 x3_1).f2) ((rd_T25 l0 x3_1).f3) ((rd_T25 l0 x3_1).f4)) else (gantrylaw1_WordConvs.j2 kj1 l0 x3_1 false ((rd_T25 l0 x3_1).f0) ((rd_T25 l0 x3_1).f1) ((rd_T25 l0 x3_1).f2) ((rd_T25 l0 x3_1).f3) ((rd_T25 l0 x3_1).f4))))) else (gantrylaw1_WordConvs.j2 kj1 l0 x3_1 true ((rd_T25 l0 x3_1).f0) ((rd_T25 l0 x3_1).f1) ((rd_T25 l0 x3_1).f2) ((rd_T25 l0 x3_1).f3) ((rd_T25 l0 x3_1).f4)))) else (gantrylaw1_WordConvs.j2 kj1 l0 x3_1 true ((rd_T25 l0 x3_1).f0) ((rd_T25 l0 x3_1).f1) ((rd_T25 l0 x3_1).f2) ((rd_T25 l0 x3_1).f3) ((rd_T25 l0 x3_1).f4)))) else (gantrylaw1_WordConvs.j2 kj1 l0 x3_1 true ((rd_T25 l0 x3_1).f0) ((rd_T25 l0 x3_1).f1) ((rd_T25 l0 x3_1).f2) ((rd_T25 l0 x3_1).f3) ((rd_T25 l0 x3_1).f4))))) = some r := H
                have A8 := Aside0.mk A80
                clear A80
                replace H := Option.bind_eq_some_iff.mp H
                obtain ⟨⟨t231, t232⟩, A90, H⟩ := H
                replace H : ((gantrylaw1_num.f t230).bind fun t233 => (if t233 = 0 then ((gantrylaw1_num.f t232).bind fun t234 => (if t234 = 0 then ((word_Canon.f kj1 (wrap64 (2 + (wrap64 (Int.tmod (IntKind.u64.wrap ((rd_T25 l0 x3_1).f2)) 8)))) t228).bind fun t235 => (if t229 = t235 then ((word_Width.f kj1 (wrap64 (2 + (wrap64 (Int.tmod (IntKind.u64.wrap ((rd_T25 l0 x3_1).f2)) 8))))).bind fun t236 => ((word_Width.f kj1 (wrap64 (2 + (wrap64 (Int.tmod (IntKind.u64.wrap ((rd_T25 l0 x3_1).f1)) 8))))).bind fun t237 => (if t236 ≥ t237 then (gantrylaw1_WordConvs.j2 kj1 l0 x3_1 (t231 != t228) ((rd_T25 l0 x3_1).f0) ((rd_T25 l0 x3_1).f1) ((rd_T25 l0 x3_1).f2) ((rd_T25 l0 x3_1).f3) ((rd_T25 l0 x3_1).f4)) else (gantrylaw1_WordConvs.j2 kj1 l0 x3_1 false ((rd_T25 l0 x3_1).f0) ((rd_T25 l0 x3_1).f1) ((rd_T25 l0 x3_1).f2) ((rd_T25 l0 x3_1).f3) ((rd_T25 l0 x3_1).f4))))) else (gantrylaw1_WordConvs.j2 kj1 l0 x3_1 true ((rd_T25 l0 x3_1).f0) ((rd_T25 l0 x3_1).f1) ((rd_T25 l0 x3_1).f2) ((rd_T25 l0 x3_1).f3) ((rd_T25 l0 x3_1).f4)))) else (gantrylaw1_WordConvs.j2 kj1 l0 x3_1 true ((rd_T25 l0 x3_1).f0) ((rd_T25 l0 x3_1).f1) ((rd_T25 l0 x3_1).f2) ((rd_T25 l0 x3_1).f3) ((rd_T25 l0 x3_1).f4)))) else (gantrylaw1_WordConvs.j2 kj1 l0 x3_1 true ((rd_T25 l0 x3_1).f0) ((rd_T25 l0 x3_1).f1) ((rd_T25 l0 x3_1).f2) ((rd_T25 l0 x3_1).f3) ((rd_T25 l0 x3_1).f4)))) = some r := H
                have A9 := Aside0.mk A90
                clear A90
                have HC10 := Aside0.mk H
                clear H
                have p226 : 0 ≤ (x3_1 : Int) := of_decide_eq_true (by first | (with_reducible assumption) | assumption)
                have q226 : x3_1 < (l0.length : Int) := of_decide_eq_true (by first | (with_reducible assumption) | assumption)
                obtain ⟨ad226, e226, hx226_0, hx226_1, hx226_2, hx226_3, hx226_4⟩ := at_T25 HR0.out x3_1 p226 q226
                cases e226
                replace hx226_0 := (HB.out.cell (World.block_lt_of_cell? w _ hx226_0)).trans hx226_0
                replace hx226_1 := (HB.out.cell (World.block_lt_of_cell? w _ hx226_1)).trans hx226_1
                replace hx226_2 := (HB.out.cell (World.block_lt_of_cell? w _ hx226_2)).trans hx226_2
                replace hx226_3 := (HB.out.cell (World.block_lt_of_cell? w _ hx226_3)).trans hx226_3
                replace hx226_4 := (HB.out.cell (World.block_lt_of_cell? w _ hx226_4)).trans hx226_4
                replace p226 := eq_true p226
                replace q226 := eq_true q226
                go_upto_region 10 with (first | ((with_reducible refine gate_dst (N := 4) rfl ?_); refine box_event ?hg (N := 4) ?hd (cs := #[.int .i64 0, .int .i64 0, .int .i64 0, .int .u64 0, .int .u64 0]) (t := 25) ?hr ?_; (case hd => rfl); (case hg => rfl); (case hr => first | (go_simp; done) | (go_simp; rfl)); intro gb227 hg w11 hbox hb; have n0_ := Aside0.mk (below_step (by repeat (first | (with_reducible first | exact HB.out | apply below_alloc | apply pw_below_drewN | apply below_drew1) | exact HB.out)) hb); have n1_ := Aside0.mk (hbox); have n2_ := Aside0.mk ((by rw [hg]; exact (below_size (by repeat (first | (with_reducible first | exact HB.out | apply below_alloc | apply pw_below_drewN | apply below_drew1) | exact HB.out))) : w.heap.size ≤ gb227)); have n3_ := Aside0.mk ((by rw [hg]; exact (below_size (by repeat (first | (with_reducible first | exact HB.out | apply below_alloc | apply pw_below_drewN | apply below_drew1) | exact HB.out))) : w.heap.size ≤ gb227)); clear HB; have HB := n0_; have BK227 := n1_; have GW227 := n2_; have GE227 := n3_; clear n0_ n1_ n2_ n3_; clear hb hbox hg; have hcz12_0 : w11.cell? ⟨gb227, 0, none⟩ = some (.int .i64 0) := (blk_cell BK227.out 0).trans rfl; have hcz12_1 : w11.cell? ⟨gb227, 1, none⟩ = some (.int .i64 0) := (blk_cell BK227.out 1).trans rfl; have hcz12_2 : w11.cell? ⟨gb227, 2, none⟩ = some (.int .i64 0) := (blk_cell BK227.out 2).trans rfl; have hcz12_3 : w11.cell? ⟨gb227, 3, none⟩ = some (.int .u64 0) := (blk_cell BK227.out 3).trans rfl; have hcz12_4 : w11.cell? ⟨gb227, 4, none⟩ = some (.int .u64 0) := (blk_cell BK227.out 4).trans rfl; have hfz12_0 := blk_frozen BK227.out 0; have hfz12_1 := blk_frozen BK227.out 1; have hfz12_2 := blk_frozen BK227.out 2; have hfz12_3 := blk_frozen BK227.out 3; have hfz12_4 := blk_frozen BK227.out 4) | ((with_reducible refine gate_callee (f := 15) rfl ?_); refine goesL_ (some 46) rfl rfl Try.func15 (by kernel_rfl) rfl #[.int .i64 (wrap64 (2 + (wrap64 (Int.tmod (IntKind.u64.wrap ((rd_T25 l0 x3_1).f1)) 8)))), .int .u64 ((rd_T25 l0 x3_1).f3)] rfl (by (try simp only [List.map_toArray, List.map_cons, List.map_nil]); first | done | rfl | (simp only [List.length_drop, List.length_take]; rfl)) ?_; (with_reducible refine (word_Canon.calls kj1 (wrap64 (2 + (wrap64 (Int.tmod (IntKind.u64.wrap ((rd_T25 l0 x3_1).f1)) 8)))) ((rd_T25 l0 x3_1).f3) t228 _ A7.out).mono ?_); rintro e w' ⟨rfl, ⟨nd, rfl⟩⟩; refine ⟨_, rfl, ?_⟩) | ((with_reducible refine gate_callee (f := 21) rfl ?_); refine goesL_ (some 51) rfl rfl Try.func21 (by kernel_rfl) rfl #[.int .i64 (wrap64 (2 + (wrap64 (Int.tmod (IntKind.u64.wrap ((rd_T25 l0 x3_1).f1)) 8)))), .int .i64 (wrap64 (2 + (wrap64 (Int.tmod (IntKind.u64.wrap ((rd_T25 l0 x3_1).f2)) 8)))), .int .u64 t228] rfl (by (try simp only [List.map_toArray, List.map_cons, List.map_nil]); first | done | rfl | (simp only [List.length_drop, List.length_take]; rfl)) ?_; (with_reducible refine (word_Conv.calls kj1 (wrap64 (2 + (wrap64 (Int.tmod (IntKind.u64.wrap ((rd_T25 l0 x3_1).f1)) 8)))) (wrap64 (2 + (wrap64 (Int.tmod (IntKind.u64.wrap ((rd_T25 l0 x3_1).f2)) 8)))) t228 t229 t230 _ A8.out).mono ?_); rintro e w' ⟨rfl, ⟨nd, rfl⟩⟩; refine ⟨_, rfl, ?_⟩) | ((with_reducible refine gate_callee (f := 21) rfl ?_); refine goesL_ (some 58) rfl rfl Try.func21 (by kernel_rfl) rfl #[.int .i64 (wrap64 (2 + (wrap64 (Int.tmod (IntKind.u64.wrap ((rd_T25 l0 x3_1).f2)) 8)))), .int .i64 (wrap64 (2 + (wrap64 (Int.tmod (IntKind.u64.wrap ((rd_T25 l0 x3_1).f1)) 8)))), .int .u64 t229] rfl (by (try simp only [List.map_toArray, List.map_cons, List.map_nil]); first | done | rfl | (simp only [List.length_drop, List.length_take]; rfl)) ?_; (with_reducible refine (word_Conv.calls kj1 (wrap64 (2 + (wrap64 (Int.tmod (IntKind.u64.wrap ((rd_T25 l0 x3_1).f2)) 8)))) (wrap64 (2 + (wrap64 (Int.tmod (IntKind.u64.wrap ((rd_T25 l0 x3_1).f1)) 8)))) t229 t231 t232 _ A9.out).mono ?_); rintro e w' ⟨rfl, ⟨nd, rfl⟩⟩; refine ⟨_, rfl, ?_⟩))
                (try simp only [Act.put, List.setIfInBounds_toArray, List.set_cons_zero, List.set_cons_succ])
                go_cut [87] (fun v87 wc => ∃ (kq : Nat) (x87_9 : Bool), v87 = .bool x87_9 ∧ Aside0 (gantrylaw1_WordConvs.j2 kq l0 x3_1 x87_9 ((rd_T25 l0 x3_1).f0) ((rd_T25 l0 x3_1).f1) ((rd_T25 l0 x3_1).f2) ((rd_T25 l0 x3_1).f3) ((rd_T25 l0 x3_1).f4) = some r) ∧ Aside0 (kq ≤ kj1) ∧ Aside0 (wc.heap[gb227]? = some (.cells #[.int .i64 ((rd_T25 l0 x3_1).f0), .int .i64 ((rd_T25 l0 x3_1).f1), .int .i64 ((rd_T25 l0 x3_1).f2), .int .u64 ((rd_T25 l0 x3_1).f3), .int .u64 ((rd_T25 l0 x3_1).f4)] 25 (0, 0))) ∧ Aside0 (Below w.heap.size w wc))
                case first =>
                  have H := HC10.out
                  clear HC10
                  replace H := Option.bind_eq_some_iff.mp H
                  obtain ⟨t233, A130, H⟩ := H
                  replace H : (if t233 = 0 then ((gantrylaw1_num.f t232).bind fun t234 => (if t234 = 0 then ((word_Canon.f kj1 (wrap64 (2 + (wrap64 (Int.tmod (IntKind.u64.wrap ((rd_T25 l0 x3_1).f2)) 8)))) t228).bind fun t235 => (if t229 = t235 then ((word_Width.f kj1 (wrap64 (2 + (wrap64 (Int.tmod (IntKind.u64.wrap ((rd_T25 l0 x3_1).f2)) 8))))).bind fun t236 => ((word_Width.f kj1 (wrap64 (2 + (wrap64 (Int.tmod (IntKind.u64.wrap ((rd_T25 l0 x3_1).f1)) 8))))).bind fun t237 => (if t236 ≥ t237 then (gantrylaw1_WordConvs.j2 kj1 l0 x3_1 (t231 != t228) ((rd_T25 l0 x3_1).f0) ((rd_T25 l0 x3_1).f1) ((rd_T25 l0 x3_1).f2) ((rd_T25 l0 x3_1).f3) ((rd_T25 l0 x3_1).f4)) else (gantrylaw1_WordConvs.j2 kj1 l0 x3_1 false ((rd_T25 l0 x3_1).f0) ((rd_T25 l0 x3_1).f1) ((rd_T25 l0 x3_1).f2) ((rd_T25 l0 x3_1).f3) ((rd_T25 l0 x3_1).f4))))) else (gantrylaw1_WordConvs.j2 kj1 l0 x3_1 true ((rd_T25 l0 x3_1).f0) ((rd_T25 l0 x3_1).f1) ((rd_T25 l0 x3_1).f2) ((rd_T25 l0 x3_1).f3) ((rd_T25 l0 x3_1).f4)))) else (gantrylaw1_WordConvs.j2 kj1 l0 x3_1 true ((rd_T25 l0 x3_1).f0) ((rd_T25 l0 x3_1).f1) ((rd_T25 l0 x3_1).f2) ((rd_T25 l0 x3_1).f3) ((rd_T25 l0 x3_1).f4)))) else (gantrylaw1_WordConvs.j2 kj1 l0 x3_1 true ((rd_T25 l0 x3_1).f0) ((rd_T25 l0 x3_1).f1) ((rd_T25 l0 x3_1).f2) ((rd_T25 l0 x3_1).f3) ((rd_T25 l0 x3_1).f4))) = some r := H
                  have A13 := Aside0.mk A130
                  clear A130
                  by_cases c14 : t233 = 0
                  · rw [if_pos c14] at H
                    have c14b0 : (t233 == 0) = true := beq_iff_eq.mpr c14
                    have c14b1 : (t233 != 0) = false := bne_eq_false_iff_eq.mpr c14
                    clear c14
                    (first | rw [c14b0] | (simp only [i64_w, i32_w]; rw [c14b0]) | skip)
                    replace H := Option.bind_eq_some_iff.mp H
                    obtain ⟨t234, A150, H⟩ := H
                    replace H : (if t234 = 0 then ((word_Canon.f kj1 (wrap64 (2 + (wrap64 (Int.tmod (IntKind.u64.wrap ((rd_T25 l0 x3_1).f2)) 8)))) t228).bind fun t235 => (if t229 = t235 then ((word_Width.f kj1 (wrap64 (2 + (wrap64 (Int.tmod (IntKind.u64.wrap ((rd_T25 l0 x3_1).f2)) 8))))).bind fun t236 => ((word_Width.f kj1 (wrap64 (2 + (wrap64 (Int.tmod (IntKind.u64.wrap ((rd_T25 l0 x3_1).f1)) 8))))).bind fun t237 => (if t236 ≥ t237 then (gantrylaw1_WordConvs.j2 kj1 l0 x3_1 (t231 != t228) ((rd_T25 l0 x3_1).f0) ((rd_T25 l0 x3_1).f1) ((rd_T25 l0 x3_1).f2) ((rd_T25 l0 x3_1).f3) ((rd_T25 l0 x3_1).f4)) else (gantrylaw1_WordConvs.j2 kj1 l0 x3_1 false ((rd_T25 l0 x3_1).f0) ((rd_T25 l0 x3_1).f1) ((rd_T25 l0 x3_1).f2) ((rd_T25 l0 x3_1).f3) ((rd_T25 l0 x3_1).f4))))) else (gantrylaw1_WordConvs.j2 kj1 l0 x3_1 true ((rd_T25 l0 x3_1).f0) ((rd_T25 l0 x3_1).f1) ((rd_T25 l0 x3_1).f2) ((rd_T25 l0 x3_1).f3) ((rd_T25 l0 x3_1).f4)))) else (gantrylaw1_WordConvs.j2 kj1 l0 x3_1 true ((rd_T25 l0 x3_1).f0) ((rd_T25 l0 x3_1).f1) ((rd_T25 l0 x3_1).f2) ((rd_T25 l0 x3_1).f3) ((rd_T25 l0 x3_1).f4))) = some r := H
                    have A15 := Aside0.mk A150
                    clear A150
                    by_cases c16 : t234 = 0
                    · rw [if_pos c16] at H
                      have c16b0 : (t234 == 0) = true := beq_iff_eq.mpr c16
                      have c16b1 : (t234 != 0) = false := bne_eq_false_iff_eq.mpr c16
                      clear c16
                      replace H := Option.bind_eq_some_iff.mp H
                      obtain ⟨t235, A170, H⟩ := H
                      replace H : (if t229 = t235 then ((word_Width.f kj1 (wrap64 (2 + (wrap64 (Int.tmod (IntKind.u64.wrap ((rd_T25 l0 x3_1).f2)) 8))))).bind fun t236 => ((word_Width.f kj1 (wrap64 (2 + (wrap64 (Int.tmod (IntKind.u64.wrap ((rd_T25 l0 x3_1).f1)) 8))))).bind fun t237 => (if t236 ≥ t237 then (gantrylaw1_WordConvs.j2 kj1 l0 x3_1 (t231 != t228) ((rd_T25 l0 x3_1).f0) ((rd_T25 l0 x3_1).f1) ((rd_T25 l0 x3_1).f2) ((rd_T25 l0 x3_1).f3) ((rd_T25 l0 x3_1).f4)) else (gantrylaw1_WordConvs.j2 kj1 l0 x3_1 false ((rd_T25 l0 x3_1).f0) ((rd_T25 l0 x3_1).f1) ((rd_T25 l0 x3_1).f2) ((rd_T25 l0 x3_1).f3) ((rd_T25 l0 x3_1).f4))))) else (gantrylaw1_WordConvs.j2 kj1 l0 x3_1 true ((rd_T25 l0 x3_1).f0) ((rd_T25 l0 x3_1).f1) ((rd_T25 l0 x3_1).f2) ((rd_T25 l0 x3_1).f3) ((rd_T25 l0 x3_1).f4))) = some r := H
                      have A17 := Aside0.mk A170
                      clear A170
                      by_cases c18 : t229 = t235
                      · rw [if_pos c18] at H
                        have c18b0 : (t229 == t235) = true := beq_iff_eq.mpr c18
                        have c18b1 : (t229 != t235) = false := bne_eq_false_iff_eq.mpr c18
                        clear c18
                        replace H := Option.bind_eq_some_iff.mp H
                        obtain ⟨t236, A190, H⟩ := H
                        replace H : ((word_Width.f kj1 (wrap64 (2 + (wrap64 (Int.tmod (IntKind.u64.wrap ((rd_T25 l0 x3_1).f1)) 8))))).bind fun t237 => (if t236 ≥ t237 then (gantrylaw1_WordConvs.j2 kj1 l0 x3_1 (t231 != t228) ((rd_T25 l0 x3_1).f0) ((rd_T25 l0 x3_1).f1) ((rd_T25 l0 x3_1).f2) ((rd_T25 l0 x3_1).f3) ((rd_T25 l0 x3_1).f4)) else (gantrylaw1_WordConvs.j2 kj1 l0 x3_1 false ((rd_T25 l0 x3_1).f0) ((rd_T25 l0 x3_1).f1) ((rd_T25 l0 x3_1).f2) ((rd_T25 l0 x3_1).f3) ((rd_T25 l0 x3_1).f4)))) = some r := H
                        have A19 := Aside0.mk A190
                        clear A190
                        replace H := Option.bind_eq_some_iff.mp H
                        obtain ⟨t237, A200, H⟩ := H
                        replace H : (if t236 ≥ t237 then (gantrylaw1_WordConvs.j2 kj1 l0 x3_1 (t231 != t228) ((rd_T25 l0 x3_1).f0) ((rd_T25 l0 x3_1).f1) ((rd_T25 l0 x3_1).f2) ((rd_T25 l0 x3_1).f3) ((rd_T25 l0 x3_1).f4)) else (gantrylaw1_WordConvs.j2 kj1 l0 x3_1 false ((rd_T25 l0 x3_1).f0) ((rd_T25 l0 x3_1).f1) ((rd_T25 l0 x3_1).f2) ((rd_T25 l0 x3_1).f3) ((rd_T25 l0 x3_1).f4))) = some r := H
                        have A20 := Aside0.mk A200
                        clear A200
                        by_cases c21 : t236 ≥ t237
                        · rw [if_pos c21] at H
                          have c21b0 : decide (t237 ≤ t236) = true := decide_eq_true c21
                          clear c21
                          have H' := Aside0.mk H
                          clear H
                          go_wp2_with (first | ((with_reducible refine gate_callee (f := 20) rfl ?_); refine goesL_ (some 62) rfl rfl Try.func20 (by kernel_rfl) rfl #[.int .i64 t230] rfl (by (try simp only [List.map_toArray, List.map_cons, List.map_nil]); first | done | rfl | (simp only [List.length_drop, List.length_take]; rfl)) ?_; (with_reducible refine (gantrylaw1_num.calls t230 t233 _ A13.out).mono ?_); rintro e w' ⟨rfl, ⟨nd, rfl⟩⟩; refine ⟨_, rfl, ?_⟩) | (go_at_call 20; (with_reducible refine (gantrylaw1_num.calls t232 t234 _ A15.out).mono ?_); rintro e w' ⟨rfl, ⟨nd, rfl⟩⟩) | (go_at_call 15; (with_reducible refine (word_Canon.calls kj1 (wrap64 (2 + (wrap64 (Int.tmod (IntKind.u64.wrap ((rd_T25 l0 x3_1).f2)) 8)))) t228 t235 _ A17.out).mono ?_); rintro e w' ⟨rfl, ⟨nd, rfl⟩⟩) | (go_at_call 22; (with_reducible refine (word_Width.calls kj1 (wrap64 (2 + (wrap64 (Int.tmod (IntKind.u64.wrap ((rd_T25 l0 x3_1).f2)) 8)))) t236 _ A19.out).mono ?_); rintro e w' ⟨rfl, ⟨nd, rfl⟩⟩) | (go_at_call 22; (with_reducible refine (word_Width.calls kj1 (wrap64 (2 + (wrap64 (Int.tmod (IntKind.u64.wrap ((rd_T25 l0 x3_1).f1)) 8)))) t237 _ A20.out).mono ?_); rintro e w' ⟨rfl, ⟨nd, rfl⟩⟩))
                          go_meet
                          case rel => exact ⟨_, ((t231 != t228)), (by first | rfl | (simp; done) | (simp [*]; done)), H', ⟨by have := HK1.out; have := HJ1.out; first | omega | exact Nat.le_refl _⟩, ⟨by (with_reducible repeat (first | refine blk_drewN ?_ _ | refine blk_drew ?_ | refine blk_alloc ?_ _)); refine blk_put (cs := #[.int .i64 ((rd_T25 l0 x3_1).f0), .int .i64 ((rd_T25 l0 x3_1).f1), .int .i64 ((rd_T25 l0 x3_1).f2), .int .u64 ((rd_T25 l0 x3_1).f3), .int .u64 0]) ?_ 4 _ rfl; (with_reducible repeat (first | refine blk_drewN ?_ _ | refine blk_drew ?_ | refine blk_alloc ?_ _)); refine blk_put (cs := #[.int .i64 ((rd_T25 l0 x3_1).f0), .int .i64 ((rd_T25 l0 x3_1).f1), .int .i64 ((rd_T25 l0 x3_1).f2), .int .u64 0, .int .u64 0]) ?_ 3 _ rfl; (with_reducible repeat (first | refine blk_drewN ?_ _ | refine blk_drew ?_ | refine blk_alloc ?_ _)); refine blk_put (cs := #[.int .i64 ((rd_T25 l0 x3_1).f0), .int .i64 ((rd_T25 l0 x3_1).f1), .int .i64 0, .int .u64 0, .int .u64 0]) ?_ 2 _ rfl; (with_reducible repeat (first | refine blk_drewN ?_ _ | refine blk_drew ?_ | refine blk_alloc ?_ _)); refine blk_put (cs := #[.int .i64 ((rd_T25 l0 x3_1).f0), .int .i64 0, .int .i64 0, .int .u64 0, .int .u64 0]) ?_ 1 _ rfl; (with_reducible repeat (first | refine blk_drewN ?_ _ | refine blk_drew ?_ | refine blk_alloc ?_ _)); refine blk_put (cs := #[.int .i64 0, .int .i64 0, .int .i64 0, .int .u64 0, .int .u64 0]) ?_ 0 _ rfl; (with_reducible repeat (first | refine blk_drewN ?_ _ | refine blk_drew ?_ | refine blk_alloc ?_ _)); exact BK227.out⟩, ⟨by repeat (first | (with_reducible first | exact HB.out | apply below_alloc | apply pw_below_drewN | apply below_drew1 | refine below_set ?_ GE227.out) | exact HB.out)⟩⟩
                        · rw [if_neg c21] at H
                          have c21b0 : decide (t237 ≤ t236) = false := decide_eq_false c21
                          clear c21
                          have H' := Aside0.mk H
                          clear H
                          go_wp2_with (first | ((with_reducible refine gate_callee (f := 20) rfl ?_); refine goesL_ (some 62) rfl rfl Try.func20 (by kernel_rfl) rfl #[.int .i64 t230] rfl (by (try simp only [List.map_toArray, List.map_cons, List.map_nil]); first | done | rfl | (simp only [List.length_drop, List.length_take]; rfl)) ?_; (with_reducible refine (gantrylaw1_num.calls t230 t233 _ A13.out).mono ?_); rintro e w' ⟨rfl, ⟨nd, rfl⟩⟩; refine ⟨_, rfl, ?_⟩) | (go_at_call 20; (with_reducible refine (gantrylaw1_num.calls t232 t234 _ A15.out).mono ?_); rintro e w' ⟨rfl, ⟨nd, rfl⟩⟩) | (go_at_call 15; (with_reducible refine (word_Canon.calls kj1 (wrap64 (2 + (wrap64 (Int.tmod (IntKind.u64.wrap ((rd_T25 l0 x3_1).f2)) 8)))) t228 t235 _ A17.out).mono ?_); rintro e w' ⟨rfl, ⟨nd, rfl⟩⟩) | (go_at_call 22; (with_reducible refine (word_Width.calls kj1 (wrap64 (2 + (wrap64 (Int.tmod (IntKind.u64.wrap ((rd_T25 l0 x3_1).f2)) 8)))) t236 _ A19.out).mono ?_); rintro e w' ⟨rfl, ⟨nd, rfl⟩⟩) | (go_at_call 22; (with_reducible refine (word_Width.calls kj1 (wrap64 (2 + (wrap64 (Int.tmod (IntKind.u64.wrap ((rd_T25 l0 x3_1).f1)) 8)))) t237 _ A20.out).mono ?_); rintro e w' ⟨rfl, ⟨nd, rfl⟩⟩))
                          go_meet
                          case rel => exact ⟨_, (false), (by first | rfl | (simp; done) | (simp [*]; done)), H', ⟨by have := HK1.out; have := HJ1.out; first | omega | exact Nat.le_refl _⟩, ⟨by (with_reducible repeat (first | refine blk_drewN ?_ _ | refine blk_drew ?_ | refine blk_alloc ?_ _)); refine blk_put (cs := #[.int .i64 ((rd_T25 l0 x3_1).f0), .int .i64 ((rd_T25 l0 x3_1).f1), .int .i64 ((rd_T25 l0 x3_1).f2), .int .u64 ((rd_T25 l0 x3_1).f3), .int .u64 0]) ?_ 4 _ rfl; (with_reducible repeat (first | refine blk_drewN ?_ _ | refine blk_drew ?_ | refine blk_alloc ?_ _)); refine blk_put (cs := #[.int .i64 ((rd_T25 l0 x3_1).f0), .int .i64 ((rd_T25 l0 x3_1).f1), .int .i64 ((rd_T25 l0 x3_1).f2), .int .u64 0, .int .u64 0]) ?_ 3 _ rfl; (with_reducible repeat (first | refine blk_drewN ?_ _ | refine blk_drew ?_ | refine blk_alloc ?_ _)); refine blk_put (cs := #[.int .i64 ((rd_T25 l0 x3_1).f0), .int .i64 ((rd_T25 l0 x3_1).f1), .int .i64 0, .int .u64 0, .int .u64 0]) ?_ 2 _ rfl; (with_reducible repeat (first | refine blk_drewN ?_ _ | refine blk_drew ?_ | refine blk_alloc ?_ _)); refine blk_put (cs := #[.int .i64 ((rd_T25 l0 x3_1).f0), .int .i64 0, .int .i64 0, .int .u64 0, .int .u64 0]) ?_ 1 _ rfl; (with_reducible repeat (first | refine blk_drewN ?_ _ | refine blk_drew ?_ | refine blk_alloc ?_ _)); refine blk_put (cs := #[.int .i64 0, .int .i64 0, .int .i64 0, .int .u64 0, .int .u64 0]) ?_ 0 _ rfl; (with_reducible repeat (first | refine blk_drewN ?_ _ | refine blk_drew ?_ | refine blk_alloc ?_ _)); exact BK227.out⟩, ⟨by repeat (first | (with_reducible first | exact HB.out | apply below_alloc | apply pw_below_drewN | apply below_drew1 | refine below_set ?_ GE227.out) | exact HB.out)⟩⟩
                      · rw [if_neg c18] at H
                        have c18b0 : (t229 == t235) = false := beq_eq_false_iff_ne.mpr c18
                        have c18b1 : (t229 != t235) = true := bne_iff_ne.mpr c18
                        have H' := Aside0.mk H
                        clear H
                        go_wp2_with (first | ((with_reducible refine gate_callee (f := 20) rfl ?_); refine goesL_ (some 62) rfl rfl Try.func20 (by kernel_rfl) rfl #[.int .i64 t230] rfl (by (try simp only [List.map_toArray, List.map_cons, List.map_nil]); first | done | rfl | (simp only [List.length_drop, List.length_take]; rfl)) ?_; (with_reducible refine (gantrylaw1_num.calls t230 t233 _ A13.out).mono ?_); rintro e w' ⟨rfl, ⟨nd, rfl⟩⟩; refine ⟨_, rfl, ?_⟩) | (go_at_call 20; (with_reducible refine (gantrylaw1_num.calls t232 t234 _ A15.out).mono ?_); rintro e w' ⟨rfl, ⟨nd, rfl⟩⟩) | (go_at_call 15; (with_reducible refine (word_Canon.calls kj1 (wrap64 (2 + (wrap64 (Int.tmod (IntKind.u64.wrap ((rd_T25 l0 x3_1).f2)) 8)))) t228 t235 _ A17.out).mono ?_); rintro e w' ⟨rfl, ⟨nd, rfl⟩⟩))
                        go_meet
                        case rel => exact ⟨_, (true), (by first | rfl | (simp; done) | (simp [*]; done)), H', ⟨by have := HK1.out; have := HJ1.out; first | omega | exact Nat.le_refl _⟩, ⟨by (with_reducible repeat (first | refine blk_drewN ?_ _ | refine blk_drew ?_ | refine blk_alloc ?_ _)); refine blk_put (cs := #[.int .i64 ((rd_T25 l0 x3_1).f0), .int .i64 ((rd_T25 l0 x3_1).f1), .int .i64 ((rd_T25 l0 x3_1).f2), .int .u64 ((rd_T25 l0 x3_1).f3), .int .u64 0]) ?_ 4 _ rfl; (with_reducible repeat (first | refine blk_drewN ?_ _ | refine blk_drew ?_ | refine blk_alloc ?_ _)); refine blk_put (cs := #[.int .i64 ((rd_T25 l0 x3_1).f0), .int .i64 ((rd_T25 l0 x3_1).f1), .int .i64 ((rd_T25 l0 x3_1).f2), .int .u64 0, .int .u64 0]) ?_ 3 _ rfl; (with_reducible repeat (first | refine blk_drewN ?_ _ | refine blk_drew ?_ | refine blk_alloc ?_ _)); refine blk_put (cs := #[.int .i64 ((rd_T25 l0 x3_1).f0), .int .i64 ((rd_T25 l0 x3_1).f1), .int .i64 0, .int .u64 0, .int .u64 0]) ?_ 2 _ rfl; (with_reducible repeat (first | refine blk_drewN ?_ _ | refine blk_drew ?_ | refine blk_alloc ?_ _)); refine blk_put (cs := #[.int .i64 ((rd_T25 l0 x3_1).f0), .int .i64 0, .int .i64 0, .int .u64 0, .int .u64 0]) ?_ 1 _ rfl; (with_reducible repeat (first | refine blk_drewN ?_ _ | refine blk_drew ?_ | refine blk_alloc ?_ _)); refine blk_put (cs := #[.int .i64 0, .int .i64 0, .int .i64 0, .int .u64 0, .int .u64 0]) ?_ 0 _ rfl; (with_reducible repeat (first | refine blk_drewN ?_ _ | refine blk_drew ?_ | refine blk_alloc ?_ _)); exact BK227.out⟩, ⟨by repeat (first | (with_reducible first | exact HB.out | apply below_alloc | apply pw_below_drewN | apply below_drew1 | refine below_set ?_ GE227.out) | exact HB.out)⟩⟩
                    · rw [if_neg c16] at H
                      have c16b0 : (t234 == 0) = false := beq_eq_false_iff_ne.mpr c16
                      have c16b1 : (t234 != 0) = true := bne_iff_ne.mpr c16
                      have H' := Aside0.mk H
                      clear H
                      go_wp2_with (first | ((with_reducible refine gate_callee (f := 20) rfl ?_); refine goesL_ (some 62) rfl rfl Try.func20 (by kernel_rfl) rfl #[.int .i64 t230] rfl (by (try simp only [List.map_toArray, List.map_cons, List.map_nil]); first | done | rfl | (simp only [List.length_drop, List.length_take]; rfl)) ?_; (with_reducible refine (gantrylaw1_num.calls t230 t233 _ A13.out).mono ?_); rintro e w' ⟨rfl, ⟨nd, rfl⟩⟩; refine ⟨_, rfl, ?_⟩) | (go_at_call 20; (with_reducible refine (gantrylaw1_num.calls t232 t234 _ A15.out).mono ?_); rintro e w' ⟨rfl, ⟨nd, rfl⟩⟩))
                      go_meet
                      case rel => exact ⟨_, (true), (by first | rfl | (simp; done) | (simp [*]; done)), H', ⟨by have := HK1.out; have := HJ1.out; first | omega | exact Nat.le_refl _⟩, ⟨by (with_reducible repeat (first | refine blk_drewN ?_ _ | refine blk_drew ?_ | refine blk_alloc ?_ _)); refine blk_put (cs := #[.int .i64 ((rd_T25 l0 x3_1).f0), .int .i64 ((rd_T25 l0 x3_1).f1), .int .i64 ((rd_T25 l0 x3_1).f2), .int .u64 ((rd_T25 l0 x3_1).f3), .int .u64 0]) ?_ 4 _ rfl; (with_reducible repeat (first | refine blk_drewN ?_ _ | refine blk_drew ?_ | refine blk_alloc ?_ _)); refine blk_put (cs := #[.int .i64 ((rd_T25 l0 x3_1).f0), .int .i64 ((rd_T25 l0 x3_1).f1), .int .i64 ((rd_T25 l0 x3_1).f2), .int .u64 0, .int .u64 0]) ?_ 3 _ rfl; (with_reducible repeat (first | refine blk_drewN ?_ _ | refine blk_drew ?_ | refine blk_alloc ?_ _)); refine blk_put (cs := #[.int .i64 ((rd_T25 l0 x3_1).f0), .int .i64 ((rd_T25 l0 x3_1).f1), .int .i64 0, .int .u64 0, .int .u64 0]) ?_ 2 _ rfl; (with_reducible repeat (first | refine blk_drewN ?_ _ | refine blk_drew ?_ | refine blk_alloc ?_ _)); refine blk_put (cs := #[.int .i64 ((rd_T25 l0 x3_1).f0), .int .i64 0, .int .i64 0, .int .u64 0, .int .u64 0]) ?_ 1 _ rfl; (with_reducible repeat (first | refine blk_drewN ?_ _ | refine blk_drew ?_ | refine blk_alloc ?_ _)); refine blk_put (cs := #[.int .i64 0, .int .i64 0, .int .i64 0, .int .u64 0, .int .u64 0]) ?_ 0 _ rfl; (with_reducible repeat (first | refine blk_drewN ?_ _ | refine blk_drew ?_ | refine blk_alloc ?_ _)); exact BK227.out⟩, ⟨by repeat (first | (with_reducible first | exact HB.out | apply below_alloc | apply pw_below_drewN | apply below_drew1 | refine below_set ?_ GE227.out) | exact HB.out)⟩⟩
                  · rw [if_neg c14] at H
                    have c14b0 : (t233 == 0) = false := beq_eq_false_iff_ne.mpr c14
                    have c14b1 : (t233 != 0) = true := bne_iff_ne.mpr c14
                    (first | rw [c14b0] | (simp only [i64_w, i32_w]; rw [c14b0]) | skip)
                    have H' := Aside0.mk H
                    clear H
                    go_wp2_with (first | ((with_reducible refine gate_callee (f := 20) rfl ?_); refine goesL_ (some 62) rfl rfl Try.func20 (by kernel_rfl) rfl #[.int .i64 t230] rfl (by (try simp only [List.map_toArray, List.map_cons, List.map_nil]); first | done | rfl | (simp only [List.length_drop, List.length_take]; rfl)) ?_; (with_reducible refine (gantrylaw1_num.calls t230 t233 _ A13.out).mono ?_); rintro e w' ⟨rfl, ⟨nd, rfl⟩⟩; refine ⟨_, rfl, ?_⟩))
                    go_meet
                    case rel => exact ⟨_, (true), (by first | rfl | (simp; done) | (simp [*]; done)), H', ⟨by have := HK1.out; have := HJ1.out; first | omega | exact Nat.le_refl _⟩, ⟨by (with_reducible repeat (first | refine blk_drewN ?_ _ | refine blk_drew ?_ | refine blk_alloc ?_ _)); refine blk_put (cs := #[.int .i64 ((rd_T25 l0 x3_1).f0), .int .i64 ((rd_T25 l0 x3_1).f1), .int .i64 ((rd_T25 l0 x3_1).f2), .int .u64 ((rd_T25 l0 x3_1).f3), .int .u64 0]) ?_ 4 _ rfl; (with_reducible repeat (first | refine blk_drewN ?_ _ | refine blk_drew ?_ | refine blk_alloc ?_ _)); refine blk_put (cs := #[.int .i64 ((rd_T25 l0 x3_1).f0), .int .i64 ((rd_T25 l0 x3_1).f1), .int .i64 ((rd_T25 l0 x3_1).f2), .int .u64 0, .int .u64 0]) ?_ 3 _ rfl; (with_reducible repeat (first | refine blk_drewN ?_ _ | refine blk_drew ?_ | refine blk_alloc ?_ _)); refine blk_put (cs := #[.int .i64 ((rd_T25 l0 x3_1).f0), .int .i64 ((rd_T25 l0 x3_1).f1), .int .i64 0, .int .u64 0, .int .u64 0]) ?_ 2 _ rfl; (with_reducible repeat (first | refine blk_drewN ?_ _ | refine blk_drew ?_ | refine blk_alloc ?_ _)); refine blk_put (cs := #[.int .i64 ((rd_T25 l0 x3_1).f0), .int .i64 0, .int .i64 0, .int .u64 0, .int .u64 0]) ?_ 1 _ rfl; (with_reducible repeat (first | refine blk_drewN ?_ _ | refine blk_drew ?_ | refine blk_alloc ?_ _)); refine blk_put (cs := #[.int .i64 0, .int .i64 0, .int .i64 0, .int .u64 0, .int .u64 0]) ?_ 0 _ rfl; (with_reducible repeat (first | refine blk_drewN ?_ _ | refine blk_drew ?_ | refine blk_alloc ?_ _)); exact BK227.out⟩, ⟨by repeat (first | (with_reducible first | exact HB.out | apply below_alloc | apply pw_below_drewN | apply below_drew1 | refine below_set ?_ GE227.out) | exact HB.out)⟩⟩
                case rest =>
                  clear HC10
                  try clear c1
                  try clear c2
                  try clear p2
                  try clear q2
                  try clear hx2
                  try clear c3
                  try clear c3b0
                  try clear c4
                  try clear c5
                  try clear c5b0
                  try clear c6
                  try clear c6b0
                  try clear p6
                  try clear c14
                  try clear c14b0
                  try clear c14b1
                  try clear c15
                  try clear c16
                  try clear c16b0
                  try clear c16b1
                  try clear c18
                  try clear c18b0
                  try clear c18b1
                  try clear c20
                  try clear c21
                  try clear c21b0
                  try clear hcz12_0
                  try clear hcz12_1
                  try clear hcz12_2
                  try clear hcz12_3
                  try clear hcz12_4
                  try clear hfz12_0
                  try clear hfz12_1
                  try clear hfz12_2
                  try clear hfz12_3
                  try clear hfz12_4
                  try clear hx226_0
                  try clear hx226_1
                  try clear hx226_2
                  try clear hx226_3
                  try clear hx226_4
                  try clear p2
                  try clear p226
                  try clear q226
                  obtain ⟨kq, x87_9, rfl, HA, HJ9, BK227, HB⟩ := hcut
                  cases kq with
                  | zero => exact absurd HA.out (by simp [gantrylaw1_WordConvs.j2])
                  | succ kj9 =>
                    have H := HA.out
                    clear HA
                    simp only [gantrylaw1_WordConvs.j2] at H
                    by_cases c22 : x87_9 = true
                    · subst c22
                      have H1 : (some false) = some r := by rw [if_pos rfl] at H; exact H
                      clear H
                      have H := H1
                      clear H1
                      obtain rfl := Option.some.inj H
                      go_wp2
                      go_ret
                      exact ⟨by first | rfl | (simp [errW_none, errW_some] <;> rfl) | (simp [*, errW_none, errW_some] <;> rfl), by repeat (first | (with_reducible first | exact HB.out | apply below_alloc | apply pw_below_drewN | apply below_drew1 | refine below_set ?_ GE227.out) | exact HB.out)⟩
                    · replace c22 := Bool.eq_false_iff.mpr c22
                      subst c22
                      have H1 : ((word_Canon.f kj9 5 (((rd_T25 l0 x3_1).f3) / 2048)).bind fun t238 => ((word_Conv.f kj9 5 10 t238).bind fun bt239 => ((word_Conv.f kj9 10 5 bt239.1).bind fun bt241 => ((gantrylaw1_num.f bt239.2).bind fun t243 => (if t243 = 0 then ((gantrylaw1_num.f bt241.2).bind fun t244 => (if t244 = 0 then (if bt241.1 = t238 then (gantrylaw1_WordConvs.l0 kj9 l0 (wrap64 (x3_1 + 1))) else (some false)) else (some false))) else (some false)))))) = some r := by rw [if_neg (show ¬ (false = true) by decide)] at H; exact H
                      clear H
                      have H := H1
                      clear H1
                      replace H := Option.bind_eq_some_iff.mp H
                      obtain ⟨t238, A230, H⟩ := H
                      replace H : ((word_Conv.f kj9 5 10 t238).bind fun bt239 => ((word_Conv.f kj9 10 5 bt239.1).bind fun bt241 => ((gantrylaw1_num.f bt239.2).bind fun t243 => (if t243 = 0 then ((gantrylaw1_num.f bt241.2).bind fun t244 => (if t244 = 0 then (if bt241.1 = t238 then (gantrylaw1_WordConvs.l0 kj9 l0 (wrap64 (x3_1 + 1))) else (some false)) else (some false))) else (some false))))) = some r := H
                      have A23 := Aside0.mk A230
                      clear A230
                      replace H := Option.bind_eq_some_iff.mp H
                      obtain ⟨⟨t239, t240⟩, A240, H⟩ := H
                      replace H : ((word_Conv.f kj9 10 5 t239).bind fun bt241 => ((gantrylaw1_num.f t240).bind fun t243 => (if t243 = 0 then ((gantrylaw1_num.f bt241.2).bind fun t244 => (if t244 = 0 then (if bt241.1 = t238 then (gantrylaw1_WordConvs.l0 kj9 l0 (wrap64 (x3_1 + 1))) else (some false)) else (some false))) else (some false)))) = some r := H
                      have A24 := Aside0.mk A240
                      clear A240
                      replace H := Option.bind_eq_some_iff.mp H
                      obtain ⟨⟨t241, t242⟩, A250, H⟩ := H
                      replace H : ((gantrylaw1_num.f t240).bind fun t243 => (if t243 = 0 then ((gantrylaw1_num.f t242).bind fun t244 => (if t244 = 0 then (if t241 = t238 then (gantrylaw1_WordConvs.l0 kj9 l0 (wrap64 (x3_1 + 1))) else (some false)) else (some false))) else (some false))) = some r := H
                      have A25 := Aside0.mk A250
                      clear A250
                      replace H := Option.bind_eq_some_iff.mp H
                      obtain ⟨t243, A260, H⟩ := H
                      replace H : (if t243 = 0 then ((gantrylaw1_num.f t242).bind fun t244 => (if t244 = 0 then (if t241 = t238 then (gantrylaw1_WordConvs.l0 kj9 l0 (wrap64 (x3_1 + 1))) else (some false)) else (some false))) else (some false)) = some r := H
                      have A26 := Aside0.mk A260
                      clear A260
                      by_cases c27 : t243 = 0
                      · rw [if_pos c27] at H
                        have c27b0 : (t243 == 0) = true := beq_iff_eq.mpr c27
                        have c27b1 : (t243 != 0) = false := bne_eq_false_iff_eq.mpr c27
                        clear c27
                        replace H := Option.bind_eq_some_iff.mp H
                        obtain ⟨t244, A280, H⟩ := H
                        replace H : (if t244 = 0 then (if t241 = t238 then (gantrylaw1_WordConvs.l0 kj9 l0 (wrap64 (x3_1 + 1))) else (some false)) else (some false)) = some r := H
                        have A28 := Aside0.mk A280
                        clear A280
                        by_cases c29 : t244 = 0
                        · rw [if_pos c29] at H
                          have c29b0 : (t244 == 0) = true := beq_iff_eq.mpr c29
                          have c29b1 : (t244 != 0) = false := bne_eq_false_iff_eq.mpr c29
                          clear c29
                          by_cases c30 : t241 = t238
                          · rw [if_pos c30] at H
                            have c30b0 : (t241 == t238) = true := beq_iff_eq.mpr c30
                            have c30b1 : (t241 != t238) = false := bne_eq_false_iff_eq.mpr c30
                            clear c30
                            have H' := Aside0.mk H
                            clear H
                            have hcz31_0 : wc.cell? ⟨gb227, 0, none⟩ = some (.int .i64 ((rd_T25 l0 x3_1).f0)) := (blk_cell BK227.out 0).trans rfl
                            have hcz31_1 : wc.cell? ⟨gb227, 1, none⟩ = some (.int .i64 ((rd_T25 l0 x3_1).f1)) := (blk_cell BK227.out 1).trans rfl
                            have hcz31_2 : wc.cell? ⟨gb227, 2, none⟩ = some (.int .i64 ((rd_T25 l0 x3_1).f2)) := (blk_cell BK227.out 2).trans rfl
                            have hcz31_3 : wc.cell? ⟨gb227, 3, none⟩ = some (.int .u64 ((rd_T25 l0 x3_1).f3)) := (blk_cell BK227.out 3).trans rfl
                            have hcz31_4 : wc.cell? ⟨gb227, 4, none⟩ = some (.int .u64 ((rd_T25 l0 x3_1).f4)) := (blk_cell BK227.out 4).trans rfl
                            have hfz31_0 := blk_frozen BK227.out 0
                            have hfz31_1 := blk_frozen BK227.out 1
                            have hfz31_2 := blk_frozen BK227.out 2
                            have hfz31_3 := blk_frozen BK227.out 3
                            have hfz31_4 := blk_frozen BK227.out 4
                            go_wp2_with (first | ((with_reducible refine gate_callee (f := 15) rfl ?_); refine goesL_ (some 91) rfl rfl Try.func15 (by kernel_rfl) rfl #[.int .i64 5, .int .u64 (((rd_T25 l0 x3_1).f3) / 2048)] rfl (by (try simp only [List.map_toArray, List.map_cons, List.map_nil]); first | done | rfl | (simp only [List.length_drop, List.length_take]; rfl)) ?_; (with_reducible refine (word_Canon.calls kj9 5 (((rd_T25 l0 x3_1).f3) / 2048) t238 _ A23.out).mono ?_); rintro e w' ⟨rfl, ⟨nd, rfl⟩⟩; refine ⟨_, rfl, ?_⟩) | ((with_reducible refine gate_callee (f := 21) rfl ?_); refine goesL_ (some 94) rfl rfl Try.func21 (by kernel_rfl) rfl #[.int .i64 5, .int .i64 10, .int .u64 t238] rfl (by (try simp only [List.map_toArray, List.map_cons, List.map_nil]); first | done | rfl | (simp only [List.length_drop, List.length_take]; rfl)) ?_; (with_reducible refine (word_Conv.calls kj9 5 10 t238 t239 t240 _ A24.out).mono ?_); rintro e w' ⟨rfl, ⟨nd, rfl⟩⟩; refine ⟨_, rfl, ?_⟩) | ((with_reducible refine gate_callee (f := 21) rfl ?_); refine goesL_ (some 99) rfl rfl Try.func21 (by kernel_rfl) rfl #[.int .i64 10, .int .i64 5, .int .u64 t239] rfl (by (try simp only [List.map_toArray, List.map_cons, List.map_nil]); first | done | rfl | (simp only [List.length_drop, List.length_take]; rfl)) ?_; (with_reducible refine (word_Conv.calls kj9 10 5 t239 t241 t242 _ A25.out).mono ?_); rintro e w' ⟨rfl, ⟨nd, rfl⟩⟩; refine ⟨_, rfl, ?_⟩) | ((with_reducible refine gate_callee (f := 20) rfl ?_); refine goesL_ (some 103) rfl rfl Try.func20 (by kernel_rfl) rfl #[.int .i64 t240] rfl (by (try simp only [List.map_toArray, List.map_cons, List.map_nil]); first | done | rfl | (simp only [List.length_drop, List.length_take]; rfl)) ?_; (with_reducible refine (gantrylaw1_num.calls t240 t243 _ A26.out).mono ?_); rintro e w' ⟨rfl, ⟨nd, rfl⟩⟩; refine ⟨_, rfl, ?_⟩) | (go_at_call 20; (with_reducible refine (gantrylaw1_num.calls t242 t244 _ A28.out).mono ?_); rintro e w' ⟨rfl, ⟨nd, rfl⟩⟩))
                            go_roundg kj9
                            case measure => have := HK1.out; have := HJ1.out; have := HJ9.out; omega
                            case rel => exact ⟨(wrap64 (x3_1 + 1)), (by first | rfl | (simp; done) | (simp [*]; done)), H', ⟨by have := HK1.out; have := HJ1.out; have := HJ9.out; omega⟩, ⟨by repeat (first | (with_reducible first | exact HB.out | apply below_alloc | apply pw_below_drewN | apply below_drew1 | refine below_set ?_ GE227.out) | exact HB.out)⟩⟩
                          · rw [if_neg c30] at H
                            have c30b0 : (t241 == t238) = false := beq_eq_false_iff_ne.mpr c30
                            have c30b1 : (t241 != t238) = true := bne_iff_ne.mpr c30
                            obtain rfl := Option.some.inj H
                            have hcz32_0 : wc.cell? ⟨gb227, 0, none⟩ = some (.int .i64 ((rd_T25 l0 x3_1).f0)) := (blk_cell BK227.out 0).trans rfl
                            have hcz32_1 : wc.cell? ⟨gb227, 1, none⟩ = some (.int .i64 ((rd_T25 l0 x3_1).f1)) := (blk_cell BK227.out 1).trans rfl
                            have hcz32_2 : wc.cell? ⟨gb227, 2, none⟩ = some (.int .i64 ((rd_T25 l0 x3_1).f2)) := (blk_cell BK227.out 2).trans rfl
                            have hcz32_3 : wc.cell? ⟨gb227, 3, none⟩ = some (.int .u64 ((rd_T25 l0 x3_1).f3)) := (blk_cell BK227.out 3).trans rfl
                            have hcz32_4 : wc.cell? ⟨gb227, 4, none⟩ = some (.int .u64 ((rd_T25 l0 x3_1).f4)) := (blk_cell BK227.out 4).trans rfl
                            have hfz32_0 := blk_frozen BK227.out 0
                            have hfz32_1 := blk_frozen BK227.out 1
                            have hfz32_2 := blk_frozen BK227.out 2
                            have hfz32_3 := blk_frozen BK227.out 3
                            have hfz32_4 := blk_frozen BK227.out 4
                            go_wp2_with (first | ((with_reducible refine gate_callee (f := 15) rfl ?_); refine goesL_ (some 91) rfl rfl Try.func15 (by kernel_rfl) rfl #[.int .i64 5, .int .u64 (((rd_T25 l0 x3_1).f3) / 2048)] rfl (by (try simp only [List.map_toArray, List.map_cons, List.map_nil]); first | done | rfl | (simp only [List.length_drop, List.length_take]; rfl)) ?_; (with_reducible refine (word_Canon.calls kj9 5 (((rd_T25 l0 x3_1).f3) / 2048) t238 _ A23.out).mono ?_); rintro e w' ⟨rfl, ⟨nd, rfl⟩⟩; refine ⟨_, rfl, ?_⟩) | ((with_reducible refine gate_callee (f := 21) rfl ?_); refine goesL_ (some 94) rfl rfl Try.func21 (by kernel_rfl) rfl #[.int .i64 5, .int .i64 10, .int .u64 t238] rfl (by (try simp only [List.map_toArray, List.map_cons, List.map_nil]); first | done | rfl | (simp only [List.length_drop, List.length_take]; rfl)) ?_; (with_reducible refine (word_Conv.calls kj9 5 10 t238 t239 t240 _ A24.out).mono ?_); rintro e w' ⟨rfl, ⟨nd, rfl⟩⟩; refine ⟨_, rfl, ?_⟩) | ((with_reducible refine gate_callee (f := 21) rfl ?_); refine goesL_ (some 99) rfl rfl Try.func21 (by kernel_rfl) rfl #[.int .i64 10, .int .i64 5, .int .u64 t239] rfl (by (try simp only [List.map_toArray, List.map_cons, List.map_nil]); first | done | rfl | (simp only [List.length_drop, List.length_take]; rfl)) ?_; (with_reducible refine (word_Conv.calls kj9 10 5 t239 t241 t242 _ A25.out).mono ?_); rintro e w' ⟨rfl, ⟨nd, rfl⟩⟩; refine ⟨_, rfl, ?_⟩) | ((with_reducible refine gate_callee (f := 20) rfl ?_); refine goesL_ (some 103) rfl rfl Try.func20 (by kernel_rfl) rfl #[.int .i64 t240] rfl (by (try simp only [List.map_toArray, List.map_cons, List.map_nil]); first | done | rfl | (simp only [List.length_drop, List.length_take]; rfl)) ?_; (with_reducible refine (gantrylaw1_num.calls t240 t243 _ A26.out).mono ?_); rintro e w' ⟨rfl, ⟨nd, rfl⟩⟩; refine ⟨_, rfl, ?_⟩) | (go_at_call 20; (with_reducible refine (gantrylaw1_num.calls t242 t244 _ A28.out).mono ?_); rintro e w' ⟨rfl, ⟨nd, rfl⟩⟩))
                            go_ret
                            exact ⟨by first | rfl | (simp [errW_none, errW_some] <;> rfl) | (simp [*, errW_none, errW_some] <;> rfl), by repeat (first | (with_reducible first | exact HB.out | apply below_alloc | apply pw_below_drewN | apply below_drew1 | refine below_set ?_ GE227.out) | exact HB.out)⟩
                        · rw [if_neg c29] at H
                          have c29b0 : (t244 == 0) = false := beq_eq_false_iff_ne.mpr c29
                          have c29b1 : (t244 != 0) = true := bne_iff_ne.mpr c29
                          obtain rfl := Option.some.inj H
                          have hcz33_0 : wc.cell? ⟨gb227, 0, none⟩ = some (.int .i64 ((rd_T25 l0 x3_1).f0)) := (blk_cell BK227.out 0).trans rfl
                          have hcz33_1 : wc.cell? ⟨gb227, 1, none⟩ = some (.int .i64 ((rd_T25 l0 x3_1).f1)) := (blk_cell BK227.out 1).trans rfl
                          have hcz33_2 : wc.cell? ⟨gb227, 2, none⟩ = some (.int .i64 ((rd_T25 l0 x3_1).f2)) := (blk_cell BK227.out 2).trans rfl
                          have hcz33_3 : wc.cell? ⟨gb227, 3, none⟩ = some (.int .u64 ((rd_T25 l0 x3_1).f3)) := (blk_cell BK227.out 3).trans rfl
                          have hcz33_4 : wc.cell? ⟨gb227, 4, none⟩ = some (.int .u64 ((rd_T25 l0 x3_1).f4)) := (blk_cell BK227.out 4).trans rfl
                          have hfz33_0 := blk_frozen BK227.out 0
                          have hfz33_1 := blk_frozen BK227.out 1
                          have hfz33_2 := blk_frozen BK227.out 2
                          have hfz33_3 := blk_frozen BK227.out 3
                          have hfz33_4 := blk_frozen BK227.out 4
                          go_wp2_with (first | ((with_reducible refine gate_callee (f := 15) rfl ?_); refine goesL_ (some 91) rfl rfl Try.func15 (by kernel_rfl) rfl #[.int .i64 5, .int .u64 (((rd_T25 l0 x3_1).f3) / 2048)] rfl (by (try simp only [List.map_toArray, List.map_cons, List.map_nil]); first | done | rfl | (simp only [List.length_drop, List.length_take]; rfl)) ?_; (with_reducible refine (word_Canon.calls kj9 5 (((rd_T25 l0 x3_1).f3) / 2048) t238 _ A23.out).mono ?_); rintro e w' ⟨rfl, ⟨nd, rfl⟩⟩; refine ⟨_, rfl, ?_⟩) | ((with_reducible refine gate_callee (f := 21) rfl ?_); refine goesL_ (some 94) rfl rfl Try.func21 (by kernel_rfl) rfl #[.int .i64 5, .int .i64 10, .int .u64 t238] rfl (by (try simp only [List.map_toArray, List.map_cons, List.map_nil]); first | done | rfl | (simp only [List.length_drop, List.length_take]; rfl)) ?_; (with_reducible refine (word_Conv.calls kj9 5 10 t238 t239 t240 _ A24.out).mono ?_); rintro e w' ⟨rfl, ⟨nd, rfl⟩⟩; refine ⟨_, rfl, ?_⟩) | ((with_reducible refine gate_callee (f := 21) rfl ?_); refine goesL_ (some 99) rfl rfl Try.func21 (by kernel_rfl) rfl #[.int .i64 10, .int .i64 5, .int .u64 t239] rfl (by (try simp only [List.map_toArray, List.map_cons, List.map_nil]); first | done | rfl | (simp only [List.length_drop, List.length_take]; rfl)) ?_; (with_reducible refine (word_Conv.calls kj9 10 5 t239 t241 t242 _ A25.out).mono ?_); rintro e w' ⟨rfl, ⟨nd, rfl⟩⟩; refine ⟨_, rfl, ?_⟩) | ((with_reducible refine gate_callee (f := 20) rfl ?_); refine goesL_ (some 103) rfl rfl Try.func20 (by kernel_rfl) rfl #[.int .i64 t240] rfl (by (try simp only [List.map_toArray, List.map_cons, List.map_nil]); first | done | rfl | (simp only [List.length_drop, List.length_take]; rfl)) ?_; (with_reducible refine (gantrylaw1_num.calls t240 t243 _ A26.out).mono ?_); rintro e w' ⟨rfl, ⟨nd, rfl⟩⟩; refine ⟨_, rfl, ?_⟩) | (go_at_call 20; (with_reducible refine (gantrylaw1_num.calls t242 t244 _ A28.out).mono ?_); rintro e w' ⟨rfl, ⟨nd, rfl⟩⟩))
                          go_ret
                          exact ⟨by first | rfl | (simp [errW_none, errW_some] <;> rfl) | (simp [*, errW_none, errW_some] <;> rfl), by repeat (first | (with_reducible first | exact HB.out | apply below_alloc | apply pw_below_drewN | apply below_drew1 | refine below_set ?_ GE227.out) | exact HB.out)⟩
                      · rw [if_neg c27] at H
                        have c27b0 : (t243 == 0) = false := beq_eq_false_iff_ne.mpr c27
                        have c27b1 : (t243 != 0) = true := bne_iff_ne.mpr c27
                        obtain rfl := Option.some.inj H
                        have hcz34_0 : wc.cell? ⟨gb227, 0, none⟩ = some (.int .i64 ((rd_T25 l0 x3_1).f0)) := (blk_cell BK227.out 0).trans rfl
                        have hcz34_1 : wc.cell? ⟨gb227, 1, none⟩ = some (.int .i64 ((rd_T25 l0 x3_1).f1)) := (blk_cell BK227.out 1).trans rfl
                        have hcz34_2 : wc.cell? ⟨gb227, 2, none⟩ = some (.int .i64 ((rd_T25 l0 x3_1).f2)) := (blk_cell BK227.out 2).trans rfl
                        have hcz34_3 : wc.cell? ⟨gb227, 3, none⟩ = some (.int .u64 ((rd_T25 l0 x3_1).f3)) := (blk_cell BK227.out 3).trans rfl
                        have hcz34_4 : wc.cell? ⟨gb227, 4, none⟩ = some (.int .u64 ((rd_T25 l0 x3_1).f4)) := (blk_cell BK227.out 4).trans rfl
                        have hfz34_0 := blk_frozen BK227.out 0
                        have hfz34_1 := blk_frozen BK227.out 1
                        have hfz34_2 := blk_frozen BK227.out 2
                        have hfz34_3 := blk_frozen BK227.out 3
                        have hfz34_4 := blk_frozen BK227.out 4
                        go_wp2_with (first | ((with_reducible refine gate_callee (f := 15) rfl ?_); refine goesL_ (some 91) rfl rfl Try.func15 (by kernel_rfl) rfl #[.int .i64 5, .int .u64 (((rd_T25 l0 x3_1).f3) / 2048)] rfl (by (try simp only [List.map_toArray, List.map_cons, List.map_nil]); first | done | rfl | (simp only [List.length_drop, List.length_take]; rfl)) ?_; (with_reducible refine (word_Canon.calls kj9 5 (((rd_T25 l0 x3_1).f3) / 2048) t238 _ A23.out).mono ?_); rintro e w' ⟨rfl, ⟨nd, rfl⟩⟩; refine ⟨_, rfl, ?_⟩) | ((with_reducible refine gate_callee (f := 21) rfl ?_); refine goesL_ (some 94) rfl rfl Try.func21 (by kernel_rfl) rfl #[.int .i64 5, .int .i64 10, .int .u64 t238] rfl (by (try simp only [List.map_toArray, List.map_cons, List.map_nil]); first | done | rfl | (simp only [List.length_drop, List.length_take]; rfl)) ?_; (with_reducible refine (word_Conv.calls kj9 5 10 t238 t239 t240 _ A24.out).mono ?_); rintro e w' ⟨rfl, ⟨nd, rfl⟩⟩; refine ⟨_, rfl, ?_⟩) | ((with_reducible refine gate_callee (f := 21) rfl ?_); refine goesL_ (some 99) rfl rfl Try.func21 (by kernel_rfl) rfl #[.int .i64 10, .int .i64 5, .int .u64 t239] rfl (by (try simp only [List.map_toArray, List.map_cons, List.map_nil]); first | done | rfl | (simp only [List.length_drop, List.length_take]; rfl)) ?_; (with_reducible refine (word_Conv.calls kj9 10 5 t239 t241 t242 _ A25.out).mono ?_); rintro e w' ⟨rfl, ⟨nd, rfl⟩⟩; refine ⟨_, rfl, ?_⟩) | ((with_reducible refine gate_callee (f := 20) rfl ?_); refine goesL_ (some 103) rfl rfl Try.func20 (by kernel_rfl) rfl #[.int .i64 t240] rfl (by (try simp only [List.map_toArray, List.map_cons, List.map_nil]); first | done | rfl | (simp only [List.length_drop, List.length_take]; rfl)) ?_; (with_reducible refine (gantrylaw1_num.calls t240 t243 _ A26.out).mono ?_); rintro e w' ⟨rfl, ⟨nd, rfl⟩⟩; refine ⟨_, rfl, ?_⟩))
                        go_ret
                        exact ⟨by first | rfl | (simp [errW_none, errW_some] <;> rfl) | (simp [*, errW_none, errW_some] <;> rfl), by repeat (first | (with_reducible first | exact HB.out | apply below_alloc | apply pw_below_drewN | apply below_drew1 | refine below_set ?_ GE227.out) | exact HB.out)⟩
              · rw [if_neg c6] at H
                exact absurd H (by simp)
            · rw [if_neg c5] at H
              exact absurd H (by simp)
          · replace c4 := Bool.eq_false_iff.mpr c4
            subst c4
            have H1 : ((gantrylaw1_wakes.f kj1).bind fun t225 => (some t225)) = some r := by rw [if_neg (show ¬ (false = true) by decide)] at H; exact H
            clear H
            have H := H1
            clear H1
            replace H := Option.bind_eq_some_iff.mp H
            obtain ⟨t225, A350, H⟩ := H
            replace H : (some t225) = some r := H
            have A35 := Aside0.mk A350
            clear A350
            obtain rfl := Option.some.inj H
            go_wp2_with (first | ((with_reducible refine gate_callee (f := 18) rfl ?_); refine goesL_ (some 115) rfl rfl Try.func18 (by kernel_rfl) rfl #[] rfl (by (try simp only [List.map_toArray, List.map_cons, List.map_nil]); first | done | rfl | (simp only [List.length_drop, List.length_take]; rfl)) ?_; (with_reducible refine (gantrylaw1_wakes.calls kj1  t225 _ A35.out).mono ?_); rintro e w36 ⟨rfl, hb⟩; refine ⟨_, rfl, ?_⟩; have n0_ := Aside0.mk (below_step (by repeat (first | (with_reducible first | exact HB.out | apply below_alloc | apply pw_below_drewN | apply below_drew1) | exact HB.out)) hb); clear HB; have HB := n0_; clear n0_; (try clear hb); (try clear hb2); (try clear hk); (try clear hi)))
            go_ret
            exact ⟨by first | rfl | (simp [errW_none, errW_some] <;> rfl) | (simp [*, errW_none, errW_some] <;> rfl), by repeat (first | (with_reducible first | exact HB.out | apply below_alloc | apply pw_below_drewN | apply below_drew1) | exact HB.out)⟩

end Go.Proofs.Ytahepinbmcgbnaa.PA
