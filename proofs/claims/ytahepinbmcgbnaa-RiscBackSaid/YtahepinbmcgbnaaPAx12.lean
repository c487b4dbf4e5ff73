-- Printed by this session's program (wip/tools: the kit's printer, turned for this claim), out of the translation.
import Derived.Test.YtahepinbmcgbnaaPAx0
import Derived.Test.YtahepinbmcgbnaaPAx11
namespace Go.Proofs.Ytahepinbmcgbnaa.PA
open Go.RowKit Go.Proofs.YtahepinbmcgbnaaW.PrintWords Go.Proofs.YtahepinbmcgbnaaW.PrintLast Go.Proofs.YtahepinbmcgbnaaW.PrintMore
attribute [local go_sem] max2_int min2_int max_two min_two max_three min_three max_four min_four   -- for this text's walks alone
attribute [local go_sem] Fl.frombits Fl.tobits
set_option linter.unusedVariables false
set_option linter.unusedSimpArgs false

/-! ### gantryref1_HasBin: function 60 -/
def gantryref1_HasBin.j0 : Nat → Int → Int → Bool → Option (Bool)
 | 0, _, _, _ => none
 | k + 1, x0, x1, x5 => if x5 = true then (some false) else ((gantryref1_Int.f x1).bind fun t256 => (if t256 = true then (some true) else (if x1 = 10 then (if x0 ≤ 4 then (some true) else (some (decide (x0 ≥ 11)))) else (if x1 = 1 then (if x0 = 6 then (some true) else (if x0 = 7 then (some true) else (if x0 = 8 then (some true) else (if x0 = 11 then (some true) else (some (x0 == 12)))))) else (if x1 = 11 then (if x0 = 11 then (some true) else (some (x0 == 12))) else (some false))))))
def gantryref1_HasBin.f (k : Nat) (a0 : Int) (a1 : Int) : Option (Bool) := if a0 < 1 then (gantryref1_HasBin.j0 k a0 a1 true) else (gantryref1_HasBin.j0 k a0 a1 (decide (a0 > 16)))
theorem gantryref1_HasBin.mono_l : ∀ k, (∀ y0 y1 y2, LeO (gantryref1_HasBin.j0 k y0 y1 y2) (gantryref1_HasBin.j0 (k + 1) y0 y1 y2))
 | 0 => fun _ _ _ r h => by simp [gantryref1_HasBin.j0] at h
 | k + 1 => by
  have ih0 := gantryref1_HasBin.mono_l k
  ·intro y0 y1 y2
   unfold gantryref1_HasBin.j0
   repeat' first
   | (with_reducible exact ih0 _ _ _)
   | (with_reducible exact LeO.refl _)
   | (with_reducible exact LeO.none _)
   | (with_reducible refine LeO.ite ?_ ?_)
   | (with_reducible refine LeO.bind ?_ (fun _ => ?_))
   | exact ih0 _ _ _
   | exact LeO.none _
   | refine LeO.ite ?_ ?_
   | refine LeO.bind ?_ (fun _ => ?_)
theorem gantryref1_HasBin.mono : ∀ a0 a1 k, LeO (gantryref1_HasBin.f k a0 a1) (gantryref1_HasBin.f (k + 1) a0 a1) := by
 intro a0 a1 k
 have ih0 := gantryref1_HasBin.mono_l k
 unfold gantryref1_HasBin.f
 repeat' first
   | (with_reducible exact ih0 _ _ _)
   | (with_reducible exact LeO.refl _)
   | (with_reducible exact LeO.none _)
   | (with_reducible refine LeO.ite ?_ ?_)
   | (with_reducible refine LeO.bind ?_ (fun _ => ?_))
   | exact ih0 _ _ _
   | exact LeO.none _
   | refine LeO.ite ?_ ?_
   | refine LeO.bind ?_ (fun _ => ?_)
set_option maxHeartbeats 8000000 in
set_option maxRecDepth 100000 in
theorem gantryref1_HasBin.calls (k : Nat) (a0 : Int) (a1 : Int) (r : Bool) (w : World) (h : gantryref1_HasBin.f k a0 a1 = some r) :
  Calls Try.prog 60 #[.int .i64 a0, .int .i64 a1] w fun e w' => e = .returned (.bool r) ∧ Drawn0 w w' := by
 have H : (if a0 < 1 then (gantryref1_HasBin.j0 k a0 a1 true) else (gantryref1_HasBin.j0 k a0 a1 (decide (a0 > 16)))) = some r := h
 clear h
 have HC3 := Aside0.mk H
 clear H
 go_enter Try.func60, Try.ntmps60
 go_upto_region 1 with (fail)
 go_cut [5] (fun v5 wc => ∃ (kq : Nat) (x5_2 : Bool), v5 = .bool x5_2 ∧ Aside0 (gantryref1_HasBin.j0 kq a0 a1 x5_2 = some r) ∧ Aside0 (kq ≤ k) ∧ Drawn0 w wc)
 case first =>
  have H := HC3.out
  clear HC3
  by_cases c4 : a0 < 1
  ·rw [if_pos c4] at H
   have c4b0 : decide (a0 < 1) = true := decide_eq_true c4
   clear c4
   (first | rw [c4b0] | (simp only [i64_w, i32_w]; rw [c4b0]) | skip)
   have H' := Aside0.mk H
   clear H
   go_wp2
   go_meet
   case rel => exact ⟨_, (true), (by first | rfl | (simp; done) | (simp [*]; done)), H', ⟨by first | omega | exact Nat.le_refl _⟩, by repeat (first | exact Drawn0.refl _ | apply Drawn0.step)⟩
  ·rw [if_neg c4] at H
   have c4b0 : decide (a0 < 1) = false := decide_eq_false c4
   clear c4
   (first | rw [c4b0] | (simp only [i64_w, i32_w]; rw [c4b0]) | skip)
   have H' := Aside0.mk H
   clear H
   go_wp2
   go_meet
   case rel => exact ⟨_, (decide (a0 > 16)), (by first | rfl | (simp; done) | (simp [*]; done)), H', ⟨by first | omega | exact Nat.le_refl _⟩, by repeat (first | exact Drawn0.refl _ | apply Drawn0.step)⟩
 case rest =>
  clear HC3
  try clear p2
  try clear c4
  try clear c4b0
  obtain ⟨kq, x5_2, rfl, HA, HJ2, ⟨mc2, rfl⟩⟩ := hcut
  cases kq with
  | zero => exact absurd HA.out (by simp [gantryref1_HasBin.j0])
  | succ kj2 =>
   have H := HA.out
   clear HA
   simp only [gantryref1_HasBin.j0] at H
   by_cases c5 : x5_2 = true
   ·subst c5
    have H1 : (some false) = some r := by rw [if_pos rfl] at H; exact H
    clear H
    have H := H1
    clear H1
    obtain rfl := Option.some.inj H
    go_wp2
    go_ret
    exact ⟨by first | rfl | (simp; done) | (simp [*]; done), by repeat (first | exact Drawn0.refl _ | apply Drawn0.step)⟩
   ·replace c5 := Bool.eq_false_iff.mpr c5
    subst c5
    have H1 : ((gantryref1_Int.f a1).bind fun t256 => (if t256 = true then (some true) else (if a1 = 10 then (if a0 ≤ 4 then (some true) else (some (decide (a0 ≥ 11)))) else (if a1 = 1 then (if a0 = 6 then (some true) else (if a0 = 7 then (some true) else (if a0 = 8 then (some true) else (if a0 = 11 then (some true) else (some (a0 == 12)))))) else (if a1 = 11 then (if a0 = 11 then (some true) else (some (a0 == 12))) else (some false)))))) = some r := by rw [if_neg (show ¬ (false = true) by decide)] at H; exact H
    clear H
    have H := H1
    clear H1
    replace H := Option.bind_eq_some_iff.mp H
    obtain ⟨t256, A60, H⟩ := H
    replace H : (if t256 = true then (some true) else (if a1 = 10 then (if a0 ≤ 4 then (some true) else (some (decide (a0 ≥ 11)))) else (if a1 = 1 then (if a0 = 6 then (some true) else (if a0 = 7 then (some true) else (if a0 = 8 then (some true) else (if a0 = 11 then (some true) else (some (a0 == 12)))))) else (if a1 = 11 then (if a0 = 11 then (some true) else (some (a0 == 12))) else (some false))))) = some r := H
    have A6 := Aside0.mk A60
    clear A60
    by_cases c7 : t256 = true
    ·subst c7
     have H1 : (some true) = some r := by rw [if_pos rfl] at H; exact H
     clear H
     have H := H1
     clear H1
     obtain rfl := Option.some.inj H
     go_wp2_with (first | ((with_reducible refine gate_callee (f := 83) rfl ?_); refine goesL_ (some 14) rfl rfl Try.func83 (by kernel_rfl) rfl #[.int .i64 a1] rfl (by (try simp only [List.map_toArray, List.map_cons, List.map_nil]); first | done | rfl | (simp only [List.length_drop, List.length_take]; rfl)) ?_; (with_reducible refine (gantryref1_Int.calls a1 true _ A6.out).mono ?_); rintro e w' ⟨rfl, ⟨nd, rfl⟩⟩; refine ⟨_, rfl, ?_⟩))
     go_ret
     exact ⟨by first | rfl | (simp; done) | (simp [*]; done), by repeat (first | exact Drawn0.refl _ | apply Drawn0.step)⟩
    ·replace c7 := Bool.eq_false_iff.mpr c7
     subst c7
     have H1 : (if a1 = 10 then (if a0 ≤ 4 then (some true) else (some (decide (a0 ≥ 11)))) else (if a1 = 1 then (if a0 = 6 then (some true) else (if a0 = 7 then (some true) else (if a0 = 8 then (some true) else (if a0 = 11 then (some true) else (some (a0 == 12)))))) else (if a1 = 11 then (if a0 = 11 then (some true) else (some (a0 == 12))) else (some false)))) = some r := by rw [if_neg (show ¬ (false = true) by decide)] at H; exact H
     clear H
     have H := H1
     clear H1
     by_cases c8 : a1 = 10
     ·rw [if_pos c8] at H
      have c8b0 : (a1 == 10) = true := beq_iff_eq.mpr c8
      have c8b1 : (a1 != 10) = false := bne_eq_false_iff_eq.mpr c8
      clear c8
      by_cases c9 : a0 ≤ 4
      ·rw [if_pos c9] at H
       have c9b0 : decide (a0 ≤ 4) = true := decide_eq_true c9
       clear c9
       obtain rfl := Option.some.inj H
       go_wp2_with (first | ((with_reducible refine gate_callee (f := 83) rfl ?_); refine goesL_ (some 14) rfl rfl Try.func83 (by kernel_rfl) rfl #[.int .i64 a1] rfl (by (try simp only [List.map_toArray, List.map_cons, List.map_nil]); first | done | rfl | (simp only [List.length_drop, List.length_take]; rfl)) ?_; (with_reducible refine (gantryref1_Int.calls a1 false _ A6.out).mono ?_); rintro e w' ⟨rfl, ⟨nd, rfl⟩⟩; refine ⟨_, rfl, ?_⟩))
       go_ret
       exact ⟨by first | rfl | (simp; done) | (simp [*]; done), by repeat (first | exact Drawn0.refl _ | apply Drawn0.step)⟩
      ·rw [if_neg c9] at H
       have c9b0 : decide (a0 ≤ 4) = false := decide_eq_false c9
       clear c9
       obtain rfl := Option.some.inj H
       go_wp2_with (first | ((with_reducible refine gate_callee (f := 83) rfl ?_); refine goesL_ (some 14) rfl rfl Try.func83 (by kernel_rfl) rfl #[.int .i64 a1] rfl (by (try simp only [List.map_toArray, List.map_cons, List.map_nil]); first | done | rfl | (simp only [List.length_drop, List.length_take]; rfl)) ?_; (with_reducible refine (gantryref1_Int.calls a1 false _ A6.out).mono ?_); rintro e w' ⟨rfl, ⟨nd, rfl⟩⟩; refine ⟨_, rfl, ?_⟩))
       go_ret
       exact ⟨by first | rfl | (simp; done) | (simp [*]; done), by repeat (first | exact Drawn0.refl _ | apply Drawn0.step)⟩
     ·rw [if_neg c8] at H
      have c8b0 : (a1 == 10) = false := beq_eq_false_iff_ne.mpr c8
      have c8b1 : (a1 != 10) = true := bne_iff_ne.mpr c8
      by_cases c10 : a1 = 1
      ·rw [if_pos c10] at H
       have c10b0 : (a1 == 1) = true := beq_iff_eq.mpr c10
       have c10b1 : (a1 != 1) = false := bne_eq_false_iff_eq.mpr c10
       clear c10
       by_cases c11 : a0 = 6
       ·rw [if_pos c11] at H
        have c11b0 : (a0 == 6) = true := beq_iff_eq.mpr c11
        have c11b1 : (a0 != 6) = false := bne_eq_false_iff_eq.mpr c11
        clear c11
        obtain rfl := Option.some.inj H
        go_wp2_with (first | ((with_reducible refine gate_callee (f := 83) rfl ?_); refine goesL_ (some 14) rfl rfl Try.func83 (by kernel_rfl) rfl #[.int .i64 a1] rfl (by (try simp only [List.map_toArray, List.map_cons, List.map_nil]); first | done | rfl | (simp only [List.length_drop, List.length_take]; rfl)) ?_; (with_reducible refine (gantryref1_Int.calls a1 false _ A6.out).mono ?_); rintro e w' ⟨rfl, ⟨nd, rfl⟩⟩; refine ⟨_, rfl, ?_⟩))
        go_ret
        exact ⟨by first | rfl | (simp; done) | (simp [*]; done), by repeat (first | exact Drawn0.refl _ | apply Drawn0.step)⟩
       ·rw [if_neg c11] at H
        have c11b0 : (a0 == 6) = false := beq_eq_false_iff_ne.mpr c11
        have c11b1 : (a0 != 6) = true := bne_iff_ne.mpr c11
        by_cases c12 : a0 = 7
        ·rw [if_pos c12] at H
         have c12b0 : (a0 == 7) = true := beq_iff_eq.mpr c12
         have c12b1 : (a0 != 7) = false := bne_eq_false_iff_eq.mpr c12
         clear c12
         obtain rfl := Option.some.inj H
         go_wp2_with (first | ((with_reducible refine gate_callee (f := 83) rfl ?_); refine goesL_ (some 14) rfl rfl Try.func83 (by kernel_rfl) rfl #[.int .i64 a1] rfl (by (try simp only [List.map_toArray, List.map_cons, List.map_nil]); first | done | rfl | (simp only [List.length_drop, List.length_take]; rfl)) ?_; (with_reducible refine (gantryref1_Int.calls a1 false _ A6.out).mono ?_); rintro e w' ⟨rfl, ⟨nd, rfl⟩⟩; refine ⟨_, rfl, ?_⟩))
         go_ret
         exact ⟨by first | rfl | (simp; done) | (simp [*]; done), by repeat (first | exact Drawn0.refl _ | apply Drawn0.step)⟩
        ·rw [if_neg c12] at H
         have c12b0 : (a0 == 7) = false := beq_eq_false_iff_ne.mpr c12
         have c12b1 : (a0 != 7) = true := bne_iff_ne.mpr c12
         by_cases c13 : a0 = 8
         ·rw [if_pos c13] at H
          have c13b0 : (a0 == 8) = true := beq_iff_eq.mpr c13
          have c13b1 : (a0 != 8) = false := bne_eq_false_iff_eq.mpr c13
          clear c13
          obtain rfl := Option.some.inj H
          go_wp2_with (first | ((with_reducible refine gate_callee (f := 83) rfl ?_); refine goesL_ (some 14) rfl rfl Try.func83 (by kernel_rfl) rfl #[.int .i64 a1] rfl (by (try simp only [List.map_toArray, List.map_cons, List.map_nil]); first | done | rfl | (simp only [List.length_drop, List.length_take]; rfl)) ?_; (with_reducible refine (gantryref1_Int.calls a1 false _ A6.out).mono ?_); rintro e w' ⟨rfl, ⟨nd, rfl⟩⟩; refine ⟨_, rfl, ?_⟩))
          go_ret
          exact ⟨by first | rfl | (simp; done) | (simp [*]; done), by repeat (first | exact Drawn0.refl _ | apply Drawn0.step)⟩
         ·rw [if_neg c13] at H
          have c13b0 : (a0 == 8) = false := beq_eq_false_iff_ne.mpr c13
          have c13b1 : (a0 != 8) = true := bne_iff_ne.mpr c13
          by_cases c14 : a0 = 11
          ·rw [if_pos c14] at H
           have c14b0 : (a0 == 11) = true := beq_iff_eq.mpr c14
           have c14b1 : (a0 != 11) = false := bne_eq_false_iff_eq.mpr c14
           clear c14
           obtain rfl := Option.some.inj H
           go_wp2_with (first | ((with_reducible refine gate_callee (f := 83) rfl ?_); refine goesL_ (some 14) rfl rfl Try.func83 (by kernel_rfl) rfl #[.int .i64 a1] rfl (by (try simp only [List.map_toArray, List.map_cons, List.map_nil]); first | done | rfl | (simp only [List.length_drop, List.length_take]; rfl)) ?_; (with_reducible refine (gantryref1_Int.calls a1 false _ A6.out).mono ?_); rintro e w' ⟨rfl, ⟨nd, rfl⟩⟩; refine ⟨_, rfl, ?_⟩))
           go_ret
           exact ⟨by first | rfl | (simp; done) | (simp [*]; done), by repeat (first | exact Drawn0.refl _ | apply Drawn0.step)⟩
          ·rw [if_neg c14] at H
           have c14b0 : (a0 == 11) = false := beq_eq_false_iff_ne.mpr c14
           have c14b1 : (a0 != 11) = true := bne_iff_ne.mpr c14
           obtain rfl := Option.some.inj H
           go_wp2_with (first | ((with_reducible refine gate_callee (f := 83) rfl ?_); refine goesL_ (some 14) rfl rfl Try.func83 (by kernel_rfl) rfl #[.int .i64 a1] rfl (by (try simp only [List.map_toArray, List.map_cons, List.map_nil]); first | done | rfl | (simp only [List.length_drop, List.length_take]; rfl)) ?_; (with_reducible refine (gantryref1_Int.calls a1 false _ A6.out).mono ?_); rintro e w' ⟨rfl, ⟨nd, rfl⟩⟩; refine ⟨_, rfl, ?_⟩))
           go_ret
           exact ⟨by first | rfl | (simp; done) | (simp [*]; done), by repeat (first | exact Drawn0.refl _ | apply Drawn0.step)⟩
      ·rw [if_neg c10] at H
       have c10b0 : (a1 == 1) = false := beq_eq_false_iff_ne.mpr c10
       have c10b1 : (a1 != 1) = true := bne_iff_ne.mpr c10
       by_cases c15 : a1 = 11
       ·rw [if_pos c15] at H
        have c15b0 : (a1 == 11) = true := beq_iff_eq.mpr c15
        have c15b1 : (a1 != 11) = false := bne_eq_false_iff_eq.mpr c15
        clear c15
        by_cases c16 : a0 = 11
        ·rw [if_pos c16] at H
         have c16b0 : (a0 == 11) = true := beq_iff_eq.mpr c16
         have c16b1 : (a0 != 11) = false := bne_eq_false_iff_eq.mpr c16
         clear c16
         obtain rfl := Option.some.inj H
         go_wp2_with (first | ((with_reducible refine gate_callee (f := 83) rfl ?_); refine goesL_ (some 14) rfl rfl Try.func83 (by kernel_rfl) rfl #[.int .i64 a1] rfl (by (try simp only [List.map_toArray, List.map_cons, List.map_nil]); first | done | rfl | (simp only [List.length_drop, List.length_take]; rfl)) ?_; (with_reducible refine (gantryref1_Int.calls a1 false _ A6.out).mono ?_); rintro e w' ⟨rfl, ⟨nd, rfl⟩⟩; refine ⟨_, rfl, ?_⟩))
         go_ret
         exact ⟨by first | rfl | (simp; done) | (simp [*]; done), by repeat (first | exact Drawn0.refl _ | apply Drawn0.step)⟩
        ·rw [if_neg c16] at H
         have c16b0 : (a0 == 11) = false := beq_eq_false_iff_ne.mpr c16
         have c16b1 : (a0 != 11) = true := bne_iff_ne.mpr c16
         obtain rfl := Option.some.inj H
         go_wp2_with (first | ((with_reducible refine gate_callee (f := 83) rfl ?_); refine goesL_ (some 14) rfl rfl Try.func83 (by kernel_rfl) rfl #[.int .i64 a1] rfl (by (try simp only [List.map_toArray, List.map_cons, List.map_nil]); first | done | rfl | (simp only [List.length_drop, List.length_take]; rfl)) ?_; (with_reducible refine (gantryref1_Int.calls a1 false _ A6.out).mono ?_); rintro e w' ⟨rfl, ⟨nd, rfl⟩⟩; refine ⟨_, rfl, ?_⟩))
         go_ret
         exact ⟨by first | rfl | (simp; done) | (simp [*]; done), by repeat (first | exact Drawn0.refl _ | apply Drawn0.step)⟩
       ·rw [if_neg c15] at H
        have c15b0 : (a1 == 11) = false := beq_eq_false_iff_ne.mpr c15
        have c15b1 : (a1 != 11) = true := bne_iff_ne.mpr c15
        obtain rfl := Option.some.inj H
        go_wp2_with (first | ((with_reducible refine gate_callee (f := 83) rfl ?_); refine goesL_ (some 14) rfl rfl Try.func83 (by kernel_rfl) rfl #[.int .i64 a1] rfl (by (try simp only [List.map_toArray, List.map_cons, List.map_nil]); first | done | rfl | (simp only [List.length_drop, List.length_take]; rfl)) ?_; (with_reducible refine (gantryref1_Int.calls a1 false _ A6.out).mono ?_); rintro e w' ⟨rfl, ⟨nd, rfl⟩⟩; refine ⟨_, rfl, ?_⟩))
        go_ret
        exact ⟨by first | rfl | (simp; done) | (simp [*]; done), by repeat (first | exact Drawn0.refl _ | apply Drawn0.step)⟩

/-! ### gantryref1_Shift: function 61 -/
def gantryref1_Shift.f (a0 : Int) : Option (Bool) := if a0 = 9 then (some true) else (some (a0 == 10))
set_option maxHeartbeats 8000000 in
set_option maxRecDepth 100000 in
theorem gantryref1_Shift.calls (a0 : Int) (r : Bool) (w : World) (h : gantryref1_Shift.f a0 = some r) :
  Calls Try.prog 61 #[.int .i64 a0] w fun e w' => e = .returned (.bool r) ∧ Drawn0 w w' := by
 have H : (if a0 = 9 then (some true) else (some (a0 == 10))) = some r := h
 clear h
 by_cases c2 : a0 = 9
 ·rw [if_pos c2] at H
  have c2b0 : (a0 == 9) = true := beq_iff_eq.mpr c2
  have c2b1 : (a0 != 9) = false := bne_eq_false_iff_eq.mpr c2
  clear c2
  obtain rfl := Option.some.inj H
  go_enter Try.func61, Try.ntmps61
  go_wp2
  go_ret
  exact ⟨by first | rfl | (simp; done) | (simp [*]; done), by repeat (first | exact Drawn0.refl _ | apply Drawn0.step)⟩
 ·rw [if_neg c2] at H
  have c2b0 : (a0 == 9) = false := beq_eq_false_iff_ne.mpr c2
  have c2b1 : (a0 != 9) = true := bne_iff_ne.mpr c2
  obtain rfl := Option.some.inj H
  go_enter Try.func61, Try.ntmps61
  go_wp2
  go_ret
  exact ⟨by first | rfl | (simp; done) | (simp [*]; done), by repeat (first | exact Drawn0.refl _ | apply Drawn0.step)⟩

/-! ### gantryref1_truth: function 65 -/
def gantryref1_truth.f (a0 : Bool) : Option (Int) := if a0 = true then (some 1) else (some 0)
set_option maxHeartbeats 8000000 in
set_option maxRecDepth 100000 in
theorem gantryref1_truth.calls (a0 : Bool) (r : Int) (w : World) (h : gantryref1_truth.f a0 = some r) :
  Calls Try.prog 65 #[.bool a0] w fun e w' => e = .returned (.int .u64 r) ∧ Drawn0 w w' := by
 have H : (if a0 = true then (some 1) else (some 0)) = some r := h
 clear h
 by_cases c2 : a0 = true
 ·subst c2
  have H1 : (some 1) = some r := by rw [if_pos rfl] at H; exact H
  clear H
  have H := H1
  clear H1
  obtain rfl := Option.some.inj H
  go_enter Try.func65, Try.ntmps65
  go_wp2
  go_ret
  exact ⟨by first | rfl | (simp; done) | (simp [*]; done), by repeat (first | exact Drawn0.refl _ | apply Drawn0.step)⟩
 ·replace c2 := Bool.eq_false_iff.mpr c2
  subst c2
  have H1 : (some 0) = some r := by rw [if_neg (show ¬ (false = true) by decide)] at H; exact H
  clear H
  have H := H1
  clear H1
  obtain rfl := Option.some.inj H
  go_enter Try.func65, Try.ntmps65
  go_wp2
  go_ret
  exact ⟨by first | rfl | (simp; done) | (simp [*]; done), by repeat (first | exact Drawn0.refl _ | apply Drawn0.step)⟩

/-! ### gantryref1_bits: function 69 -/
def gantryref1_bits.f (a0 : Nat) : Option Int := some (Fl.clean a0)
theorem gantryref1_bits.calls (a0 : Nat) (r : Int) (w : World) (h : gantryref1_bits.f a0 = some r) :
  Calls Try.prog 69 #[.float .f64 a0] w fun e w' => e = .returned (.int .u64 r) ∧ Drawn0 w w' := by
 obtain rfl : Fl.clean a0 = r := Option.some.inj h
 refine (Fl.bits_calls a0 w).mono ?_
 rintro e w' ⟨rfl, rfl⟩
 exact ⟨rfl, Drawn0.refl _⟩


/-! ### gantryref1_floats: function 62 -/
def gantryref1_floats.f (a0 : Int) (a1 a2 : Nat) : Option Int := some (Fl.refF a0 a1 a2)
theorem gantryref1_floats.calls (a0 : Int) (a1 a2 : Nat) (r : Int) (w : World) (h : gantryref1_floats.f a0 a1 a2 = some r) :
  Calls Try.prog 62 #[.int .i64 a0, .float .f64 a1, .float .f64 a2] w fun e w' => e = .returned (.int .u64 r) ∧ Drawn0 w w' := by
 obtain rfl : Fl.refF a0 a1 a2 = r := Option.some.inj h
 exact Fl.refF_calls a0 a1 a2 w


/-! ### gantryref1_divided: function 63 -/
def gantryref1_divided.f (k : Nat) (a0 : Int) (a1 : Int) (a2 : Int) : Option (Int × Int) := (gantryref1_Signed.f a0).bind fun t257 => (if t257 = true then (if (wrap64 (a2)) = (-1) then ((gantryref1_Canon.f k a0 (IntKind.u64.wrap (-a1))).bind fun t258 => (some (t258, 0))) else (if (wrap64 (a2)) = 0 then (none) else ((gantryref1_Canon.f k a0 (IntKind.u64.wrap (wrap64 (Int.tdiv (wrap64 (a1)) (wrap64 (a2)))))).bind fun t259 => ((gantryref1_Canon.f k a0 (IntKind.u64.wrap (Int.tmod (wrap64 (a1)) (wrap64 (a2))))).bind fun t260 => (some (t259, t260)))))) else (if a2 = 0 then (none) else (some (IntKind.u64.wrap (Int.tdiv a1 a2), Int.tmod a1 a2))))
theorem gantryref1_divided.mono : ∀ a0 a1 a2 k, LeO (gantryref1_divided.f k a0 a1 a2) (gantryref1_divided.f (k + 1) a0 a1 a2) := by
 intro a0 a1 a2 k
 unfold gantryref1_divided.f
 repeat' first
   | (with_reducible exact gantryref1_Canon.mono _ _ _)
   | (with_reducible exact LeO.refl _)
   | (with_reducible exact LeO.none _)
   | (with_reducible refine LeO.ite ?_ ?_)
   | (with_reducible refine LeO.bind ?_ (fun _ => ?_))
   | exact gantryref1_Canon.mono _ _ _
   | exact LeO.none _
   | refine LeO.ite ?_ ?_
   | refine LeO.bind ?_ (fun _ => ?_)
set_option maxHeartbeats 8000000 in
set_option maxRecDepth 100000 in
theorem gantryref1_divided.calls (k : Nat) (a0 : Int) (a1 : Int) (a2 : Int) (r1 : Int) (r2 : Int) (w : World) (h : gantryref1_divided.f k a0 a1 a2 = some (r1, r2)) :
  Calls Try.prog 63 #[.int .i64 a0, .int .u64 a1, .int .u64 a2] w fun e w' => e = .returned (.tuple #[.int .u64 r1, .int .u64 r2]) ∧ Drawn0 w w' := by
 have H : ((gantryref1_Signed.f a0).bind fun t257 => (if t257 = true then (if (wrap64 (a2)) = (-1) then ((gantryref1_Canon.f k a0 (IntKind.u64.wrap (-a1))).bind fun t258 => (some (t258, 0))) else (if (wrap64 (a2)) = 0 then (none) else ((gantryref1_Canon.f k a0 (IntKind.u64.wrap (wrap64 (Int.tdiv (wrap64 (a1)) (wrap64 (a2)))))).bind fun t259 => ((gantryref1_Canon.f k a0 (IntKind.u64.wrap (Int.tmod (wrap64 (a1)) (wrap64 (a2))))).bind fun t260 => (some (t259, t260)))))) else (if a2 = 0 then (none) else (some (IntKind.u64.wrap (Int.tdiv a1 a2), Int.tmod a1 a2))))) = some (r1, r2) := h
 clear h
 replace H := Option.bind_eq_some_iff.mp H
 obtain ⟨t257, A40, H⟩ := H
 replace H : (if t257 = true then (if (wrap64 (a2)) = (-1) then ((gantryref1_Canon.f k a0 (IntKind.u64.wrap (-a1))).bind fun t258 => (some (t258, 0))) else (if (wrap64 (a2)) = 0 then (none) else ((gantryref1_Canon.f k a0 (IntKind.u64.wrap (wrap64 (Int.tdiv (wrap64 (a1)) (wrap64 (a2)))))).bind fun t259 => ((gantryref1_Canon.f k a0 (IntKind.u64.wrap (Int.tmod (wrap64 (a1)) (wrap64 (a2))))).bind fun t260 => (some (t259, t260)))))) else (if a2 = 0 then (none) else (some (IntKind.u64.wrap (Int.tdiv a1 a2), Int.tmod a1 a2)))) = some (r1, r2) := H
 have A4 := Aside0.mk A40
 clear A40
 by_cases c5 : t257 = true
 ·subst c5
  have H1 : (if (wrap64 (a2)) = (-1) then ((gantryref1_Canon.f k a0 (IntKind.u64.wrap (-a1))).bind fun t258 => (some (t258, 0))) else (if (wrap64 (a2)) = 0 then (none) else ((gantryref1_Canon.f k a0 (IntKind.u64.wrap (wrap64 (Int.tdiv (wrap64 (a1)) (wrap64 (a2)))))).bind fun t259 => ((gantryref1_Canon.f k a0 (IntKind.u64.wrap (Int.tmod (wrap64 (a1)) (wrap64 (a2))))).bind fun t260 => (some (t259, t260)))))) = some (r1, r2) := by rw [if_pos rfl] at H; exact H
  clear H
  have H := H1
  clear H1
  by_cases c6 : (wrap64 (a2)) = (-1)
  ·rw [if_pos c6] at H
   have c6b0 : ((wrap64 (a2)) == (-1)) = true := beq_iff_eq.mpr c6
   have c6b1 : ((wrap64 (a2)) != (-1)) = false := bne_eq_false_iff_eq.mpr c6
   clear c6
   replace H := Option.bind_eq_some_iff.mp H
   obtain ⟨t258, A70, H⟩ := H
   replace H : (some (t258, 0)) = some (r1, r2) := H
   have A7 := Aside0.mk A70
   clear A70
   simp only [Option.some.injEq, Prod.mk.injEq] at H
   obtain ⟨rfl, rfl⟩ := H
   go_enter Try.func63, Try.ntmps63
   go_wp2_with (first | (go_at_call 68; (with_reducible refine (gantryref1_Signed.calls a0 true _ A4.out).mono ?_); rintro e w' ⟨rfl, ⟨nd, rfl⟩⟩; (try first | exact ⟨rfl, _, World.drewN_drewN _ _ _⟩ | exact ⟨rfl, _, Eq.trans (World.drewN_drewN _ _ _) (congrArg (World.drewN _) (Nat.add_assoc _ _ _))⟩)) | (go_at_call 30; (with_reducible refine (gantryref1_Canon.calls k a0 (IntKind.u64.wrap (-a1)) t258 _ A7.out).mono ?_); rintro e w' ⟨rfl, ⟨nd, rfl⟩⟩; (try first | exact ⟨rfl, _, World.drewN_drewN _ _ _⟩ | exact ⟨rfl, _, Eq.trans (World.drewN_drewN _ _ _) (congrArg (World.drewN _) (Nat.add_assoc _ _ _))⟩)))
   repeat (go_quiet (first | (go_at_call 68; (with_reducible refine (gantryref1_Signed.calls a0 true _ A4.out).mono ?_); rintro e w' ⟨rfl, ⟨nd, rfl⟩⟩; (try first | exact ⟨rfl, _, World.drewN_drewN _ _ _⟩ | exact ⟨rfl, _, Eq.trans (World.drewN_drewN _ _ _) (congrArg (World.drewN _) (Nat.add_assoc _ _ _))⟩)) | (go_at_call 30; (with_reducible refine (gantryref1_Canon.calls k a0 (IntKind.u64.wrap (-a1)) t258 _ A7.out).mono ?_); rintro e w' ⟨rfl, ⟨nd, rfl⟩⟩; (try first | exact ⟨rfl, _, World.drewN_drewN _ _ _⟩ | exact ⟨rfl, _, Eq.trans (World.drewN_drewN _ _ _) (congrArg (World.drewN _) (Nat.add_assoc _ _ _))⟩))); try go_wp2_with (first | (go_at_call 68; (with_reducible refine (gantryref1_Signed.calls a0 true _ A4.out).mono ?_); rintro e w' ⟨rfl, ⟨nd, rfl⟩⟩; (try first | exact ⟨rfl, _, World.drewN_drewN _ _ _⟩ | exact ⟨rfl, _, Eq.trans (World.drewN_drewN _ _ _) (congrArg (World.drewN _) (Nat.add_assoc _ _ _))⟩)) | (go_at_call 30; (with_reducible refine (gantryref1_Canon.calls k a0 (IntKind.u64.wrap (-a1)) t258 _ A7.out).mono ?_); rintro e w' ⟨rfl, ⟨nd, rfl⟩⟩; (try first | exact ⟨rfl, _, World.drewN_drewN _ _ _⟩ | exact ⟨rfl, _, Eq.trans (World.drewN_drewN _ _ _) (congrArg (World.drewN _) (Nat.add_assoc _ _ _))⟩))))
   go_ret2
   exact ⟨by first | rfl | (simp; done) | (simp [*]; done), by repeat (first | exact Drawn0.refl _ | apply Drawn0.step)⟩
  ·rw [if_neg c6] at H
   have c6b0 : ((wrap64 (a2)) == (-1)) = false := beq_eq_false_iff_ne.mpr c6
   have c6b1 : ((wrap64 (a2)) != (-1)) = true := bne_iff_ne.mpr c6
   by_cases c8 : (wrap64 (a2)) = 0
   ·rw [if_pos c8] at H
    exact absurd H (by simp)
   ·rw [if_neg c8] at H
    have c8b0 : ((wrap64 (a2)) == 0) = false := beq_eq_false_iff_ne.mpr c8
    have c8b1 : ((wrap64 (a2)) != 0) = true := bne_iff_ne.mpr c8
    replace H := Option.bind_eq_some_iff.mp H
    obtain ⟨t259, A90, H⟩ := H
    replace H : ((gantryref1_Canon.f k a0 (IntKind.u64.wrap (Int.tmod (wrap64 (a1)) (wrap64 (a2))))).bind fun t260 => (some (t259, t260))) = some (r1, r2) := H
    have A9 := Aside0.mk A90
    clear A90
    replace H := Option.bind_eq_some_iff.mp H
    obtain ⟨t260, A100, H⟩ := H
    replace H : (some (t259, t260)) = some (r1, r2) := H
    have A10 := Aside0.mk A100
    clear A100
    simp only [Option.some.injEq, Prod.mk.injEq] at H
    obtain ⟨rfl, rfl⟩ := H
    go_enter Try.func63, Try.ntmps63
    go_wp2_with (first | (go_at_call 68; (with_reducible refine (gantryref1_Signed.calls a0 true _ A4.out).mono ?_); rintro e w' ⟨rfl, ⟨nd, rfl⟩⟩; (try first | exact ⟨rfl, _, World.drewN_drewN _ _ _⟩ | exact ⟨rfl, _, Eq.trans (World.drewN_drewN _ _ _) (congrArg (World.drewN _) (Nat.add_assoc _ _ _))⟩)) | (go_at_call 30; (with_reducible refine (gantryref1_Canon.calls k a0 (IntKind.u64.wrap (wrap64 (Int.tdiv (wrap64 (a1)) (wrap64 (a2))))) t259 _ A9.out).mono ?_); rintro e w' ⟨rfl, ⟨nd, rfl⟩⟩; (try first | exact ⟨rfl, _, World.drewN_drewN _ _ _⟩ | exact ⟨rfl, _, Eq.trans (World.drewN_drewN _ _ _) (congrArg (World.drewN _) (Nat.add_assoc _ _ _))⟩)) | (go_at_call 30; (with_reducible refine (gantryref1_Canon.calls k a0 (IntKind.u64.wrap (Int.tmod (wrap64 (a1)) (wrap64 (a2)))) t260 _ A10.out).mono ?_); rintro e w' ⟨rfl, ⟨nd, rfl⟩⟩; (try first | exact ⟨rfl, _, World.drewN_drewN _ _ _⟩ | exact ⟨rfl, _, Eq.trans (World.drewN_drewN _ _ _) (congrArg (World.drewN _) (Nat.add_assoc _ _ _))⟩)))
    repeat (go_quiet (first | (go_at_call 68; (with_reducible refine (gantryref1_Signed.calls a0 true _ A4.out).mono ?_); rintro e w' ⟨rfl, ⟨nd, rfl⟩⟩; (try first | exact ⟨rfl, _, World.drewN_drewN _ _ _⟩ | exact ⟨rfl, _, Eq.trans (World.drewN_drewN _ _ _) (congrArg (World.drewN _) (Nat.add_assoc _ _ _))⟩)) | (go_at_call 30; (with_reducible refine (gantryref1_Canon.calls k a0 (IntKind.u64.wrap (wrap64 (Int.tdiv (wrap64 (a1)) (wrap64 (a2))))) t259 _ A9.out).mono ?_); rintro e w' ⟨rfl, ⟨nd, rfl⟩⟩; (try first | exact ⟨rfl, _, World.drewN_drewN _ _ _⟩ | exact ⟨rfl, _, Eq.trans (World.drewN_drewN _ _ _) (congrArg (World.drewN _) (Nat.add_assoc _ _ _))⟩)) | (go_at_call 30; (with_reducible refine (gantryref1_Canon.calls k a0 (IntKind.u64.wrap (Int.tmod (wrap64 (a1)) (wrap64 (a2)))) t260 _ A10.out).mono ?_); rintro e w' ⟨rfl, ⟨nd, rfl⟩⟩; (try first | exact ⟨rfl, _, World.drewN_drewN _ _ _⟩ | exact ⟨rfl, _, Eq.trans (World.drewN_drewN _ _ _) (congrArg (World.drewN _) (Nat.add_assoc _ _ _))⟩))); try go_wp2_with (first | (go_at_call 68; (with_reducible refine (gantryref1_Signed.calls a0 true _ A4.out).mono ?_); rintro e w' ⟨rfl, ⟨nd, rfl⟩⟩; (try first | exact ⟨rfl, _, World.drewN_drewN _ _ _⟩ | exact ⟨rfl, _, Eq.trans (World.drewN_drewN _ _ _) (congrArg (World.drewN _) (Nat.add_assoc _ _ _))⟩)) | (go_at_call 30; (with_reducible refine (gantryref1_Canon.calls k a0 (IntKind.u64.wrap (wrap64 (Int.tdiv (wrap64 (a1)) (wrap64 (a2))))) t259 _ A9.out).mono ?_); rintro e w' ⟨rfl, ⟨nd, rfl⟩⟩; (try first | exact ⟨rfl, _, World.drewN_drewN _ _ _⟩ | exact ⟨rfl, _, Eq.trans (World.drewN_drewN _ _ _) (congrArg (World.drewN _) (Nat.add_assoc _ _ _))⟩)) | (go_at_call 30; (with_reducible refine (gantryref1_Canon.calls k a0 (IntKind.u64.wrap (Int.tmod (wrap64 (a1)) (wrap64 (a2)))) t260 _ A10.out).mono ?_); rintro e w' ⟨rfl, ⟨nd, rfl⟩⟩; (try first | exact ⟨rfl, _, World.drewN_drewN _ _ _⟩ | exact ⟨rfl, _, Eq.trans (World.drewN_drewN _ _ _) (congrArg (World.drewN _) (Nat.add_assoc _ _ _))⟩))))
    go_ret2
    exact ⟨by first | rfl | (simp; done) | (simp [*]; done), by repeat (first | exact Drawn0.refl _ | apply Drawn0.step)⟩
 ·replace c5 := Bool.eq_false_iff.mpr c5
  subst c5
  have H1 : (if a2 = 0 then (none) else (some (IntKind.u64.wrap (Int.tdiv a1 a2), Int.tmod a1 a2))) = some (r1, r2) := by rw [if_neg (show ¬ (false = true) by decide)] at H; exact H
  clear H
  have H := H1
  clear H1
  by_cases c11 : a2 = 0
  ·rw [if_pos c11] at H
   exact absurd H (by simp)
  ·rw [if_neg c11] at H
   have c11b0 : (a2 == 0) = false := beq_eq_false_iff_ne.mpr c11
   have c11b1 : (a2 != 0) = true := bne_iff_ne.mpr c11
   simp only [Option.some.injEq, Prod.mk.injEq] at H
   obtain ⟨rfl, rfl⟩ := H
   go_enter Try.func63, Try.ntmps63
   go_wp2_with (first | (go_at_call 68; (with_reducible refine (gantryref1_Signed.calls a0 false _ A4.out).mono ?_); rintro e w' ⟨rfl, ⟨nd, rfl⟩⟩; (try first | exact ⟨rfl, _, World.drewN_drewN _ _ _⟩ | exact ⟨rfl, _, Eq.trans (World.drewN_drewN _ _ _) (congrArg (World.drewN _) (Nat.add_assoc _ _ _))⟩)))
   repeat (go_quiet (first | (go_at_call 68; (with_reducible refine (gantryref1_Signed.calls a0 false _ A4.out).mono ?_); rintro e w' ⟨rfl, ⟨nd, rfl⟩⟩; (try first | exact ⟨rfl, _, World.drewN_drewN _ _ _⟩ | exact ⟨rfl, _, Eq.trans (World.drewN_drewN _ _ _) (congrArg (World.drewN _) (Nat.add_assoc _ _ _))⟩))); try go_wp2_with (first | (go_at_call 68; (with_reducible refine (gantryref1_Signed.calls a0 false _ A4.out).mono ?_); rintro e w' ⟨rfl, ⟨nd, rfl⟩⟩; (try first | exact ⟨rfl, _, World.drewN_drewN _ _ _⟩ | exact ⟨rfl, _, Eq.trans (World.drewN_drewN _ _ _) (congrArg (World.drewN _) (Nat.add_assoc _ _ _))⟩))))
   go_ret2
   exact ⟨by first | rfl | (simp; done) | (simp [*]; done), by repeat (first | exact Drawn0.refl _ | apply Drawn0.step)⟩

/-! ### gantryref1_shifted: function 64 -/
def gantryref1_shifted.f (k : Nat) (a0 : Int) (a1 : Int) (a2 : Int) (a3 : Int) : Option (Int) := if a0 = 9 then (if a3 > 63 then (some 0) else (if 0 ≤ a3 then ((gantryref1_Canon.f k a1 (shl .u64 a2 a3)).bind fun t261 => (some t261)) else (none))) else ((gantryref1_Signed.f a1).bind fun t262 => (if t262 = true then (if a3 > 63 then (some (IntKind.u64.wrap ((wrap64 (a2)) / 9223372036854775808))) else (if 0 ≤ a3 then (some (IntKind.u64.wrap (shr .i64 (wrap64 (a2)) a3))) else (none))) else (if a3 > 63 then (some 0) else (if 0 ≤ a3 then (some (shr .u64 a2 a3)) else (none)))))
theorem gantryref1_shifted.mono : ∀ a0 a1 a2 a3 k, LeO (gantryref1_shifted.f k a0 a1 a2 a3) (gantryref1_shifted.f (k + 1) a0 a1 a2 a3) := by
 intro a0 a1 a2 a3 k
 unfold gantryref1_shifted.f
 repeat' first
   | (with_reducible exact gantryref1_Canon.mono _ _ _)
   | (with_reducible exact LeO.refl _)
   | (with_reducible exact LeO.none _)
   | (with_reducible refine LeO.ite ?_ ?_)
   | (with_reducible refine LeO.bind ?_ (fun _ => ?_))
   | exact gantryref1_Canon.mono _ _ _
   | exact LeO.none _
   | refine LeO.ite ?_ ?_
   | refine LeO.bind ?_ (fun _ => ?_)
set_option maxHeartbeats 8000000 in
set_option maxRecDepth 100000 in
theorem gantryref1_shifted.calls (k : Nat) (a0 : Int) (a1 : Int) (a2 : Int) (a3 : Int) (r : Int) (w : World) (h : gantryref1_shifted.f k a0 a1 a2 a3 = some r) :
  Calls Try.prog 64 #[.int .i64 a0, .int .i64 a1, .int .u64 a2, .int .u64 a3] w fun e w' => e = .returned (.int .u64 r) ∧ Drawn0 w w' := by
 have H : (if a0 = 9 then (if a3 > 63 then (some 0) else (if 0 ≤ a3 then ((gantryref1_Canon.f k a1 (shl .u64 a2 a3)).bind fun t261 => (some t261)) else (none))) else ((gantryref1_Signed.f a1).bind fun t262 => (if t262 = true then (if a3 > 63 then (some (IntKind.u64.wrap ((wrap64 (a2)) / 9223372036854775808))) else (if 0 ≤ a3 then (some (IntKind.u64.wrap (shr .i64 (wrap64 (a2)) a3))) else (none))) else (if a3 > 63 then (some 0) else (if 0 ≤ a3 then (some (shr .u64 a2 a3)) else (none)))))) = some r := h
 clear h
 by_cases c5 : a0 = 9
 ·rw [if_pos c5] at H
  have c5b0 : (a0 == 9) = true := beq_iff_eq.mpr c5
  have c5b1 : (a0 != 9) = false := bne_eq_false_iff_eq.mpr c5
  clear c5
  by_cases c6 : a3 > 63
  ·rw [if_pos c6] at H
   have c6b0 : decide (63 < a3) = true := decide_eq_true c6
   clear c6
   obtain rfl := Option.some.inj H
   go_enter Try.func64, Try.ntmps64
   go_wp2
   go_ret
   exact ⟨by first | rfl | (simp; done) | (simp [*]; done), by repeat (first | exact Drawn0.refl _ | apply Drawn0.step)⟩
  ·rw [if_neg c6] at H
   have c6b0 : decide (63 < a3) = false := decide_eq_false c6
   clear c6
   by_cases c7 : 0 ≤ a3
   ·rw [if_pos c7] at H
    have c7b0 := eq_true c7
    have c7b1 : decide (0 ≤ a3) = true := decide_eq_true c7
    clear c7
    obtain ⟨ji8, hji8⟩ : ∃ j_ : Int, (shl .u64 a2 a3) = j_ := ⟨_, rfl⟩
    replace H : ((gantryref1_Canon.f k a1 (ji8)).bind fun t261 => (some t261)) = some r := by first | (rw [hji8] at H; exact H) | (simp only [hji8] at H ⊢; exact H)
    have hji8_ : (IntKind.u64.wrap (a2 * 2 ^ min a3.toNat 64)) = ji8 := hji8
    have hji8z : a3 ≤ 64 → (IntKind.u64.wrap (a2 * 2 ^ a3.toNat)) = ji8 := shl_small hji8
    replace H := Option.bind_eq_some_iff.mp H
    obtain ⟨t261, A90, H⟩ := H
    replace H : (some t261) = some r := H
    have A9 := Aside0.mk A90
    clear A90
    obtain rfl := Option.some.inj H
    go_enter Try.func64, Try.ntmps64
    go_wp2_with (first | ((with_reducible refine gate_callee (f := 30) rfl ?_); refine goesL_ (some 17) rfl rfl Try.func30 (by kernel_rfl) rfl #[.int .i64 a1, .int .u64 ji8] rfl (by (try simp only [List.map_toArray, List.map_cons, List.map_nil]); first | done | (simp only [hji8]; rfl) | rfl | (simp only [List.length_drop, List.length_take]; rfl)) ?_; (with_reducible refine (gantryref1_Canon.calls k a1 ji8 t261 _ A9.out).mono ?_); rintro e w' ⟨rfl, ⟨nd, rfl⟩⟩; refine ⟨_, rfl, ?_⟩))
    go_ret
    exact ⟨by first | rfl | (simp; done) | (simp only [← hji8] <;> (first | rfl | simp)) | (simp [*]; done), by repeat (first | exact Drawn0.refl _ | apply Drawn0.step)⟩
   ·rw [if_neg c7] at H
    exact absurd H (by simp)
 ·rw [if_neg c5] at H
  have c5b0 : (a0 == 9) = false := beq_eq_false_iff_ne.mpr c5
  have c5b1 : (a0 != 9) = true := bne_iff_ne.mpr c5
  replace H := Option.bind_eq_some_iff.mp H
  obtain ⟨t262, A100, H⟩ := H
  replace H : (if t262 = true then (if a3 > 63 then (some (IntKind.u64.wrap ((wrap64 (a2)) / 9223372036854775808))) else (if 0 ≤ a3 then (some (IntKind.u64.wrap (shr .i64 (wrap64 (a2)) a3))) else (none))) else (if a3 > 63 then (some 0) else (if 0 ≤ a3 then (some (shr .u64 a2 a3)) else (none)))) = some r := H
  have A10 := Aside0.mk A100
  clear A100
  by_cases c11 : t262 = true
  ·subst c11
   have H1 : (if a3 > 63 then (some (IntKind.u64.wrap ((wrap64 (a2)) / 9223372036854775808))) else (if 0 ≤ a3 then (some (IntKind.u64.wrap (shr .i64 (wrap64 (a2)) a3))) else (none))) = some r := by rw [if_pos rfl] at H; exact H
   clear H
   have H := H1
   clear H1
   by_cases c12 : a3 > 63
   ·rw [if_pos c12] at H
    have c12b0 : decide (63 < a3) = true := decide_eq_true c12
    clear c12
    obtain rfl := Option.some.inj H
    go_enter Try.func64, Try.ntmps64
    go_wp2_with (first | ((with_reducible refine gate_callee (f := 68) rfl ?_); refine goesL_ (some 19) rfl rfl Try.func68 (by kernel_rfl) rfl #[.int .i64 a1] rfl (by (try simp only [List.map_toArray, List.map_cons, List.map_nil]); first | done | rfl | (simp only [List.length_drop, List.length_take]; rfl)) ?_; (with_reducible refine (gantryref1_Signed.calls a1 true _ A10.out).mono ?_); rintro e w' ⟨rfl, ⟨nd, rfl⟩⟩; refine ⟨_, rfl, ?_⟩))
    go_ret
    exact ⟨by first | rfl | (simp; done) | (simp [*]; done), by repeat (first | exact Drawn0.refl _ | apply Drawn0.step)⟩
   ·rw [if_neg c12] at H
    have c12b0 : decide (63 < a3) = false := decide_eq_false c12
    clear c12
    by_cases c13 : 0 ≤ a3
    ·rw [if_pos c13] at H
     have c13b0 := eq_true c13
     have c13b1 : decide (0 ≤ a3) = true := decide_eq_true c13
     clear c13
     obtain ⟨ji14, hji14⟩ : ∃ j_ : Int, (shr .i64 (wrap64 (a2)) a3) = j_ := ⟨_, rfl⟩
     replace H : (some (IntKind.u64.wrap (ji14))) = some r := by first | (rw [hji14] at H; exact H) | (simp only [hji14] at H ⊢; exact H)
     (try rw [hji14] at A10)
     have hji14_ : ((wrap64 (a2)) / 2 ^ min a3.toNat 64) = ji14 := hji14
     have hji14z : a3 ≤ 64 → ((wrap64 (a2)) / 2 ^ a3.toNat) = ji14 := shr_small hji14
     obtain rfl := Option.some.inj H
     go_enter Try.func64, Try.ntmps64
     go_wp2_with (first | ((with_reducible refine gate_callee (f := 68) rfl ?_); refine goesL_ (some 19) rfl rfl Try.func68 (by kernel_rfl) rfl #[.int .i64 a1] rfl (by (try simp only [List.map_toArray, List.map_cons, List.map_nil]); first | done | rfl | (simp only [List.length_drop, List.length_take]; rfl)) ?_; (with_reducible refine (gantryref1_Signed.calls a1 true _ A10.out).mono ?_); rintro e w' ⟨rfl, ⟨nd, rfl⟩⟩; refine ⟨_, rfl, ?_⟩))
     go_ret
     exact ⟨by first | rfl | (simp; done) | (simp only [← hji14] <;> (first | rfl | simp)) | (simp [*]; done), by repeat (first | exact Drawn0.refl _ | apply Drawn0.step)⟩
    ·rw [if_neg c13] at H
     exact absurd H (by simp)
  ·replace c11 := Bool.eq_false_iff.mpr c11
   subst c11
   have H1 : (if a3 > 63 then (some 0) else (if 0 ≤ a3 then (some (shr .u64 a2 a3)) else (none))) = some r := by rw [if_neg (show ¬ (false = true) by decide)] at H; exact H
   clear H
   have H := H1
   clear H1
   by_cases c15 : a3 > 63
   ·rw [if_pos c15] at H
    have c15b0 : decide (63 < a3) = true := decide_eq_true c15
    clear c15
    obtain rfl := Option.some.inj H
    go_enter Try.func64, Try.ntmps64
    go_wp2_with (first | ((with_reducible refine gate_callee (f := 68) rfl ?_); refine goesL_ (some 19) rfl rfl Try.func68 (by kernel_rfl) rfl #[.int .i64 a1] rfl (by (try simp only [List.map_toArray, List.map_cons, List.map_nil]); first | done | rfl | (simp only [List.length_drop, List.length_take]; rfl)) ?_; (with_reducible refine (gantryref1_Signed.calls a1 false _ A10.out).mono ?_); rintro e w' ⟨rfl, ⟨nd, rfl⟩⟩; refine ⟨_, rfl, ?_⟩))
    go_ret
    exact ⟨by first | rfl | (simp; done) | (simp [*]; done), by repeat (first | exact Drawn0.refl _ | apply Drawn0.step)⟩
   ·rw [if_neg c15] at H
    have c15b0 : decide (63 < a3) = false := decide_eq_false c15
    clear c15
    by_cases c16 : 0 ≤ a3
    ·rw [if_pos c16] at H
     have c16b0 := eq_true c16
     have c16b1 : decide (0 ≤ a3) = true := decide_eq_true c16
     clear c16
     obtain ⟨ji17, hji17⟩ : ∃ j_ : Int, (shr .u64 a2 a3) = j_ := ⟨_, rfl⟩
     replace H : (some ji17) = some r := by first | (rw [hji17] at H; exact H) | (simp only [hji17] at H ⊢; exact H)
     (try rw [hji17] at A10)
     have hji17_ : (a2 / 2 ^ min a3.toNat 64) = ji17 := hji17
     have hji17z : a3 ≤ 64 → (a2 / 2 ^ a3.toNat) = ji17 := shr_small hji17
     obtain rfl := Option.some.inj H
     go_enter Try.func64, Try.ntmps64
     go_wp2_with (first | ((with_reducible refine gate_callee (f := 68) rfl ?_); refine goesL_ (some 19) rfl rfl Try.func68 (by kernel_rfl) rfl #[.int .i64 a1] rfl (by (try simp only [List.map_toArray, List.map_cons, List.map_nil]); first | done | rfl | (simp only [List.length_drop, List.length_take]; rfl)) ?_; (with_reducible refine (gantryref1_Signed.calls a1 false _ A10.out).mono ?_); rintro e w' ⟨rfl, ⟨nd, rfl⟩⟩; refine ⟨_, rfl, ?_⟩))
     go_ret
     exact ⟨by first | rfl | (simp; done) | (simp only [← hji17] <;> (first | rfl | simp)) | (simp [*]; done), by repeat (first | exact Drawn0.refl _ | apply Drawn0.step)⟩
    ·rw [if_neg c16] at H
     exact absurd H (by simp)

/-! ### gantryref1_below: function 66 -/
def gantryref1_below.f (a0 : Int) (a1 : Int) (a2 : Int) : Option (Bool) := (gantryref1_Signed.f a0).bind fun t263 => (if t263 = true then (some (decide ((wrap64 (a1)) < (wrap64 (a2))))) else (some (decide (a1 < a2))))
set_option maxHeartbeats 8000000 in
set_option maxRecDepth 100000 in
theorem gantryref1_below.calls (a0 : Int) (a1 : Int) (a2 : Int) (r : Bool) (w : World) (h : gantryref1_below.f a0 a1 a2 = some r) :
  Calls Try.prog 66 #[.int .i64 a0, .int .u64 a1, .int .u64 a2] w fun e w' => e = .returned (.bool r) ∧ Drawn0 w w' := by
 have H : ((gantryref1_Signed.f a0).bind fun t263 => (if t263 = true then (some (decide ((wrap64 (a1)) < (wrap64 (a2))))) else (some (decide (a1 < a2))))) = some r := h
 clear h
 replace H := Option.bind_eq_some_iff.mp H
 obtain ⟨t263, A40, H⟩ := H
 replace H : (if t263 = true then (some (decide ((wrap64 (a1)) < (wrap64 (a2))))) else (some (decide (a1 < a2)))) = some r := H
 have A4 := Aside0.mk A40
 clear A40
 by_cases c5 : t263 = true
 ·subst c5
  have H1 : (some (decide ((wrap64 (a1)) < (wrap64 (a2))))) = some r := by rw [if_pos rfl] at H; exact H
  clear H
  have H := H1
  clear H1
  obtain rfl := Option.some.inj H
  go_enter Try.func66, Try.ntmps66
  go_wp2_with (first | ((with_reducible refine gate_callee (f := 68) rfl ?_); refine goesL_ (some 8) rfl rfl Try.func68 (by kernel_rfl) rfl #[.int .i64 a0] rfl (by (try simp only [List.map_toArray, List.map_cons, List.map_nil]); first | done | rfl | (simp only [List.length_drop, List.length_take]; rfl)) ?_; (with_reducible refine (gantryref1_Signed.calls a0 true _ A4.out).mono ?_); rintro e w' ⟨rfl, ⟨nd, rfl⟩⟩; refine ⟨_, rfl, ?_⟩))
  go_ret
  exact ⟨by first | rfl | (simp; done) | (simp [*]; done), by repeat (first | exact Drawn0.refl _ | apply Drawn0.step)⟩
 ·replace c5 := Bool.eq_false_iff.mpr c5
  subst c5
  have H1 : (some (decide (a1 < a2))) = some r := by rw [if_neg (show ¬ (false = true) by decide)] at H; exact H
  clear H
  have H := H1
  clear H1
  obtain rfl := Option.some.inj H
  go_enter Try.func66, Try.ntmps66
  go_wp2_with (first | ((with_reducible refine gate_callee (f := 68) rfl ?_); refine goesL_ (some 8) rfl rfl Try.func68 (by kernel_rfl) rfl #[.int .i64 a0] rfl (by (try simp only [List.map_toArray, List.map_cons, List.map_nil]); first | done | rfl | (simp only [List.length_drop, List.length_take]; rfl)) ?_; (with_reducible refine (gantryref1_Signed.calls a0 false _ A4.out).mono ?_); rintro e w' ⟨rfl, ⟨nd, rfl⟩⟩; refine ⟨_, rfl, ?_⟩))
  go_ret
  exact ⟨by first | rfl | (simp; done) | (simp [*]; done), by repeat (first | exact Drawn0.refl _ | apply Drawn0.step)⟩

end Go.Proofs.Ytahepinbmcgbnaa.PA
