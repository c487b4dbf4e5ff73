-- Printed by this session's program (wip/tools: the kit's printer, turned for this claim), out of the translation.
import Derived.Test.YtahepinbmcgbnaaPAx0
import Derived.Test.YtahepinbmcgbnaaPAx1
import Derived.Test.YtahepinbmcgbnaaPAx11
import Derived.Test.YtahepinbmcgbnaaPAx12
import Derived.Test.YtahepinbmcgbnaaPAx13
namespace Go.Proofs.Ytahepinbmcgbnaa.PA
open Go.RowKit Go.Proofs.YtahepinbmcgbnaaW.PrintWords Go.Proofs.YtahepinbmcgbnaaW.PrintLast Go.Proofs.YtahepinbmcgbnaaW.PrintMore
attribute [local go_sem] max2_int min2_int max_two min_two max_three min_three max_four min_four   -- for this text's walks alone
attribute [local go_sem] Fl.frombits Fl.tobits
set_option linter.unusedVariables false
set_option linter.unusedSimpArgs false

/-! ### gantryref1_Conv: function 26 -/
mutual
def gantryref1_Conv.j0 : Nat → Int → Int → Int → Bool → Option (Int × Int)
 | 0, _, _, _, _ => none
 | k + 1, x0, x1, x2, x17 => if x17 = true then (some (x2, 0)) else (if x0 = 10 then (if (FloatKind.f64.format.order ((x2).toNat) ((x2).toNat) != some .eq) = true then (gantryref1_Conv.j1 k x1 ((x2).toNat) true) else (if (FloatKind.f64.format.order ((x2).toNat) 14114281232179134464 == some .lt) = true then (gantryref1_Conv.j1 k x1 ((x2).toNat) true) else (gantryref1_Conv.j1 k x1 ((x2).toNat) (FloatKind.f64.format.order ((x2).toNat) 4890909195324358656 == some .gt || FloatKind.f64.format.order ((x2).toNat) 4890909195324358656 == some .eq)))) else (if x1 = 10 then ((gantryref1_Signed.f x0).bind fun t293 => (gantryref1_Conv.j2 k x1 x2 t293)) else (gantryref1_Conv.j2 k x1 x2 false)))
def gantryref1_Conv.j1 : Nat → Int → Nat → Bool → Option (Int × Int)
 | 0, _, _, _ => none
 | k + 1, x1, x8, x40 => if x40 = true then ((gantryref1_Canon.f k x1 9223372036854775808).bind fun t290 => (some (t290, 0))) else ((floatToIntVal .f64 x8 .i64).bind fun t291 => ((gantryref1_Canon.f k x1 (IntKind.u64.wrap (t291))).bind fun t292 => (some (t292, 0))))
def gantryref1_Conv.j2 : Nat → Int → Int → Bool → Option (Int × Int)
 | 0, _, _, _ => none
 | k + 1, x1, x2, x48 => if x48 = true then ((gantryref1_bits.f (floatOfInt .f64 (wrap64 (x2)))).bind fun t294 => (some (t294, 0))) else (if x1 = 10 then ((gantryref1_bits.f (floatOfInt .f64 x2)).bind fun t295 => (some (t295, 0))) else ((gantryref1_Canon.f k x1 x2).bind fun t296 => (some (t296, 0))))
end
def gantryref1_Conv.f (k : Nat) (a0 : Int) (a1 : Int) (a2 : Int) : Option (Int × Int) := (gantryref1_HasConv.f a0 a1).bind fun t288 => (if t288 = true then ((gantryref1_Is.f k a0 a2).bind fun t289 => (if t289 = true then (if a0 = 10 then (gantryref1_Conv.j0 k a0 a1 a2 (a1 == 10)) else (gantryref1_Conv.j0 k a0 a1 a2 false)) else (some (0, 11)))) else (some (0, 10)))
theorem gantryref1_Conv.mono_l : ∀ k, (∀ y0 y1 y2 y3, LeO (gantryref1_Conv.j0 k y0 y1 y2 y3) (gantryref1_Conv.j0 (k + 1) y0 y1 y2 y3)) ∧ (∀ y0 y1 y2, LeO (gantryref1_Conv.j1 k y0 y1 y2) (gantryref1_Conv.j1 (k + 1) y0 y1 y2)) ∧ (∀ y0 y1 y2, LeO (gantryref1_Conv.j2 k y0 y1 y2) (gantryref1_Conv.j2 (k + 1) y0 y1 y2))
 | 0 => ⟨fun _ _ _ _ r h => by simp [gantryref1_Conv.j0] at h, fun _ _ _ r h => by simp [gantryref1_Conv.j1] at h, fun _ _ _ r h => by simp [gantryref1_Conv.j2] at h⟩
 | k + 1 => by
  obtain ⟨ih0, ih1, ih2⟩ := gantryref1_Conv.mono_l k
  refine ⟨?_, ?_, ?_⟩
  ·intro y0 y1 y2 y3
   unfold gantryref1_Conv.j0
   repeat' first
   | (with_reducible exact ih0 _ _ _ _)
   | (with_reducible exact ih1 _ _ _)
   | (with_reducible exact ih2 _ _ _)
   | (with_reducible exact gantryref1_Canon.mono _ _ _)
   | (with_reducible exact gantryref1_Is.mono _ _ _)
   | (with_reducible exact LeO.refl _)
   | (with_reducible exact LeO.none _)
   | (with_reducible refine LeO.ite ?_ ?_)
   | (with_reducible refine LeO.bind ?_ (fun _ => ?_))
   | exact ih0 _ _ _ _
   | exact ih1 _ _ _
   | exact ih2 _ _ _
   | exact gantryref1_Canon.mono _ _ _
   | exact gantryref1_Is.mono _ _ _
   | exact LeO.none _
   | refine LeO.ite ?_ ?_
   | refine LeO.bind ?_ (fun _ => ?_)
  ·intro y0 y1 y2
   unfold gantryref1_Conv.j1
   repeat' first
   | (with_reducible exact ih0 _ _ _ _)
   | (with_reducible exact ih1 _ _ _)
   | (with_reducible exact ih2 _ _ _)
   | (with_reducible exact gantryref1_Canon.mono _ _ _)
   | (with_reducible exact gantryref1_Is.mono _ _ _)
   | (with_reducible exact LeO.refl _)
   | (with_reducible exact LeO.none _)
   | (with_reducible refine LeO.ite ?_ ?_)
   | (with_reducible refine LeO.bind ?_ (fun _ => ?_))
   | exact ih0 _ _ _ _
   | exact ih1 _ _ _
   | exact ih2 _ _ _
   | exact gantryref1_Canon.mono _ _ _
   | exact gantryref1_Is.mono _ _ _
   | exact LeO.none _
   | refine LeO.ite ?_ ?_
   | refine LeO.bind ?_ (fun _ => ?_)
  ·intro y0 y1 y2
   unfold gantryref1_Conv.j2
   repeat' first
   | (with_reducible exact ih0 _ _ _ _)
   | (with_reducible exact ih1 _ _ _)
   | (with_reducible exact ih2 _ _ _)
   | (with_reducible exact gantryref1_Canon.mono _ _ _)
   | (with_reducible exact gantryref1_Is.mono _ _ _)
   | (with_reducible exact LeO.refl _)
   | (with_reducible exact LeO.none _)
   | (with_reducible refine LeO.ite ?_ ?_)
   | (with_reducible refine LeO.bind ?_ (fun _ => ?_))
   | exact ih0 _ _ _ _
   | exact ih1 _ _ _
   | exact ih2 _ _ _
   | exact gantryref1_Canon.mono _ _ _
   | exact gantryref1_Is.mono _ _ _
   | exact LeO.none _
   | refine LeO.ite ?_ ?_
   | refine LeO.bind ?_ (fun _ => ?_)
theorem gantryref1_Conv.mono : ∀ a0 a1 a2 k, LeO (gantryref1_Conv.f k a0 a1 a2) (gantryref1_Conv.f (k + 1) a0 a1 a2) := by
 intro a0 a1 a2 k
 obtain ⟨ih0, ih1, ih2⟩ := gantryref1_Conv.mono_l k
 unfold gantryref1_Conv.f
 repeat' first
   | (with_reducible exact ih0 _ _ _ _)
   | (with_reducible exact ih1 _ _ _)
   | (with_reducible exact ih2 _ _ _)
   | (with_reducible exact gantryref1_Canon.mono _ _ _)
   | (with_reducible exact gantryref1_Is.mono _ _ _)
   | (with_reducible exact LeO.refl _)
   | (with_reducible exact LeO.none _)
   | (with_reducible refine LeO.ite ?_ ?_)
   | (with_reducible refine LeO.bind ?_ (fun _ => ?_))
   | exact ih0 _ _ _ _
   | exact ih1 _ _ _
   | exact ih2 _ _ _
   | exact gantryref1_Canon.mono _ _ _
   | exact gantryref1_Is.mono _ _ _
   | exact LeO.none _
   | refine LeO.ite ?_ ?_
   | refine LeO.bind ?_ (fun _ => ?_)
set_option maxHeartbeats 8000000 in
set_option maxRecDepth 100000 in
theorem gantryref1_Conv.calls (k : Nat) (a0 : Int) (a1 : Int) (a2 : Int) (r1 : Int) (r2 : Int) (w : World) (h : gantryref1_Conv.f k a0 a1 a2 = some (r1, r2)) :
  Calls Try.prog 26 #[.int .i64 a0, .int .i64 a1, .int .u64 a2] w fun e w' => e = .returned (.tuple #[.int .u64 r1, .int .i64 r2]) ∧ Drawn0 w w' := by
 have H : ((gantryref1_HasConv.f a0 a1).bind fun t288 => (if t288 = true then ((gantryref1_Is.f k a0 a2).bind fun t289 => (if t289 = true then (if a0 = 10 then (gantryref1_Conv.j0 k a0 a1 a2 (a1 == 10)) else (gantryref1_Conv.j0 k a0 a1 a2 false)) else (some (0, 11)))) else (some (0, 10)))) = some (r1, r2) := h
 clear h
 replace H := Option.bind_eq_some_iff.mp H
 obtain ⟨t288, A40, H⟩ := H
 replace H : (if t288 = true then ((gantryref1_Is.f k a0 a2).bind fun t289 => (if t289 = true then (if a0 = 10 then (gantryref1_Conv.j0 k a0 a1 a2 (a1 == 10)) else (gantryref1_Conv.j0 k a0 a1 a2 false)) else (some (0, 11)))) else (some (0, 10))) = some (r1, r2) := H
 have A4 := Aside0.mk A40
 clear A40
 by_cases c5 : t288 = true
 ·subst c5
  have H1 : ((gantryref1_Is.f k a0 a2).bind fun t289 => (if t289 = true then (if a0 = 10 then (gantryref1_Conv.j0 k a0 a1 a2 (a1 == 10)) else (gantryref1_Conv.j0 k a0 a1 a2 false)) else (some (0, 11)))) = some (r1, r2) := by rw [if_pos rfl] at H; exact H
  clear H
  have H := H1
  clear H1
  replace H := Option.bind_eq_some_iff.mp H
  obtain ⟨t289, A60, H⟩ := H
  replace H : (if t289 = true then (if a0 = 10 then (gantryref1_Conv.j0 k a0 a1 a2 (a1 == 10)) else (gantryref1_Conv.j0 k a0 a1 a2 false)) else (some (0, 11))) = some (r1, r2) := H
  have A6 := Aside0.mk A60
  clear A60
  by_cases c7 : t289 = true
  ·subst c7
   have H1 : (if a0 = 10 then (gantryref1_Conv.j0 k a0 a1 a2 (a1 == 10)) else (gantryref1_Conv.j0 k a0 a1 a2 false)) = some (r1, r2) := by rw [if_pos rfl] at H; exact H
   clear H
   have H := H1
   clear H1
   have HC8 := Aside0.mk H
   clear H
   go_enter Try.func26, Try.ntmps26
   go_upto_region 5 with (first | ((with_reducible refine gate_callee (f := 67) rfl ?_); refine goesL_ (some 11) rfl rfl Try.func67 (by kernel_rfl) rfl #[.int .i64 a0, .int .i64 a1] rfl (by (try simp only [List.map_toArray, List.map_cons, List.map_nil]); first | done | rfl | (simp only [List.length_drop, List.length_take]; rfl)) ?_; (with_reducible refine (gantryref1_HasConv.calls a0 a1 true _ A4.out).mono ?_); rintro e w' ⟨rfl, ⟨nd, rfl⟩⟩; refine ⟨_, rfl, ?_⟩) | ((with_reducible refine gate_callee (f := 31) rfl ?_); refine goesL_ (some 15) rfl rfl Try.func31 (by kernel_rfl) rfl #[.int .i64 a0, .int .u64 a2] rfl (by (try simp only [List.map_toArray, List.map_cons, List.map_nil]); first | done | rfl | (simp only [List.length_drop, List.length_take]; rfl)) ?_; (with_reducible refine (gantryref1_Is.calls k a0 a2 true _ A6.out).mono ?_); rintro e w' ⟨rfl, ⟨nd, rfl⟩⟩; refine ⟨_, rfl, ?_⟩))
   (try simp only [Act.put, List.setIfInBounds_toArray, List.set_cons_zero, List.set_cons_succ])
   go_cut [17] (fun v17 wc => ∃ (kq : Nat) (x17_7 : Bool), v17 = .bool x17_7 ∧ Aside0 (gantryref1_Conv.j0 kq a0 a1 a2 x17_7 = some (r1, r2)) ∧ Aside0 (kq ≤ k) ∧ Drawn0 w wc)
   case first =>
    have H := HC8.out
    clear HC8
    by_cases c9 : a0 = 10
    ·rw [if_pos c9] at H
     have c9b0 : (a0 == 10) = true := beq_iff_eq.mpr c9
     have c9b1 : (a0 != 10) = false := bne_eq_false_iff_eq.mpr c9
     clear c9
     (first | rw [c9b0] | (simp only [i64_w, i32_w]; rw [c9b0]) | skip)
     have H' := Aside0.mk H
     clear H
     go_wp2
     go_meet
     case rel => exact ⟨_, ((a1 == 10)), (by first | rfl | (simp; done) | (simp [*]; done)), H', ⟨by first | omega | exact Nat.le_refl _⟩, by repeat (first | exact Drawn0.refl _ | apply Drawn0.step)⟩
    ·rw [if_neg c9] at H
     have c9b0 : (a0 == 10) = false := beq_eq_false_iff_ne.mpr c9
     have c9b1 : (a0 != 10) = true := bne_iff_ne.mpr c9
     (first | rw [c9b0] | (simp only [i64_w, i32_w]; rw [c9b0]) | skip)
     have H' := Aside0.mk H
     clear H
     go_wp2
     go_meet
     case rel => exact ⟨_, (false), (by first | rfl | (simp; done) | (simp [*]; done)), H', ⟨by first | omega | exact Nat.le_refl _⟩, by repeat (first | exact Drawn0.refl _ | apply Drawn0.step)⟩
   case rest =>
    clear HC8
    try clear c2
    try clear p2
    try clear c3
    try clear c5
    try clear c6
    try clear c7
    try clear c9
    try clear c9b0
    try clear c9b1
    obtain ⟨kq, x17_7, rfl, HA, HJ7, ⟨mc7, rfl⟩⟩ := hcut
    cases kq with
    | zero => exact absurd HA.out (by simp [gantryref1_Conv.j0])
    | succ kj7 =>
     have H := HA.out
     clear HA
     simp only [gantryref1_Conv.j0] at H
     by_cases c10 : x17_7 = true
     ·subst c10
      have H1 : (some (a2, 0)) = some (r1, r2) := by rw [if_pos rfl] at H; exact H
      clear H
      have H := H1
      clear H1
      simp only [Option.some.injEq, Prod.mk.injEq] at H
      obtain ⟨rfl, rfl⟩ := H
      go_wp2
      go_ret2
      exact ⟨by first | rfl | (simp; done) | (simp [*]; done), by repeat (first | exact Drawn0.refl _ | apply Drawn0.step)⟩
     ·replace c10 := Bool.eq_false_iff.mpr c10
      subst c10
      have H1 : (if a0 = 10 then (if (FloatKind.f64.format.order ((a2).toNat) ((a2).toNat) != some .eq) = true then (gantryref1_Conv.j1 kj7 a1 ((a2).toNat) true) else (if (FloatKind.f64.format.order ((a2).toNat) 14114281232179134464 == some .lt) = true then (gantryref1_Conv.j1 kj7 a1 ((a2).toNat) true) else (gantryref1_Conv.j1 kj7 a1 ((a2).toNat) (FloatKind.f64.format.order ((a2).toNat) 4890909195324358656 == some .gt || FloatKind.f64.format.order ((a2).toNat) 4890909195324358656 == some .eq)))) else (if a1 = 10 then ((gantryref1_Signed.f a0).bind fun t293 => (gantryref1_Conv.j2 kj7 a1 a2 t293)) else (gantryref1_Conv.j2 kj7 a1 a2 false))) = some (r1, r2) := by rw [if_neg (show ¬ (false = true) by decide)] at H; exact H
      clear H
      have H := H1
      clear H1
      by_cases c11 : a0 = 10
      ·rw [if_pos c11] at H
       have c11b0 : (a0 == 10) = true := beq_iff_eq.mpr c11
       have c11b1 : (a0 != 10) = false := bne_eq_false_iff_eq.mpr c11
       clear c11
       have HC12 := Aside0.mk H
       clear H
       go_upto_region 9 with (fail)
       go_cut [40] (fun v40 wc => ∃ (kq : Nat) (x40_11 : Bool), v40 = .bool x40_11 ∧ Aside0 (gantryref1_Conv.j1 kq a1 ((a2).toNat) x40_11 = some (r1, r2)) ∧ Aside0 (kq ≤ kj7) ∧ Drawn0 w wc)
       case first =>
        have H := HC12.out
        clear HC12
        by_cases c13 : (FloatKind.f64.format.order ((a2).toNat) ((a2).toNat) != some .eq) = true
        ·rw [if_pos c13] at H
         have c13b0 : (FloatKind.f64.format.order ((a2).toNat) ((a2).toNat) != some .eq) = true := c13
         (try (have c13b1 : decide (FloatKind.f64.format.order ((a2).toNat) ((a2).toNat) = some .eq) = false := by simpa using c13))
         (try (have c13b2 : (FloatKind.f64.format.order ((a2).toNat) ((a2).toNat) == some .eq) = false := by simpa using c13))
         (try (have c13b3 : ¬ (FloatKind.f64.format.order ((a2).toNat) ((a2).toNat) = some .eq) := by simpa using c13))
         clear c13
         (first | rw [c13b0] | (simp only [i64_w, i32_w]; rw [c13b0]) | skip)
         have H' := Aside0.mk H
         clear H
         go_wp2
         go_meet
         case rel => exact ⟨_, (true), (by first | rfl | (simp; done) | (simp [*]; done)), H', ⟨by have := HJ7.out; first | omega | exact Nat.le_refl _⟩, by repeat (first | exact Drawn0.refl _ | apply Drawn0.step)⟩
        ·rw [if_neg c13] at H
         have c13b0 : (FloatKind.f64.format.order ((a2).toNat) ((a2).toNat) != some .eq) = false := by simpa using c13
         (try (have c13b1 : decide (FloatKind.f64.format.order ((a2).toNat) ((a2).toNat) = some .eq) = true := by simpa using c13))
         (try (have c13b2 : (FloatKind.f64.format.order ((a2).toNat) ((a2).toNat) == some .eq) = true := by simpa using c13))
         clear c13
         (first | rw [c13b0] | (simp only [i64_w, i32_w]; rw [c13b0]) | skip)
         by_cases c14 : (FloatKind.f64.format.order ((a2).toNat) 14114281232179134464 == some .lt) = true
         ·rw [if_pos c14] at H
          have c14b0 : (FloatKind.f64.format.order ((a2).toNat) 14114281232179134464 == some .lt) = true := c14
          (try (have c14b1 : decide (FloatKind.f64.format.order ((a2).toNat) 14114281232179134464 = some .lt) = true := by simpa using c14))
          (try (have c14b2 : (FloatKind.f64.format.order ((a2).toNat) 14114281232179134464 == some .lt) = true := by simpa using c14))
          clear c14
          have H' := Aside0.mk H
          clear H
          go_wp2
          go_meet
          case rel => exact ⟨_, (true), (by first | rfl | (simp; done) | (simp [*]; done)), H', ⟨by have := HJ7.out; first | omega | exact Nat.le_refl _⟩, by repeat (first | exact Drawn0.refl _ | apply Drawn0.step)⟩
         ·rw [if_neg c14] at H
          have c14b0 : (FloatKind.f64.format.order ((a2).toNat) 14114281232179134464 == some .lt) = false := by simpa using c14
          (try (have c14b1 : decide (FloatKind.f64.format.order ((a2).toNat) 14114281232179134464 = some .lt) = false := by simpa using c14))
          (try (have c14b2 : (FloatKind.f64.format.order ((a2).toNat) 14114281232179134464 == some .lt) = false := by simpa using c14))
          (try (have c14b3 : ¬ (FloatKind.f64.format.order ((a2).toNat) 14114281232179134464 = some .lt) := by simpa using c14))
          clear c14
          have H' := Aside0.mk H
          clear H
          go_wp2
          go_meet
          case rel => exact ⟨_, ((FloatKind.f64.format.order ((a2).toNat) 4890909195324358656 == some .gt || FloatKind.f64.format.order ((a2).toNat) 4890909195324358656 == some .eq)), (by first | rfl | (simp; done) | (simp [*]; done)), H', ⟨by have := HJ7.out; first | omega | exact Nat.le_refl _⟩, by repeat (first | exact Drawn0.refl _ | apply Drawn0.step)⟩
       case rest =>
        clear HC12
        try clear c1
        try clear c2
        try clear p2
        try clear c3
        try clear c5
        try clear c6
        try clear c7
        try clear c9
        try clear c9b0
        try clear c9b1
        try clear c10
        try clear c11
        try clear c11b0
        try clear c11b1
        try clear c13
        try clear c13b0
        try clear c13b1
        try clear c13b2
        try clear c14
        try clear c14b0
        try clear c14b1
        try clear c14b2
        try clear p2
        obtain ⟨kq, x40_11, rfl, HA, HJ11, ⟨mc11, rfl⟩⟩ := hcut
        cases kq with
        | zero => exact absurd HA.out (by simp [gantryref1_Conv.j1])
        | succ kj11 =>
         have H := HA.out
         clear HA
         simp only [gantryref1_Conv.j1] at H
         by_cases c15 : x40_11 = true
         ·subst c15
          have H1 : ((gantryref1_Canon.f kj11 a1 9223372036854775808).bind fun t290 => (some (t290, 0))) = some (r1, r2) := by rw [if_pos rfl] at H; exact H
          clear H
          have H := H1
          clear H1
          replace H := Option.bind_eq_some_iff.mp H
          obtain ⟨t290, A160, H⟩ := H
          replace H : (some (t290, 0)) = some (r1, r2) := H
          have A16 := Aside0.mk A160
          clear A160
          simp only [Option.some.injEq, Prod.mk.injEq] at H
          obtain ⟨rfl, rfl⟩ := H
          go_wp2_with (first | ((with_reducible refine gate_callee (f := 30) rfl ?_); refine goesL_ (some 42) rfl rfl Try.func30 (by kernel_rfl) rfl #[.int .i64 a1, .int .u64 9223372036854775808] rfl (by (try simp only [List.map_toArray, List.map_cons, List.map_nil]); first | done | rfl | (simp only [List.length_drop, List.length_take]; rfl)) ?_; (with_reducible refine (gantryref1_Canon.calls kj11 a1 9223372036854775808 t290 _ A16.out).mono ?_); rintro e w' ⟨rfl, ⟨nd, rfl⟩⟩; refine ⟨_, rfl, ?_⟩))
          go_ret2
          exact ⟨by first | rfl | (simp; done) | (simp [*]; done), by repeat (first | exact Drawn0.refl _ | apply Drawn0.step)⟩
         ·replace c15 := Bool.eq_false_iff.mpr c15
          subst c15
          have H1 : ((floatToIntVal .f64 ((a2).toNat) .i64).bind fun t291 => ((gantryref1_Canon.f kj11 a1 (IntKind.u64.wrap (t291))).bind fun t292 => (some (t292, 0)))) = some (r1, r2) := by rw [if_neg (show ¬ (false = true) by decide)] at H; exact H
          clear H
          have H := H1
          clear H1
          replace H := Option.bind_eq_some_iff.mp H
          obtain ⟨t291, A170, H⟩ := H
          replace H : ((gantryref1_Canon.f kj11 a1 (IntKind.u64.wrap (t291))).bind fun t292 => (some (t292, 0))) = some (r1, r2) := H
          have A17 := fun (w : World) => run_convert_float_int (P := Try.prog) w 63 2 .f64 .i64 ((a2).toNat) t291 (by kernel_rfl) Try.underlying2 A170
          clear A170
          replace H := Option.bind_eq_some_iff.mp H
          obtain ⟨t292, A180, H⟩ := H
          replace H : (some (t292, 0)) = some (r1, r2) := H
          have A18 := Aside0.mk A180
          clear A180
          simp only [Option.some.injEq, Prod.mk.injEq] at H
          obtain ⟨rfl, rfl⟩ := H
          go_wp2_with (first | ((with_reducible refine gate_callee (f := 30) rfl ?_); refine goesL_ (some 47) rfl rfl Try.func30 (by kernel_rfl) rfl #[.int .i64 a1, .int .u64 (IntKind.u64.wrap (t291))] rfl (by (try simp only [List.map_toArray, List.map_cons, List.map_nil]); first | done | rfl | (simp only [List.length_drop, List.length_take]; rfl)) ?_; (with_reducible refine (gantryref1_Canon.calls kj11 a1 (IntKind.u64.wrap (t291)) t292 _ A18.out).mono ?_); rintro e w' ⟨rfl, ⟨nd, rfl⟩⟩; refine ⟨_, rfl, ?_⟩))
          go_ret2
          exact ⟨by first | rfl | (simp; done) | (simp [*]; done), by repeat (first | exact Drawn0.refl _ | apply Drawn0.step)⟩
      ·rw [if_neg c11] at H
       have c11b0 : (a0 == 10) = false := beq_eq_false_iff_ne.mpr c11
       have c11b1 : (a0 != 10) = true := bne_iff_ne.mpr c11
       have HC19 := Aside0.mk H
       clear H
       go_upto_region 12 with (fail)
       go_cut [48] (fun v48 wc => ∃ (kq : Nat) (x48_18 : Bool), v48 = .bool x48_18 ∧ Aside0 (gantryref1_Conv.j2 kq a1 a2 x48_18 = some (r1, r2)) ∧ Aside0 (kq ≤ kj7) ∧ Drawn0 w wc)
       case first =>
        have H := HC19.out
        clear HC19
        by_cases c20 : a1 = 10
        ·rw [if_pos c20] at H
         have c20b0 : (a1 == 10) = true := beq_iff_eq.mpr c20
         have c20b1 : (a1 != 10) = false := bne_eq_false_iff_eq.mpr c20
         clear c20
         (first | rw [c20b0] | (simp only [i64_w, i32_w]; rw [c20b0]) | skip)
         replace H := Option.bind_eq_some_iff.mp H
         obtain ⟨t293, A210, H⟩ := H
         replace H : (gantryref1_Conv.j2 kj7 a1 a2 t293) = some (r1, r2) := H
         have A21 := Aside0.mk A210
         clear A210
         have H' := Aside0.mk H
         clear H
         go_wp2_with (first | (go_at_call 68; (with_reducible refine (gantryref1_Signed.calls a0 t293 _ A21.out).mono ?_); rintro e w' ⟨rfl, ⟨nd, rfl⟩⟩))
         go_meet
         case rel => exact ⟨_, (t293), (by first | rfl | (simp; done) | (simp [*]; done)), H', ⟨by have := HJ7.out; first | omega | exact Nat.le_refl _⟩, by repeat (first | exact Drawn0.refl _ | apply Drawn0.step)⟩
        ·rw [if_neg c20] at H
         have c20b0 : (a1 == 10) = false := beq_eq_false_iff_ne.mpr c20
         have c20b1 : (a1 != 10) = true := bne_iff_ne.mpr c20
         (first | rw [c20b0] | (simp only [i64_w, i32_w]; rw [c20b0]) | skip)
         have H' := Aside0.mk H
         clear H
         go_wp2
         go_meet
         case rel => exact ⟨_, (false), (by first | rfl | (simp; done) | (simp [*]; done)), H', ⟨by have := HJ7.out; first | omega | exact Nat.le_refl _⟩, by repeat (first | exact Drawn0.refl _ | apply Drawn0.step)⟩
       case rest =>
        clear HC19
        try clear c1
        try clear c2
        try clear p2
        try clear c3
        try clear c5
        try clear c6
        try clear c7
        try clear c9
        try clear c9b0
        try clear c9b1
        try clear c10
        try clear c11
        try clear c11b0
        try clear c11b1
        try clear c13
        try clear c13b0
        try clear c13b1
        try clear c13b2
        try clear c14
        try clear c14b0
        try clear c14b1
        try clear c14b2
        try clear c15
        try clear c20
        try clear c20b0
        try clear c20b1
        try clear p2
        obtain ⟨kq, x48_18, rfl, HA, HJ18, ⟨mc18, rfl⟩⟩ := hcut
        cases kq with
        | zero => exact absurd HA.out (by simp [gantryref1_Conv.j2])
        | succ kj18 =>
         have H := HA.out
         clear HA
         simp only [gantryref1_Conv.j2] at H
         by_cases c22 : x48_18 = true
         ·subst c22
          have H1 : ((gantryref1_bits.f (floatOfInt .f64 (wrap64 (a2)))).bind fun t294 => (some (t294, 0))) = some (r1, r2) := by rw [if_pos rfl] at H; exact H
          clear H
          have H := H1
          clear H1
          replace H := Option.bind_eq_some_iff.mp H
          obtain ⟨t294, A230, H⟩ := H
          replace H : (some (t294, 0)) = some (r1, r2) := H
          have A23 := Aside0.mk A230
          clear A230
          simp only [Option.some.injEq, Prod.mk.injEq] at H
          obtain ⟨rfl, rfl⟩ := H
          go_wp2_with (first | ((with_reducible refine gate_callee (f := 69) rfl ?_); refine goesL_ (some 58) rfl rfl Try.func69 (by kernel_rfl) rfl #[.float .f64 (floatOfInt .f64 (wrap64 (a2)))] rfl (by (try simp only [List.map_toArray, List.map_cons, List.map_nil]); first | done | rfl | (simp only [List.length_drop, List.length_take]; rfl)) ?_; (with_reducible refine (gantryref1_bits.calls (floatOfInt .f64 (wrap64 (a2))) t294 _ A23.out).mono ?_); rintro e w' ⟨rfl, ⟨nd, rfl⟩⟩; refine ⟨_, rfl, ?_⟩))
          go_ret2
          exact ⟨by first | rfl | (simp; done) | (simp [*]; done), by repeat (first | exact Drawn0.refl _ | apply Drawn0.step)⟩
         ·replace c22 := Bool.eq_false_iff.mpr c22
          subst c22
          have H1 : (if a1 = 10 then ((gantryref1_bits.f (floatOfInt .f64 a2)).bind fun t295 => (some (t295, 0))) else ((gantryref1_Canon.f kj18 a1 a2).bind fun t296 => (some (t296, 0)))) = some (r1, r2) := by rw [if_neg (show ¬ (false = true) by decide)] at H; exact H
          clear H
          have H := H1
          clear H1
          by_cases c24 : a1 = 10
          ·rw [if_pos c24] at H
           have c24b0 : (a1 == 10) = true := beq_iff_eq.mpr c24
           have c24b1 : (a1 != 10) = false := bne_eq_false_iff_eq.mpr c24
           clear c24
           replace H := Option.bind_eq_some_iff.mp H
           obtain ⟨t295, A250, H⟩ := H
           replace H : (some (t295, 0)) = some (r1, r2) := H
           have A25 := Aside0.mk A250
           clear A250
           simp only [Option.some.injEq, Prod.mk.injEq] at H
           obtain ⟨rfl, rfl⟩ := H
           go_wp2_with (first | ((with_reducible refine gate_callee (f := 69) rfl ?_); refine goesL_ (some 64) rfl rfl Try.func69 (by kernel_rfl) rfl #[.float .f64 (floatOfInt .f64 a2)] rfl (by (try simp only [List.map_toArray, List.map_cons, List.map_nil]); first | done | rfl | (simp only [List.length_drop, List.length_take]; rfl)) ?_; (with_reducible refine (gantryref1_bits.calls (floatOfInt .f64 a2) t295 _ A25.out).mono ?_); rintro e w' ⟨rfl, ⟨nd, rfl⟩⟩; refine ⟨_, rfl, ?_⟩))
           go_ret2
           exact ⟨by first | rfl | (simp; done) | (simp [*]; done), by repeat (first | exact Drawn0.refl _ | apply Drawn0.step)⟩
          ·rw [if_neg c24] at H
           have c24b0 : (a1 == 10) = false := beq_eq_false_iff_ne.mpr c24
           have c24b1 : (a1 != 10) = true := bne_iff_ne.mpr c24
           replace H := Option.bind_eq_some_iff.mp H
           obtain ⟨t296, A260, H⟩ := H
           replace H : (some (t296, 0)) = some (r1, r2) := H
           have A26 := Aside0.mk A260
           clear A260
           simp only [Option.some.injEq, Prod.mk.injEq] at H
           obtain ⟨rfl, rfl⟩ := H
           go_wp2_with (first | ((with_reducible refine gate_callee (f := 30) rfl ?_); refine goesL_ (some 67) rfl rfl Try.func30 (by kernel_rfl) rfl #[.int .i64 a1, .int .u64 a2] rfl (by (try simp only [List.map_toArray, List.map_cons, List.map_nil]); first | done | rfl | (simp only [List.length_drop, List.length_take]; rfl)) ?_; (with_reducible refine (gantryref1_Canon.calls kj18 a1 a2 t296 _ A26.out).mono ?_); rintro e w' ⟨rfl, ⟨nd, rfl⟩⟩; refine ⟨_, rfl, ?_⟩))
           go_ret2
           exact ⟨by first | rfl | (simp; done) | (simp [*]; done), by repeat (first | exact Drawn0.refl _ | apply Drawn0.step)⟩
  ·replace c7 := Bool.eq_false_iff.mpr c7
   subst c7
   have H1 : (some (0, 11)) = some (r1, r2) := by rw [if_neg (show ¬ (false = true) by decide)] at H; exact H
   clear H
   have H := H1
   clear H1
   simp only [Option.some.injEq, Prod.mk.injEq] at H
   obtain ⟨rfl, rfl⟩ := H
   go_enter Try.func26, Try.ntmps26
   go_wp2_with (first | ((with_reducible refine gate_callee (f := 67) rfl ?_); refine goesL_ (some 11) rfl rfl Try.func67 (by kernel_rfl) rfl #[.int .i64 a0, .int .i64 a1] rfl (by (try simp only [List.map_toArray, List.map_cons, List.map_nil]); first | done | rfl | (simp only [List.length_drop, List.length_take]; rfl)) ?_; (with_reducible refine (gantryref1_HasConv.calls a0 a1 true _ A4.out).mono ?_); rintro e w' ⟨rfl, ⟨nd, rfl⟩⟩; refine ⟨_, rfl, ?_⟩) | ((with_reducible refine gate_callee (f := 31) rfl ?_); refine goesL_ (some 15) rfl rfl Try.func31 (by kernel_rfl) rfl #[.int .i64 a0, .int .u64 a2] rfl (by (try simp only [List.map_toArray, List.map_cons, List.map_nil]); first | done | rfl | (simp only [List.length_drop, List.length_take]; rfl)) ?_; (with_reducible refine (gantryref1_Is.calls k a0 a2 false _ A6.out).mono ?_); rintro e w' ⟨rfl, ⟨nd, rfl⟩⟩; refine ⟨_, rfl, ?_⟩))
   go_ret2
   exact ⟨by first | rfl | (simp; done) | (simp [*]; done), by repeat (first | exact Drawn0.refl _ | apply Drawn0.step)⟩
 ·replace c5 := Bool.eq_false_iff.mpr c5
  subst c5
  have H1 : (some (0, 10)) = some (r1, r2) := by rw [if_neg (show ¬ (false = true) by decide)] at H; exact H
  clear H
  have H := H1
  clear H1
  simp only [Option.some.injEq, Prod.mk.injEq] at H
  obtain ⟨rfl, rfl⟩ := H
  go_enter Try.func26, Try.ntmps26
  go_wp2_with (first | ((with_reducible refine gate_callee (f := 67) rfl ?_); refine goesL_ (some 11) rfl rfl Try.func67 (by kernel_rfl) rfl #[.int .i64 a0, .int .i64 a1] rfl (by (try simp only [List.map_toArray, List.map_cons, List.map_nil]); first | done | rfl | (simp only [List.length_drop, List.length_take]; rfl)) ?_; (with_reducible refine (gantryref1_HasConv.calls a0 a1 false _ A4.out).mono ?_); rintro e w' ⟨rfl, ⟨nd, rfl⟩⟩; refine ⟨_, rfl, ?_⟩))
  go_ret2
  exact ⟨by first | rfl | (simp; done) | (simp [*]; done), by repeat (first | exact Drawn0.refl _ | apply Drawn0.step)⟩

/-! ### word_Bytes: function 28 -/
def word_Bytes.f (k : Nat) (a0 : Int) : Option (Int) := if a0 = 1 then (some 1) else ((word_Width.f k a0).bind fun t297 => (some (wrap64 (Int.tdiv t297 8))))
theorem word_Bytes.mono : ∀ a0 k, LeO (word_Bytes.f k a0) (word_Bytes.f (k + 1) a0) := by
 intro a0 k
 unfold word_Bytes.f
 repeat' first
   | (with_reducible exact word_Width.mono _ _)
   | (with_reducible exact LeO.refl _)
   | (with_reducible exact LeO.none _)
   | (with_reducible refine LeO.ite ?_ ?_)
   | (with_reducible refine LeO.bind ?_ (fun _ => ?_))
   | exact word_Width.mono _ _
   | exact LeO.none _
   | refine LeO.ite ?_ ?_
   | refine LeO.bind ?_ (fun _ => ?_)
set_option maxHeartbeats 8000000 in
set_option maxRecDepth 100000 in
theorem word_Bytes.calls (k : Nat) (a0 : Int) (r : Int) (w : World) (h : word_Bytes.f k a0 = some r) :
  Calls Try.prog 28 #[.int .i64 a0] w fun e w' => e = .returned (.int .i64 r) ∧ Drawn0 w w' := by
 have H : (if a0 = 1 then (some 1) else ((word_Width.f k a0).bind fun t297 => (some (wrap64 (Int.tdiv t297 8))))) = some r := h
 clear h
 by_cases c2 : a0 = 1
 ·rw [if_pos c2] at H
  have c2b0 : (a0 == 1) = true := beq_iff_eq.mpr c2
  have c2b1 : (a0 != 1) = false := bne_eq_false_iff_eq.mpr c2
  clear c2
  obtain rfl := Option.some.inj H
  go_enter Try.func28, Try.ntmps28
  go_wp2
  go_ret
  exact ⟨by first | rfl | (simp; done) | (simp [*]; done), by repeat (first | exact Drawn0.refl _ | apply Drawn0.step)⟩
 ·rw [if_neg c2] at H
  have c2b0 : (a0 == 1) = false := beq_eq_false_iff_ne.mpr c2
  have c2b1 : (a0 != 1) = true := bne_iff_ne.mpr c2
  replace H := Option.bind_eq_some_iff.mp H
  obtain ⟨t297, A30, H⟩ := H
  replace H : (some (wrap64 (Int.tdiv t297 8))) = some r := H
  have A3 := Aside0.mk A30
  clear A30
  obtain rfl := Option.some.inj H
  go_enter Try.func28, Try.ntmps28
  go_wp2_with (first | ((with_reducible refine gate_callee (f := 22) rfl ?_); refine goesL_ (some 6) rfl rfl Try.func22 (by kernel_rfl) rfl #[.int .i64 a0] rfl (by (try simp only [List.map_toArray, List.map_cons, List.map_nil]); first | done | rfl | (simp only [List.length_drop, List.length_take]; rfl)) ?_; (with_reducible refine (word_Width.calls k a0 t297 _ A3.out).mono ?_); rintro e w' ⟨rfl, ⟨nd, rfl⟩⟩; refine ⟨_, rfl, ?_⟩))
  go_ret
  exact ⟨by first | rfl | (simp; done) | (simp [*]; done), by repeat (first | exact Drawn0.refl _ | apply Drawn0.step)⟩

/-! ### gantryref1_Bytes: function 29 -/
def gantryref1_Bytes.f (k : Nat) (a0 : Int) : Option (Int) := if a0 = 1 then (some 1) else ((gantryref1_Width.f k a0).bind fun t298 => (some (wrap64 (Int.tdiv t298 8))))
theorem gantryref1_Bytes.mono : ∀ a0 k, LeO (gantryref1_Bytes.f k a0) (gantryref1_Bytes.f (k + 1) a0) := by
 intro a0 k
 unfold gantryref1_Bytes.f
 repeat' first
   | (with_reducible exact gantryref1_Width.mono _ _)
   | (with_reducible exact LeO.refl _)
   | (with_reducible exact LeO.none _)
   | (with_reducible refine LeO.ite ?_ ?_)
   | (with_reducible refine LeO.bind ?_ (fun _ => ?_))
   | exact gantryref1_Width.mono _ _
   | exact LeO.none _
   | refine LeO.ite ?_ ?_
   | refine LeO.bind ?_ (fun _ => ?_)
set_option maxHeartbeats 8000000 in
set_option maxRecDepth 100000 in
theorem gantryref1_Bytes.calls (k : Nat) (a0 : Int) (r : Int) (w : World) (h : gantryref1_Bytes.f k a0 = some r) :
  Calls Try.prog 29 #[.int .i64 a0] w fun e w' => e = .returned (.int .i64 r) ∧ Drawn0 w w' := by
 have H : (if a0 = 1 then (some 1) else ((gantryref1_Width.f k a0).bind fun t298 => (some (wrap64 (Int.tdiv t298 8))))) = some r := h
 clear h
 by_cases c2 : a0 = 1
 ·rw [if_pos c2] at H
  have c2b0 : (a0 == 1) = true := beq_iff_eq.mpr c2
  have c2b1 : (a0 != 1) = false := bne_eq_false_iff_eq.mpr c2
  clear c2
  obtain rfl := Option.some.inj H
  go_enter Try.func29, Try.ntmps29
  go_wp2
  go_ret
  exact ⟨by first | rfl | (simp; done) | (simp [*]; done), by repeat (first | exact Drawn0.refl _ | apply Drawn0.step)⟩
 ·rw [if_neg c2] at H
  have c2b0 : (a0 == 1) = false := beq_eq_false_iff_ne.mpr c2
  have c2b1 : (a0 != 1) = true := bne_iff_ne.mpr c2
  replace H := Option.bind_eq_some_iff.mp H
  obtain ⟨t298, A30, H⟩ := H
  replace H : (some (wrap64 (Int.tdiv t298 8))) = some r := H
  have A3 := Aside0.mk A30
  clear A30
  obtain rfl := Option.some.inj H
  go_enter Try.func29, Try.ntmps29
  go_wp2_with (first | ((with_reducible refine gate_callee (f := 27) rfl ?_); refine goesL_ (some 6) rfl rfl Try.func27 (by kernel_rfl) rfl #[.int .i64 a0] rfl (by (try simp only [List.map_toArray, List.map_cons, List.map_nil]); first | done | rfl | (simp only [List.length_drop, List.length_take]; rfl)) ?_; (with_reducible refine (gantryref1_Width.calls k a0 t298 _ A3.out).mono ?_); rintro e w' ⟨rfl, ⟨nd, rfl⟩⟩; refine ⟨_, rfl, ?_⟩))
  go_ret
  exact ⟨by first | rfl | (simp; done) | (simp [*]; done), by repeat (first | exact Drawn0.refl _ | apply Drawn0.step)⟩

end Go.Proofs.Ytahepinbmcgbnaa.PA
