-- Printed by this session's program (wip/tools: the kit's printer, turned for this claim), out of the translation.
import Derived.Test.YtahepinbmcgbnaaPAx0
import Derived.Test.YtahepinbmcgbnaaPAx1
namespace Go.Proofs.Ytahepinbmcgbnaa.PA
open Go.RowKit Go.Proofs.YtahepinbmcgbnaaW.PrintWords Go.Proofs.YtahepinbmcgbnaaW.PrintLast Go.Proofs.YtahepinbmcgbnaaW.PrintMore
attribute [local go_sem] max2_int min2_int max_two min_two max_three min_three max_four min_four   -- for this text's walks alone
attribute [local go_sem] Fl.frombits Fl.tobits
set_option linter.unusedVariables false
set_option linter.unusedSimpArgs false

/-! ### word_Un: function 19 -/
mutual
def word_Un.j2 : Nat → Int → Int → Int → Option (Int × Int)
 | 0, _, _, _ => none
 | k + 1, x0, x1, x2 => (word_Is.f k x1 x2).bind fun t148 => (if t148 = true then (if x0 = 2 then (some (Go.bits .xor .u64 x2 1, 0)) else (if x1 = 10 then (some (Go.bits .xor .u64 x2 9223372036854775808, 0)) else (if x0 = 1 then ((word_Canon.f k x1 (IntKind.u64.wrap (-x2))).bind fun t149 => (some (t149, 0))) else ((word_Canon.f k x1 (Go.bits .xor .u64 18446744073709551615 x2)).bind fun t150 => (some (t150, 0)))))) else (some (0, 11)))
def word_Un.j0 : Nat → Int → Int → Int → Bool → Option (Int × Int)
 | 0, _, _, _, _ => none
 | k + 1, x0, x1, x2, x8 => if x8 = true then (word_Un.j2 k x0 x1 x2) else (if x0 = 2 then (word_Un.j1 k x0 x1 x2 (x1 == 1)) else (word_Un.j1 k x0 x1 x2 false))
def word_Un.j1 : Nat → Int → Int → Int → Bool → Option (Int × Int)
 | 0, _, _, _, _ => none
 | k + 1, x0, x1, x2, x19 => if x19 = true then (word_Un.j2 k x0 x1 x2) else (if x0 = 3 then ((word_whole.f x1).bind fun t147 => (if t147 = true then (word_Un.j2 k x0 x1 x2) else (some (0, 10)))) else (some (0, 10)))
end
def word_Un.f (k : Nat) (a0 : Int) (a1 : Int) (a2 : Int) : Option (Int × Int) := if a0 = 1 then ((word_whole.f a1).bind fun t146 => (if t146 = true then (word_Un.j0 k a0 a1 a2 true) else (word_Un.j0 k a0 a1 a2 (a1 == 10)))) else (word_Un.j0 k a0 a1 a2 false)
theorem word_Un.mono_l : ∀ k, (∀ y0 y1 y2, LeO (word_Un.j2 k y0 y1 y2) (word_Un.j2 (k + 1) y0 y1 y2)) ∧ (∀ y0 y1 y2 y3, LeO (word_Un.j0 k y0 y1 y2 y3) (word_Un.j0 (k + 1) y0 y1 y2 y3)) ∧ (∀ y0 y1 y2 y3, LeO (word_Un.j1 k y0 y1 y2 y3) (word_Un.j1 (k + 1) y0 y1 y2 y3))
 | 0 => ⟨fun _ _ _ r h => by simp [word_Un.j2] at h, fun _ _ _ _ r h => by simp [word_Un.j0] at h, fun _ _ _ _ r h => by simp [word_Un.j1] at h⟩
 | k + 1 => by
  obtain ⟨ih0, ih1, ih2⟩ := word_Un.mono_l k
  refine ⟨?_, ?_, ?_⟩
  ·intro y0 y1 y2
   unfold word_Un.j2
   repeat' first
   | (with_reducible exact ih0 _ _ _)
   | (with_reducible exact ih1 _ _ _ _)
   | (with_reducible exact ih2 _ _ _ _)
   | (with_reducible exact word_Canon.mono _ _ _)
   | (with_reducible exact word_Is.mono _ _ _)
   | (with_reducible exact LeO.refl _)
   | (with_reducible exact LeO.none _)
   | (with_reducible refine LeO.ite ?_ ?_)
   | (with_reducible refine LeO.bind ?_ (fun _ => ?_))
   | exact ih0 _ _ _
   | exact ih1 _ _ _ _
   | exact ih2 _ _ _ _
   | exact word_Canon.mono _ _ _
   | exact word_Is.mono _ _ _
   | exact LeO.none _
   | refine LeO.ite ?_ ?_
   | refine LeO.bind ?_ (fun _ => ?_)
  ·intro y0 y1 y2 y3
   unfold word_Un.j0
   repeat' first
   | (with_reducible exact ih0 _ _ _)
   | (with_reducible exact ih1 _ _ _ _)
   | (with_reducible exact ih2 _ _ _ _)
   | (with_reducible exact word_Canon.mono _ _ _)
   | (with_reducible exact word_Is.mono _ _ _)
   | (with_reducible exact LeO.refl _)
   | (with_reducible exact LeO.none _)
   | (with_reducible refine LeO.ite ?_ ?_)
   | (with_reducible refine LeO.bind ?_ (fun _ => ?_))
   | exact ih0 _ _ _
   | exact ih1 _ _ _ _
   | exact ih2 _ _ _ _
   | exact word_Canon.mono _ _ _
   | exact word_Is.mono _ _ _
   | exact LeO.none _
   | refine LeO.ite ?_ ?_
   | refine LeO.bind ?_ (fun _ => ?_)
  ·intro y0 y1 y2 y3
   unfold word_Un.j1
   repeat' first
   | (with_reducible exact ih0 _ _ _)
   | (with_reducible exact ih1 _ _ _ _)
   | (with_reducible exact ih2 _ _ _ _)
   | (with_reducible exact word_Canon.mono _ _ _)
   | (with_reducible exact word_Is.mono _ _ _)
   | (with_reducible exact LeO.refl _)
   | (with_reducible exact LeO.none _)
   | (with_reducible refine LeO.ite ?_ ?_)
   | (with_reducible refine LeO.bind ?_ (fun _ => ?_))
   | exact ih0 _ _ _
   | exact ih1 _ _ _ _
   | exact ih2 _ _ _ _
   | exact word_Canon.mono _ _ _
   | exact word_Is.mono _ _ _
   | exact LeO.none _
   | refine LeO.ite ?_ ?_
   | refine LeO.bind ?_ (fun _ => ?_)
theorem word_Un.mono : ∀ a0 a1 a2 k, LeO (word_Un.f k a0 a1 a2) (word_Un.f (k + 1) a0 a1 a2) := by
 intro a0 a1 a2 k
 obtain ⟨ih0, ih1, ih2⟩ := word_Un.mono_l k
 unfold word_Un.f
 repeat' first
   | (with_reducible exact ih0 _ _ _)
   | (with_reducible exact ih1 _ _ _ _)
   | (with_reducible exact ih2 _ _ _ _)
   | (with_reducible exact word_Canon.mono _ _ _)
   | (with_reducible exact word_Is.mono _ _ _)
   | (with_reducible exact LeO.refl _)
   | (with_reducible exact LeO.none _)
   | (with_reducible refine LeO.ite ?_ ?_)
   | (with_reducible refine LeO.bind ?_ (fun _ => ?_))
   | exact ih0 _ _ _
   | exact ih1 _ _ _ _
   | exact ih2 _ _ _ _
   | exact word_Canon.mono _ _ _
   | exact word_Is.mono _ _ _
   | exact LeO.none _
   | refine LeO.ite ?_ ?_
   | refine LeO.bind ?_ (fun _ => ?_)
set_option maxHeartbeats 8000000 in
set_option maxRecDepth 100000 in
theorem word_Un.calls (k : Nat) (a0 : Int) (a1 : Int) (a2 : Int) (r1 : Int) (r2 : Int) (w : World) (h : word_Un.f k a0 a1 a2 = some (r1, r2)) :
  Calls Try.prog 19 #[.int .i64 a0, .int .i64 a1, .int .u64 a2] w fun e w' => e = .returned (.tuple #[.int .u64 r1, .int .i64 r2]) ∧ Drawn0 w w' := by
 have H : (if a0 = 1 then ((word_whole.f a1).bind fun t146 => (if t146 = true then (word_Un.j0 k a0 a1 a2 true) else (word_Un.j0 k a0 a1 a2 (a1 == 10)))) else (word_Un.j0 k a0 a1 a2 false)) = some (r1, r2) := h
 clear h
 have HC4 := Aside0.mk H
 clear H
 go_enter Try.func19, Try.ntmps19
 go_upto_block 0 with (fail)
 go_cut [] (fun wc => ∃ (kq : Nat), Aside0 (word_Un.j2 kq a0 a1 a2 = some (r1, r2)) ∧ Aside0 (kq ≤ k) ∧ Drawn0 w wc)
 case first =>
  have H := HC4.out
  clear HC4
  have HC5 := Aside0.mk H
  clear H
  go_upto_region 2 with (fail)
  go_cut [8] (fun v8 wc => ∃ (kq : Nat) (x8_4 : Bool), v8 = .bool x8_4 ∧ Aside0 (word_Un.j0 kq a0 a1 a2 x8_4 = some (r1, r2)) ∧ Aside0 (kq ≤ k) ∧ Drawn0 w wc)
  case first =>
   have H := HC5.out
   clear HC5
   by_cases c6 : a0 = 1
   ·rw [if_pos c6] at H
    have c6b0 : (a0 == 1) = true := beq_iff_eq.mpr c6
    have c6b1 : (a0 != 1) = false := bne_eq_false_iff_eq.mpr c6
    clear c6
    (first | rw [c6b0] | (simp only [i64_w, i32_w]; rw [c6b0]) | skip)
    replace H := Option.bind_eq_some_iff.mp H
    obtain ⟨t146, A70, H⟩ := H
    replace H : (if t146 = true then (word_Un.j0 k a0 a1 a2 true) else (word_Un.j0 k a0 a1 a2 (a1 == 10))) = some (r1, r2) := H
    have A7 := Aside0.mk A70
    clear A70
    by_cases c8 : t146 = true
    ·subst c8
     have H1 : (word_Un.j0 k a0 a1 a2 true) = some (r1, r2) := by rw [if_pos rfl] at H; exact H
     clear H
     have H := H1
     clear H1
     have H' := Aside0.mk H
     clear H
     go_wp2_with (first | (go_at_call 50; (with_reducible refine (word_whole.calls a1 true _ A7.out).mono ?_); rintro e w' ⟨rfl, ⟨nd, rfl⟩⟩))
     go_meet
     case rel => exact ⟨_, (true), (by first | rfl | (simp; done) | (simp [*]; done)), H', ⟨by first | omega | exact Nat.le_refl _⟩, by repeat (first | exact Drawn0.refl _ | apply Drawn0.step)⟩
    ·replace c8 := Bool.eq_false_iff.mpr c8
     subst c8
     have H1 : (word_Un.j0 k a0 a1 a2 (a1 == 10)) = some (r1, r2) := by rw [if_neg (show ¬ (false = true) by decide)] at H; exact H
     clear H
     have H := H1
     clear H1
     have H' := Aside0.mk H
     clear H
     go_wp2_with (first | (go_at_call 50; (with_reducible refine (word_whole.calls a1 false _ A7.out).mono ?_); rintro e w' ⟨rfl, ⟨nd, rfl⟩⟩))
     go_meet
     case rel => exact ⟨_, ((a1 == 10)), (by first | rfl | (simp; done) | (simp [*]; done)), H', ⟨by first | omega | exact Nat.le_refl _⟩, by repeat (first | exact Drawn0.refl _ | apply Drawn0.step)⟩
   ·rw [if_neg c6] at H
    have c6b0 : (a0 == 1) = false := beq_eq_false_iff_ne.mpr c6
    have c6b1 : (a0 != 1) = true := bne_iff_ne.mpr c6
    (first | rw [c6b0] | (simp only [i64_w, i32_w]; rw [c6b0]) | skip)
    have H' := Aside0.mk H
    clear H
    go_wp2
    go_meet
    case rel => exact ⟨_, (false), (by first | rfl | (simp; done) | (simp [*]; done)), H', ⟨by first | omega | exact Nat.le_refl _⟩, by repeat (first | exact Drawn0.refl _ | apply Drawn0.step)⟩
  case rest =>
   clear HC5
   try clear c1
   try clear p2
   try clear c6
   try clear c6b0
   try clear c6b1
   try clear c8
   obtain ⟨kq, x8_4, rfl, HA, HJ4, ⟨mc4, rfl⟩⟩ := hcut
   cases kq with
   | zero => exact absurd HA.out (by simp [word_Un.j0])
   | succ kj4 =>
    have H := HA.out
    clear HA
    simp only [word_Un.j0] at H
    by_cases c9 : x8_4 = true
    ·subst c9
     have H1 : (word_Un.j2 kj4 a0 a1 a2) = some (r1, r2) := by rw [if_pos rfl] at H; exact H
     clear H
     have H := H1
     clear H1
     have H' := Aside0.mk H
     clear H
     go_wp2
     go_meet
     case rel => exact ⟨_, H', ⟨by have := HJ4.out; first | omega | exact Nat.le_refl _⟩, by repeat (first | exact Drawn0.refl _ | apply Drawn0.step)⟩
    ·replace c9 := Bool.eq_false_iff.mpr c9
     subst c9
     have H1 : (if a0 = 2 then (word_Un.j1 kj4 a0 a1 a2 (a1 == 1)) else (word_Un.j1 kj4 a0 a1 a2 false)) = some (r1, r2) := by rw [if_neg (show ¬ (false = true) by decide)] at H; exact H
     clear H
     have H := H1
     clear H1
     have HC10 := Aside0.mk H
     clear H
     go_upto_region 3 with (fail)
     go_cut [19] (fun v19 wc => ∃ (kq : Nat) (x19_9 : Bool), v19 = .bool x19_9 ∧ Aside0 (word_Un.j1 kq a0 a1 a2 x19_9 = some (r1, r2)) ∧ Aside0 (kq ≤ kj4) ∧ Drawn0 w wc)
     case first =>
      have H := HC10.out
      clear HC10
      by_cases c11 : a0 = 2
      ·rw [if_pos c11] at H
       have c11b0 : (a0 == 2) = true := beq_iff_eq.mpr c11
       have c11b1 : (a0 != 2) = false := bne_eq_false_iff_eq.mpr c11
       clear c11
       (first | rw [c11b0] | (simp only [i64_w, i32_w]; rw [c11b0]) | skip)
       have H' := Aside0.mk H
       clear H
       go_wp2
       go_meet
       case rel => exact ⟨_, ((a1 == 1)), (by first | rfl | (simp; done) | (simp [*]; done)), H', ⟨by have := HJ4.out; first | omega | exact Nat.le_refl _⟩, by repeat (first | exact Drawn0.refl _ | apply Drawn0.step)⟩
      ·rw [if_neg c11] at H
       have c11b0 : (a0 == 2) = false := beq_eq_false_iff_ne.mpr c11
       have c11b1 : (a0 != 2) = true := bne_iff_ne.mpr c11
       (first | rw [c11b0] | (simp only [i64_w, i32_w]; rw [c11b0]) | skip)
       have H' := Aside0.mk H
       clear H
       go_wp2
       go_meet
       case rel => exact ⟨_, (false), (by first | rfl | (simp; done) | (simp [*]; done)), H', ⟨by have := HJ4.out; first | omega | exact Nat.le_refl _⟩, by repeat (first | exact Drawn0.refl _ | apply Drawn0.step)⟩
     case rest =>
      clear HC10
      try clear c1
      try clear p2
      try clear c4
      try clear c6
      try clear c6b0
      try clear c6b1
      try clear c8
      try clear c9
      try clear c11
      try clear c11b0
      try clear c11b1
      try clear p2
      obtain ⟨kq, x19_9, rfl, HA, HJ9, ⟨mc9, rfl⟩⟩ := hcut
      cases kq with
      | zero => exact absurd HA.out (by simp [word_Un.j1])
      | succ kj9 =>
       have H := HA.out
       clear HA
       simp only [word_Un.j1] at H
       by_cases c12 : x19_9 = true
       ·subst c12
        have H1 : (word_Un.j2 kj9 a0 a1 a2) = some (r1, r2) := by rw [if_pos rfl] at H; exact H
        clear H
        have H := H1
        clear H1
        have H' := Aside0.mk H
        clear H
        go_wp2
        go_meet
        case rel => exact ⟨_, H', ⟨by have := HJ4.out; have := HJ9.out; first | omega | exact Nat.le_refl _⟩, by repeat (first | exact Drawn0.refl _ | apply Drawn0.step)⟩
       ·replace c12 := Bool.eq_false_iff.mpr c12
        subst c12
        have H1 : (if a0 = 3 then ((word_whole.f a1).bind fun t147 => (if t147 = true then (word_Un.j2 kj9 a0 a1 a2) else (some (0, 10)))) else (some (0, 10))) = some (r1, r2) := by rw [if_neg (show ¬ (false = true) by decide)] at H; exact H
        clear H
        have H := H1
        clear H1
        by_cases c13 : a0 = 3
        ·rw [if_pos c13] at H
         have c13b0 : (a0 == 3) = true := beq_iff_eq.mpr c13
         have c13b1 : (a0 != 3) = false := bne_eq_false_iff_eq.mpr c13
         clear c13
         replace H := Option.bind_eq_some_iff.mp H
         obtain ⟨t147, A140, H⟩ := H
         replace H : (if t147 = true then (word_Un.j2 kj9 a0 a1 a2) else (some (0, 10))) = some (r1, r2) := H
         have A14 := Aside0.mk A140
         clear A140
         by_cases c15 : t147 = true
         ·subst c15
          have H1 : (word_Un.j2 kj9 a0 a1 a2) = some (r1, r2) := by rw [if_pos rfl] at H; exact H
          clear H
          have H := H1
          clear H1
          have H' := Aside0.mk H
          clear H
          go_wp2_with (first | (go_at_call 50; (with_reducible refine (word_whole.calls a1 true _ A14.out).mono ?_); rintro e w' ⟨rfl, ⟨nd, rfl⟩⟩))
          go_meet
          case rel => exact ⟨_, H', ⟨by have := HJ4.out; have := HJ9.out; first | omega | exact Nat.le_refl _⟩, by repeat (first | exact Drawn0.refl _ | apply Drawn0.step)⟩
         ·replace c15 := Bool.eq_false_iff.mpr c15
          subst c15
          have H1 : (some (0, 10)) = some (r1, r2) := by rw [if_neg (show ¬ (false = true) by decide)] at H; exact H
          clear H
          have H := H1
          clear H1
          simp only [Option.some.injEq, Prod.mk.injEq] at H
          obtain ⟨rfl, rfl⟩ := H
          go_wp2_with (first | (go_at_call 50; (with_reducible refine (word_whole.calls a1 false _ A14.out).mono ?_); rintro e w' ⟨rfl, ⟨nd, rfl⟩⟩))
          go_ret2
          exact ⟨by first | rfl | (simp; done) | (simp [*]; done), by repeat (first | exact Drawn0.refl _ | apply Drawn0.step)⟩
        ·rw [if_neg c13] at H
         have c13b0 : (a0 == 3) = false := beq_eq_false_iff_ne.mpr c13
         have c13b1 : (a0 != 3) = true := bne_iff_ne.mpr c13
         simp only [Option.some.injEq, Prod.mk.injEq] at H
         obtain ⟨rfl, rfl⟩ := H
         go_wp2
         go_ret2
         exact ⟨by first | rfl | (simp; done) | (simp [*]; done), by repeat (first | exact Drawn0.refl _ | apply Drawn0.step)⟩
 case rest =>
  clear HC4
  try clear c1
  try clear p2
  try clear c4
  try clear c6
  try clear c6b0
  try clear c6b1
  try clear c8
  try clear c9
  try clear c11
  try clear c11b0
  try clear c11b1
  try clear c12
  try clear c13
  try clear c13b0
  try clear c13b1
  try clear c15
  try clear p2
  obtain ⟨kq, HA, HJ3, ⟨mc3, rfl⟩⟩ := hcut
  cases kq with
  | zero => exact absurd HA.out (by simp [word_Un.j2])
  | succ kj3 =>
   have H := HA.out
   clear HA
   simp only [word_Un.j2] at H
   replace H := Option.bind_eq_some_iff.mp H
   obtain ⟨t148, A160, H⟩ := H
   replace H : (if t148 = true then (if a0 = 2 then (some (Go.bits .xor .u64 a2 1, 0)) else (if a1 = 10 then (some (Go.bits .xor .u64 a2 9223372036854775808, 0)) else (if a0 = 1 then ((word_Canon.f kj3 a1 (IntKind.u64.wrap (-a2))).bind fun t149 => (some (t149, 0))) else ((word_Canon.f kj3 a1 (Go.bits .xor .u64 18446744073709551615 a2)).bind fun t150 => (some (t150, 0)))))) else (some (0, 11))) = some (r1, r2) := H
   have A16 := Aside0.mk A160
   clear A160
   by_cases c17 : t148 = true
   ·subst c17
    have H1 : (if a0 = 2 then (some (Go.bits .xor .u64 a2 1, 0)) else (if a1 = 10 then (some (Go.bits .xor .u64 a2 9223372036854775808, 0)) else (if a0 = 1 then ((word_Canon.f kj3 a1 (IntKind.u64.wrap (-a2))).bind fun t149 => (some (t149, 0))) else ((word_Canon.f kj3 a1 (Go.bits .xor .u64 18446744073709551615 a2)).bind fun t150 => (some (t150, 0)))))) = some (r1, r2) := by rw [if_pos rfl] at H; exact H
    clear H
    have H := H1
    clear H1
    by_cases c18 : a0 = 2
    ·rw [if_pos c18] at H
     have c18b0 : (a0 == 2) = true := beq_iff_eq.mpr c18
     have c18b1 : (a0 != 2) = false := bne_eq_false_iff_eq.mpr c18
     clear c18
     simp only [Option.some.injEq, Prod.mk.injEq] at H
     obtain ⟨rfl, rfl⟩ := H
     go_wp2_with (first | ((with_reducible refine gate_callee (f := 17) rfl ?_); refine goesL_ (some 36) rfl rfl Try.func17 (by kernel_rfl) rfl #[.int .i64 a1, .int .u64 a2] rfl (by (try simp only [List.map_toArray, List.map_cons, List.map_nil]); first | done | rfl | (simp only [List.length_drop, List.length_take]; rfl)) ?_; (with_reducible refine (word_Is.calls kj3 a1 a2 true _ A16.out).mono ?_); rintro e w' ⟨rfl, ⟨nd, rfl⟩⟩; refine ⟨_, rfl, ?_⟩))
     go_ret2
     exact ⟨by first | rfl | (simp; done) | (simp [*]; done), by repeat (first | exact Drawn0.refl _ | apply Drawn0.step)⟩
    ·rw [if_neg c18] at H
     have c18b0 : (a0 == 2) = false := beq_eq_false_iff_ne.mpr c18
     have c18b1 : (a0 != 2) = true := bne_iff_ne.mpr c18
     by_cases c19 : a1 = 10
     ·rw [if_pos c19] at H
      have c19b0 : (a1 == 10) = true := beq_iff_eq.mpr c19
      have c19b1 : (a1 != 10) = false := bne_eq_false_iff_eq.mpr c19
      clear c19
      simp only [Option.some.injEq, Prod.mk.injEq] at H
      obtain ⟨rfl, rfl⟩ := H
      go_wp2_with (first | ((with_reducible refine gate_callee (f := 17) rfl ?_); refine goesL_ (some 36) rfl rfl Try.func17 (by kernel_rfl) rfl #[.int .i64 a1, .int .u64 a2] rfl (by (try simp only [List.map_toArray, List.map_cons, List.map_nil]); first | done | rfl | (simp only [List.length_drop, List.length_take]; rfl)) ?_; (with_reducible refine (word_Is.calls kj3 a1 a2 true _ A16.out).mono ?_); rintro e w' ⟨rfl, ⟨nd, rfl⟩⟩; refine ⟨_, rfl, ?_⟩))
      go_ret2
      exact ⟨by first | rfl | (simp; done) | (simp [*]; done), by repeat (first | exact Drawn0.refl _ | apply Drawn0.step)⟩
     ·rw [if_neg c19] at H
      have c19b0 : (a1 == 10) = false := beq_eq_false_iff_ne.mpr c19
      have c19b1 : (a1 != 10) = true := bne_iff_ne.mpr c19
      by_cases c20 : a0 = 1
      ·rw [if_pos c20] at H
       have c20b0 : (a0 == 1) = true := beq_iff_eq.mpr c20
       have c20b1 : (a0 != 1) = false := bne_eq_false_iff_eq.mpr c20
       clear c20
       replace H := Option.bind_eq_some_iff.mp H
       obtain ⟨t149, A210, H⟩ := H
       replace H : (some (t149, 0)) = some (r1, r2) := H
       have A21 := Aside0.mk A210
       clear A210
       simp only [Option.some.injEq, Prod.mk.injEq] at H
       obtain ⟨rfl, rfl⟩ := H
       go_wp2_with (first | ((with_reducible refine gate_callee (f := 17) rfl ?_); refine goesL_ (some 36) rfl rfl Try.func17 (by kernel_rfl) rfl #[.int .i64 a1, .int .u64 a2] rfl (by (try simp only [List.map_toArray, List.map_cons, List.map_nil]); first | done | rfl | (simp only [List.length_drop, List.length_take]; rfl)) ?_; (with_reducible refine (word_Is.calls kj3 a1 a2 true _ A16.out).mono ?_); rintro e w' ⟨rfl, ⟨nd, rfl⟩⟩; refine ⟨_, rfl, ?_⟩) | ((with_reducible refine gate_callee (f := 15) rfl ?_); refine goesL_ (some 54) rfl rfl Try.func15 (by kernel_rfl) rfl #[.int .i64 a1, .int .u64 (IntKind.u64.wrap (-a2))] rfl (by (try simp only [List.map_toArray, List.map_cons, List.map_nil]); first | done | rfl | (simp only [List.length_drop, List.length_take]; rfl)) ?_; (with_reducible refine (word_Canon.calls kj3 a1 (IntKind.u64.wrap (-a2)) t149 _ A21.out).mono ?_); rintro e w' ⟨rfl, ⟨nd, rfl⟩⟩; refine ⟨_, rfl, ?_⟩))
       go_ret2
       exact ⟨by first | rfl | (simp; done) | (simp [*]; done), by repeat (first | exact Drawn0.refl _ | apply Drawn0.step)⟩
      ·rw [if_neg c20] at H
       have c20b0 : (a0 == 1) = false := beq_eq_false_iff_ne.mpr c20
       have c20b1 : (a0 != 1) = true := bne_iff_ne.mpr c20
       replace H := Option.bind_eq_some_iff.mp H
       obtain ⟨t150, A220, H⟩ := H
       replace H : (some (t150, 0)) = some (r1, r2) := H
       have A22 := Aside0.mk A220
       clear A220
       simp only [Option.some.injEq, Prod.mk.injEq] at H
       obtain ⟨rfl, rfl⟩ := H
       go_wp2_with (first | ((with_reducible refine gate_callee (f := 17) rfl ?_); refine goesL_ (some 36) rfl rfl Try.func17 (by kernel_rfl) rfl #[.int .i64 a1, .int .u64 a2] rfl (by (try simp only [List.map_toArray, List.map_cons, List.map_nil]); first | done | rfl | (simp only [List.length_drop, List.length_take]; rfl)) ?_; (with_reducible refine (word_Is.calls kj3 a1 a2 true _ A16.out).mono ?_); rintro e w' ⟨rfl, ⟨nd, rfl⟩⟩; refine ⟨_, rfl, ?_⟩) | ((with_reducible refine gate_callee (f := 15) rfl ?_); refine goesL_ (some 58) rfl rfl Try.func15 (by kernel_rfl) rfl #[.int .i64 a1, .int .u64 (Go.bits .xor .u64 18446744073709551615 a2)] rfl (by (try simp only [List.map_toArray, List.map_cons, List.map_nil]); first | done | rfl | (simp only [List.length_drop, List.length_take]; rfl)) ?_; (with_reducible refine (word_Canon.calls kj3 a1 (Go.bits .xor .u64 18446744073709551615 a2) t150 _ A22.out).mono ?_); rintro e w' ⟨rfl, ⟨nd, rfl⟩⟩; refine ⟨_, rfl, ?_⟩))
       go_ret2
       exact ⟨by first | rfl | (simp; done) | (simp [*]; done), by repeat (first | exact Drawn0.refl _ | apply Drawn0.step)⟩
   ·replace c17 := Bool.eq_false_iff.mpr c17
    subst c17
    have H1 : (some (0, 11)) = some (r1, r2) := by rw [if_neg (show ¬ (false = true) by decide)] at H; exact H
    clear H
    have H := H1
    clear H1
    simp only [Option.some.injEq, Prod.mk.injEq] at H
    obtain ⟨rfl, rfl⟩ := H
    go_wp2_with (first | ((with_reducible refine gate_callee (f := 17) rfl ?_); refine goesL_ (some 36) rfl rfl Try.func17 (by kernel_rfl) rfl #[.int .i64 a1, .int .u64 a2] rfl (by (try simp only [List.map_toArray, List.map_cons, List.map_nil]); first | done | rfl | (simp only [List.length_drop, List.length_take]; rfl)) ?_; (with_reducible refine (word_Is.calls kj3 a1 a2 false _ A16.out).mono ?_); rintro e w' ⟨rfl, ⟨nd, rfl⟩⟩; refine ⟨_, rfl, ?_⟩))
    go_ret2
    exact ⟨by first | rfl | (simp; done) | (simp [*]; done), by repeat (first | exact Drawn0.refl _ | apply Drawn0.step)⟩

end Go.Proofs.Ytahepinbmcgbnaa.PA
