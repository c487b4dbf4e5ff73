-- Printed by this session's program (wip/tools: the kit's printer, turned for this claim), out of the translation.
import Derived.Test.YtahepinbmcgbnaaPAx0
import Derived.Test.YtahepinbmcgbnaaPAx1
namespace Go.Proofs.Ytahepinbmcgbnaa.PA
open Go.RowKit Go.Proofs.YtahepinbmcgbnaaW.PrintWords Go.Proofs.YtahepinbmcgbnaaW.PrintLast Go.Proofs.YtahepinbmcgbnaaW.PrintMore
attribute [local go_sem] max2_int min2_int max_two min_two max_three min_three max_four min_four   -- for this text's walks alone
attribute [local go_sem] Fl.frombits Fl.tobits
set_option linter.unusedVariables false
set_option linter.unusedSimpArgs false

/-! ### word_has: function 55 -/
mutual
def word_has.j0 : Nat → Int → Int → Bool → Option (Bool)
 | 0, _, _, _ => none
 | k + 1, x0, x1, x5 => if x5 = true then (some false) else ((word_whole.f x1).bind fun t105 => (if t105 = true then (some true) else (if x0 = 11 then (word_has.j1 k x1 x0 (x0 == 11)) else (word_has.j1 k x1 x0 (x0 == 12)))))
def word_has.j1 : Nat → Int → Int → Bool → Option (Bool)
 | 0, _, _, _ => none
 | k + 1, x1, x15, x16 => if x16 = true then (if x1 = 10 then (some true) else (if x1 = 1 then (some true) else (some (x1 == 11)))) else (if x15 = 6 then (word_has.j2 k x1 x15 (x15 == 6)) else (if x15 = 7 then (word_has.j2 k x1 x15 (x15 == 7)) else (word_has.j2 k x1 x15 (x15 == 8))))
def word_has.j2 : Nat → Int → Int → Bool → Option (Bool)
 | 0, _, _, _ => none
 | k + 1, x1, x15, x29 => if x29 = true then (some (x1 == 1)) else (if x15 = 5 then (some false) else (if x15 = 9 then (some false) else (if x15 = 10 then (some false) else (some (x1 == 10)))))
end
def word_has.f (k : Nat) (a0 : Int) (a1 : Int) : Option (Bool) := if a0 < 1 then (word_has.j0 k a0 a1 true) else (word_has.j0 k a0 a1 (decide (a0 > 16)))
theorem word_has.mono_l : ∀ k, (∀ y0 y1 y2, LeO (word_has.j0 k y0 y1 y2) (word_has.j0 (k + 1) y0 y1 y2)) ∧ (∀ y0 y1 y2, LeO (word_has.j1 k y0 y1 y2) (word_has.j1 (k + 1) y0 y1 y2)) ∧ (∀ y0 y1 y2, LeO (word_has.j2 k y0 y1 y2) (word_has.j2 (k + 1) y0 y1 y2))
 | 0 => ⟨fun _ _ _ r h => by simp [word_has.j0] at h, fun _ _ _ r h => by simp [word_has.j1] at h, fun _ _ _ r h => by simp [word_has.j2] at h⟩
 | k + 1 => by
  obtain ⟨ih0, ih1, ih2⟩ := word_has.mono_l k
  refine ⟨?_, ?_, ?_⟩
  ·intro y0 y1 y2
   unfold word_has.j0
   repeat' first
   | (with_reducible exact ih0 _ _ _)
   | (with_reducible exact ih1 _ _ _)
   | (with_reducible exact ih2 _ _ _)
   | (with_reducible exact LeO.refl _)
   | (with_reducible exact LeO.none _)
   | (with_reducible refine LeO.ite ?_ ?_)
   | (with_reducible refine LeO.bind ?_ (fun _ => ?_))
   | exact ih0 _ _ _
   | exact ih1 _ _ _
   | exact ih2 _ _ _
   | exact LeO.none _
   | refine LeO.ite ?_ ?_
   | refine LeO.bind ?_ (fun _ => ?_)
  ·intro y0 y1 y2
   unfold word_has.j1
   repeat' first
   | (with_reducible exact ih0 _ _ _)
   | (with_reducible exact ih1 _ _ _)
   | (with_reducible exact ih2 _ _ _)
   | (with_reducible exact LeO.refl _)
   | (with_reducible exact LeO.none _)
   | (with_reducible refine LeO.ite ?_ ?_)
   | (with_reducible refine LeO.bind ?_ (fun _ => ?_))
   | exact ih0 _ _ _
   | exact ih1 _ _ _
   | exact ih2 _ _ _
   | exact LeO.none _
   | refine LeO.ite ?_ ?_
   | refine LeO.bind ?_ (fun _ => ?_)
  ·intro y0 y1 y2
   unfold word_has.j2
   repeat' first
   | (with_reducible exact ih0 _ _ _)
   | (with_reducible exact ih1 _ _ _)
   | (with_reducible exact ih2 _ _ _)
   | (with_reducible exact LeO.refl _)
   | (with_reducible exact LeO.none _)
   | (with_reducible refine LeO.ite ?_ ?_)
   | (with_reducible refine LeO.bind ?_ (fun _ => ?_))
   | exact ih0 _ _ _
   | exact ih1 _ _ _
   | exact ih2 _ _ _
   | exact LeO.none _
   | refine LeO.ite ?_ ?_
   | refine LeO.bind ?_ (fun _ => ?_)
theorem word_has.mono : ∀ a0 a1 k, LeO (word_has.f k a0 a1) (word_has.f (k + 1) a0 a1) := by
 intro a0 a1 k
 obtain ⟨ih0, ih1, ih2⟩ := word_has.mono_l k
 unfold word_has.f
 repeat' first
   | (with_reducible exact ih0 _ _ _)
   | (with_reducible exact ih1 _ _ _)
   | (with_reducible exact ih2 _ _ _)
   | (with_reducible exact LeO.refl _)
   | (with_reducible exact LeO.none _)
   | (with_reducible refine LeO.ite ?_ ?_)
   | (with_reducible refine LeO.bind ?_ (fun _ => ?_))
   | exact ih0 _ _ _
   | exact ih1 _ _ _
   | exact ih2 _ _ _
   | exact LeO.none _
   | refine LeO.ite ?_ ?_
   | refine LeO.bind ?_ (fun _ => ?_)
set_option maxHeartbeats 8000000 in
set_option maxRecDepth 100000 in
theorem word_has.calls (k : Nat) (a0 : Int) (a1 : Int) (r : Bool) (w : World) (h : word_has.f k a0 a1 = some r) :
  Calls Try.prog 55 #[.int .i64 a0, .int .i64 a1] w fun e w' => e = .returned (.bool r) ∧ Drawn0 w w' := by
 have H : (if a0 < 1 then (word_has.j0 k a0 a1 true) else (word_has.j0 k a0 a1 (decide (a0 > 16)))) = some r := h
 clear h
 have HC3 := Aside0.mk H
 clear H
 go_enter Try.func55, Try.ntmps55
 go_upto_region 1 with (fail)
 go_cut [5] (fun v5 wc => ∃ (kq : Nat) (x5_2 : Bool), v5 = .bool x5_2 ∧ Aside0 (word_has.j0 kq a0 a1 x5_2 = some r) ∧ Aside0 (kq ≤ k) ∧ Drawn0 w wc)
 case first =>
  have H := HC3.out
  clear HC3
  by_cases c4 : a0 < 1
  ·rw [if_pos c4] at H
   have c4b0 : decide (a0 < 1) = true := decide_eq_true c4
   clear c4
   (first | rw [c4b0] | (simp only [i64_w, i32_w]; rw [c4b0]) | skip)
   have H' := Aside0.mk H
   clear H
   go_wp2
   go_meet
   case rel => exact ⟨_, (true), (by first | rfl | (simp; done) | (simp [*]; done)), H', ⟨by first | omega | exact Nat.le_refl _⟩, by repeat (first | exact Drawn0.refl _ | apply Drawn0.step)⟩
  ·rw [if_neg c4] at H
   have c4b0 : decide (a0 < 1) = false := decide_eq_false c4
   clear c4
   (first | rw [c4b0] | (simp only [i64_w, i32_w]; rw [c4b0]) | skip)
   have H' := Aside0.mk H
   clear H
   go_wp2
   go_meet
   case rel => exact ⟨_, (decide (a0 > 16)), (by first | rfl | (simp; done) | (simp [*]; done)), H', ⟨by first | omega | exact Nat.le_refl _⟩, by repeat (first | exact Drawn0.refl _ | apply Drawn0.step)⟩
 case rest =>
  clear HC3
  try clear p2
  try clear c4
  try clear c4b0
  obtain ⟨kq, x5_2, rfl, HA, HJ2, ⟨mc2, rfl⟩⟩ := hcut
  cases kq with
  | zero => exact absurd HA.out (by simp [word_has.j0])
  | succ kj2 =>
   have H := HA.out
   clear HA
   simp only [word_has.j0] at H
   by_cases c5 : x5_2 = true
   ·subst c5
    have H1 : (some false) = some r := by rw [if_pos rfl] at H; exact H
    clear H
    have H := H1
    clear H1
    obtain rfl := Option.some.inj H
    go_wp2
    go_ret
    exact ⟨by first | rfl | (simp; done) | (simp [*]; done), by repeat (first | exact Drawn0.refl _ | apply Drawn0.step)⟩
   ·replace c5 := Bool.eq_false_iff.mpr c5
    subst c5
    have H1 : ((word_whole.f a1).bind fun t105 => (if t105 = true then (some true) else (if a0 = 11 then (word_has.j1 kj2 a1 a0 (a0 == 11)) else (word_has.j1 kj2 a1 a0 (a0 == 12))))) = some r := by rw [if_neg (show ¬ (false = true) by decide)] at H; exact H
    clear H
    have H := H1
    clear H1
    replace H := Option.bind_eq_some_iff.mp H
    obtain ⟨t105, A60, H⟩ := H
    replace H : (if t105 = true then (some true) else (if a0 = 11 then (word_has.j1 kj2 a1 a0 (a0 == 11)) else (word_has.j1 kj2 a1 a0 (a0 == 12)))) = some r := H
    have A6 := Aside0.mk A60
    clear A60
    by_cases c7 : t105 = true
    ·subst c7
     have H1 : (some true) = some r := by rw [if_pos rfl] at H; exact H
     clear H
     have H := H1
     clear H1
     obtain rfl := Option.some.inj H
     go_wp2_with (first | ((with_reducible refine gate_callee (f := 50) rfl ?_); refine goesL_ (some 14) rfl rfl Try.func50 (by kernel_rfl) rfl #[.int .i64 a1] rfl (by (try simp only [List.map_toArray, List.map_cons, List.map_nil]); first | done | rfl | (simp only [List.length_drop, List.length_take]; rfl)) ?_; (with_reducible refine (word_whole.calls a1 true _ A6.out).mono ?_); rintro e w' ⟨rfl, ⟨nd, rfl⟩⟩; refine ⟨_, rfl, ?_⟩))
     go_ret
     exact ⟨by first | rfl | (simp; done) | (simp [*]; done), by repeat (first | exact Drawn0.refl _ | apply Drawn0.step)⟩
    ·replace c7 := Bool.eq_false_iff.mpr c7
     subst c7
     have H1 : (if a0 = 11 then (word_has.j1 kj2 a1 a0 (a0 == 11)) else (word_has.j1 kj2 a1 a0 (a0 == 12))) = some r := by rw [if_neg (show ¬ (false = true) by decide)] at H; exact H
     clear H
     have H := H1
     clear H1
     have HC8 := Aside0.mk H
     clear H
     go_upto_if 16 with (first | ((with_reducible refine gate_callee (f := 50) rfl ?_); refine goesL_ (some 14) rfl rfl Try.func50 (by kernel_rfl) rfl #[.int .i64 a1] rfl (by (try simp only [List.map_toArray, List.map_cons, List.map_nil]); first | done | rfl | (simp only [List.length_drop, List.length_take]; rfl)) ?_; (with_reducible refine (word_whole.calls a1 false _ A6.out).mono ?_); rintro e w' ⟨rfl, ⟨nd, rfl⟩⟩; refine ⟨_, rfl, ?_⟩))
     (try simp only [Act.put, List.setIfInBounds_toArray, List.set_cons_zero, List.set_cons_succ])
     go_cut [16] (fun v16 wc => ∃ (kq : Nat) (x16_7 : Bool), v16 = .bool x16_7 ∧ Aside0 (word_has.j1 kq a1 a0 x16_7 = some r) ∧ Aside0 (kq ≤ kj2) ∧ Drawn0 w wc)
     case first =>
      have H := HC8.out
      clear HC8
      by_cases c9 : a0 = 11
      ·rw [if_pos c9] at H
       have c9b0 : (a0 == 11) = true := beq_iff_eq.mpr c9
       have c9b1 : (a0 != 11) = false := bne_eq_false_iff_eq.mpr c9
       clear c9
       (first | rw [c9b0] | (simp only [i64_w, i32_w]; rw [c9b0]) | skip)
       have H' := Aside0.mk H
       clear H
       go_wp2
       go_meet
       case rel => exact ⟨_, ((a0 == 11)), (by first | rfl | (simp; done) | (simp [*]; done)), H', ⟨by have := HJ2.out; first | omega | exact Nat.le_refl _⟩, by repeat (first | exact Drawn0.refl _ | apply Drawn0.step)⟩
      ·rw [if_neg c9] at H
       have c9b0 : (a0 == 11) = false := beq_eq_false_iff_ne.mpr c9
       have c9b1 : (a0 != 11) = true := bne_iff_ne.mpr c9
       (first | rw [c9b0] | (simp only [i64_w, i32_w]; rw [c9b0]) | skip)
       have H' := Aside0.mk H
       clear H
       go_wp2
       go_meet
       case rel => exact ⟨_, ((a0 == 12)), (by first | rfl | (simp; done) | (simp [*]; done)), H', ⟨by have := HJ2.out; first | omega | exact Nat.le_refl _⟩, by repeat (first | exact Drawn0.refl _ | apply Drawn0.step)⟩
     case rest =>
      clear HC8
      try clear c2
      try clear p2
      try clear c4
      try clear c4b0
      try clear c5
      try clear c7
      try clear c9
      try clear c9b0
      try clear c9b1
      try clear p2
      obtain ⟨kq, x16_7, rfl, HA, HJ7, ⟨mc7, rfl⟩⟩ := hcut
      cases kq with
      | zero => exact absurd HA.out (by simp [word_has.j1])
      | succ kj7 =>
       have H := HA.out
       clear HA
       simp only [word_has.j1] at H
       by_cases c10 : x16_7 = true
       ·subst c10
        have H1 : (if a1 = 10 then (some true) else (if a1 = 1 then (some true) else (some (a1 == 11)))) = some r := by rw [if_pos rfl] at H; exact H
        clear H
        have H := H1
        clear H1
        by_cases c11 : a1 = 10
        ·rw [if_pos c11] at H
         have c11b0 : (a1 == 10) = true := beq_iff_eq.mpr c11
         have c11b1 : (a1 != 10) = false := bne_eq_false_iff_eq.mpr c11
         clear c11
         obtain rfl := Option.some.inj H
         go_wp2
         go_ret
         exact ⟨by first | rfl | (simp; done) | (simp [*]; done), by repeat (first | exact Drawn0.refl _ | apply Drawn0.step)⟩
        ·rw [if_neg c11] at H
         have c11b0 : (a1 == 10) = false := beq_eq_false_iff_ne.mpr c11
         have c11b1 : (a1 != 10) = true := bne_iff_ne.mpr c11
         by_cases c12 : a1 = 1
         ·rw [if_pos c12] at H
          have c12b0 : (a1 == 1) = true := beq_iff_eq.mpr c12
          have c12b1 : (a1 != 1) = false := bne_eq_false_iff_eq.mpr c12
          clear c12
          obtain rfl := Option.some.inj H
          go_wp2
          go_ret
          exact ⟨by first | rfl | (simp; done) | (simp [*]; done), by repeat (first | exact Drawn0.refl _ | apply Drawn0.step)⟩
         ·rw [if_neg c12] at H
          have c12b0 : (a1 == 1) = false := beq_eq_false_iff_ne.mpr c12
          have c12b1 : (a1 != 1) = true := bne_iff_ne.mpr c12
          obtain rfl := Option.some.inj H
          go_wp2
          go_ret
          exact ⟨by first | rfl | (simp; done) | (simp [*]; done), by repeat (first | exact Drawn0.refl _ | apply Drawn0.step)⟩
       ·replace c10 := Bool.eq_false_iff.mpr c10
        subst c10
        have H1 : (if a0 = 6 then (word_has.j2 kj7 a1 a0 (a0 == 6)) else (if a0 = 7 then (word_has.j2 kj7 a1 a0 (a0 == 7)) else (word_has.j2 kj7 a1 a0 (a0 == 8)))) = some r := by rw [if_neg (show ¬ (false = true) by decide)] at H; exact H
        clear H
        have H := H1
        clear H1
        have HC13 := Aside0.mk H
        clear H
        go_upto_if 29 with (fail)
        go_cut [29] (fun v29 wc => ∃ (kq : Nat) (x29_12 : Bool), v29 = .bool x29_12 ∧ Aside0 (word_has.j2 kq a1 a0 x29_12 = some r) ∧ Aside0 (kq ≤ kj7) ∧ Drawn0 w wc)
        case first =>
         have H := HC13.out
         clear HC13
         by_cases c14 : a0 = 6
         ·rw [if_pos c14] at H
          have c14b0 : (a0 == 6) = true := beq_iff_eq.mpr c14
          have c14b1 : (a0 != 6) = false := bne_eq_false_iff_eq.mpr c14
          clear c14
          (first | rw [c14b0] | (simp only [i64_w, i32_w]; rw [c14b0]) | skip)
          have H' := Aside0.mk H
          clear H
          go_wp2
          go_meet
          case rel => exact ⟨_, ((a0 == 6)), (by first | rfl | (simp; done) | (simp [*]; done)), H', ⟨by have := HJ2.out; have := HJ7.out; first | omega | exact Nat.le_refl _⟩, by repeat (first | exact Drawn0.refl _ | apply Drawn0.step)⟩
         ·rw [if_neg c14] at H
          have c14b0 : (a0 == 6) = false := beq_eq_false_iff_ne.mpr c14
          have c14b1 : (a0 != 6) = true := bne_iff_ne.mpr c14
          (first | rw [c14b0] | (simp only [i64_w, i32_w]; rw [c14b0]) | skip)
          by_cases c15 : a0 = 7
          ·rw [if_pos c15] at H
           have c15b0 : (a0 == 7) = true := beq_iff_eq.mpr c15
           have c15b1 : (a0 != 7) = false := bne_eq_false_iff_eq.mpr c15
           clear c15
           have H' := Aside0.mk H
           clear H
           go_wp2
           go_meet
           case rel => exact ⟨_, ((a0 == 7)), (by first | rfl | (simp; done) | (simp [*]; done)), H', ⟨by have := HJ2.out; have := HJ7.out; first | omega | exact Nat.le_refl _⟩, by repeat (first | exact Drawn0.refl _ | apply Drawn0.step)⟩
          ·rw [if_neg c15] at H
           have c15b0 : (a0 == 7) = false := beq_eq_false_iff_ne.mpr c15
           have c15b1 : (a0 != 7) = true := bne_iff_ne.mpr c15
           have H' := Aside0.mk H
           clear H
           go_wp2
           go_meet
           case rel => exact ⟨_, ((a0 == 8)), (by first | rfl | (simp; done) | (simp [*]; done)), H', ⟨by have := HJ2.out; have := HJ7.out; first | omega | exact Nat.le_refl _⟩, by repeat (first | exact Drawn0.refl _ | apply Drawn0.step)⟩
        case rest =>
         clear HC13
         try clear c1
         try clear c2
         try clear p2
         try clear c4
         try clear c4b0
         try clear c5
         try clear c7
         try clear c9
         try clear c9b0
         try clear c9b1
         try clear c10
         try clear c11
         try clear c11b0
         try clear c11b1
         try clear c12
         try clear c12b0
         try clear c12b1
         try clear c14
         try clear c14b0
         try clear c14b1
         try clear c15
         try clear c15b0
         try clear c15b1
         try clear p2
         obtain ⟨kq, x29_12, rfl, HA, HJ12, ⟨mc12, rfl⟩⟩ := hcut
         cases kq with
         | zero => exact absurd HA.out (by simp [word_has.j2])
         | succ kj12 =>
          have H := HA.out
          clear HA
          simp only [word_has.j2] at H
          by_cases c16 : x29_12 = true
          ·subst c16
           have H1 : (some (a1 == 1)) = some r := by rw [if_pos rfl] at H; exact H
           clear H
           have H := H1
           clear H1
           obtain rfl := Option.some.inj H
           go_wp2
           go_ret
           exact ⟨by first | rfl | (simp; done) | (simp [*]; done), by repeat (first | exact Drawn0.refl _ | apply Drawn0.step)⟩
          ·replace c16 := Bool.eq_false_iff.mpr c16
           subst c16
           have H1 : (if a0 = 5 then (some false) else (if a0 = 9 then (some false) else (if a0 = 10 then (some false) else (some (a1 == 10))))) = some r := by rw [if_neg (show ¬ (false = true) by decide)] at H; exact H
           clear H
           have H := H1
           clear H1
           by_cases c17 : a0 = 5
           ·rw [if_pos c17] at H
            have c17b0 : (a0 == 5) = true := beq_iff_eq.mpr c17
            have c17b1 : (a0 != 5) = false := bne_eq_false_iff_eq.mpr c17
            clear c17
            obtain rfl := Option.some.inj H
            go_wp2
            go_ret
            exact ⟨by first | rfl | (simp; done) | (simp [*]; done), by repeat (first | exact Drawn0.refl _ | apply Drawn0.step)⟩
           ·rw [if_neg c17] at H
            have c17b0 : (a0 == 5) = false := beq_eq_false_iff_ne.mpr c17
            have c17b1 : (a0 != 5) = true := bne_iff_ne.mpr c17
            by_cases c18 : a0 = 9
            ·rw [if_pos c18] at H
             have c18b0 : (a0 == 9) = true := beq_iff_eq.mpr c18
             have c18b1 : (a0 != 9) = false := bne_eq_false_iff_eq.mpr c18
             clear c18
             obtain rfl := Option.some.inj H
             go_wp2
             go_ret
             exact ⟨by first | rfl | (simp; done) | (simp [*]; done), by repeat (first | exact Drawn0.refl _ | apply Drawn0.step)⟩
            ·rw [if_neg c18] at H
             have c18b0 : (a0 == 9) = false := beq_eq_false_iff_ne.mpr c18
             have c18b1 : (a0 != 9) = true := bne_iff_ne.mpr c18
             by_cases c19 : a0 = 10
             ·rw [if_pos c19] at H
              have c19b0 : (a0 == 10) = true := beq_iff_eq.mpr c19
              have c19b1 : (a0 != 10) = false := bne_eq_false_iff_eq.mpr c19
              clear c19
              obtain rfl := Option.some.inj H
              go_wp2
              go_ret
              exact ⟨by first | rfl | (simp; done) | (simp [*]; done), by repeat (first | exact Drawn0.refl _ | apply Drawn0.step)⟩
             ·rw [if_neg c19] at H
              have c19b0 : (a0 == 10) = false := beq_eq_false_iff_ne.mpr c19
              have c19b1 : (a0 != 10) = true := bne_iff_ne.mpr c19
              obtain rfl := Option.some.inj H
              go_wp2
              go_ret
              exact ⟨by first | rfl | (simp; done) | (simp [*]; done), by repeat (first | exact Drawn0.refl _ | apply Drawn0.step)⟩

-- in place: function 53

-- in place: function 54

/-! ### word_truth: function 95 -/
def word_truth.f (a0 : Bool) : Option (Int) := if a0 = true then (some 1) else (some 0)
set_option maxHeartbeats 8000000 in
set_option maxRecDepth 100000 in
theorem word_truth.calls (a0 : Bool) (r : Int) (w : World) (h : word_truth.f a0 = some r) :
  Calls Try.prog 95 #[.bool a0] w fun e w' => e = .returned (.int .u64 r) ∧ Drawn0 w w' := by
 have H : (if a0 = true then (some 1) else (some 0)) = some r := h
 clear h
 by_cases c2 : a0 = true
 ·subst c2
  have H1 : (some 1) = some r := by rw [if_pos rfl] at H; exact H
  clear H
  have H := H1
  clear H1
  obtain rfl := Option.some.inj H
  go_enter Try.func95, Try.ntmps95
  go_wp2
  go_ret
  exact ⟨by first | rfl | (simp; done) | (simp [*]; done), by repeat (first | exact Drawn0.refl _ | apply Drawn0.step)⟩
 ·replace c2 := Bool.eq_false_iff.mpr c2
  subst c2
  have H1 : (some 0) = some r := by rw [if_neg (show ¬ (false = true) by decide)] at H; exact H
  clear H
  have H := H1
  clear H1
  obtain rfl := Option.some.inj H
  go_enter Try.func95, Try.ntmps95
  go_wp2
  go_ret
  exact ⟨by first | rfl | (simp; done) | (simp [*]; done), by repeat (first | exact Drawn0.refl _ | apply Drawn0.step)⟩

/-! ### word_order_says: function 57 -/
def word_order_says.f (a0_0 : Bool) (a0_1 : Bool) (a1 : Int) : Option (Int) := if a1 = 11 then ((word_truth.f a0_1).bind fun t107 => (some t107)) else (if a1 = 13 then ((word_truth.f a0_0).bind fun t108 => (some t108)) else (if a1 = 14 then (if a0_0 = true then ((word_truth.f true).bind fun t109 => (some t109)) else ((word_truth.f a0_1).bind fun t110 => (some t110))) else (if a1 = 15 then (if a0_0 = true then ((word_truth.f false).bind fun t111 => (some t111)) else ((word_truth.f (!a0_1)).bind fun t112 => (some t112))) else (if a1 = 16 then ((word_truth.f (!a0_0)).bind fun t113 => (some t113)) else ((word_truth.f (!a0_1)).bind fun t114 => (some t114))))))
set_option maxHeartbeats 8000000 in
set_option maxRecDepth 100000 in
theorem word_order_says.calls (a0_0 : Bool) (a0_1 : Bool) (a1 : Int) (r : Int) (w : World) (h : word_order_says.f a0_0 a0_1 a1 = some r) :
  Calls Try.prog 57 #[.agg #[.bool a0_0, .bool a0_1], .int .i64 a1] w fun e w' => e = .returned (.int .u64 r) ∧ Below w.heap.size w w' := by
 have hu68 := Try.underlying68
 have HB := Aside0.mk (Below.refl w.heap.size w)
 have H : (if a1 = 11 then ((word_truth.f a0_1).bind fun t107 => (some t107)) else (if a1 = 13 then ((word_truth.f a0_0).bind fun t108 => (some t108)) else (if a1 = 14 then (if a0_0 = true then ((word_truth.f true).bind fun t109 => (some t109)) else ((word_truth.f a0_1).bind fun t110 => (some t110))) else (if a1 = 15 then (if a0_0 = true then ((word_truth.f false).bind fun t111 => (some t111)) else ((word_truth.f (!a0_1)).bind fun t112 => (some t112))) else (if a1 = 16 then ((word_truth.f (!a0_0)).bind fun t113 => (some t113)) else ((word_truth.f (!a0_1)).bind fun t114 => (some t114))))))) = some r := h
 clear h
 by_cases c3 : a1 = 11
 ·rw [if_pos c3] at H
  have c3b0 : (a1 == 11) = true := beq_iff_eq.mpr c3
  have c3b1 : (a1 != 11) = false := bne_eq_false_iff_eq.mpr c3
  clear c3
  replace H := Option.bind_eq_some_iff.mp H
  obtain ⟨t107, A40, H⟩ := H
  replace H : (some t107) = some r := H
  have A4 := Aside0.mk A40
  clear A40
  obtain rfl := Option.some.inj H
  go_enter Try.func57, Try.ntmps57
  go_wp2_with (first | ((with_reducible refine gate_dst (N := 2) rfl ?_); refine box_event ?hg (N := 2) ?hd (cs := #[.bool a0_0, .bool a0_1]) (t := 68) ?hr ?_; (case hd => rfl); (case hg => rfl); (case hr => first | (go_simp; done) | (go_simp; rfl)); intro gb106 hg w5 hbox hb; have n0_ := Aside0.mk (below_step (by repeat (first | (with_reducible first | exact HB.out | apply below_alloc | apply pw_below_drewN | apply below_drew1) | exact HB.out)) hb); have n1_ := Aside0.mk (hbox); have n2_ := Aside0.mk ((by rw [hg]; exact (below_size (by repeat (first | (with_reducible first | exact HB.out | apply below_alloc | apply pw_below_drewN | apply below_drew1) | exact HB.out))) : w.heap.size ≤ gb106)); have n3_ := Aside0.mk ((by rw [hg]; exact (below_size (by repeat (first | (with_reducible first | exact HB.out | apply below_alloc | apply pw_below_drewN | apply below_drew1) | exact HB.out))) : w.heap.size ≤ gb106)); clear HB; have HB := n0_; have BK106 := n1_; have GW106 := n2_; have GE106 := n3_; clear n0_ n1_ n2_ n3_; clear hb hbox hg; have hcz6_0 : w5.cell? ⟨gb106, 0, none⟩ = some (.bool a0_0) := (blk_cell BK106.out 0).trans rfl; have hcz6_1 : w5.cell? ⟨gb106, 1, none⟩ = some (.bool a0_1) := (blk_cell BK106.out 1).trans rfl; have hfz6_0 := blk_frozen BK106.out 0; have hfz6_1 := blk_frozen BK106.out 1) | ((with_reducible refine gate_callee (f := 95) rfl ?_); refine goesL_ (some 10) rfl rfl Try.func95 (by kernel_rfl) rfl #[.bool a0_1] rfl (by (try simp only [List.map_toArray, List.map_cons, List.map_nil]); first | done | rfl | (simp only [List.length_drop, List.length_take]; rfl)) ?_; (with_reducible refine (word_truth.calls a0_1 t107 _ A4.out).mono ?_); rintro e w' ⟨rfl, ⟨nd, rfl⟩⟩; refine ⟨_, rfl, ?_⟩))
  go_ret
  exact ⟨by first | rfl | (simp [errW_none, errW_some] <;> rfl) | (simp [*, errW_none, errW_some] <;> rfl), by repeat (first | (with_reducible first | exact HB.out | apply below_alloc | apply pw_below_drewN | apply below_drew1 | refine below_set ?_ GE106.out) | exact HB.out)⟩
 ·rw [if_neg c3] at H
  have c3b0 : (a1 == 11) = false := beq_eq_false_iff_ne.mpr c3
  have c3b1 : (a1 != 11) = true := bne_iff_ne.mpr c3
  by_cases c7 : a1 = 13
  ·rw [if_pos c7] at H
   have c7b0 : (a1 == 13) = true := beq_iff_eq.mpr c7
   have c7b1 : (a1 != 13) = false := bne_eq_false_iff_eq.mpr c7
   clear c7
   replace H := Option.bind_eq_some_iff.mp H
   obtain ⟨t108, A80, H⟩ := H
   replace H : (some t108) = some r := H
   have A8 := Aside0.mk A80
   clear A80
   obtain rfl := Option.some.inj H
   go_enter Try.func57, Try.ntmps57
   go_wp2_with (first | ((with_reducible refine gate_dst (N := 2) rfl ?_); refine box_event ?hg (N := 2) ?hd (cs := #[.bool a0_0, .bool a0_1]) (t := 68) ?hr ?_; (case hd => rfl); (case hg => rfl); (case hr => first | (go_simp; done) | (go_simp; rfl)); intro gb106 hg w9 hbox hb; have n0_ := Aside0.mk (below_step (by repeat (first | (with_reducible first | exact HB.out | apply below_alloc | apply pw_below_drewN | apply below_drew1) | exact HB.out)) hb); have n1_ := Aside0.mk (hbox); have n2_ := Aside0.mk ((by rw [hg]; exact (below_size (by repeat (first | (with_reducible first | exact HB.out | apply below_alloc | apply pw_below_drewN | apply below_drew1) | exact HB.out))) : w.heap.size ≤ gb106)); have n3_ := Aside0.mk ((by rw [hg]; exact (below_size (by repeat (first | (with_reducible first | exact HB.out | apply below_alloc | apply pw_below_drewN | apply below_drew1) | exact HB.out))) : w.heap.size ≤ gb106)); clear HB; have HB := n0_; have BK106 := n1_; have GW106 := n2_; have GE106 := n3_; clear n0_ n1_ n2_ n3_; clear hb hbox hg; have hcz10_0 : w9.cell? ⟨gb106, 0, none⟩ = some (.bool a0_0) := (blk_cell BK106.out 0).trans rfl; have hcz10_1 : w9.cell? ⟨gb106, 1, none⟩ = some (.bool a0_1) := (blk_cell BK106.out 1).trans rfl; have hfz10_0 := blk_frozen BK106.out 0; have hfz10_1 := blk_frozen BK106.out 1) | ((with_reducible refine gate_callee (f := 95) rfl ?_); refine goesL_ (some 15) rfl rfl Try.func95 (by kernel_rfl) rfl #[.bool a0_0] rfl (by (try simp only [List.map_toArray, List.map_cons, List.map_nil]); first | done | rfl | (simp only [List.length_drop, List.length_take]; rfl)) ?_; (with_reducible refine (word_truth.calls a0_0 t108 _ A8.out).mono ?_); rintro e w' ⟨rfl, ⟨nd, rfl⟩⟩; refine ⟨_, rfl, ?_⟩))
   go_ret
   exact ⟨by first | rfl | (simp [errW_none, errW_some] <;> rfl) | (simp [*, errW_none, errW_some] <;> rfl), by repeat (first | (with_reducible first | exact HB.out | apply below_alloc | apply pw_below_drewN | apply below_drew1 | refine below_set ?_ GE106.out) | exact HB.out)⟩
  ·rw [if_neg c7] at H
   have c7b0 : (a1 == 13) = false := beq_eq_false_iff_ne.mpr c7
   have c7b1 : (a1 != 13) = true := bne_iff_ne.mpr c7
   by_cases c11 : a1 = 14
   ·rw [if_pos c11] at H
    have c11b0 : (a1 == 14) = true := beq_iff_eq.mpr c11
    have c11b1 : (a1 != 14) = false := bne_eq_false_iff_eq.mpr c11
    clear c11
    by_cases c12 : a0_0 = true
    ·subst c12
     have H1 : ((word_truth.f true).bind fun t109 => (some t109)) = some r := by rw [if_pos rfl] at H; exact H
     clear H
     have H := H1
     clear H1
     replace H := Option.bind_eq_some_iff.mp H
     obtain ⟨t109, A130, H⟩ := H
     replace H : (some t109) = some r := H
     have A13 := Aside0.mk A130
     clear A130
     obtain rfl := Option.some.inj H
     go_enter Try.func57, Try.ntmps57
     go_wp2_with (first | ((with_reducible refine gate_dst (N := 2) rfl ?_); refine box_event ?hg (N := 2) ?hd (cs := #[.bool true, .bool a0_1]) (t := 68) ?hr ?_; (case hd => rfl); (case hg => rfl); (case hr => first | (go_simp; done) | (go_simp; rfl)); intro gb106 hg w14 hbox hb; have n0_ := Aside0.mk (below_step (by repeat (first | (with_reducible first | exact HB.out | apply below_alloc | apply pw_below_drewN | apply below_drew1) | exact HB.out)) hb); have n1_ := Aside0.mk (hbox); have n2_ := Aside0.mk ((by rw [hg]; exact (below_size (by repeat (first | (with_reducible first | exact HB.out | apply below_alloc | apply pw_below_drewN | apply below_drew1) | exact HB.out))) : w.heap.size ≤ gb106)); have n3_ := Aside0.mk ((by rw [hg]; exact (below_size (by repeat (first | (with_reducible first | exact HB.out | apply below_alloc | apply pw_below_drewN | apply below_drew1) | exact HB.out))) : w.heap.size ≤ gb106)); clear HB; have HB := n0_; have BK106 := n1_; have GW106 := n2_; have GE106 := n3_; clear n0_ n1_ n2_ n3_; clear hb hbox hg; have hcz15_0 : w14.cell? ⟨gb106, 0, none⟩ = some (.bool true) := (blk_cell BK106.out 0).trans rfl; have hcz15_1 : w14.cell? ⟨gb106, 1, none⟩ = some (.bool a0_1) := (blk_cell BK106.out 1).trans rfl; have hfz15_0 := blk_frozen BK106.out 0; have hfz15_1 := blk_frozen BK106.out 1) | ((with_reducible refine gate_callee (f := 95) rfl ?_); refine goesL_ (some 24) rfl rfl Try.func95 (by kernel_rfl) rfl #[.bool true] rfl (by (try simp only [List.map_toArray, List.map_cons, List.map_nil]); first | done | rfl | (simp only [List.length_drop, List.length_take]; rfl)) ?_; (with_reducible refine (word_truth.calls true t109 _ A13.out).mono ?_); rintro e w' ⟨rfl, ⟨nd, rfl⟩⟩; refine ⟨_, rfl, ?_⟩))
     go_ret
     exact ⟨by first | rfl | (simp [errW_none, errW_some] <;> rfl) | (simp [*, errW_none, errW_some] <;> rfl), by repeat (first | (with_reducible first | exact HB.out | apply below_alloc | apply pw_below_drewN | apply below_drew1 | refine below_set ?_ GE106.out) | exact HB.out)⟩
    ·replace c12 := Bool.eq_false_iff.mpr c12
     subst c12
     have H1 : ((word_truth.f a0_1).bind fun t110 => (some t110)) = some r := by rw [if_neg (show ¬ (false = true) by decide)] at H; exact H
     clear H
     have H := H1
     clear H1
     replace H := Option.bind_eq_some_iff.mp H
     obtain ⟨t110, A160, H⟩ := H
     replace H : (some t110) = some r := H
     have A16 := Aside0.mk A160
     clear A160
     obtain rfl := Option.some.inj H
     go_enter Try.func57, Try.ntmps57
     go_wp2_with (first | ((with_reducible refine gate_dst (N := 2) rfl ?_); refine box_event ?hg (N := 2) ?hd (cs := #[.bool false, .bool a0_1]) (t := 68) ?hr ?_; (case hd => rfl); (case hg => rfl); (case hr => first | (go_simp; done) | (go_simp; rfl)); intro gb106 hg w17 hbox hb; have n0_ := Aside0.mk (below_step (by repeat (first | (with_reducible first | exact HB.out | apply below_alloc | apply pw_below_drewN | apply below_drew1) | exact HB.out)) hb); have n1_ := Aside0.mk (hbox); have n2_ := Aside0.mk ((by rw [hg]; exact (below_size (by repeat (first | (with_reducible first | exact HB.out | apply below_alloc | apply pw_below_drewN | apply below_drew1) | exact HB.out))) : w.heap.size ≤ gb106)); have n3_ := Aside0.mk ((by rw [hg]; exact (below_size (by repeat (first | (with_reducible first | exact HB.out | apply below_alloc | apply pw_below_drewN | apply below_drew1) | exact HB.out))) : w.heap.size ≤ gb106)); clear HB; have HB := n0_; have BK106 := n1_; have GW106 := n2_; have GE106 := n3_; clear n0_ n1_ n2_ n3_; clear hb hbox hg; have hcz18_0 : w17.cell? ⟨gb106, 0, none⟩ = some (.bool false) := (blk_cell BK106.out 0).trans rfl; have hcz18_1 : w17.cell? ⟨gb106, 1, none⟩ = some (.bool a0_1) := (blk_cell BK106.out 1).trans rfl; have hfz18_0 := blk_frozen BK106.out 0; have hfz18_1 := blk_frozen BK106.out 1) | ((with_reducible refine gate_callee (f := 95) rfl ?_); refine goesL_ (some 24) rfl rfl Try.func95 (by kernel_rfl) rfl #[.bool a0_1] rfl (by (try simp only [List.map_toArray, List.map_cons, List.map_nil]); first | done | rfl | (simp only [List.length_drop, List.length_take]; rfl)) ?_; (with_reducible refine (word_truth.calls a0_1 t110 _ A16.out).mono ?_); rintro e w' ⟨rfl, ⟨nd, rfl⟩⟩; refine ⟨_, rfl, ?_⟩))
     go_ret
     exact ⟨by first | rfl | (simp [errW_none, errW_some] <;> rfl) | (simp [*, errW_none, errW_some] <;> rfl), by repeat (first | (with_reducible first | exact HB.out | apply below_alloc | apply pw_below_drewN | apply below_drew1 | refine below_set ?_ GE106.out) | exact HB.out)⟩
   ·rw [if_neg c11] at H
    have c11b0 : (a1 == 14) = false := beq_eq_false_iff_ne.mpr c11
    have c11b1 : (a1 != 14) = true := bne_iff_ne.mpr c11
    by_cases c19 : a1 = 15
    ·rw [if_pos c19] at H
     have c19b0 : (a1 == 15) = true := beq_iff_eq.mpr c19
     have c19b1 : (a1 != 15) = false := bne_eq_false_iff_eq.mpr c19
     clear c19
     by_cases c20 : a0_0 = true
     ·subst c20
      have H1 : ((word_truth.f false).bind fun t111 => (some t111)) = some r := by rw [if_pos rfl] at H; exact H
      clear H
      have H := H1
      clear H1
      replace H := Option.bind_eq_some_iff.mp H
      obtain ⟨t111, A210, H⟩ := H
      replace H : (some t111) = some r := H
      have A21 := Aside0.mk A210
      clear A210
      obtain rfl := Option.some.inj H
      go_enter Try.func57, Try.ntmps57
      go_wp2_with (first | ((with_reducible refine gate_dst (N := 2) rfl ?_); refine box_event ?hg (N := 2) ?hd (cs := #[.bool true, .bool a0_1]) (t := 68) ?hr ?_; (case hd => rfl); (case hg => rfl); (case hr => first | (go_simp; done) | (go_simp; rfl)); intro gb106 hg w22 hbox hb; have n0_ := Aside0.mk (below_step (by repeat (first | (with_reducible first | exact HB.out | apply below_alloc | apply pw_below_drewN | apply below_drew1) | exact HB.out)) hb); have n1_ := Aside0.mk (hbox); have n2_ := Aside0.mk ((by rw [hg]; exact (below_size (by repeat (first | (with_reducible first | exact HB.out | apply below_alloc | apply pw_below_drewN | apply below_drew1) | exact HB.out))) : w.heap.size ≤ gb106)); have n3_ := Aside0.mk ((by rw [hg]; exact (below_size (by repeat (first | (with_reducible first | exact HB.out | apply below_alloc | apply pw_below_drewN | apply below_drew1) | exact HB.out))) : w.heap.size ≤ gb106)); clear HB; have HB := n0_; have BK106 := n1_; have GW106 := n2_; have GE106 := n3_; clear n0_ n1_ n2_ n3_; clear hb hbox hg; have hcz23_0 : w22.cell? ⟨gb106, 0, none⟩ = some (.bool true) := (blk_cell BK106.out 0).trans rfl; have hcz23_1 : w22.cell? ⟨gb106, 1, none⟩ = some (.bool a0_1) := (blk_cell BK106.out 1).trans rfl; have hfz23_0 := blk_frozen BK106.out 0; have hfz23_1 := blk_frozen BK106.out 1) | ((with_reducible refine gate_callee (f := 95) rfl ?_); refine goesL_ (some 35) rfl rfl Try.func95 (by kernel_rfl) rfl #[.bool false] rfl (by (try simp only [List.map_toArray, List.map_cons, List.map_nil]); first | done | rfl | (simp only [List.length_drop, List.length_take]; rfl)) ?_; (with_reducible refine (word_truth.calls false t111 _ A21.out).mono ?_); rintro e w' ⟨rfl, ⟨nd, rfl⟩⟩; refine ⟨_, rfl, ?_⟩))
      go_ret
      exact ⟨by first | rfl | (simp [errW_none, errW_some] <;> rfl) | (simp [*, errW_none, errW_some] <;> rfl), by repeat (first | (with_reducible first | exact HB.out | apply below_alloc | apply pw_below_drewN | apply below_drew1 | refine below_set ?_ GE106.out) | exact HB.out)⟩
     ·replace c20 := Bool.eq_false_iff.mpr c20
      subst c20
      have H1 : ((word_truth.f (!a0_1)).bind fun t112 => (some t112)) = some r := by rw [if_neg (show ¬ (false = true) by decide)] at H; exact H
      clear H
      have H := H1
      clear H1
      replace H := Option.bind_eq_some_iff.mp H
      obtain ⟨t112, A240, H⟩ := H
      replace H : (some t112) = some r := H
      have A24 := Aside0.mk A240
      clear A240
      obtain rfl := Option.some.inj H
      go_enter Try.func57, Try.ntmps57
      go_wp2_with (first | ((with_reducible refine gate_dst (N := 2) rfl ?_); refine box_event ?hg (N := 2) ?hd (cs := #[.bool false, .bool a0_1]) (t := 68) ?hr ?_; (case hd => rfl); (case hg => rfl); (case hr => first | (go_simp; done) | (go_simp; rfl)); intro gb106 hg w25 hbox hb; have n0_ := Aside0.mk (below_step (by repeat (first | (with_reducible first | exact HB.out | apply below_alloc | apply pw_below_drewN | apply below_drew1) | exact HB.out)) hb); have n1_ := Aside0.mk (hbox); have n2_ := Aside0.mk ((by rw [hg]; exact (below_size (by repeat (first | (with_reducible first | exact HB.out | apply below_alloc | apply pw_below_drewN | apply below_drew1) | exact HB.out))) : w.heap.size ≤ gb106)); have n3_ := Aside0.mk ((by rw [hg]; exact (below_size (by repeat (first | (with_reducible first | exact HB.out | apply below_alloc | apply pw_below_drewN | apply below_drew1) | exact HB.out))) : w.heap.size ≤ gb106)); clear HB; have HB := n0_; have BK106 := n1_; have GW106 := n2_; have GE106 := n3_; clear n0_ n1_ n2_ n3_; clear hb hbox hg; have hcz26_0 : w25.cell? ⟨gb106, 0, none⟩ = some (.bool false) := (blk_cell BK106.out 0).trans rfl; have hcz26_1 : w25.cell? ⟨gb106, 1, none⟩ = some (.bool a0_1) := (blk_cell BK106.out 1).trans rfl; have hfz26_0 := blk_frozen BK106.out 0; have hfz26_1 := blk_frozen BK106.out 1) | ((with_reducible refine gate_callee (f := 95) rfl ?_); refine goesL_ (some 35) rfl rfl Try.func95 (by kernel_rfl) rfl #[.bool (!a0_1)] rfl (by (try simp only [List.map_toArray, List.map_cons, List.map_nil]); first | done | rfl | (simp only [List.length_drop, List.length_take]; rfl)) ?_; (with_reducible refine (word_truth.calls (!a0_1) t112 _ A24.out).mono ?_); rintro e w' ⟨rfl, ⟨nd, rfl⟩⟩; refine ⟨_, rfl, ?_⟩))
      go_ret
      exact ⟨by first | rfl | (simp [errW_none, errW_some] <;> rfl) | (simp [*, errW_none, errW_some] <;> rfl), by repeat (first | (with_reducible first | exact HB.out | apply below_alloc | apply pw_below_drewN | apply below_drew1 | refine below_set ?_ GE106.out) | exact HB.out)⟩
    ·rw [if_neg c19] at H
     have c19b0 : (a1 == 15) = false := beq_eq_false_iff_ne.mpr c19
     have c19b1 : (a1 != 15) = true := bne_iff_ne.mpr c19
     by_cases c27 : a1 = 16
     ·rw [if_pos c27] at H
      have c27b0 : (a1 == 16) = true := beq_iff_eq.mpr c27
      have c27b1 : (a1 != 16) = false := bne_eq_false_iff_eq.mpr c27
      clear c27
      replace H := Option.bind_eq_some_iff.mp H
      obtain ⟨t113, A280, H⟩ := H
      replace H : (some t113) = some r := H
      have A28 := Aside0.mk A280
      clear A280
      obtain rfl := Option.some.inj H
      go_enter Try.func57, Try.ntmps57
      go_wp2_with (first | ((with_reducible refine gate_dst (N := 2) rfl ?_); refine box_event ?hg (N := 2) ?hd (cs := #[.bool a0_0, .bool a0_1]) (t := 68) ?hr ?_; (case hd => rfl); (case hg => rfl); (case hr => first | (go_simp; done) | (go_simp; rfl)); intro gb106 hg w29 hbox hb; have n0_ := Aside0.mk (below_step (by repeat (first | (with_reducible first | exact HB.out | apply below_alloc | apply pw_below_drewN | apply below_drew1) | exact HB.out)) hb); have n1_ := Aside0.mk (hbox); have n2_ := Aside0.mk ((by rw [hg]; exact (below_size (by repeat (first | (with_reducible first | exact HB.out | apply below_alloc | apply pw_below_drewN | apply below_drew1) | exact HB.out))) : w.heap.size ≤ gb106)); have n3_ := Aside0.mk ((by rw [hg]; exact (below_size (by repeat (first | (with_reducible first | exact HB.out | apply below_alloc | apply pw_below_drewN | apply below_drew1) | exact HB.out))) : w.heap.size ≤ gb106)); clear HB; have HB := n0_; have BK106 := n1_; have GW106 := n2_; have GE106 := n3_; clear n0_ n1_ n2_ n3_; clear hb hbox hg; have hcz30_0 : w29.cell? ⟨gb106, 0, none⟩ = some (.bool a0_0) := (blk_cell BK106.out 0).trans rfl; have hcz30_1 : w29.cell? ⟨gb106, 1, none⟩ = some (.bool a0_1) := (blk_cell BK106.out 1).trans rfl; have hfz30_0 := blk_frozen BK106.out 0; have hfz30_1 := blk_frozen BK106.out 1) | ((with_reducible refine gate_callee (f := 95) rfl ?_); refine goesL_ (some 41) rfl rfl Try.func95 (by kernel_rfl) rfl #[.bool (!a0_0)] rfl (by (try simp only [List.map_toArray, List.map_cons, List.map_nil]); first | done | rfl | (simp only [List.length_drop, List.length_take]; rfl)) ?_; (with_reducible refine (word_truth.calls (!a0_0) t113 _ A28.out).mono ?_); rintro e w' ⟨rfl, ⟨nd, rfl⟩⟩; refine ⟨_, rfl, ?_⟩))
      go_ret
      exact ⟨by first | rfl | (simp [errW_none, errW_some] <;> rfl) | (simp [*, errW_none, errW_some] <;> rfl), by repeat (first | (with_reducible first | exact HB.out | apply below_alloc | apply pw_below_drewN | apply below_drew1 | refine below_set ?_ GE106.out) | exact HB.out)⟩
     ·rw [if_neg c27] at H
      have c27b0 : (a1 == 16) = false := beq_eq_false_iff_ne.mpr c27
      have c27b1 : (a1 != 16) = true := bne_iff_ne.mpr c27
      replace H := Option.bind_eq_some_iff.mp H
      obtain ⟨t114, A310, H⟩ := H
      replace H : (some t114) = some r := H
      have A31 := Aside0.mk A310
      clear A310
      obtain rfl := Option.some.inj H
      go_enter Try.func57, Try.ntmps57
      go_wp2_with (first | ((with_reducible refine gate_dst (N := 2) rfl ?_); refine box_event ?hg (N := 2) ?hd (cs := #[.bool a0_0, .bool a0_1]) (t := 68) ?hr ?_; (case hd => rfl); (case hg => rfl); (case hr => first | (go_simp; done) | (go_simp; rfl)); intro gb106 hg w32 hbox hb; have n0_ := Aside0.mk (below_step (by repeat (first | (with_reducible first | exact HB.out | apply below_alloc | apply pw_below_drewN | apply below_drew1) | exact HB.out)) hb); have n1_ := Aside0.mk (hbox); have n2_ := Aside0.mk ((by rw [hg]; exact (below_size (by repeat (first | (with_reducible first | exact HB.out | apply below_alloc | apply pw_below_drewN | apply below_drew1) | exact HB.out))) : w.heap.size ≤ gb106)); have n3_ := Aside0.mk ((by rw [hg]; exact (below_size (by repeat (first | (with_reducible first | exact HB.out | apply below_alloc | apply pw_below_drewN | apply below_drew1) | exact HB.out))) : w.heap.size ≤ gb106)); clear HB; have HB := n0_; have BK106 := n1_; have GW106 := n2_; have GE106 := n3_; clear n0_ n1_ n2_ n3_; clear hb hbox hg; have hcz33_0 : w32.cell? ⟨gb106, 0, none⟩ = some (.bool a0_0) := (blk_cell BK106.out 0).trans rfl; have hcz33_1 : w32.cell? ⟨gb106, 1, none⟩ = some (.bool a0_1) := (blk_cell BK106.out 1).trans rfl; have hfz33_0 := blk_frozen BK106.out 0; have hfz33_1 := blk_frozen BK106.out 1) | ((with_reducible refine gate_callee (f := 95) rfl ?_); refine goesL_ (some 45) rfl rfl Try.func95 (by kernel_rfl) rfl #[.bool (!a0_1)] rfl (by (try simp only [List.map_toArray, List.map_cons, List.map_nil]); first | done | rfl | (simp only [List.length_drop, List.length_take]; rfl)) ?_; (with_reducible refine (word_truth.calls (!a0_1) t114 _ A31.out).mono ?_); rintro e w' ⟨rfl, ⟨nd, rfl⟩⟩; refine ⟨_, rfl, ?_⟩))
      go_ret
      exact ⟨by first | rfl | (simp [errW_none, errW_some] <;> rfl) | (simp [*, errW_none, errW_some] <;> rfl), by repeat (first | (with_reducible first | exact HB.out | apply below_alloc | apply pw_below_drewN | apply below_drew1 | refine below_set ?_ GE106.out) | exact HB.out)⟩

/-! ### math_IsNaN: function 94 -/
def math_IsNaN.f (a0 : Nat) : Option (Bool) := some (FloatKind.f64.format.order a0 a0 != some .eq)
set_option maxHeartbeats 8000000 in
set_option maxRecDepth 100000 in
theorem math_IsNaN.calls (a0 : Nat) (r : Bool) (w : World) (h : math_IsNaN.f a0 = some r) :
  Calls Try.prog 94 #[.float .f64 a0] w fun e w' => e = .returned (.bool r) ∧ Drawn0 w w' := by
 have H : (some (FloatKind.f64.format.order a0 a0 != some .eq)) = some r := h
 clear h
 obtain rfl := Option.some.inj H
 go_enter Try.func94, Try.ntmps94
 go_wp2
 go_ret
 exact ⟨by first | rfl | (simp; done) | (simp [*]; done), by repeat (first | exact Drawn0.refl _ | apply Drawn0.step)⟩

/-! ### word_floats: function 56 -/
def word_floats.f (a0 a1 a2 : Int) : Option Int := some (Fl.progF a0 a1.toNat a2.toNat)
theorem word_order_says.f_eq (l s : Bool) (op : Int) : word_order_says.f l s op = some (Fl.saysF l s op) := by
 unfold word_order_says.f Fl.saysF word_truth.f Fl.tr
 by_cases h1 : op = 11
 ·subst h1; cases l <;> cases s <;> rfl
 rw [if_neg h1, if_neg h1]
 by_cases h2 : op = 13
 ·subst h2; cases l <;> cases s <;> rfl
 rw [if_neg h2, if_neg h2]
 by_cases h3 : op = 14
 ·subst h3; cases l <;> cases s <;> rfl
 rw [if_neg h3, if_neg h3]
 by_cases h4 : op = 15
 ·subst h4; cases l <;> cases s <;> rfl
 rw [if_neg h4, if_neg h4]
 by_cases h5 : op = 16
 ·subst h5; cases l <;> cases s <;> rfl
 rw [if_neg h5, if_neg h5]
 cases l <;> cases s <;> rfl
set_option maxHeartbeats 8000000 in
set_option maxRecDepth 100000 in
theorem word_floats.calls (a0 a1 a2 : Int) (r : Int) (w : World) (h : word_floats.f a0 a1 a2 = some r) :
  Calls Try.prog 56 #[.int .i64 a0, .int .u64 a1, .int .u64 a2] w fun e w' => e = .returned (.int .u64 r) ∧ Below w.heap.size w w' := by
 obtain rfl : Fl.progF a0 a1.toNat a2.toNat = r := Option.some.inj h
 clear h
 have hfb := Fl.frombits
 have htb := Fl.tobits
 have hcv : ∀ (b : Nat) (w : World), (convert 63 63 (.float .f64 b)).run Try.prog w = .ok (.float .f64 b) w := fun b w => run_convert_float_float (P := Try.prog) w 63 63 .f64 .f64 b b (by kernel_rfl) Try.underlying63 rfl
 unfold Fl.progF Fl.ord
 have hu68 := Try.underlying68
 by_cases hc : a0 ≥ 11
 ·have hcb : decide (11 ≤ a0) = true := decide_eq_true hc
  rw [if_pos hc]
  clear hc
  obtain ⟨p, hp⟩ : ∃ p : Bool, p = (FloatKind.f64.format.order a1.toNat a1.toNat != some .eq) := ⟨_, rfl⟩
  obtain ⟨q, hq⟩ : ∃ q : Bool, q = (FloatKind.f64.format.order a2.toNat a2.toNat != some .eq) := ⟨_, rfl⟩
  rw [← hp, ← hq]
  cases p with
  | true =>
   simp only [Bool.true_or, if_true]
   have hp' := hp.symm
   clear hp hq
   go_enter Try.func56, Try.ntmps56
   go_wp2_with (first | (go_at_call 94; refine (Fl.isNaN_calls _ _).mono ?_; rintro e w' ⟨rfl, rfl⟩) | (go_at_call 95; refine (Fl.truth95 _ _).mono ?_; rintro e w' ⟨rfl, rfl⟩))
   go_ret
   exact ⟨rfl, Below.refl _ _⟩
  | false =>
   cases q with
   | true =>
    simp only [Bool.false_or, if_true]
    have hp' := hp.symm
    have hq' := hq.symm
    clear hp hq
    go_enter Try.func56, Try.ntmps56
    go_wp2_with (first | (go_at_call 94; refine (Fl.isNaN_calls _ _).mono ?_; rintro e w' ⟨rfl, rfl⟩) | (go_at_call 95; refine (Fl.truth95 _ _).mono ?_; rintro e w' ⟨rfl, rfl⟩))
    go_ret
    exact ⟨rfl, Below.refl _ _⟩
   | false =>
    simp only [Bool.false_or, Bool.false_eq_true, if_false]
    have hp' := hp.symm
    have hq' := hq.symm
    clear hp hq
    go_enter Try.func56, Try.ntmps56
    go_wp2_with (first | (go_at_call 94; refine (Fl.isNaN_calls _ _).mono ?_; rintro e w' ⟨rfl, rfl⟩) | (go_at_call 57; refine (word_order_says.calls _ _ _ _ _ (word_order_says.f_eq _ _ _)).mono ?_; rintro e w' ⟨rfl, hb⟩))
    go_ret
    exact ⟨rfl, hb⟩
 ·have hcb : decide (11 ≤ a0) = false := decide_eq_false hc
  rw [if_neg hc]
  clear hc
  by_cases h2 : a0 = 2
  ·subst h2
   simp only [if_true, Int.reduceEq, if_false]
   obtain ⟨k1, V1, hr1, hc1⟩ := Fl.run_ar .add (.inl rfl) 63 a1.toNat a2.toNat
   clear hc1
   obtain ⟨k, V, hr, hc⟩ := Fl.run_ar .sub (.inr (.inl rfl)) 63 a1.toNat a2.toNat
   have hc' := hc (w.drewN k1)
   clear hc
   obtain ⟨p, hp⟩ : ∃ p : Bool, p = (FloatKind.f64.format.order (V (w.drewN k1)) (V (w.drewN k1)) != some .eq) := ⟨_, rfl⟩
   cases p with
   | true =>
    have hp' := hp.symm
    rw [Fl.clean_yes hp'] at hc'
    rw [← hc']
    clear hp hc'
    go_enter Try.func56, Try.ntmps56
    go_wp2_with (first | (go_at_call 94; refine (Fl.isNaN_calls _ _).mono ?_; rintro e w' ⟨rfl, rfl⟩))
    go_ret
    exact ⟨rfl, by first | exact pw_below_drewN (pw_below_drewN (Below.refl _ _) k1) k | exact pw_below_drewN (Below.refl _ _) _⟩
   | false =>
    have hp' := hp.symm
    rw [Fl.clean_no hp'] at hc'
    rw [← hc']
    clear hp hc'
    go_enter Try.func56, Try.ntmps56
    go_wp2_with (first | (go_at_call 94; refine (Fl.isNaN_calls _ _).mono ?_; rintro e w' ⟨rfl, rfl⟩))
    go_ret
    exact ⟨rfl, by first | exact pw_below_drewN (pw_below_drewN (Below.refl _ _) k1) k | exact pw_below_drewN (Below.refl _ _) _⟩
  have b2 : (a0 == 2) = false := beq_eq_false_iff_ne.mpr h2
  by_cases h3 : a0 = 3
  ·subst h3
   simp only [if_true, Int.reduceEq, if_false]
   obtain ⟨k1, V1, hr1, hc1⟩ := Fl.run_ar .add (.inl rfl) 63 a1.toNat a2.toNat
   clear hc1
   obtain ⟨k, V, hr, hc⟩ := Fl.run_ar .mul (.inr (.inr (.inl rfl))) 63 a1.toNat a2.toNat
   have hc' := hc (w.drewN k1)
   clear hc
   obtain ⟨p, hp⟩ : ∃ p : Bool, p = (FloatKind.f64.format.order (V (w.drewN k1)) (V (w.drewN k1)) != some .eq) := ⟨_, rfl⟩
   cases p with
   | true =>
    have hp' := hp.symm
    rw [Fl.clean_yes hp'] at hc'
    rw [← hc']
    clear hp hc'
    go_enter Try.func56, Try.ntmps56
    go_wp2_with (first | (go_at_call 94; refine (Fl.isNaN_calls _ _).mono ?_; rintro e w' ⟨rfl, rfl⟩))
    go_ret
    exact ⟨rfl, by first | exact pw_below_drewN (pw_below_drewN (Below.refl _ _) k1) k | exact pw_below_drewN (Below.refl _ _) _⟩
   | false =>
    have hp' := hp.symm
    rw [Fl.clean_no hp'] at hc'
    rw [← hc']
    clear hp hc'
    go_enter Try.func56, Try.ntmps56
    go_wp2_with (first | (go_at_call 94; refine (Fl.isNaN_calls _ _).mono ?_; rintro e w' ⟨rfl, rfl⟩))
    go_ret
    exact ⟨rfl, by first | exact pw_below_drewN (pw_below_drewN (Below.refl _ _) k1) k | exact pw_below_drewN (Below.refl _ _) _⟩
  have b3 : (a0 == 3) = false := beq_eq_false_iff_ne.mpr h3
  by_cases h4 : a0 = 4
  ·subst h4
   simp only [if_true, Int.reduceEq, if_false]
   obtain ⟨k1, V1, hr1, hc1⟩ := Fl.run_ar .add (.inl rfl) 63 a1.toNat a2.toNat
   clear hc1
   obtain ⟨k, V, hr, hc⟩ := Fl.run_ar .quo (.inr (.inr (.inr rfl))) 63 a1.toNat a2.toNat
   have hc' := hc (w.drewN k1)
   clear hc
   obtain ⟨p, hp⟩ : ∃ p : Bool, p = (FloatKind.f64.format.order (V (w.drewN k1)) (V (w.drewN k1)) != some .eq) := ⟨_, rfl⟩
   cases p with
   | true =>
    have hp' := hp.symm
    rw [Fl.clean_yes hp'] at hc'
    rw [← hc']
    clear hp hc'
    go_enter Try.func56, Try.ntmps56
    go_wp2_with (first | (go_at_call 94; refine (Fl.isNaN_calls _ _).mono ?_; rintro e w' ⟨rfl, rfl⟩))
    go_ret
    exact ⟨rfl, by first | exact pw_below_drewN (pw_below_drewN (Below.refl _ _) k1) k | exact pw_below_drewN (Below.refl _ _) _⟩
   | false =>
    have hp' := hp.symm
    rw [Fl.clean_no hp'] at hc'
    rw [← hc']
    clear hp hc'
    go_enter Try.func56, Try.ntmps56
    go_wp2_with (first | (go_at_call 94; refine (Fl.isNaN_calls _ _).mono ?_; rintro e w' ⟨rfl, rfl⟩))
    go_ret
    exact ⟨rfl, by first | exact pw_below_drewN (pw_below_drewN (Below.refl _ _) k1) k | exact pw_below_drewN (Below.refl _ _) _⟩
  have b4 : (a0 == 4) = false := beq_eq_false_iff_ne.mpr h4
  simp only [h2, h3, h4, if_false]
  clear h2 h3 h4
  obtain ⟨k, V, hr, hc⟩ := Fl.run_ar .add (.inl rfl) 63 a1.toNat a2.toNat
  have hc' := hc w
  clear hc
  obtain ⟨p, hp⟩ : ∃ p : Bool, p = (FloatKind.f64.format.order (V w) (V w) != some .eq) := ⟨_, rfl⟩
  cases p with
  | true =>
   have hp' := hp.symm
   rw [Fl.clean_yes hp'] at hc'
   rw [← hc']
   clear hp hc'
   go_enter Try.func56, Try.ntmps56
   go_wp2_with (first | (go_at_call 94; refine (Fl.isNaN_calls _ _).mono ?_; rintro e w' ⟨rfl, rfl⟩))
   go_ret
   exact ⟨rfl, by first | exact pw_below_drewN (Below.refl _ _) k | exact pw_below_drewN (Below.refl _ _) _⟩
  | false =>
   have hp' := hp.symm
   rw [Fl.clean_no hp'] at hc'
   rw [← hc']
   clear hp hc'
   go_enter Try.func56, Try.ntmps56
   go_wp2_with (first | (go_at_call 94; refine (Fl.isNaN_calls _ _).mono ?_; rintro e w' ⟨rfl, rfl⟩))
   go_ret
   exact ⟨rfl, by first | exact pw_below_drewN (Below.refl _ _) k | exact pw_below_drewN (Below.refl _ _) _⟩


/-! ### word_quotient: function 96 -/
def word_quotient.f (a0 : Int) (a1 : Int) : Option (Int × Int) := if a1 = 18446744073709551615 then (some (IntKind.u64.wrap (-a0), 0)) else (if (wrap64 (a1)) = 0 then (none) else (some (IntKind.u64.wrap (wrap64 (Int.tdiv (wrap64 (a0)) (wrap64 (a1)))), IntKind.u64.wrap (Int.tmod (wrap64 (a0)) (wrap64 (a1))))))
set_option maxHeartbeats 8000000 in
set_option maxRecDepth 100000 in
theorem word_quotient.calls (a0 : Int) (a1 : Int) (r1 : Int) (r2 : Int) (w : World) (h : word_quotient.f a0 a1 = some (r1, r2)) :
  Calls Try.prog 96 #[.int .u64 a0, .int .u64 a1] w fun e w' => e = .returned (.tuple #[.int .u64 r1, .int .u64 r2]) ∧ Drawn0 w w' := by
 have H : (if a1 = 18446744073709551615 then (some (IntKind.u64.wrap (-a0), 0)) else (if (wrap64 (a1)) = 0 then (none) else (some (IntKind.u64.wrap (wrap64 (Int.tdiv (wrap64 (a0)) (wrap64 (a1)))), IntKind.u64.wrap (Int.tmod (wrap64 (a0)) (wrap64 (a1))))))) = some (r1, r2) := h
 clear h
 by_cases c3 : a1 = 18446744073709551615
 ·rw [if_pos c3] at H
  have c3b0 : (a1 == 18446744073709551615) = true := beq_iff_eq.mpr c3
  have c3b1 : (a1 != 18446744073709551615) = false := bne_eq_false_iff_eq.mpr c3
  clear c3
  simp only [Option.some.injEq, Prod.mk.injEq] at H
  obtain ⟨rfl, rfl⟩ := H
  go_enter Try.func96, Try.ntmps96
  go_wp2
  repeat (go_quiet (fail); try go_wp2)
  go_ret2
  exact ⟨by first | rfl | (simp; done) | (simp [*]; done), by repeat (first | exact Drawn0.refl _ | apply Drawn0.step)⟩
 ·rw [if_neg c3] at H
  have c3b0 : (a1 == 18446744073709551615) = false := beq_eq_false_iff_ne.mpr c3
  have c3b1 : (a1 != 18446744073709551615) = true := bne_iff_ne.mpr c3
  by_cases c4 : (wrap64 (a1)) = 0
  ·rw [if_pos c4] at H
   exact absurd H (by simp)
  ·rw [if_neg c4] at H
   have c4b0 : ((wrap64 (a1)) == 0) = false := beq_eq_false_iff_ne.mpr c4
   have c4b1 : ((wrap64 (a1)) != 0) = true := bne_iff_ne.mpr c4
   simp only [Option.some.injEq, Prod.mk.injEq] at H
   obtain ⟨rfl, rfl⟩ := H
   go_enter Try.func96, Try.ntmps96
   go_wp2
   repeat (go_quiet (fail); try go_wp2)
   go_ret2
   exact ⟨by first | rfl | (simp; done) | (simp [*]; done), by repeat (first | exact Drawn0.refl _ | apply Drawn0.step)⟩

end Go.Proofs.Ytahepinbmcgbnaa.PA
