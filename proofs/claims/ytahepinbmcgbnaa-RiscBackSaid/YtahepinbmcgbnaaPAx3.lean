-- Printed by this session's program (wip/tools: the kit's printer, turned for this claim), out of the translation.
import Derived.Test.YtahepinbmcgbnaaPAx0
import Derived.Test.YtahepinbmcgbnaaPAx1
import Derived.Test.YtahepinbmcgbnaaPAx2
namespace Go.Proofs.Ytahepinbmcgbnaa.PA
open Go.RowKit Go.Proofs.YtahepinbmcgbnaaW.PrintWords Go.Proofs.YtahepinbmcgbnaaW.PrintLast Go.Proofs.YtahepinbmcgbnaaW.PrintMore
attribute [local go_sem] max2_int min2_int max_two min_two max_three min_three max_four min_four   -- for this text's walks alone
attribute [local go_sem] Fl.frombits Fl.tobits
set_option linter.unusedVariables false
set_option linter.unusedSimpArgs false

/-! ### word_ints: function 58 -/
def word_ints.f (a0 : Int) (a1 : Bool) (a2 : Int) (a3 : Int) : Option (Int) := if a0 = 1 then (some (IntKind.u64.wrap (a2 + a3))) else (if a0 = 2 then (some (IntKind.u64.wrap (a2 - a3))) else (if a0 = 3 then (some (IntKind.u64.wrap (a2 * a3))) else (if a0 = 6 then (some (Go.bits .and .u64 a2 a3)) else (if a0 = 7 then (some (Go.bits .or .u64 a2 a3)) else (if a0 = 8 then (some (Go.bits .xor .u64 a2 a3)) else (if a0 = 9 then (if 0 ≤ a3 then (some (shl .u64 a2 a3)) else (none)) else (if a0 = 10 then (if a1 = true then (if 0 ≤ a3 then (some (IntKind.u64.wrap (shr .i64 (wrap64 (a2)) a3))) else (none)) else (if 0 ≤ a3 then (some (shr .u64 a2 a3)) else (none))) else (if a3 = 0 then (none) else (if a1 = true then ((word_quotient.f a2 a3).bind fun bt115 => (if a0 = 4 then (some bt115.1) else (some bt115.2))) else (if a0 = 4 then (some (IntKind.u64.wrap (Int.tdiv a2 a3))) else (some (Int.tmod a2 a3))))))))))))
set_option maxHeartbeats 8000000 in
set_option maxRecDepth 100000 in
theorem word_ints.calls (a0 : Int) (a1 : Bool) (a2 : Int) (a3 : Int) (r : Int) (w : World) (h : word_ints.f a0 a1 a2 a3 = some r) :
  Calls Try.prog 58 #[.int .i64 a0, .bool a1, .int .u64 a2, .int .u64 a3] w fun e w' => e = .returned (.int .u64 r) ∧ Drawn0 w w' := by
 have H : (if a0 = 1 then (some (IntKind.u64.wrap (a2 + a3))) else (if a0 = 2 then (some (IntKind.u64.wrap (a2 - a3))) else (if a0 = 3 then (some (IntKind.u64.wrap (a2 * a3))) else (if a0 = 6 then (some (Go.bits .and .u64 a2 a3)) else (if a0 = 7 then (some (Go.bits .or .u64 a2 a3)) else (if a0 = 8 then (some (Go.bits .xor .u64 a2 a3)) else (if a0 = 9 then (if 0 ≤ a3 then (some (shl .u64 a2 a3)) else (none)) else (if a0 = 10 then (if a1 = true then (if 0 ≤ a3 then (some (IntKind.u64.wrap (shr .i64 (wrap64 (a2)) a3))) else (none)) else (if 0 ≤ a3 then (some (shr .u64 a2 a3)) else (none))) else (if a3 = 0 then (none) else (if a1 = true then ((word_quotient.f a2 a3).bind fun bt115 => (if a0 = 4 then (some bt115.1) else (some bt115.2))) else (if a0 = 4 then (some (IntKind.u64.wrap (Int.tdiv a2 a3))) else (some (Int.tmod a2 a3))))))))))))) = some r := h
 clear h
 by_cases c5 : a0 = 1
 ·rw [if_pos c5] at H
  have c5b0 : (a0 == 1) = true := beq_iff_eq.mpr c5
  have c5b1 : (a0 != 1) = false := bne_eq_false_iff_eq.mpr c5
  clear c5
  obtain rfl := Option.some.inj H
  go_enter Try.func58, Try.ntmps58
  go_wp2
  repeat (go_quiet (fail); try go_wp2)
  go_ret
  exact ⟨by first | rfl | (simp; done) | (simp [*]; done), by repeat (first | exact Drawn0.refl _ | apply Drawn0.step)⟩
 ·rw [if_neg c5] at H
  have c5b0 : (a0 == 1) = false := beq_eq_false_iff_ne.mpr c5
  have c5b1 : (a0 != 1) = true := bne_iff_ne.mpr c5
  by_cases c6 : a0 = 2
  ·rw [if_pos c6] at H
   have c6b0 : (a0 == 2) = true := beq_iff_eq.mpr c6
   have c6b1 : (a0 != 2) = false := bne_eq_false_iff_eq.mpr c6
   clear c6
   obtain rfl := Option.some.inj H
   go_enter Try.func58, Try.ntmps58
   go_wp2
   repeat (go_quiet (fail); try go_wp2)
   go_ret
   exact ⟨by first | rfl | (simp; done) | (simp [*]; done), by repeat (first | exact Drawn0.refl _ | apply Drawn0.step)⟩
  ·rw [if_neg c6] at H
   have c6b0 : (a0 == 2) = false := beq_eq_false_iff_ne.mpr c6
   have c6b1 : (a0 != 2) = true := bne_iff_ne.mpr c6
   by_cases c7 : a0 = 3
   ·rw [if_pos c7] at H
    have c7b0 : (a0 == 3) = true := beq_iff_eq.mpr c7
    have c7b1 : (a0 != 3) = false := bne_eq_false_iff_eq.mpr c7
    clear c7
    obtain rfl := Option.some.inj H
    go_enter Try.func58, Try.ntmps58
    go_wp2
    repeat (go_quiet (fail); try go_wp2)
    go_ret
    exact ⟨by first | rfl | (simp; done) | (simp [*]; done), by repeat (first | exact Drawn0.refl _ | apply Drawn0.step)⟩
   ·rw [if_neg c7] at H
    have c7b0 : (a0 == 3) = false := beq_eq_false_iff_ne.mpr c7
    have c7b1 : (a0 != 3) = true := bne_iff_ne.mpr c7
    by_cases c8 : a0 = 6
    ·rw [if_pos c8] at H
     have c8b0 : (a0 == 6) = true := beq_iff_eq.mpr c8
     have c8b1 : (a0 != 6) = false := bne_eq_false_iff_eq.mpr c8
     clear c8
     obtain rfl := Option.some.inj H
     go_enter Try.func58, Try.ntmps58
     go_wp2
     repeat (go_quiet (fail); try go_wp2)
     go_ret
     exact ⟨by first | rfl | (simp; done) | (simp [*]; done), by repeat (first | exact Drawn0.refl _ | apply Drawn0.step)⟩
    ·rw [if_neg c8] at H
     have c8b0 : (a0 == 6) = false := beq_eq_false_iff_ne.mpr c8
     have c8b1 : (a0 != 6) = true := bne_iff_ne.mpr c8
     by_cases c9 : a0 = 7
     ·rw [if_pos c9] at H
      have c9b0 : (a0 == 7) = true := beq_iff_eq.mpr c9
      have c9b1 : (a0 != 7) = false := bne_eq_false_iff_eq.mpr c9
      clear c9
      obtain rfl := Option.some.inj H
      go_enter Try.func58, Try.ntmps58
      go_wp2
      repeat (go_quiet (fail); try go_wp2)
      go_ret
      exact ⟨by first | rfl | (simp; done) | (simp [*]; done), by repeat (first | exact Drawn0.refl _ | apply Drawn0.step)⟩
     ·rw [if_neg c9] at H
      have c9b0 : (a0 == 7) = false := beq_eq_false_iff_ne.mpr c9
      have c9b1 : (a0 != 7) = true := bne_iff_ne.mpr c9
      by_cases c10 : a0 = 8
      ·rw [if_pos c10] at H
       have c10b0 : (a0 == 8) = true := beq_iff_eq.mpr c10
       have c10b1 : (a0 != 8) = false := bne_eq_false_iff_eq.mpr c10
       clear c10
       obtain rfl := Option.some.inj H
       go_enter Try.func58, Try.ntmps58
       go_wp2
       repeat (go_quiet (fail); try go_wp2)
       go_ret
       exact ⟨by first | rfl | (simp; done) | (simp [*]; done), by repeat (first | exact Drawn0.refl _ | apply Drawn0.step)⟩
      ·rw [if_neg c10] at H
       have c10b0 : (a0 == 8) = false := beq_eq_false_iff_ne.mpr c10
       have c10b1 : (a0 != 8) = true := bne_iff_ne.mpr c10
       by_cases c11 : a0 = 9
       ·rw [if_pos c11] at H
        have c11b0 : (a0 == 9) = true := beq_iff_eq.mpr c11
        have c11b1 : (a0 != 9) = false := bne_eq_false_iff_eq.mpr c11
        clear c11
        by_cases c12 : 0 ≤ a3
        ·rw [if_pos c12] at H
         have c12b0 := eq_true c12
         have c12b1 : decide (0 ≤ a3) = true := decide_eq_true c12
         clear c12
         obtain ⟨ji13, hji13⟩ : ∃ j_ : Int, (shl .u64 a2 a3) = j_ := ⟨_, rfl⟩
         replace H : (some ji13) = some r := by first | (rw [hji13] at H; exact H) | (simp only [hji13] at H ⊢; exact H)
         have hji13_ : (IntKind.u64.wrap (a2 * 2 ^ min a3.toNat 64)) = ji13 := hji13
         have hji13z : a3 ≤ 64 → (IntKind.u64.wrap (a2 * 2 ^ a3.toNat)) = ji13 := shl_small hji13
         obtain rfl := Option.some.inj H
         go_enter Try.func58, Try.ntmps58
         go_wp2
         repeat (go_quiet (fail); try go_wp2)
         go_ret
         exact ⟨by first | rfl | (simp; done) | (simp only [← hji13] <;> (first | rfl | simp)) | (simp [*]; done), by repeat (first | exact Drawn0.refl _ | apply Drawn0.step)⟩
        ·rw [if_neg c12] at H
         exact absurd H (by simp)
       ·rw [if_neg c11] at H
        have c11b0 : (a0 == 9) = false := beq_eq_false_iff_ne.mpr c11
        have c11b1 : (a0 != 9) = true := bne_iff_ne.mpr c11
        by_cases c14 : a0 = 10
        ·rw [if_pos c14] at H
         have c14b0 : (a0 == 10) = true := beq_iff_eq.mpr c14
         have c14b1 : (a0 != 10) = false := bne_eq_false_iff_eq.mpr c14
         clear c14
         by_cases c15 : a1 = true
         ·subst c15
          have H1 : (if 0 ≤ a3 then (some (IntKind.u64.wrap (shr .i64 (wrap64 (a2)) a3))) else (none)) = some r := by rw [if_pos rfl] at H; exact H
          clear H
          have H := H1
          clear H1
          by_cases c16 : 0 ≤ a3
          ·rw [if_pos c16] at H
           have c16b0 := eq_true c16
           have c16b1 : decide (0 ≤ a3) = true := decide_eq_true c16
           clear c16
           obtain ⟨ji17, hji17⟩ : ∃ j_ : Int, (shr .i64 (wrap64 (a2)) a3) = j_ := ⟨_, rfl⟩
           replace H : (some (IntKind.u64.wrap (ji17))) = some r := by first | (rw [hji17] at H; exact H) | (simp only [hji17] at H ⊢; exact H)
           have hji17_ : ((wrap64 (a2)) / 2 ^ min a3.toNat 64) = ji17 := hji17
           have hji17z : a3 ≤ 64 → ((wrap64 (a2)) / 2 ^ a3.toNat) = ji17 := shr_small hji17
           obtain rfl := Option.some.inj H
           go_enter Try.func58, Try.ntmps58
           go_wp2
           repeat (go_quiet (fail); try go_wp2)
           go_ret
           exact ⟨by first | rfl | (simp; done) | (simp only [← hji17] <;> (first | rfl | simp)) | (simp [*]; done), by repeat (first | exact Drawn0.refl _ | apply Drawn0.step)⟩
          ·rw [if_neg c16] at H
           exact absurd H (by simp)
         ·replace c15 := Bool.eq_false_iff.mpr c15
          subst c15
          have H1 : (if 0 ≤ a3 then (some (shr .u64 a2 a3)) else (none)) = some r := by rw [if_neg (show ¬ (false = true) by decide)] at H; exact H
          clear H
          have H := H1
          clear H1
          by_cases c18 : 0 ≤ a3
          ·rw [if_pos c18] at H
           have c18b0 := eq_true c18
           have c18b1 : decide (0 ≤ a3) = true := decide_eq_true c18
           clear c18
           obtain ⟨ji19, hji19⟩ : ∃ j_ : Int, (shr .u64 a2 a3) = j_ := ⟨_, rfl⟩
           replace H : (some ji19) = some r := by first | (rw [hji19] at H; exact H) | (simp only [hji19] at H ⊢; exact H)
           have hji19_ : (a2 / 2 ^ min a3.toNat 64) = ji19 := hji19
           have hji19z : a3 ≤ 64 → (a2 / 2 ^ a3.toNat) = ji19 := shr_small hji19
           obtain rfl := Option.some.inj H
           go_enter Try.func58, Try.ntmps58
           go_wp2
           repeat (go_quiet (fail); try go_wp2)
           go_ret
           exact ⟨by first | rfl | (simp; done) | (simp only [← hji19] <;> (first | rfl | simp)) | (simp [*]; done), by repeat (first | exact Drawn0.refl _ | apply Drawn0.step)⟩
          ·rw [if_neg c18] at H
           exact absurd H (by simp)
        ·rw [if_neg c14] at H
         have c14b0 : (a0 == 10) = false := beq_eq_false_iff_ne.mpr c14
         have c14b1 : (a0 != 10) = true := bne_iff_ne.mpr c14
         by_cases c20 : a3 = 0
         ·rw [if_pos c20] at H
          exact absurd H (by simp)
         ·rw [if_neg c20] at H
          have c20b0 : (a3 == 0) = false := beq_eq_false_iff_ne.mpr c20
          have c20b1 : (a3 != 0) = true := bne_iff_ne.mpr c20
          by_cases c21 : a1 = true
          ·subst c21
           have H1 : ((word_quotient.f a2 a3).bind fun bt115 => (if a0 = 4 then (some bt115.1) else (some bt115.2))) = some r := by rw [if_pos rfl] at H; exact H
           clear H
           have H := H1
           clear H1
           replace H := Option.bind_eq_some_iff.mp H
           obtain ⟨⟨t115, t116⟩, A220, H⟩ := H
           replace H : (if a0 = 4 then (some t115) else (some t116)) = some r := H
           have A22 := Aside0.mk A220
           clear A220
           by_cases c23 : a0 = 4
           ·rw [if_pos c23] at H
            have c23b0 : (a0 == 4) = true := beq_iff_eq.mpr c23
            have c23b1 : (a0 != 4) = false := bne_eq_false_iff_eq.mpr c23
            clear c23
            obtain rfl := Option.some.inj H
            go_enter Try.func58, Try.ntmps58
            go_wp2_with (first | (go_at_call 96; (with_reducible refine (word_quotient.calls a2 a3 t115 t116 _ A22.out).mono ?_); rintro e w' ⟨rfl, ⟨nd, rfl⟩⟩; (try first | exact ⟨rfl, _, World.drewN_drewN _ _ _⟩ | exact ⟨rfl, _, Eq.trans (World.drewN_drewN _ _ _) (congrArg (World.drewN _) (Nat.add_assoc _ _ _))⟩)))
            repeat (go_quiet (first | (go_at_call 96; (with_reducible refine (word_quotient.calls a2 a3 t115 t116 _ A22.out).mono ?_); rintro e w' ⟨rfl, ⟨nd, rfl⟩⟩; (try first | exact ⟨rfl, _, World.drewN_drewN _ _ _⟩ | exact ⟨rfl, _, Eq.trans (World.drewN_drewN _ _ _) (congrArg (World.drewN _) (Nat.add_assoc _ _ _))⟩))); try go_wp2_with (first | (go_at_call 96; (with_reducible refine (word_quotient.calls a2 a3 t115 t116 _ A22.out).mono ?_); rintro e w' ⟨rfl, ⟨nd, rfl⟩⟩; (try first | exact ⟨rfl, _, World.drewN_drewN _ _ _⟩ | exact ⟨rfl, _, Eq.trans (World.drewN_drewN _ _ _) (congrArg (World.drewN _) (Nat.add_assoc _ _ _))⟩))))
            go_ret
            exact ⟨by first | rfl | (simp; done) | (simp [*]; done), by repeat (first | exact Drawn0.refl _ | apply Drawn0.step)⟩
           ·rw [if_neg c23] at H
            have c23b0 : (a0 == 4) = false := beq_eq_false_iff_ne.mpr c23
            have c23b1 : (a0 != 4) = true := bne_iff_ne.mpr c23
            obtain rfl := Option.some.inj H
            go_enter Try.func58, Try.ntmps58
            go_wp2_with (first | (go_at_call 96; (with_reducible refine (word_quotient.calls a2 a3 t115 t116 _ A22.out).mono ?_); rintro e w' ⟨rfl, ⟨nd, rfl⟩⟩; (try first | exact ⟨rfl, _, World.drewN_drewN _ _ _⟩ | exact ⟨rfl, _, Eq.trans (World.drewN_drewN _ _ _) (congrArg (World.drewN _) (Nat.add_assoc _ _ _))⟩)))
            repeat (go_quiet (first | (go_at_call 96; (with_reducible refine (word_quotient.calls a2 a3 t115 t116 _ A22.out).mono ?_); rintro e w' ⟨rfl, ⟨nd, rfl⟩⟩; (try first | exact ⟨rfl, _, World.drewN_drewN _ _ _⟩ | exact ⟨rfl, _, Eq.trans (World.drewN_drewN _ _ _) (congrArg (World.drewN _) (Nat.add_assoc _ _ _))⟩))); try go_wp2_with (first | (go_at_call 96; (with_reducible refine (word_quotient.calls a2 a3 t115 t116 _ A22.out).mono ?_); rintro e w' ⟨rfl, ⟨nd, rfl⟩⟩; (try first | exact ⟨rfl, _, World.drewN_drewN _ _ _⟩ | exact ⟨rfl, _, Eq.trans (World.drewN_drewN _ _ _) (congrArg (World.drewN _) (Nat.add_assoc _ _ _))⟩))))
            go_ret
            exact ⟨by first | rfl | (simp; done) | (simp [*]; done), by repeat (first | exact Drawn0.refl _ | apply Drawn0.step)⟩
          ·replace c21 := Bool.eq_false_iff.mpr c21
           subst c21
           have H1 : (if a0 = 4 then (some (IntKind.u64.wrap (Int.tdiv a2 a3))) else (some (Int.tmod a2 a3))) = some r := by rw [if_neg (show ¬ (false = true) by decide)] at H; exact H
           clear H
           have H := H1
           clear H1
           by_cases c24 : a0 = 4
           ·rw [if_pos c24] at H
            have c24b0 : (a0 == 4) = true := beq_iff_eq.mpr c24
            have c24b1 : (a0 != 4) = false := bne_eq_false_iff_eq.mpr c24
            clear c24
            obtain rfl := Option.some.inj H
            go_enter Try.func58, Try.ntmps58
            go_wp2
            repeat (go_quiet (fail); try go_wp2)
            go_ret
            exact ⟨by first | rfl | (simp; done) | (simp [*]; done), by repeat (first | exact Drawn0.refl _ | apply Drawn0.step)⟩
           ·rw [if_neg c24] at H
            have c24b0 : (a0 == 4) = false := beq_eq_false_iff_ne.mpr c24
            have c24b1 : (a0 != 4) = true := bne_iff_ne.mpr c24
            obtain rfl := Option.some.inj H
            go_enter Try.func58, Try.ntmps58
            go_wp2
            repeat (go_quiet (fail); try go_wp2)
            go_ret
            exact ⟨by first | rfl | (simp; done) | (simp [*]; done), by repeat (first | exact Drawn0.refl _ | apply Drawn0.step)⟩

/-! ### word_Bin: function 23 -/
mutual
def word_Bin.j0 : Nat → Int → Int → Int → Int → Int → Bool → Option (Int × Int)
 | 0, _, _, _, _, _, _ => none
 | k + 1, x0, x1, x2, x3, x10, x17 => if x17 = true then (word_Bin.j1 k x0 x1 x2 x3 9) else (word_Bin.j1 k x0 x1 x2 x3 x10)
def word_Bin.j1 : Nat → Int → Int → Int → Int → Int → Option (Int × Int)
 | 0, _, _, _, _, _ => none
 | k + 1, x0, x1, x2, x3, x10 => (word_has.f k x0 x1).bind fun t117 => (if t117 = true then ((word_Is.f k x1 x2).bind fun t118 => (if t118 = true then ((word_Is.f k x10 x3).bind fun t119 => (word_Bin.j2 k x0 x1 x2 x3 (!t119))) else (word_Bin.j2 k x0 x1 x2 x3 true))) else (some (0, 10)))
def word_Bin.j2 : Nat → Int → Int → Int → Int → Bool → Option (Int × Int)
 | 0, _, _, _, _, _ => none
 | k + 1, x0, x1, x2, x3, x23 => if x23 = true then (some (0, 11)) else (if x1 = 10 then ((word_floats.f x0 x2 x3).bind fun t120 => (some (t120, 0))) else (if x0 = 4 then (word_Bin.j3 k x0 x1 x2 x3 (x3 == 0)) else (if x0 = 5 then (word_Bin.j3 k x0 x1 x2 x3 (x3 == 0)) else (word_Bin.j3 k x0 x1 x2 x3 false))))
def word_Bin.j3 : Nat → Int → Int → Int → Int → Bool → Option (Int × Int)
 | 0, _, _, _, _, _ => none
 | k + 1, x0, x1, x2, x3, x41 => if x41 = true then (some (0, 12)) else (if x0 ≥ 11 then ((word_signed.f x1).bind fun t121 => (word_Bin.j4 k x0 x1 x2 x3 t121)) else (word_Bin.j4 k x0 x1 x2 x3 false))
def word_Bin.j4 : Nat → Int → Int → Int → Int → Bool → Option (Int × Int)
 | 0, _, _, _, _, _ => none
 | k + 1, x0, x1, x2, x3, x52 => if x52 = true then ((word_order_says.f (decide ((wrap64 (x2)) < (wrap64 (x3)))) (x2 == x3) x0).bind fun t122 => (some (t122, 0))) else (if x0 ≥ 11 then ((word_order_says.f (decide (x2 < x3)) (x2 == x3) x0).bind fun t123 => (some (t123, 0))) else ((word_signed.f x1).bind fun t124 => ((word_ints.f x0 t124 x2 x3).bind fun t125 => ((word_Canon.f k x1 t125).bind fun t126 => (some (t126, 0))))))
end
def word_Bin.f (k : Nat) (a0 : Int) (a1 : Int) (a2 : Int) (a3 : Int) : Option (Int × Int) := if a0 = 9 then (word_Bin.j0 k a0 a1 a2 a3 a1 true) else (word_Bin.j0 k a0 a1 a2 a3 a1 (a0 == 10))
theorem word_Bin.mono_l : ∀ k, (∀ y0 y1 y2 y3 y4 y5, LeO (word_Bin.j0 k y0 y1 y2 y3 y4 y5) (word_Bin.j0 (k + 1) y0 y1 y2 y3 y4 y5)) ∧ (∀ y0 y1 y2 y3 y4, LeO (word_Bin.j1 k y0 y1 y2 y3 y4) (word_Bin.j1 (k + 1) y0 y1 y2 y3 y4)) ∧ (∀ y0 y1 y2 y3 y4, LeO (word_Bin.j2 k y0 y1 y2 y3 y4) (word_Bin.j2 (k + 1) y0 y1 y2 y3 y4)) ∧ (∀ y0 y1 y2 y3 y4, LeO (word_Bin.j3 k y0 y1 y2 y3 y4) (word_Bin.j3 (k + 1) y0 y1 y2 y3 y4)) ∧ (∀ y0 y1 y2 y3 y4, LeO (word_Bin.j4 k y0 y1 y2 y3 y4) (word_Bin.j4 (k + 1) y0 y1 y2 y3 y4))
 | 0 => ⟨fun _ _ _ _ _ _ r h => by simp [word_Bin.j0] at h, fun _ _ _ _ _ r h => by simp [word_Bin.j1] at h, fun _ _ _ _ _ r h => by simp [word_Bin.j2] at h, fun _ _ _ _ _ r h => by simp [word_Bin.j3] at h, fun _ _ _ _ _ r h => by simp [word_Bin.j4] at h⟩
 | k + 1 => by
  obtain ⟨ih0, ih1, ih2, ih3, ih4⟩ := word_Bin.mono_l k
  refine ⟨?_, ?_, ?_, ?_, ?_⟩
  ·intro y0 y1 y2 y3 y4 y5
   unfold word_Bin.j0
   repeat' first
   | (with_reducible exact ih0 _ _ _ _ _ _)
   | (with_reducible exact ih1 _ _ _ _ _)
   | (with_reducible exact ih2 _ _ _ _ _)
   | (with_reducible exact ih3 _ _ _ _ _)
   | (with_reducible exact ih4 _ _ _ _ _)
   | (with_reducible exact word_Canon.mono _ _ _)
   | (with_reducible exact word_Is.mono _ _ _)
   | (with_reducible exact word_has.mono _ _ _)
   | (with_reducible exact LeO.refl _)
   | (with_reducible exact LeO.none _)
   | (with_reducible refine LeO.ite ?_ ?_)
   | (with_reducible refine LeO.bind ?_ (fun _ => ?_))
   | exact ih0 _ _ _ _ _ _
   | exact ih1 _ _ _ _ _
   | exact ih2 _ _ _ _ _
   | exact ih3 _ _ _ _ _
   | exact ih4 _ _ _ _ _
   | exact word_Canon.mono _ _ _
   | exact word_Is.mono _ _ _
   | exact word_has.mono _ _ _
   | exact LeO.none _
   | refine LeO.ite ?_ ?_
   | refine LeO.bind ?_ (fun _ => ?_)
  ·intro y0 y1 y2 y3 y4
   unfold word_Bin.j1
   repeat' first
   | (with_reducible exact ih0 _ _ _ _ _ _)
   | (with_reducible exact ih1 _ _ _ _ _)
   | (with_reducible exact ih2 _ _ _ _ _)
   | (with_reducible exact ih3 _ _ _ _ _)
   | (with_reducible exact ih4 _ _ _ _ _)
   | (with_reducible exact word_Canon.mono _ _ _)
   | (with_reducible exact word_Is.mono _ _ _)
   | (with_reducible exact word_has.mono _ _ _)
   | (with_reducible exact LeO.refl _)
   | (with_reducible exact LeO.none _)
   | (with_reducible refine LeO.ite ?_ ?_)
   | (with_reducible refine LeO.bind ?_ (fun _ => ?_))
   | exact ih0 _ _ _ _ _ _
   | exact ih1 _ _ _ _ _
   | exact ih2 _ _ _ _ _
   | exact ih3 _ _ _ _ _
   | exact ih4 _ _ _ _ _
   | exact word_Canon.mono _ _ _
   | exact word_Is.mono _ _ _
   | exact word_has.mono _ _ _
   | exact LeO.none _
   | refine LeO.ite ?_ ?_
   | refine LeO.bind ?_ (fun _ => ?_)
  ·intro y0 y1 y2 y3 y4
   unfold word_Bin.j2
   repeat' first
   | (with_reducible exact ih0 _ _ _ _ _ _)
   | (with_reducible exact ih1 _ _ _ _ _)
   | (with_reducible exact ih2 _ _ _ _ _)
   | (with_reducible exact ih3 _ _ _ _ _)
   | (with_reducible exact ih4 _ _ _ _ _)
   | (with_reducible exact word_Canon.mono _ _ _)
   | (with_reducible exact word_Is.mono _ _ _)
   | (with_reducible exact word_has.mono _ _ _)
   | (with_reducible exact LeO.refl _)
   | (with_reducible exact LeO.none _)
   | (with_reducible refine LeO.ite ?_ ?_)
   | (with_reducible refine LeO.bind ?_ (fun _ => ?_))
   | exact ih0 _ _ _ _ _ _
   | exact ih1 _ _ _ _ _
   | exact ih2 _ _ _ _ _
   | exact ih3 _ _ _ _ _
   | exact ih4 _ _ _ _ _
   | exact word_Canon.mono _ _ _
   | exact word_Is.mono _ _ _
   | exact word_has.mono _ _ _
   | exact LeO.none _
   | refine LeO.ite ?_ ?_
   | refine LeO.bind ?_ (fun _ => ?_)
  ·intro y0 y1 y2 y3 y4
   unfold word_Bin.j3
   repeat' first
   | (with_reducible exact ih0 _ _ _ _ _ _)
   | (with_reducible exact ih1 _ _ _ _ _)
   | (with_reducible exact ih2 _ _ _ _ _)
   | (with_reducible exact ih3 _ _ _ _ _)
   | (with_reducible exact ih4 _ _ _ _ _)
   | (with_reducible exact word_Canon.mono _ _ _)
   | (with_reducible exact word_Is.mono _ _ _)
   | (with_reducible exact word_has.mono _ _ _)
   | (with_reducible exact LeO.refl _)
   | (with_reducible exact LeO.none _)
   | (with_reducible refine LeO.ite ?_ ?_)
   | (with_reducible refine LeO.bind ?_ (fun _ => ?_))
   | exact ih0 _ _ _ _ _ _
   | exact ih1 _ _ _ _ _
   | exact ih2 _ _ _ _ _
   | exact ih3 _ _ _ _ _
   | exact ih4 _ _ _ _ _
   | exact word_Canon.mono _ _ _
   | exact word_Is.mono _ _ _
   | exact word_has.mono _ _ _
   | exact LeO.none _
   | refine LeO.ite ?_ ?_
   | refine LeO.bind ?_ (fun _ => ?_)
  ·intro y0 y1 y2 y3 y4
   unfold word_Bin.j4
   repeat' first
   | (with_reducible exact ih0 _ _ _ _ _ _)
   | (with_reducible exact ih1 _ _ _ _ _)
   | (with_reducible exact ih2 _ _ _ _ _)
   | (with_reducible exact ih3 _ _ _ _ _)
   | (with_reducible exact ih4 _ _ _ _ _)
   | (with_reducible exact word_Canon.mono _ _ _)
   | (with_reducible exact word_Is.mono _ _ _)
   | (with_reducible exact word_has.mono _ _ _)
   | (with_reducible exact LeO.refl _)
   | (with_reducible exact LeO.none _)
   | (with_reducible refine LeO.ite ?_ ?_)
   | (with_reducible refine LeO.bind ?_ (fun _ => ?_))
   | exact ih0 _ _ _ _ _ _
   | exact ih1 _ _ _ _ _
   | exact ih2 _ _ _ _ _
   | exact ih3 _ _ _ _ _
   | exact ih4 _ _ _ _ _
   | exact word_Canon.mono _ _ _
   | exact word_Is.mono _ _ _
   | exact word_has.mono _ _ _
   | exact LeO.none _
   | refine LeO.ite ?_ ?_
   | refine LeO.bind ?_ (fun _ => ?_)
theorem word_Bin.mono : ∀ a0 a1 a2 a3 k, LeO (word_Bin.f k a0 a1 a2 a3) (word_Bin.f (k + 1) a0 a1 a2 a3) := by
 intro a0 a1 a2 a3 k
 obtain ⟨ih0, ih1, ih2, ih3, ih4⟩ := word_Bin.mono_l k
 unfold word_Bin.f
 repeat' first
   | (with_reducible exact ih0 _ _ _ _ _ _)
   | (with_reducible exact ih1 _ _ _ _ _)
   | (with_reducible exact ih2 _ _ _ _ _)
   | (with_reducible exact ih3 _ _ _ _ _)
   | (with_reducible exact ih4 _ _ _ _ _)
   | (with_reducible exact word_Canon.mono _ _ _)
   | (with_reducible exact word_Is.mono _ _ _)
   | (with_reducible exact word_has.mono _ _ _)
   | (with_reducible exact LeO.refl _)
   | (with_reducible exact LeO.none _)
   | (with_reducible refine LeO.ite ?_ ?_)
   | (with_reducible refine LeO.bind ?_ (fun _ => ?_))
   | exact ih0 _ _ _ _ _ _
   | exact ih1 _ _ _ _ _
   | exact ih2 _ _ _ _ _
   | exact ih3 _ _ _ _ _
   | exact ih4 _ _ _ _ _
   | exact word_Canon.mono _ _ _
   | exact word_Is.mono _ _ _
   | exact word_has.mono _ _ _
   | exact LeO.none _
   | refine LeO.ite ?_ ?_
   | refine LeO.bind ?_ (fun _ => ?_)
set_option maxHeartbeats 8000000 in
set_option maxRecDepth 100000 in
theorem word_Bin.calls (k : Nat) (a0 : Int) (a1 : Int) (a2 : Int) (a3 : Int) (r1 : Int) (r2 : Int) (w : World) (h : word_Bin.f k a0 a1 a2 a3 = some (r1, r2)) :
  Calls Try.prog 23 #[.int .i64 a0, .int .i64 a1, .int .u64 a2, .int .u64 a3] w fun e w' => e = .returned (.tuple #[.int .u64 r1, .int .i64 r2]) ∧ Below w.heap.size w w' := by
 have hu68 := Try.underlying68
 have HB := Aside0.mk (Below.refl w.heap.size w)
 have H : (if a0 = 9 then (word_Bin.j0 k a0 a1 a2 a3 a1 true) else (word_Bin.j0 k a0 a1 a2 a3 a1 (a0 == 10))) = some (r1, r2) := h
 clear h
 have HC5 := Aside0.mk H
 clear H
 go_enter Try.func23, Try.ntmps23
 go_upto_region 2 with (fail)
 go_cut [17] (fun v17 wc => ∃ (kq : Nat) (x17_4 : Bool), v17 = .bool x17_4 ∧ Aside0 (word_Bin.j0 kq a0 a1 a2 a3 a1 x17_4 = some (r1, r2)) ∧ Aside0 (kq ≤ k) ∧ Aside0 (Below w.heap.size w wc))
 case first =>
  have H := HC5.out
  clear HC5
  by_cases c6 : a0 = 9
  ·rw [if_pos c6] at H
   have c6b0 : (a0 == 9) = true := beq_iff_eq.mpr c6
   have c6b1 : (a0 != 9) = false := bne_eq_false_iff_eq.mpr c6
   clear c6
   (first | rw [c6b0] | (simp only [i64_w, i32_w]; rw [c6b0]) | skip)
   have H' := Aside0.mk H
   clear H
   go_wp2
   go_meet
   case rel => exact ⟨_, (true), (by first | rfl | (simp; done) | (simp [*]; done)), H', ⟨by first | omega | exact Nat.le_refl _⟩, ⟨by repeat (first | (with_reducible first | exact HB.out | apply below_alloc | apply pw_below_drewN | apply below_drew1) | exact HB.out)⟩⟩
  ·rw [if_neg c6] at H
   have c6b0 : (a0 == 9) = false := beq_eq_false_iff_ne.mpr c6
   have c6b1 : (a0 != 9) = true := bne_iff_ne.mpr c6
   (first | rw [c6b0] | (simp only [i64_w, i32_w]; rw [c6b0]) | skip)
   have H' := Aside0.mk H
   clear H
   go_wp2
   go_meet
   case rel => exact ⟨_, ((a0 == 10)), (by first | rfl | (simp; done) | (simp [*]; done)), H', ⟨by first | omega | exact Nat.le_refl _⟩, ⟨by repeat (first | (with_reducible first | exact HB.out | apply below_alloc | apply pw_below_drewN | apply below_drew1) | exact HB.out)⟩⟩
 case rest =>
  clear HC5
  try clear c2
  try clear p2
  try clear c6
  try clear c6b0
  try clear c6b1
  obtain ⟨kq, x17_4, rfl, HA, HJ4, HB⟩ := hcut
  cases kq with
  | zero => exact absurd HA.out (by simp [word_Bin.j0])
  | succ kj4 =>
   have H := HA.out
   clear HA
   simp only [word_Bin.j0] at H
   have HC7 := Aside0.mk H
   clear H
   go_upto_if 17 with (fail)
   go_cut [10] (fun v10 wc => ∃ (kq : Nat) (x10_6 : Int), v10 = .int .i64 x10_6 ∧ Aside0 (word_Bin.j1 kq a0 a1 a2 a3 x10_6 = some (r1, r2)) ∧ Aside0 (kq ≤ kj4) ∧ Aside0 (Below w.heap.size w wc))
   case first =>
    have H := HC7.out
    clear HC7
    by_cases c8 : x17_4 = true
    ·subst c8
     have H1 : (word_Bin.j1 kj4 a0 a1 a2 a3 9) = some (r1, r2) := by rw [if_pos rfl] at H; exact H
     clear H
     have H := H1
     clear H1
     have H' := Aside0.mk H
     clear H
     go_wp2
     go_meet
     case rel => exact ⟨_, (9), (by first | rfl | (simp; done) | (simp [*]; done)), H', ⟨by have := HJ4.out; first | omega | exact Nat.le_refl _⟩, ⟨by repeat (first | (with_reducible first | exact HB.out | apply below_alloc | apply pw_below_drewN | apply below_drew1) | exact HB.out)⟩⟩
    ·replace c8 := Bool.eq_false_iff.mpr c8
     subst c8
     have H1 : (word_Bin.j1 kj4 a0 a1 a2 a3 a1) = some (r1, r2) := by rw [if_neg (show ¬ (false = true) by decide)] at H; exact H
     clear H
     have H := H1
     clear H1
     have H' := Aside0.mk H
     clear H
     go_wp2
     go_meet
     case rel => exact ⟨_, (a1), (by first | rfl | (simp; done) | (simp [*]; done)), H', ⟨by have := HJ4.out; first | omega | exact Nat.le_refl _⟩, ⟨by repeat (first | (with_reducible first | exact HB.out | apply below_alloc | apply pw_below_drewN | apply below_drew1) | exact HB.out)⟩⟩
   case rest =>
    clear HC7
    try clear c2
    try clear p2
    try clear c6
    try clear c6b0
    try clear c6b1
    try clear c8
    try clear p2
    obtain ⟨kq, x10_6, rfl, HA, HJ6, HB⟩ := hcut
    cases kq with
    | zero => exact absurd HA.out (by simp [word_Bin.j1])
    | succ kj6 =>
     have H := HA.out
     clear HA
     simp only [word_Bin.j1] at H
     replace H := Option.bind_eq_some_iff.mp H
     obtain ⟨t117, A90, H⟩ := H
     replace H : (if t117 = true then ((word_Is.f kj6 a1 a2).bind fun t118 => (if t118 = true then ((word_Is.f kj6 x10_6 a3).bind fun t119 => (word_Bin.j2 kj6 a0 a1 a2 a3 (!t119))) else (word_Bin.j2 kj6 a0 a1 a2 a3 true))) else (some (0, 10))) = some (r1, r2) := H
     have A9 := Aside0.mk A90
     clear A90
     by_cases c10 : t117 = true
     ·subst c10
      have H1 : ((word_Is.f kj6 a1 a2).bind fun t118 => (if t118 = true then ((word_Is.f kj6 x10_6 a3).bind fun t119 => (word_Bin.j2 kj6 a0 a1 a2 a3 (!t119))) else (word_Bin.j2 kj6 a0 a1 a2 a3 true))) = some (r1, r2) := by rw [if_pos rfl] at H; exact H
      clear H
      have H := H1
      clear H1
      have HC11 := Aside0.mk H
      clear H
      go_upto_region 6 with (first | ((with_reducible refine gate_callee (f := 55) rfl ?_); refine goesL_ (some 21) rfl rfl Try.func55 (by kernel_rfl) rfl #[.int .i64 a0, .int .i64 a1] rfl (by (try simp only [List.map_toArray, List.map_cons, List.map_nil]); first | done | rfl | (simp only [List.length_drop, List.length_take]; rfl)) ?_; (with_reducible refine (word_has.calls kj6 a0 a1 true _ A9.out).mono ?_); rintro e w' ⟨rfl, ⟨nd, rfl⟩⟩; refine ⟨_, rfl, ?_⟩))
      (try simp only [Act.put, List.setIfInBounds_toArray, List.set_cons_zero, List.set_cons_succ])
      go_cut [23] (fun v23 wc => ∃ (kq : Nat) (x23_10 : Bool), v23 = .bool x23_10 ∧ Aside0 (word_Bin.j2 kq a0 a1 a2 a3 x23_10 = some (r1, r2)) ∧ Aside0 (kq ≤ kj6) ∧ Aside0 (Below w.heap.size w wc))
      case first =>
       have H := HC11.out
       clear HC11
       replace H := Option.bind_eq_some_iff.mp H
       obtain ⟨t118, A120, H⟩ := H
       replace H : (if t118 = true then ((word_Is.f kj6 x10_6 a3).bind fun t119 => (word_Bin.j2 kj6 a0 a1 a2 a3 (!t119))) else (word_Bin.j2 kj6 a0 a1 a2 a3 true)) = some (r1, r2) := H
       have A12 := Aside0.mk A120
       clear A120
       by_cases c13 : t118 = true
       ·subst c13
        have H1 : ((word_Is.f kj6 x10_6 a3).bind fun t119 => (word_Bin.j2 kj6 a0 a1 a2 a3 (!t119))) = some (r1, r2) := by rw [if_pos rfl] at H; exact H
        clear H
        have H := H1
        clear H1
        replace H := Option.bind_eq_some_iff.mp H
        obtain ⟨t119, A140, H⟩ := H
        replace H : (word_Bin.j2 kj6 a0 a1 a2 a3 (!t119)) = some (r1, r2) := H
        have A14 := Aside0.mk A140
        clear A140
        have H' := Aside0.mk H
        clear H
        go_wp2_with (first | ((with_reducible refine gate_callee (f := 17) rfl ?_); refine goesL_ (some 26) rfl rfl Try.func17 (by kernel_rfl) rfl #[.int .i64 a1, .int .u64 a2] rfl (by (try simp only [List.map_toArray, List.map_cons, List.map_nil]); first | done | rfl | (simp only [List.length_drop, List.length_take]; rfl)) ?_; (with_reducible refine (word_Is.calls kj6 a1 a2 true _ A12.out).mono ?_); rintro e w' ⟨rfl, ⟨nd, rfl⟩⟩; refine ⟨_, rfl, ?_⟩) | (go_at_call 17; (with_reducible refine (word_Is.calls kj6 x10_6 a3 t119 _ A14.out).mono ?_); rintro e w' ⟨rfl, ⟨nd, rfl⟩⟩))
        go_meet
        case rel => exact ⟨_, (!t119), (by first | rfl | (simp; done) | (simp [*]; done)), H', ⟨by have := HJ4.out; have := HJ6.out; first | omega | exact Nat.le_refl _⟩, ⟨by repeat (first | (with_reducible first | exact HB.out | apply below_alloc | apply pw_below_drewN | apply below_drew1) | exact HB.out)⟩⟩
       ·replace c13 := Bool.eq_false_iff.mpr c13
        subst c13
        have H1 : (word_Bin.j2 kj6 a0 a1 a2 a3 true) = some (r1, r2) := by rw [if_neg (show ¬ (false = true) by decide)] at H; exact H
        clear H
        have H := H1
        clear H1
        have H' := Aside0.mk H
        clear H
        go_wp2_with (first | ((with_reducible refine gate_callee (f := 17) rfl ?_); refine goesL_ (some 26) rfl rfl Try.func17 (by kernel_rfl) rfl #[.int .i64 a1, .int .u64 a2] rfl (by (try simp only [List.map_toArray, List.map_cons, List.map_nil]); first | done | rfl | (simp only [List.length_drop, List.length_take]; rfl)) ?_; (with_reducible refine (word_Is.calls kj6 a1 a2 false _ A12.out).mono ?_); rintro e w' ⟨rfl, ⟨nd, rfl⟩⟩; refine ⟨_, rfl, ?_⟩))
        go_meet
        case rel => exact ⟨_, (true), (by first | rfl | (simp; done) | (simp [*]; done)), H', ⟨by have := HJ4.out; have := HJ6.out; first | omega | exact Nat.le_refl _⟩, ⟨by repeat (first | (with_reducible first | exact HB.out | apply below_alloc | apply pw_below_drewN | apply below_drew1) | exact HB.out)⟩⟩
      case rest =>
       clear HC11
       try clear c1
       try clear c2
       try clear p2
       try clear c5
       try clear c6
       try clear c6b0
       try clear c6b1
       try clear c8
       try clear c10
       try clear c13
       try clear p2
       obtain ⟨kq, x23_10, rfl, HA, HJ10, HB⟩ := hcut
       cases kq with
       | zero => exact absurd HA.out (by simp [word_Bin.j2])
       | succ kj10 =>
        have H := HA.out
        clear HA
        simp only [word_Bin.j2] at H
        by_cases c15 : x23_10 = true
        ·subst c15
         have H1 : (some (0, 11)) = some (r1, r2) := by rw [if_pos rfl] at H; exact H
         clear H
         have H := H1
         clear H1
         simp only [Option.some.injEq, Prod.mk.injEq] at H
         obtain ⟨rfl, rfl⟩ := H
         go_wp2
         go_ret2
         exact ⟨by first | rfl | (simp [errW_none, errW_some] <;> rfl) | (simp [*, errW_none, errW_some] <;> rfl), by repeat (first | (with_reducible first | exact HB.out | apply below_alloc | apply pw_below_drewN | apply below_drew1) | exact HB.out)⟩
        ·replace c15 := Bool.eq_false_iff.mpr c15
         subst c15
         have H1 : (if a1 = 10 then ((word_floats.f a0 a2 a3).bind fun t120 => (some (t120, 0))) else (if a0 = 4 then (word_Bin.j3 kj10 a0 a1 a2 a3 (a3 == 0)) else (if a0 = 5 then (word_Bin.j3 kj10 a0 a1 a2 a3 (a3 == 0)) else (word_Bin.j3 kj10 a0 a1 a2 a3 false)))) = some (r1, r2) := by rw [if_neg (show ¬ (false = true) by decide)] at H; exact H
         clear H
         have H := H1
         clear H1
         by_cases c16 : a1 = 10
         ·rw [if_pos c16] at H
          have c16b0 : (a1 == 10) = true := beq_iff_eq.mpr c16
          have c16b1 : (a1 != 10) = false := bne_eq_false_iff_eq.mpr c16
          clear c16
          replace H := Option.bind_eq_some_iff.mp H
          obtain ⟨t120, A170, H⟩ := H
          replace H : (some (t120, 0)) = some (r1, r2) := H
          have A17 := Aside0.mk A170
          clear A170
          simp only [Option.some.injEq, Prod.mk.injEq] at H
          obtain ⟨rfl, rfl⟩ := H
          go_wp2_with (first | ((with_reducible refine gate_callee (f := 56) rfl ?_); refine goesL_ (some 40) rfl rfl Try.func56 (by kernel_rfl) rfl #[.int .i64 a0, .int .u64 a2, .int .u64 a3] rfl (by (try simp only [List.map_toArray, List.map_cons, List.map_nil]); first | done | rfl | (simp only [List.length_drop, List.length_take]; rfl)) ?_; (with_reducible refine (word_floats.calls a0 a2 a3 t120 _ A17.out).mono ?_); rintro e w18 ⟨rfl, hb⟩; refine ⟨_, rfl, ?_⟩; have n0_ := Aside0.mk (below_step (by repeat (first | (with_reducible first | exact HB.out | apply below_alloc | apply pw_below_drewN | apply below_drew1) | exact HB.out)) hb); clear HB; have HB := n0_; clear n0_; (try clear hb); (try clear hb2); (try clear hk); (try clear hi)))
          go_ret2
          exact ⟨by first | rfl | (simp [errW_none, errW_some] <;> rfl) | (simp [*, errW_none, errW_some] <;> rfl), by repeat (first | (with_reducible first | exact HB.out | apply below_alloc | apply pw_below_drewN | apply below_drew1) | exact HB.out)⟩
         ·rw [if_neg c16] at H
          have c16b0 : (a1 == 10) = false := beq_eq_false_iff_ne.mpr c16
          have c16b1 : (a1 != 10) = true := bne_iff_ne.mpr c16
          have HC19 := Aside0.mk H
          clear H
          go_upto_region 10 with (fail)
          go_cut [41] (fun v41 wc => ∃ (kq : Nat) (x41_18 : Bool), v41 = .bool x41_18 ∧ Aside0 (word_Bin.j3 kq a0 a1 a2 a3 x41_18 = some (r1, r2)) ∧ Aside0 (kq ≤ kj10) ∧ Aside0 (Below w.heap.size w wc))
          case first =>
           have H := HC19.out
           clear HC19
           by_cases c20 : a0 = 4
           ·rw [if_pos c20] at H
            have c20b0 : (a0 == 4) = true := beq_iff_eq.mpr c20
            have c20b1 : (a0 != 4) = false := bne_eq_false_iff_eq.mpr c20
            clear c20
            (first | rw [c20b0] | (simp only [i64_w, i32_w]; rw [c20b0]) | skip)
            have H' := Aside0.mk H
            clear H
            go_wp2
            go_meet
            case rel => exact ⟨_, ((a3 == 0)), (by first | rfl | (simp; done) | (simp [*]; done)), H', ⟨by have := HJ4.out; have := HJ6.out; have := HJ10.out; first | omega | exact Nat.le_refl _⟩, ⟨by repeat (first | (with_reducible first | exact HB.out | apply below_alloc | apply pw_below_drewN | apply below_drew1) | exact HB.out)⟩⟩
           ·rw [if_neg c20] at H
            have c20b0 : (a0 == 4) = false := beq_eq_false_iff_ne.mpr c20
            have c20b1 : (a0 != 4) = true := bne_iff_ne.mpr c20
            (first | rw [c20b0] | (simp only [i64_w, i32_w]; rw [c20b0]) | skip)
            by_cases c21 : a0 = 5
            ·rw [if_pos c21] at H
             have c21b0 : (a0 == 5) = true := beq_iff_eq.mpr c21
             have c21b1 : (a0 != 5) = false := bne_eq_false_iff_eq.mpr c21
             clear c21
             have H' := Aside0.mk H
             clear H
             go_wp2
             go_meet
             case rel => exact ⟨_, ((a3 == 0)), (by first | rfl | (simp; done) | (simp [*]; done)), H', ⟨by have := HJ4.out; have := HJ6.out; have := HJ10.out; first | omega | exact Nat.le_refl _⟩, ⟨by repeat (first | (with_reducible first | exact HB.out | apply below_alloc | apply pw_below_drewN | apply below_drew1) | exact HB.out)⟩⟩
            ·rw [if_neg c21] at H
             have c21b0 : (a0 == 5) = false := beq_eq_false_iff_ne.mpr c21
             have c21b1 : (a0 != 5) = true := bne_iff_ne.mpr c21
             have H' := Aside0.mk H
             clear H
             go_wp2
             go_meet
             case rel => exact ⟨_, (false), (by first | rfl | (simp; done) | (simp [*]; done)), H', ⟨by have := HJ4.out; have := HJ6.out; have := HJ10.out; first | omega | exact Nat.le_refl _⟩, ⟨by repeat (first | (with_reducible first | exact HB.out | apply below_alloc | apply pw_below_drewN | apply below_drew1) | exact HB.out)⟩⟩
          case rest =>
           clear HC19
           try clear c1
           try clear c2
           try clear p2
           try clear c5
           try clear c6
           try clear c6b0
           try clear c6b1
           try clear c8
           try clear c10
           try clear c13
           try clear c15
           try clear c16
           try clear c16b0
           try clear c16b1
           try clear c17
           try clear c20
           try clear c20b0
           try clear c20b1
           try clear c21
           try clear c21b0
           try clear c21b1
           try clear p2
           obtain ⟨kq, x41_18, rfl, HA, HJ18, HB⟩ := hcut
           cases kq with
           | zero => exact absurd HA.out (by simp [word_Bin.j3])
           | succ kj18 =>
            have H := HA.out
            clear HA
            simp only [word_Bin.j3] at H
            by_cases c22 : x41_18 = true
            ·subst c22
             have H1 : (some (0, 12)) = some (r1, r2) := by rw [if_pos rfl] at H; exact H
             clear H
             have H := H1
             clear H1
             simp only [Option.some.injEq, Prod.mk.injEq] at H
             obtain ⟨rfl, rfl⟩ := H
             go_wp2
             go_ret2
             exact ⟨by first | rfl | (simp [errW_none, errW_some] <;> rfl) | (simp [*, errW_none, errW_some] <;> rfl), by repeat (first | (with_reducible first | exact HB.out | apply below_alloc | apply pw_below_drewN | apply below_drew1) | exact HB.out)⟩
            ·replace c22 := Bool.eq_false_iff.mpr c22
             subst c22
             have H1 : (if a0 ≥ 11 then ((word_signed.f a1).bind fun t121 => (word_Bin.j4 kj18 a0 a1 a2 a3 t121)) else (word_Bin.j4 kj18 a0 a1 a2 a3 false)) = some (r1, r2) := by rw [if_neg (show ¬ (false = true) by decide)] at H; exact H
             clear H
             have H := H1
             clear H1
             have HC23 := Aside0.mk H
             clear H
             go_upto_region 12 with (fail)
             go_cut [52] (fun v52 wc => ∃ (kq : Nat) (x52_22 : Bool), v52 = .bool x52_22 ∧ Aside0 (word_Bin.j4 kq a0 a1 a2 a3 x52_22 = some (r1, r2)) ∧ Aside0 (kq ≤ kj18) ∧ Aside0 (Below w.heap.size w wc))
             case first =>
              have H := HC23.out
              clear HC23
              by_cases c24 : a0 ≥ 11
              ·rw [if_pos c24] at H
               have c24b0 : decide (11 ≤ a0) = true := decide_eq_true c24
               clear c24
               (first | rw [c24b0] | (simp only [i64_w, i32_w]; rw [c24b0]) | skip)
               replace H := Option.bind_eq_some_iff.mp H
               obtain ⟨t121, A250, H⟩ := H
               replace H : (word_Bin.j4 kj18 a0 a1 a2 a3 t121) = some (r1, r2) := H
               have A25 := Aside0.mk A250
               clear A250
               have H' := Aside0.mk H
               clear H
               go_wp2_with (first | (go_at_call 49; (with_reducible refine (word_signed.calls a1 t121 _ A25.out).mono ?_); rintro e w' ⟨rfl, ⟨nd, rfl⟩⟩))
               go_meet
               case rel => exact ⟨_, (t121), (by first | rfl | (simp; done) | (simp [*]; done)), H', ⟨by have := HJ4.out; have := HJ6.out; have := HJ10.out; have := HJ18.out; first | omega | exact Nat.le_refl _⟩, ⟨by repeat (first | (with_reducible first | exact HB.out | apply below_alloc | apply pw_below_drewN | apply below_drew1) | exact HB.out)⟩⟩
              ·rw [if_neg c24] at H
               have c24b0 : decide (11 ≤ a0) = false := decide_eq_false c24
               clear c24
               (first | rw [c24b0] | (simp only [i64_w, i32_w]; rw [c24b0]) | skip)
               have H' := Aside0.mk H
               clear H
               go_wp2
               go_meet
               case rel => exact ⟨_, (false), (by first | rfl | (simp; done) | (simp [*]; done)), H', ⟨by have := HJ4.out; have := HJ6.out; have := HJ10.out; have := HJ18.out; first | omega | exact Nat.le_refl _⟩, ⟨by repeat (first | (with_reducible first | exact HB.out | apply below_alloc | apply pw_below_drewN | apply below_drew1) | exact HB.out)⟩⟩
             case rest =>
              clear HC23
              try clear c1
              try clear c2
              try clear p2
              try clear c5
              try clear c6
              try clear c6b0
              try clear c6b1
              try clear c8
              try clear c10
              try clear c13
              try clear c15
              try clear c16
              try clear c16b0
              try clear c16b1
              try clear c17
              try clear c20
              try clear c20b0
              try clear c20b1
              try clear c21
              try clear c21b0
              try clear c21b1
              try clear c22
              try clear c23
              try clear c24
              try clear c24b0
              try clear p2
              obtain ⟨kq, x52_22, rfl, HA, HJ22, HB⟩ := hcut
              cases kq with
              | zero => exact absurd HA.out (by simp [word_Bin.j4])
              | succ kj22 =>
               have H := HA.out
               clear HA
               simp only [word_Bin.j4] at H
               by_cases c26 : x52_22 = true
               ·subst c26
                have H1 : ((word_order_says.f (decide ((wrap64 (a2)) < (wrap64 (a3)))) (a2 == a3) a0).bind fun t122 => (some (t122, 0))) = some (r1, r2) := by rw [if_pos rfl] at H; exact H
                clear H
                have H := H1
                clear H1
                replace H := Option.bind_eq_some_iff.mp H
                obtain ⟨t122, A270, H⟩ := H
                replace H : (some (t122, 0)) = some (r1, r2) := H
                have A27 := Aside0.mk A270
                clear A270
                simp only [Option.some.injEq, Prod.mk.injEq] at H
                obtain ⟨rfl, rfl⟩ := H
                go_wp2_with (first | ((with_reducible refine gate_callee (f := 57) rfl ?_); refine goesL_ (some 69) rfl rfl Try.func57 (by kernel_rfl) rfl #[.agg #[.bool (decide ((wrap64 (a2)) < (wrap64 (a3)))), .bool (a2 == a3)], .int .i64 a0] rfl (by (try simp only [List.map_toArray, List.map_cons, List.map_nil]); first | done | rfl | (simp only [List.length_drop, List.length_take]; rfl)) ?_; (with_reducible refine (word_order_says.calls (decide ((wrap64 (a2)) < (wrap64 (a3)))) (a2 == a3) a0 t122 _ A27.out).mono ?_); rintro e w28 ⟨rfl, hb⟩; refine ⟨_, rfl, ?_⟩; have n0_ := Aside0.mk (below_step (by repeat (first | (with_reducible first | exact HB.out | apply below_alloc | apply pw_below_drewN | apply below_drew1) | exact HB.out)) hb); clear HB; have HB := n0_; clear n0_; (try clear hb); (try clear hb2); (try clear hk); (try clear hi)))
                go_ret2
                exact ⟨by first | rfl | (simp [errW_none, errW_some] <;> rfl) | (simp [*, errW_none, errW_some] <;> rfl), by repeat (first | (with_reducible first | exact HB.out | apply below_alloc | apply pw_below_drewN | apply below_drew1) | exact HB.out)⟩
               ·replace c26 := Bool.eq_false_iff.mpr c26
                subst c26
                have H1 : (if a0 ≥ 11 then ((word_order_says.f (decide (a2 < a3)) (a2 == a3) a0).bind fun t123 => (some (t123, 0))) else ((word_signed.f a1).bind fun t124 => ((word_ints.f a0 t124 a2 a3).bind fun t125 => ((word_Canon.f kj22 a1 t125).bind fun t126 => (some (t126, 0)))))) = some (r1, r2) := by rw [if_neg (show ¬ (false = true) by decide)] at H; exact H
                clear H
                have H := H1
                clear H1
                by_cases c29 : a0 ≥ 11
                ·rw [if_pos c29] at H
                 have c29b0 : decide (11 ≤ a0) = true := decide_eq_true c29
                 clear c29
                 replace H := Option.bind_eq_some_iff.mp H
                 obtain ⟨t123, A300, H⟩ := H
                 replace H : (some (t123, 0)) = some (r1, r2) := H
                 have A30 := Aside0.mk A300
                 clear A300
                 simp only [Option.some.injEq, Prod.mk.injEq] at H
                 obtain ⟨rfl, rfl⟩ := H
                 go_wp2_with (first | ((with_reducible refine gate_callee (f := 57) rfl ?_); refine goesL_ (some 81) rfl rfl Try.func57 (by kernel_rfl) rfl #[.agg #[.bool (decide (a2 < a3)), .bool (a2 == a3)], .int .i64 a0] rfl (by (try simp only [List.map_toArray, List.map_cons, List.map_nil]); first | done | rfl | (simp only [List.length_drop, List.length_take]; rfl)) ?_; (with_reducible refine (word_order_says.calls (decide (a2 < a3)) (a2 == a3) a0 t123 _ A30.out).mono ?_); rintro e w31 ⟨rfl, hb⟩; refine ⟨_, rfl, ?_⟩; have n0_ := Aside0.mk (below_step (by repeat (first | (with_reducible first | exact HB.out | apply below_alloc | apply pw_below_drewN | apply below_drew1) | exact HB.out)) hb); clear HB; have HB := n0_; clear n0_; (try clear hb); (try clear hb2); (try clear hk); (try clear hi)))
                 go_ret2
                 exact ⟨by first | rfl | (simp [errW_none, errW_some] <;> rfl) | (simp [*, errW_none, errW_some] <;> rfl), by repeat (first | (with_reducible first | exact HB.out | apply below_alloc | apply pw_below_drewN | apply below_drew1) | exact HB.out)⟩
                ·rw [if_neg c29] at H
                 have c29b0 : decide (11 ≤ a0) = false := decide_eq_false c29
                 clear c29
                 replace H := Option.bind_eq_some_iff.mp H
                 obtain ⟨t124, A320, H⟩ := H
                 replace H : ((word_ints.f a0 t124 a2 a3).bind fun t125 => ((word_Canon.f kj22 a1 t125).bind fun t126 => (some (t126, 0)))) = some (r1, r2) := H
                 have A32 := Aside0.mk A320
                 clear A320
                 replace H := Option.bind_eq_some_iff.mp H
                 obtain ⟨t125, A330, H⟩ := H
                 replace H : ((word_Canon.f kj22 a1 t125).bind fun t126 => (some (t126, 0))) = some (r1, r2) := H
                 have A33 := Aside0.mk A330
                 clear A330
                 replace H := Option.bind_eq_some_iff.mp H
                 obtain ⟨t126, A340, H⟩ := H
                 replace H : (some (t126, 0)) = some (r1, r2) := H
                 have A34 := Aside0.mk A340
                 clear A340
                 simp only [Option.some.injEq, Prod.mk.injEq] at H
                 obtain ⟨rfl, rfl⟩ := H
                 go_wp2_with (first | ((with_reducible refine gate_callee (f := 49) rfl ?_); refine goesL_ (some 85) rfl rfl Try.func49 (by kernel_rfl) rfl #[.int .i64 a1] rfl (by (try simp only [List.map_toArray, List.map_cons, List.map_nil]); first | done | rfl | (simp only [List.length_drop, List.length_take]; rfl)) ?_; (with_reducible refine (word_signed.calls a1 t124 _ A32.out).mono ?_); rintro e w' ⟨rfl, ⟨nd, rfl⟩⟩; refine ⟨_, rfl, ?_⟩) | ((with_reducible refine gate_callee (f := 58) rfl ?_); refine goesL_ (some 88) rfl rfl Try.func58 (by kernel_rfl) rfl #[.int .i64 a0, .bool t124, .int .u64 a2, .int .u64 a3] rfl (by (try simp only [List.map_toArray, List.map_cons, List.map_nil]); first | done | rfl | (simp only [List.length_drop, List.length_take]; rfl)) ?_; (with_reducible refine (word_ints.calls a0 t124 a2 a3 t125 _ A33.out).mono ?_); rintro e w' ⟨rfl, ⟨nd, rfl⟩⟩; refine ⟨_, rfl, ?_⟩) | ((with_reducible refine gate_callee (f := 15) rfl ?_); refine goesL_ (some 89) rfl rfl Try.func15 (by kernel_rfl) rfl #[.int .i64 a1, .int .u64 t125] rfl (by (try simp only [List.map_toArray, List.map_cons, List.map_nil]); first | done | rfl | (simp only [List.length_drop, List.length_take]; rfl)) ?_; (with_reducible refine (word_Canon.calls kj22 a1 t125 t126 _ A34.out).mono ?_); rintro e w' ⟨rfl, ⟨nd, rfl⟩⟩; refine ⟨_, rfl, ?_⟩))
                 go_ret2
                 exact ⟨by first | rfl | (simp [errW_none, errW_some] <;> rfl) | (simp [*, errW_none, errW_some] <;> rfl), by repeat (first | (with_reducible first | exact HB.out | apply below_alloc | apply pw_below_drewN | apply below_drew1) | exact HB.out)⟩
     ·replace c10 := Bool.eq_false_iff.mpr c10
      subst c10
      have H1 : (some (0, 10)) = some (r1, r2) := by rw [if_neg (show ¬ (false = true) by decide)] at H; exact H
      clear H
      have H := H1
      clear H1
      simp only [Option.some.injEq, Prod.mk.injEq] at H
      obtain ⟨rfl, rfl⟩ := H
      go_wp2_with (first | ((with_reducible refine gate_callee (f := 55) rfl ?_); refine goesL_ (some 21) rfl rfl Try.func55 (by kernel_rfl) rfl #[.int .i64 a0, .int .i64 a1] rfl (by (try simp only [List.map_toArray, List.map_cons, List.map_nil]); first | done | rfl | (simp only [List.length_drop, List.length_take]; rfl)) ?_; (with_reducible refine (word_has.calls kj6 a0 a1 false _ A9.out).mono ?_); rintro e w' ⟨rfl, ⟨nd, rfl⟩⟩; refine ⟨_, rfl, ?_⟩))
      go_ret2
      exact ⟨by first | rfl | (simp [errW_none, errW_some] <;> rfl) | (simp [*, errW_none, errW_some] <;> rfl), by repeat (first | (with_reducible first | exact HB.out | apply below_alloc | apply pw_below_drewN | apply below_drew1) | exact HB.out)⟩

/-! ### gantrylaw1_bin: function 16 -/
def gantrylaw1_bin.f (k : Nat) (a0 : Int) (a1 : Int) (a2 : Int) (a3 : Int) : Option (Int) := (word_Bin.f k a0 a1 a2 a3).bind fun bt127 => (some bt127.1)
theorem gantrylaw1_bin.mono : ∀ a0 a1 a2 a3 k, LeO (gantrylaw1_bin.f k a0 a1 a2 a3) (gantrylaw1_bin.f (k + 1) a0 a1 a2 a3) := by
 intro a0 a1 a2 a3 k
 unfold gantrylaw1_bin.f
 repeat' first
   | (with_reducible exact word_Bin.mono _ _ _ _ _)
   | (with_reducible exact LeO.refl _)
   | (with_reducible exact LeO.none _)
   | (with_reducible refine LeO.ite ?_ ?_)
   | (with_reducible refine LeO.bind ?_ (fun _ => ?_))
   | exact word_Bin.mono _ _ _ _ _
   | exact LeO.none _
   | refine LeO.ite ?_ ?_
   | refine LeO.bind ?_ (fun _ => ?_)
set_option maxHeartbeats 8000000 in
set_option maxRecDepth 100000 in
theorem gantrylaw1_bin.calls (k : Nat) (a0 : Int) (a1 : Int) (a2 : Int) (a3 : Int) (r : Int) (w : World) (h : gantrylaw1_bin.f k a0 a1 a2 a3 = some r) :
  Calls Try.prog 16 #[.int .i64 a0, .int .i64 a1, .int .u64 a2, .int .u64 a3] w fun e w' => e = .returned (.int .u64 r) ∧ Below w.heap.size w w' := by
 have HB := Aside0.mk (Below.refl w.heap.size w)
 have H : ((word_Bin.f k a0 a1 a2 a3).bind fun bt127 => (some bt127.1)) = some r := h
 clear h
 replace H := Option.bind_eq_some_iff.mp H
 obtain ⟨⟨t127, t128⟩, A50, H⟩ := H
 replace H : (some t127) = some r := H
 have A5 := Aside0.mk A50
 clear A50
 obtain rfl := Option.some.inj H
 go_enter Try.func16, Try.ntmps16
 go_wp2_with (first | ((with_reducible refine gate_callee (f := 23) rfl ?_); refine goesL_ (some 16) rfl rfl Try.func23 (by kernel_rfl) rfl #[.int .i64 a0, .int .i64 a1, .int .u64 a2, .int .u64 a3] rfl (by (try simp only [List.map_toArray, List.map_cons, List.map_nil]); first | done | rfl | (simp only [List.length_drop, List.length_take]; rfl)) ?_; (with_reducible refine (word_Bin.calls k a0 a1 a2 a3 t127 t128 _ A5.out).mono ?_); rintro e w6 ⟨rfl, hb⟩; refine ⟨_, rfl, ?_⟩; have n0_ := Aside0.mk (below_step (by repeat (first | (with_reducible first | exact HB.out | apply below_alloc | apply pw_below_drewN | apply below_drew1) | exact HB.out)) hb); clear HB; have HB := n0_; clear n0_; (try clear hb); (try clear hb2); (try clear hk); (try clear hi)))
 go_ret
 exact ⟨by first | rfl | (simp [errW_none, errW_some] <;> rfl) | (simp [*, errW_none, errW_some] <;> rfl), by repeat (first | (with_reducible first | exact HB.out | apply below_alloc | apply pw_below_drewN | apply below_drew1) | exact HB.out)⟩

/-! ### gantrylaw1_num: function 20 -/
def gantrylaw1_num.f (a0 : Int) : Option (Int) := some a0
set_option maxHeartbeats 8000000 in
set_option maxRecDepth 100000 in
theorem gantrylaw1_num.calls (a0 : Int) (r : Int) (w : World) (h : gantrylaw1_num.f a0 = some r) :
  Calls Try.prog 20 #[.int .i64 a0] w fun e w' => e = .returned (.int .i64 r) ∧ Drawn0 w w' := by
 have H : (some a0) = some r := h
 clear h
 obtain rfl := Option.some.inj H
 go_enter Try.func20, Try.ntmps20
 go_wp2
 go_ret
 exact ⟨by first | rfl | (simp; done) | (simp [*]; done), by repeat (first | exact Drawn0.refl _ | apply Drawn0.step)⟩

end Go.Proofs.Ytahepinbmcgbnaa.PA
