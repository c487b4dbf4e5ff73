/- Several texts in one: PWx0 PWx1 PWx2. No condition. -/
import Derived.Test.YtahepinbmcgbnaaProg
import Derived.Below
import Derived.Deep.Draws
import Derived.Deep.AppendLies
import Derived.Maps.AppendAt
import Derived.OwnWalk
import Derived.Laws.BytesArg
import Derived.Laws.MakeOwn
import Derived.Laws.OwnMore
import Derived.Deep.OwnRows
import Derived.Tactics
import Derived.Lib.ConvBytes
import Derived.Laws.Slices
import Derived.WalkKit
import Derived.KernelRfl
import Derived.RowKit3
import Derived.Deep.LoopGhost
import Derived.Deep.QuietTactic
import Derived.BigQuiet
import Derived.WideLaws
import Derived.Deep.DeepCutAuto
import Derived.Deep.CutBlock
import Derived.Deep.RegionHeld3
import Derived.Laws.Rows
import Derived.Lib.AppendStr
import Derived.ArgAppend
import Derived.Laws.IdiomCopy
import Derived.OrdersHeld
import Derived.Laws.BitsLemmas
import Derived.RowKit
import Derived.Test.YtahepinbmcgbnaaFl
import Derived.WalkLawsBesides
import Derived.Test.YtahepinbmcgbnaaVMore
section
-- Printed by this session's program (wip/tools: the kit's printer, turned for this claim), out of the translation.
namespace Go.Proofs.Ytahepinbmcgbnaa.PW
open Go.RowKit Go.Proofs.YtahepinbmcgbnaaW.PrintWords Go.Proofs.YtahepinbmcgbnaaW.PrintLast Go.Proofs.YtahepinbmcgbnaaW.PrintMore
attribute [local go_sem] max2_int min2_int max_two min_two max_three min_three max_four min_four   -- for this text's walks alone
attribute [local go_sem] Fl.frombits Fl.tobits
set_option linter.unusedVariables false
set_option linter.unusedSimpArgs false



def errW : Option Int → Value
 | none => .nilIface
 | some c => .iface 0 (.int .i64 c)
theorem errW_none : errW none = .nilIface := rfl
theorem errW_some (c : Int) : errW (some c) = .iface 0 (.int .i64 c) := rfl

-- the values' own types

end Go.Proofs.Ytahepinbmcgbnaa.PW
end
section
-- Printed by this session's program (wip/tools: the kit's printer, turned for this claim), out of the translation.
namespace Go.Proofs.Ytahepinbmcgbnaa.PW
open Go.RowKit Go.Proofs.YtahepinbmcgbnaaW.PrintWords Go.Proofs.YtahepinbmcgbnaaW.PrintLast Go.Proofs.YtahepinbmcgbnaaW.PrintMore
attribute [local go_sem] max2_int min2_int max_two min_two max_three min_three max_four min_four   -- for this text's walks alone
attribute [local go_sem] Fl.frombits Fl.tobits
set_option linter.unusedVariables false
set_option linter.unusedSimpArgs false

/-! ### gantryref1_Width: function 27 -/
mutual
def gantryref1_Width.j0 : Nat → Int → Bool → Option (Int)
 | 0, _, _ => none
 | k + 1, x3, x6 => if x6 = true then (some 8) else (if x3 = 3 then (gantryref1_Width.j1 k x3 (x3 == 3)) else (gantryref1_Width.j1 k x3 (x3 == 7)))
def gantryref1_Width.j1 : Nat → Int → Bool → Option (Int)
 | 0, _, _ => none
 | k + 1, x3, x9 => if x9 = true then (some 16) else (if x3 = 4 then (gantryref1_Width.j2 k x3 (x3 == 4)) else (gantryref1_Width.j2 k x3 (x3 == 8)))
def gantryref1_Width.j2 : Nat → Int → Bool → Option (Int)
 | 0, _, _ => none
 | k + 1, x3, x12 => if x12 = true then (some 32) else (if x3 = 5 then (some 64) else (if x3 = 9 then (some 64) else (if x3 = 10 then (some 64) else (if x3 = 11 then (some 64) else (some 0)))))
end
def gantryref1_Width.f (k : Nat) (a0 : Int) : Option (Int) := if a0 = 1 then (some 1) else (if a0 = 2 then (gantryref1_Width.j0 k a0 (a0 == 2)) else (gantryref1_Width.j0 k a0 (a0 == 6)))
theorem gantryref1_Width.mono_l : ∀ k, (∀ y0 y1, LeO (gantryref1_Width.j0 k y0 y1) (gantryref1_Width.j0 (k + 1) y0 y1)) ∧ (∀ y0 y1, LeO (gantryref1_Width.j1 k y0 y1) (gantryref1_Width.j1 (k + 1) y0 y1)) ∧ (∀ y0 y1, LeO (gantryref1_Width.j2 k y0 y1) (gantryref1_Width.j2 (k + 1) y0 y1))
 | 0 => ⟨fun _ _ r h => by simp [gantryref1_Width.j0] at h, fun _ _ r h => by simp [gantryref1_Width.j1] at h, fun _ _ r h => by simp [gantryref1_Width.j2] at h⟩
 | k + 1 => by
  obtain ⟨ih0, ih1, ih2⟩ := gantryref1_Width.mono_l k
  refine ⟨?_, ?_, ?_⟩
  ·intro y0 y1
   unfold gantryref1_Width.j0
   repeat' first
   | (with_reducible exact ih0 _ _)
   | (with_reducible exact ih1 _ _)
   | (with_reducible exact ih2 _ _)
   | (with_reducible exact LeO.refl _)
   | (with_reducible exact LeO.none _)
   | (with_reducible refine LeO.ite ?_ ?_)
   | (with_reducible refine LeO.bind ?_ (fun _ => ?_))
   | exact ih0 _ _
   | exact ih1 _ _
   | exact ih2 _ _
   | exact LeO.none _
   | refine LeO.ite ?_ ?_
   | refine LeO.bind ?_ (fun _ => ?_)
  ·intro y0 y1
   unfold gantryref1_Width.j1
   repeat' first
   | (with_reducible exact ih0 _ _)
   | (with_reducible exact ih1 _ _)
   | (with_reducible exact ih2 _ _)
   | (with_reducible exact LeO.refl _)
   | (with_reducible exact LeO.none _)
   | (with_reducible refine LeO.ite ?_ ?_)
   | (with_reducible refine LeO.bind ?_ (fun _ => ?_))
   | exact ih0 _ _
   | exact ih1 _ _
   | exact ih2 _ _
   | exact LeO.none _
   | refine LeO.ite ?_ ?_
   | refine LeO.bind ?_ (fun _ => ?_)
  ·intro y0 y1
   unfold gantryref1_Width.j2
   repeat' first
   | (with_reducible exact ih0 _ _)
   | (with_reducible exact ih1 _ _)
   | (with_reducible exact ih2 _ _)
   | (with_reducible exact LeO.refl _)
   | (with_reducible exact LeO.none _)
   | (with_reducible refine LeO.ite ?_ ?_)
   | (with_reducible refine LeO.bind ?_ (fun _ => ?_))
   | exact ih0 _ _
   | exact ih1 _ _
   | exact ih2 _ _
   | exact LeO.none _
   | refine LeO.ite ?_ ?_
   | refine LeO.bind ?_ (fun _ => ?_)
theorem gantryref1_Width.mono : ∀ a0 k, LeO (gantryref1_Width.f k a0) (gantryref1_Width.f (k + 1) a0) := by
 intro a0 k
 obtain ⟨ih0, ih1, ih2⟩ := gantryref1_Width.mono_l k
 unfold gantryref1_Width.f
 repeat' first
   | (with_reducible exact ih0 _ _)
   | (with_reducible exact ih1 _ _)
   | (with_reducible exact ih2 _ _)
   | (with_reducible exact LeO.refl _)
   | (with_reducible exact LeO.none _)
   | (with_reducible refine LeO.ite ?_ ?_)
   | (with_reducible refine LeO.bind ?_ (fun _ => ?_))
   | exact ih0 _ _
   | exact ih1 _ _
   | exact ih2 _ _
   | exact LeO.none _
   | refine LeO.ite ?_ ?_
   | refine LeO.bind ?_ (fun _ => ?_)
set_option maxHeartbeats 8000000 in
set_option maxRecDepth 100000 in
theorem gantryref1_Width.calls (k : Nat) (a0 : Int) (r : Int) (w : World) (h : gantryref1_Width.f k a0 = some r) :
  Calls Try.prog 27 #[.int .i64 a0] w fun e w' => e = .returned (.int .i64 r) ∧ Drawn0 w w' := by
 have H : (if a0 = 1 then (some 1) else (if a0 = 2 then (gantryref1_Width.j0 k a0 (a0 == 2)) else (gantryref1_Width.j0 k a0 (a0 == 6)))) = some r := h
 clear h
 by_cases c2 : a0 = 1
 ·rw [if_pos c2] at H
  have c2b0 : (a0 == 1) = true := beq_iff_eq.mpr c2
  have c2b1 : (a0 != 1) = false := bne_eq_false_iff_eq.mpr c2
  clear c2
  obtain rfl := Option.some.inj H
  go_enter Try.func27, Try.ntmps27
  go_wp2
  go_ret
  exact ⟨by first | rfl | (simp; done) | (simp [*]; done), by repeat (first | exact Drawn0.refl _ | apply Drawn0.step)⟩
 ·rw [if_neg c2] at H
  have c2b0 : (a0 == 1) = false := beq_eq_false_iff_ne.mpr c2
  have c2b1 : (a0 != 1) = true := bne_iff_ne.mpr c2
  have HC3 := Aside0.mk H
  clear H
  go_enter Try.func27, Try.ntmps27
  go_upto_if 6 with (fail)
  go_cut [6] (fun v6 wc => ∃ (kq : Nat) (x6_2 : Bool), v6 = .bool x6_2 ∧ Aside0 (gantryref1_Width.j0 kq a0 x6_2 = some r) ∧ Aside0 (kq ≤ k) ∧ Drawn0 w wc)
  case first =>
   have H := HC3.out
   clear HC3
   by_cases c4 : a0 = 2
   ·rw [if_pos c4] at H
    have c4b0 : (a0 == 2) = true := beq_iff_eq.mpr c4
    have c4b1 : (a0 != 2) = false := bne_eq_false_iff_eq.mpr c4
    clear c4
    (first | rw [c4b0] | (simp only [i64_w, i32_w]; rw [c4b0]) | skip)
    have H' := Aside0.mk H
    clear H
    go_wp2
    go_meet
    case rel => exact ⟨_, ((a0 == 2)), (by first | rfl | (simp; done) | (simp [*]; done)), H', ⟨by first | omega | exact Nat.le_refl _⟩, by repeat (first | exact Drawn0.refl _ | apply Drawn0.step)⟩
   ·rw [if_neg c4] at H
    have c4b0 : (a0 == 2) = false := beq_eq_false_iff_ne.mpr c4
    have c4b1 : (a0 != 2) = true := bne_iff_ne.mpr c4
    (first | rw [c4b0] | (simp only [i64_w, i32_w]; rw [c4b0]) | skip)
    have H' := Aside0.mk H
    clear H
    go_wp2
    go_meet
    case rel => exact ⟨_, ((a0 == 6)), (by first | rfl | (simp; done) | (simp [*]; done)), H', ⟨by first | omega | exact Nat.le_refl _⟩, by repeat (first | exact Drawn0.refl _ | apply Drawn0.step)⟩
  case rest =>
   clear HC3
   try clear c2
   try clear c2b0
   try clear c2b1
   try clear p2
   try clear c4
   try clear c4b0
   try clear c4b1
   obtain ⟨kq, x6_2, rfl, HA, HJ2, ⟨mc2, rfl⟩⟩ := hcut
   cases kq with
   | zero => exact absurd HA.out (by simp [gantryref1_Width.j0])
   | succ kj2 =>
    have H := HA.out
    clear HA
    simp only [gantryref1_Width.j0] at H
    by_cases c5 : x6_2 = true
    ·subst c5
     have H1 : (some 8) = some r := by rw [if_pos rfl] at H; exact H
     clear H
     have H := H1
     clear H1
     obtain rfl := Option.some.inj H
     go_wp2
     go_ret
     exact ⟨by first | rfl | (simp; done) | (simp [*]; done), by repeat (first | exact Drawn0.refl _ | apply Drawn0.step)⟩
    ·replace c5 := Bool.eq_false_iff.mpr c5
     subst c5
     have H1 : (if a0 = 3 then (gantryref1_Width.j1 kj2 a0 (a0 == 3)) else (gantryref1_Width.j1 kj2 a0 (a0 == 7))) = some r := by rw [if_neg (show ¬ (false = true) by decide)] at H; exact H
     clear H
     have H := H1
     clear H1
     have HC6 := Aside0.mk H
     clear H
     go_upto_if 9 with (fail)
     go_cut [9] (fun v9 wc => ∃ (kq : Nat) (x9_5 : Bool), v9 = .bool x9_5 ∧ Aside0 (gantryref1_Width.j1 kq a0 x9_5 = some r) ∧ Aside0 (kq ≤ kj2) ∧ Drawn0 w wc)
     case first =>
      have H := HC6.out
      clear HC6
      by_cases c7 : a0 = 3
      ·rw [if_pos c7] at H
       have c7b0 : (a0 == 3) = true := beq_iff_eq.mpr c7
       have c7b1 : (a0 != 3) = false := bne_eq_false_iff_eq.mpr c7
       clear c7
       (first | rw [c7b0] | (simp only [i64_w, i32_w]; rw [c7b0]) | skip)
       have H' := Aside0.mk H
       clear H
       go_wp2
       go_meet
       case rel => exact ⟨_, ((a0 == 3)), (by first | rfl | (simp; done) | (simp [*]; done)), H', ⟨by have := HJ2.out; first | omega | exact Nat.le_refl _⟩, by repeat (first | exact Drawn0.refl _ | apply Drawn0.step)⟩
      ·rw [if_neg c7] at H
       have c7b0 : (a0 == 3) = false := beq_eq_false_iff_ne.mpr c7
       have c7b1 : (a0 != 3) = true := bne_iff_ne.mpr c7
       (first | rw [c7b0] | (simp only [i64_w, i32_w]; rw [c7b0]) | skip)
       have H' := Aside0.mk H
       clear H
       go_wp2
       go_meet
       case rel => exact ⟨_, ((a0 == 7)), (by first | rfl | (simp; done) | (simp [*]; done)), H', ⟨by have := HJ2.out; first | omega | exact Nat.le_refl _⟩, by repeat (first | exact Drawn0.refl _ | apply Drawn0.step)⟩
     case rest =>
      clear HC6
      try clear c2
      try clear c2b0
      try clear c2b1
      try clear p2
      try clear c4
      try clear c4b0
      try clear c4b1
      try clear c5
      try clear c7
      try clear c7b0
      try clear c7b1
      try clear p2
      obtain ⟨kq, x9_5, rfl, HA, HJ5, ⟨mc5, rfl⟩⟩ := hcut
      cases kq with
      | zero => exact absurd HA.out (by simp [gantryref1_Width.j1])
      | succ kj5 =>
       have H := HA.out
       clear HA
       simp only [gantryref1_Width.j1] at H
       by_cases c8 : x9_5 = true
       ·subst c8
        have H1 : (some 16) = some r := by rw [if_pos rfl] at H; exact H
        clear H
        have H := H1
        clear H1
        obtain rfl := Option.some.inj H
        go_wp2
        go_ret
        exact ⟨by first | rfl | (simp; done) | (simp [*]; done), by repeat (first | exact Drawn0.refl _ | apply Drawn0.step)⟩
       ·replace c8 := Bool.eq_false_iff.mpr c8
        subst c8
        have H1 : (if a0 = 4 then (gantryref1_Width.j2 kj5 a0 (a0 == 4)) else (gantryref1_Width.j2 kj5 a0 (a0 == 8))) = some r := by rw [if_neg (show ¬ (false = true) by decide)] at H; exact H
        clear H
        have H := H1
        clear H1
        have HC9 := Aside0.mk H
        clear H
        go_upto_if 12 with (fail)
        go_cut [12] (fun v12 wc => ∃ (kq : Nat) (x12_8 : Bool), v12 = .bool x12_8 ∧ Aside0 (gantryref1_Width.j2 kq a0 x12_8 = some r) ∧ Aside0 (kq ≤ kj5) ∧ Drawn0 w wc)
        case first =>
         have H := HC9.out
         clear HC9
         by_cases c10 : a0 = 4
         ·rw [if_pos c10] at H
          have c10b0 : (a0 == 4) = true := beq_iff_eq.mpr c10
          have c10b1 : (a0 != 4) = false := bne_eq_false_iff_eq.mpr c10
          clear c10
          (first | rw [c10b0] | (simp only [i64_w, i32_w]; rw [c10b0]) | skip)
          have H' := Aside0.mk H
          clear H
          go_wp2
          go_meet
          case rel => exact ⟨_, ((a0 == 4)), (by first | rfl | (simp; done) | (simp [*]; done)), H', ⟨by have := HJ2.out; have := HJ5.out; first | omega | exact Nat.le_refl _⟩, by repeat (first | exact Drawn0.refl _ | apply Drawn0.step)⟩
         ·rw [if_neg c10] at H
          have c10b0 : (a0 == 4) = false := beq_eq_false_iff_ne.mpr c10
          have c10b1 : (a0 != 4) = true := bne_iff_ne.mpr c10
          (first | rw [c10b0] | (simp only [i64_w, i32_w]; rw [c10b0]) | skip)
          have H' := Aside0.mk H
          clear H
          go_wp2
          go_meet
          case rel => exact ⟨_, ((a0 == 8)), (by first | rfl | (simp; done) | (simp [*]; done)), H', ⟨by have := HJ2.out; have := HJ5.out; first | omega | exact Nat.le_refl _⟩, by repeat (first | exact Drawn0.refl _ | apply Drawn0.step)⟩
        case rest =>
         clear HC9
         try clear c1
         try clear c2
         try clear c2b0
         try clear c2b1
         try clear p2
         try clear c4
         try clear c4b0
         try clear c4b1
         try clear c5
         try clear c7
         try clear c7b0
         try clear c7b1
         try clear c8
         try clear c10
         try clear c10b0
         try clear c10b1
         try clear p2
         obtain ⟨kq, x12_8, rfl, HA, HJ8, ⟨mc8, rfl⟩⟩ := hcut
         cases kq with
         | zero => exact absurd HA.out (by simp [gantryref1_Width.j2])
         | succ kj8 =>
          have H := HA.out
          clear HA
          simp only [gantryref1_Width.j2] at H
          by_cases c11 : x12_8 = true
          ·subst c11
           have H1 : (some 32) = some r := by rw [if_pos rfl] at H; exact H
           clear H
           have H := H1
           clear H1
           obtain rfl := Option.some.inj H
           go_wp2
           go_ret
           exact ⟨by first | rfl | (simp; done) | (simp [*]; done), by repeat (first | exact Drawn0.refl _ | apply Drawn0.step)⟩
          ·replace c11 := Bool.eq_false_iff.mpr c11
           subst c11
           have H1 : (if a0 = 5 then (some 64) else (if a0 = 9 then (some 64) else (if a0 = 10 then (some 64) else (if a0 = 11 then (some 64) else (some 0))))) = some r := by rw [if_neg (show ¬ (false = true) by decide)] at H; exact H
           clear H
           have H := H1
           clear H1
           by_cases c12 : a0 = 5
           ·rw [if_pos c12] at H
            have c12b0 : (a0 == 5) = true := beq_iff_eq.mpr c12
            have c12b1 : (a0 != 5) = false := bne_eq_false_iff_eq.mpr c12
            clear c12
            obtain rfl := Option.some.inj H
            go_wp2
            go_ret
            exact ⟨by first | rfl | (simp; done) | (simp [*]; done), by repeat (first | exact Drawn0.refl _ | apply Drawn0.step)⟩
           ·rw [if_neg c12] at H
            have c12b0 : (a0 == 5) = false := beq_eq_false_iff_ne.mpr c12
            have c12b1 : (a0 != 5) = true := bne_iff_ne.mpr c12
            by_cases c13 : a0 = 9
            ·rw [if_pos c13] at H
             have c13b0 : (a0 == 9) = true := beq_iff_eq.mpr c13
             have c13b1 : (a0 != 9) = false := bne_eq_false_iff_eq.mpr c13
             clear c13
             obtain rfl := Option.some.inj H
             go_wp2
             go_ret
             exact ⟨by first | rfl | (simp; done) | (simp [*]; done), by repeat (first | exact Drawn0.refl _ | apply Drawn0.step)⟩
            ·rw [if_neg c13] at H
             have c13b0 : (a0 == 9) = false := beq_eq_false_iff_ne.mpr c13
             have c13b1 : (a0 != 9) = true := bne_iff_ne.mpr c13
             by_cases c14 : a0 = 10
             ·rw [if_pos c14] at H
              have c14b0 : (a0 == 10) = true := beq_iff_eq.mpr c14
              have c14b1 : (a0 != 10) = false := bne_eq_false_iff_eq.mpr c14
              clear c14
              obtain rfl := Option.some.inj H
              go_wp2
              go_ret
              exact ⟨by first | rfl | (simp; done) | (simp [*]; done), by repeat (first | exact Drawn0.refl _ | apply Drawn0.step)⟩
             ·rw [if_neg c14] at H
              have c14b0 : (a0 == 10) = false := beq_eq_false_iff_ne.mpr c14
              have c14b1 : (a0 != 10) = true := bne_iff_ne.mpr c14
              by_cases c15 : a0 = 11
              ·rw [if_pos c15] at H
               have c15b0 : (a0 == 11) = true := beq_iff_eq.mpr c15
               have c15b1 : (a0 != 11) = false := bne_eq_false_iff_eq.mpr c15
               clear c15
               obtain rfl := Option.some.inj H
               go_wp2
               go_ret
               exact ⟨by first | rfl | (simp; done) | (simp [*]; done), by repeat (first | exact Drawn0.refl _ | apply Drawn0.step)⟩
              ·rw [if_neg c15] at H
               have c15b0 : (a0 == 11) = false := beq_eq_false_iff_ne.mpr c15
               have c15b1 : (a0 != 11) = true := bne_iff_ne.mpr c15
               obtain rfl := Option.some.inj H
               go_wp2
               go_ret
               exact ⟨by first | rfl | (simp; done) | (simp [*]; done), by repeat (first | exact Drawn0.refl _ | apply Drawn0.step)⟩

/-! ### gantryref1_Signed: function 68 -/
def gantryref1_Signed.f (a0 : Int) : Option (Bool) := if a0 ≥ 2 then (some (decide (a0 ≤ 5))) else (some false)
set_option maxHeartbeats 8000000 in
set_option maxRecDepth 100000 in
theorem gantryref1_Signed.calls (a0 : Int) (r : Bool) (w : World) (h : gantryref1_Signed.f a0 = some r) :
  Calls Try.prog 68 #[.int .i64 a0] w fun e w' => e = .returned (.bool r) ∧ Drawn0 w w' := by
 have H : (if a0 ≥ 2 then (some (decide (a0 ≤ 5))) else (some false)) = some r := h
 clear h
 by_cases c2 : a0 ≥ 2
 ·rw [if_pos c2] at H
  have c2b0 : decide (2 ≤ a0) = true := decide_eq_true c2
  clear c2
  obtain rfl := Option.some.inj H
  go_enter Try.func68, Try.ntmps68
  go_wp2
  go_ret
  exact ⟨by first | rfl | (simp; done) | (simp [*]; done), by repeat (first | exact Drawn0.refl _ | apply Drawn0.step)⟩
 ·rw [if_neg c2] at H
  have c2b0 : decide (2 ≤ a0) = false := decide_eq_false c2
  clear c2
  obtain rfl := Option.some.inj H
  go_enter Try.func68, Try.ntmps68
  go_wp2
  go_ret
  exact ⟨by first | rfl | (simp; done) | (simp [*]; done), by repeat (first | exact Drawn0.refl _ | apply Drawn0.step)⟩

/-! ### gantryref1_Word: function 70 -/
def gantryref1_Word.f (a0 : Int) : Option (Bool) := if a0 ≥ 1 then (some (decide (a0 ≤ 11))) else (some false)
set_option maxHeartbeats 8000000 in
set_option maxRecDepth 100000 in
theorem gantryref1_Word.calls (a0 : Int) (r : Bool) (w : World) (h : gantryref1_Word.f a0 = some r) :
  Calls Try.prog 70 #[.int .i64 a0] w fun e w' => e = .returned (.bool r) ∧ Drawn0 w w' := by
 have H : (if a0 ≥ 1 then (some (decide (a0 ≤ 11))) else (some false)) = some r := h
 clear h
 by_cases c2 : a0 ≥ 1
 ·rw [if_pos c2] at H
  have c2b0 : decide (1 ≤ a0) = true := decide_eq_true c2
  clear c2
  obtain rfl := Option.some.inj H
  go_enter Try.func70, Try.ntmps70
  go_wp2
  go_ret
  exact ⟨by first | rfl | (simp; done) | (simp [*]; done), by repeat (first | exact Drawn0.refl _ | apply Drawn0.step)⟩
 ·rw [if_neg c2] at H
  have c2b0 : decide (1 ≤ a0) = false := decide_eq_false c2
  clear c2
  obtain rfl := Option.some.inj H
  go_enter Try.func70, Try.ntmps70
  go_wp2
  go_ret
  exact ⟨by first | rfl | (simp; done) | (simp [*]; done), by repeat (first | exact Drawn0.refl _ | apply Drawn0.step)⟩

end Go.Proofs.Ytahepinbmcgbnaa.PW
end
section
-- Printed by this session's program (wip/tools: the kit's printer, turned for this claim), out of the translation.
namespace Go.Proofs.Ytahepinbmcgbnaa.PW
open Go.RowKit Go.Proofs.YtahepinbmcgbnaaW.PrintWords Go.Proofs.YtahepinbmcgbnaaW.PrintLast Go.Proofs.YtahepinbmcgbnaaW.PrintMore
attribute [local go_sem] max2_int min2_int max_two min_two max_three min_three max_four min_four   -- for this text's walks alone
attribute [local go_sem] Fl.frombits Fl.tobits
set_option linter.unusedVariables false
set_option linter.unusedSimpArgs false

/-! ### gantryref1_Canon: function 30 -/
def gantryref1_Canon.f (k : Nat) (a0 : Int) (a1 : Int) : Option (Int) := (gantryref1_Word.f a0).bind fun t101 => (if t101 = true then ((gantryref1_Width.f k a0).bind fun t102 => ((gantryref1_Signed.f a0).bind fun t103 => (if t103 = true then (if 0 ≤ (IntKind.u64.wrap (wrap64 (64 - t102))) then (some (IntKind.u64.wrap (shr .i64 (wrap64 (shl .u64 a1 (IntKind.u64.wrap (wrap64 (64 - t102))))) (IntKind.u64.wrap (wrap64 (64 - t102)))))) else (none)) else (if 0 ≤ (IntKind.u64.wrap (wrap64 (64 - t102))) then (some (shr .u64 (shl .u64 a1 (IntKind.u64.wrap (wrap64 (64 - t102)))) (IntKind.u64.wrap (wrap64 (64 - t102))))) else (none))))) else (some 0))
theorem gantryref1_Canon.mono : ∀ a0 a1 k, LeO (gantryref1_Canon.f k a0 a1) (gantryref1_Canon.f (k + 1) a0 a1) := by
 intro a0 a1 k
 unfold gantryref1_Canon.f
 repeat' first
   | (with_reducible exact gantryref1_Width.mono _ _)
   | (with_reducible exact LeO.refl _)
   | (with_reducible exact LeO.none _)
   | (with_reducible refine LeO.ite ?_ ?_)
   | (with_reducible refine LeO.bind ?_ (fun _ => ?_))
   | exact gantryref1_Width.mono _ _
   | exact LeO.none _
   | refine LeO.ite ?_ ?_
   | refine LeO.bind ?_ (fun _ => ?_)
set_option maxHeartbeats 8000000 in
set_option maxRecDepth 100000 in
theorem gantryref1_Canon.calls (k : Nat) (a0 : Int) (a1 : Int) (r : Int) (w : World) (h : gantryref1_Canon.f k a0 a1 = some r) :
  Calls Try.prog 30 #[.int .i64 a0, .int .u64 a1] w fun e w' => e = .returned (.int .u64 r) ∧ Drawn0 w w' := by
 have H : ((gantryref1_Word.f a0).bind fun t101 => (if t101 = true then ((gantryref1_Width.f k a0).bind fun t102 => ((gantryref1_Signed.f a0).bind fun t103 => (if t103 = true then (if 0 ≤ (IntKind.u64.wrap (wrap64 (64 - t102))) then (some (IntKind.u64.wrap (shr .i64 (wrap64 (shl .u64 a1 (IntKind.u64.wrap (wrap64 (64 - t102))))) (IntKind.u64.wrap (wrap64 (64 - t102)))))) else (none)) else (if 0 ≤ (IntKind.u64.wrap (wrap64 (64 - t102))) then (some (shr .u64 (shl .u64 a1 (IntKind.u64.wrap (wrap64 (64 - t102)))) (IntKind.u64.wrap (wrap64 (64 - t102))))) else (none))))) else (some 0))) = some r := h
 clear h
 replace H := Option.bind_eq_some_iff.mp H
 obtain ⟨t101, A30, H⟩ := H
 replace H : (if t101 = true then ((gantryref1_Width.f k a0).bind fun t102 => ((gantryref1_Signed.f a0).bind fun t103 => (if t103 = true then (if 0 ≤ (IntKind.u64.wrap (wrap64 (64 - t102))) then (some (IntKind.u64.wrap (shr .i64 (wrap64 (shl .u64 a1 (IntKind.u64.wrap (wrap64 (64 - t102))))) (IntKind.u64.wrap (wrap64 (64 - t102)))))) else (none)) else (if 0 ≤ (IntKind.u64.wrap (wrap64 (64 - t102))) then (some (shr .u64 (shl .u64 a1 (IntKind.u64.wrap (wrap64 (64 - t102)))) (IntKind.u64.wrap (wrap64 (64 - t102))))) else (none))))) else (some 0)) = some r := H
 have A3 := Aside0.mk A30
 clear A30
 by_cases c4 : t101 = true
 ·subst c4
  have H1 : ((gantryref1_Width.f k a0).bind fun t102 => ((gantryref1_Signed.f a0).bind fun t103 => (if t103 = true then (if 0 ≤ (IntKind.u64.wrap (wrap64 (64 - t102))) then (some (IntKind.u64.wrap (shr .i64 (wrap64 (shl .u64 a1 (IntKind.u64.wrap (wrap64 (64 - t102))))) (IntKind.u64.wrap (wrap64 (64 - t102)))))) else (none)) else (if 0 ≤ (IntKind.u64.wrap (wrap64 (64 - t102))) then (some (shr .u64 (shl .u64 a1 (IntKind.u64.wrap (wrap64 (64 - t102)))) (IntKind.u64.wrap (wrap64 (64 - t102))))) else (none))))) = some r := by rw [if_pos rfl] at H; exact H
  clear H
  have H := H1
  clear H1
  replace H := Option.bind_eq_some_iff.mp H
  obtain ⟨t102, A50, H⟩ := H
  replace H : ((gantryref1_Signed.f a0).bind fun t103 => (if t103 = true then (if 0 ≤ (IntKind.u64.wrap (wrap64 (64 - t102))) then (some (IntKind.u64.wrap (shr .i64 (wrap64 (shl .u64 a1 (IntKind.u64.wrap (wrap64 (64 - t102))))) (IntKind.u64.wrap (wrap64 (64 - t102)))))) else (none)) else (if 0 ≤ (IntKind.u64.wrap (wrap64 (64 - t102))) then (some (shr .u64 (shl .u64 a1 (IntKind.u64.wrap (wrap64 (64 - t102)))) (IntKind.u64.wrap (wrap64 (64 - t102))))) else (none)))) = some r := H
  have A5 := Aside0.mk A50
  clear A50
  replace H := Option.bind_eq_some_iff.mp H
  obtain ⟨t103, A60, H⟩ := H
  replace H : (if t103 = true then (if 0 ≤ (IntKind.u64.wrap (wrap64 (64 - t102))) then (some (IntKind.u64.wrap (shr .i64 (wrap64 (shl .u64 a1 (IntKind.u64.wrap (wrap64 (64 - t102))))) (IntKind.u64.wrap (wrap64 (64 - t102)))))) else (none)) else (if 0 ≤ (IntKind.u64.wrap (wrap64 (64 - t102))) then (some (shr .u64 (shl .u64 a1 (IntKind.u64.wrap (wrap64 (64 - t102)))) (IntKind.u64.wrap (wrap64 (64 - t102))))) else (none))) = some r := H
  have A6 := Aside0.mk A60
  clear A60
  by_cases c7 : t103 = true
  ·subst c7
   have H1 : (if 0 ≤ (IntKind.u64.wrap (wrap64 (64 - t102))) then (some (IntKind.u64.wrap (shr .i64 (wrap64 (shl .u64 a1 (IntKind.u64.wrap (wrap64 (64 - t102))))) (IntKind.u64.wrap (wrap64 (64 - t102)))))) else (none)) = some r := by rw [if_pos rfl] at H; exact H
   clear H
   have H := H1
   clear H1
   obtain ⟨ji8, hji8⟩ : ∃ j_ : Int, (IntKind.u64.wrap (wrap64 (64 - t102))) = j_ := ⟨_, rfl⟩
   replace H : (if 0 ≤ (ji8) then (some (IntKind.u64.wrap (shr .i64 (wrap64 (shl .u64 a1 (ji8))) (ji8)))) else (none)) = some r := by first | (rw [hji8] at H; exact H) | (simp only [hji8] at H ⊢; exact H)
   (try rw [hji8] at A3)
   (try rw [hji8] at A5)
   (try rw [hji8] at A6)
   by_cases c9 : 0 ≤ (ji8)
   ·rw [if_pos c9] at H
    have c9b0 := eq_true c9
    have c9b1 : decide (0 ≤ (ji8)) = true := decide_eq_true c9
    clear c9
    obtain ⟨ji10, hji10⟩ : ∃ j_ : Int, (shl .u64 a1 (ji8)) = j_ := ⟨_, rfl⟩
    replace H : (some (IntKind.u64.wrap (shr .i64 (wrap64 (ji10)) (ji8)))) = some r := by first | (rw [hji10] at H; exact H) | (simp only [hji10] at H ⊢; exact H)
    (try rw [hji10] at A3)
    (try rw [hji10] at A5)
    (try rw [hji10] at A6)
    have hji10_ : (IntKind.u64.wrap (a1 * 2 ^ min (ji8).toNat 64)) = ji10 := hji10
    have hji10z : (ji8) ≤ 64 → (IntKind.u64.wrap (a1 * 2 ^ (ji8).toNat)) = ji10 := shl_small hji10
    have c11b0 := eq_true (of_decide_eq_true (by first | (with_reducible assumption) | assumption) : 0 ≤ (ji8))
    obtain ⟨ji12, hji12⟩ : ∃ j_ : Int, (shr .i64 (wrap64 (ji10)) (ji8)) = j_ := ⟨_, rfl⟩
    replace H : (some (IntKind.u64.wrap (ji12))) = some r := by first | (rw [hji12] at H; exact H) | (simp only [hji12] at H ⊢; exact H)
    (try rw [hji12] at A3)
    (try rw [hji12] at A5)
    (try rw [hji12] at A6)
    have hji12_ : ((wrap64 (ji10)) / 2 ^ min (ji8).toNat 64) = ji12 := hji12
    have hji12z : (ji8) ≤ 64 → ((wrap64 (ji10)) / 2 ^ (ji8).toNat) = ji12 := shr_small hji12
    obtain rfl := Option.some.inj H
    go_enter Try.func30, Try.ntmps30
    go_wp2_with (first | ((with_reducible refine gate_callee (f := 70) rfl ?_); refine goesL_ (some 7) rfl rfl Try.func70 (by kernel_rfl) rfl #[.int .i64 a0] rfl (by (try simp only [List.map_toArray, List.map_cons, List.map_nil]); first | done | rfl | (simp only [List.length_drop, List.length_take]; rfl)) ?_; (with_reducible refine (gantryref1_Word.calls a0 true _ A3.out).mono ?_); rintro e w' ⟨rfl, ⟨nd, rfl⟩⟩; refine ⟨_, rfl, ?_⟩) | ((with_reducible refine gate_callee (f := 27) rfl ?_); refine goesL_ (some 10) rfl rfl Try.func27 (by kernel_rfl) rfl #[.int .i64 a0] rfl (by (try simp only [List.map_toArray, List.map_cons, List.map_nil]); first | done | rfl | (simp only [List.length_drop, List.length_take]; rfl)) ?_; (with_reducible refine (gantryref1_Width.calls k a0 t102 _ A5.out).mono ?_); rintro e w' ⟨rfl, ⟨nd, rfl⟩⟩; refine ⟨_, rfl, ?_⟩) | ((with_reducible refine gate_callee (f := 68) rfl ?_); refine goesL_ (some 14) rfl rfl Try.func68 (by kernel_rfl) rfl #[.int .i64 a0] rfl (by (try simp only [List.map_toArray, List.map_cons, List.map_nil]); first | done | rfl | (simp only [List.length_drop, List.length_take]; rfl)) ?_; (with_reducible refine (gantryref1_Signed.calls a0 true _ A6.out).mono ?_); rintro e w' ⟨rfl, ⟨nd, rfl⟩⟩; refine ⟨_, rfl, ?_⟩))
    go_ret
    exact ⟨by first | rfl | (simp; done) | (simp only [← hji8, ← hji10, ← hji12] <;> (first | rfl | simp)) | (simp [*]; done), by repeat (first | exact Drawn0.refl _ | apply Drawn0.step)⟩
   ·rw [if_neg c9] at H
    exact absurd H (by simp)
  ·replace c7 := Bool.eq_false_iff.mpr c7
   subst c7
   have H1 : (if 0 ≤ (IntKind.u64.wrap (wrap64 (64 - t102))) then (some (shr .u64 (shl .u64 a1 (IntKind.u64.wrap (wrap64 (64 - t102)))) (IntKind.u64.wrap (wrap64 (64 - t102))))) else (none)) = some r := by rw [if_neg (show ¬ (false = true) by decide)] at H; exact H
   clear H
   have H := H1
   clear H1
   obtain ⟨ji13, hji13⟩ : ∃ j_ : Int, (IntKind.u64.wrap (wrap64 (64 - t102))) = j_ := ⟨_, rfl⟩
   replace H : (if 0 ≤ (ji13) then (some (shr .u64 (shl .u64 a1 (ji13)) (ji13))) else (none)) = some r := by first | (rw [hji13] at H; exact H) | (simp only [hji13] at H ⊢; exact H)
   (try rw [hji13] at A3)
   (try rw [hji13] at A5)
   (try rw [hji13] at A6)
   by_cases c14 : 0 ≤ (ji13)
   ·rw [if_pos c14] at H
    have c14b0 := eq_true c14
    have c14b1 : decide (0 ≤ (ji13)) = true := decide_eq_true c14
    clear c14
    obtain ⟨ji15, hji15⟩ : ∃ j_ : Int, (shl .u64 a1 (ji13)) = j_ := ⟨_, rfl⟩
    replace H : (some (shr .u64 (ji15) (ji13))) = some r := by first | (rw [hji15] at H; exact H) | (simp only [hji15] at H ⊢; exact H)
    (try rw [hji15] at A3)
    (try rw [hji15] at A5)
    (try rw [hji15] at A6)
    have hji15_ : (IntKind.u64.wrap (a1 * 2 ^ min (ji13).toNat 64)) = ji15 := hji15
    have hji15z : (ji13) ≤ 64 → (IntKind.u64.wrap (a1 * 2 ^ (ji13).toNat)) = ji15 := shl_small hji15
    have c16b0 := eq_true (of_decide_eq_true (by first | (with_reducible assumption) | assumption) : 0 ≤ (ji13))
    obtain ⟨ji17, hji17⟩ : ∃ j_ : Int, (shr .u64 (ji15) (ji13)) = j_ := ⟨_, rfl⟩
    replace H : (some ji17) = some r := by first | (rw [hji17] at H; exact H) | (simp only [hji17] at H ⊢; exact H)
    (try rw [hji17] at A3)
    (try rw [hji17] at A5)
    (try rw [hji17] at A6)
    have hji17_ : ((ji15) / 2 ^ min (ji13).toNat 64) = ji17 := hji17
    have hji17z : (ji13) ≤ 64 → ((ji15) / 2 ^ (ji13).toNat) = ji17 := shr_small hji17
    obtain rfl := Option.some.inj H
    go_enter Try.func30, Try.ntmps30
    go_wp2_with (first | ((with_reducible refine gate_callee (f := 70) rfl ?_); refine goesL_ (some 7) rfl rfl Try.func70 (by kernel_rfl) rfl #[.int .i64 a0] rfl (by (try simp only [List.map_toArray, List.map_cons, List.map_nil]); first | done | rfl | (simp only [List.length_drop, List.length_take]; rfl)) ?_; (with_reducible refine (gantryref1_Word.calls a0 true _ A3.out).mono ?_); rintro e w' ⟨rfl, ⟨nd, rfl⟩⟩; refine ⟨_, rfl, ?_⟩) | ((with_reducible refine gate_callee (f := 27) rfl ?_); refine goesL_ (some 10) rfl rfl Try.func27 (by kernel_rfl) rfl #[.int .i64 a0] rfl (by (try simp only [List.map_toArray, List.map_cons, List.map_nil]); first | done | rfl | (simp only [List.length_drop, List.length_take]; rfl)) ?_; (with_reducible refine (gantryref1_Width.calls k a0 t102 _ A5.out).mono ?_); rintro e w' ⟨rfl, ⟨nd, rfl⟩⟩; refine ⟨_, rfl, ?_⟩) | ((with_reducible refine gate_callee (f := 68) rfl ?_); refine goesL_ (some 14) rfl rfl Try.func68 (by kernel_rfl) rfl #[.int .i64 a0] rfl (by (try simp only [List.map_toArray, List.map_cons, List.map_nil]); first | done | rfl | (simp only [List.length_drop, List.length_take]; rfl)) ?_; (with_reducible refine (gantryref1_Signed.calls a0 false _ A6.out).mono ?_); rintro e w' ⟨rfl, ⟨nd, rfl⟩⟩; refine ⟨_, rfl, ?_⟩))
    go_ret
    exact ⟨by first | rfl | (simp; done) | (simp only [← hji13, ← hji15, ← hji17] <;> (first | rfl | simp)) | (simp [*]; done), by repeat (first | exact Drawn0.refl _ | apply Drawn0.step)⟩
   ·rw [if_neg c14] at H
    exact absurd H (by simp)
 ·replace c4 := Bool.eq_false_iff.mpr c4
  subst c4
  have H1 : (some 0) = some r := by rw [if_neg (show ¬ (false = true) by decide)] at H; exact H
  clear H
  have H := H1
  clear H1
  obtain rfl := Option.some.inj H
  go_enter Try.func30, Try.ntmps30
  go_wp2_with (first | ((with_reducible refine gate_callee (f := 70) rfl ?_); refine goesL_ (some 7) rfl rfl Try.func70 (by kernel_rfl) rfl #[.int .i64 a0] rfl (by (try simp only [List.map_toArray, List.map_cons, List.map_nil]); first | done | rfl | (simp only [List.length_drop, List.length_take]; rfl)) ?_; (with_reducible refine (gantryref1_Word.calls a0 false _ A3.out).mono ?_); rintro e w' ⟨rfl, ⟨nd, rfl⟩⟩; refine ⟨_, rfl, ?_⟩))
  go_ret
  exact ⟨by first | rfl | (simp; done) | (simp [*]; done), by repeat (first | exact Drawn0.refl _ | apply Drawn0.step)⟩

end Go.Proofs.Ytahepinbmcgbnaa.PW
end
