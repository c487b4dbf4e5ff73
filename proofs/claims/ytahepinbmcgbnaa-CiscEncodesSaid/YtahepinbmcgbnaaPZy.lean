/- Several texts in one: PZx0 PZx1 PZx2 PZx3 PZx4 PZx5. No condition. -/
import Derived.Test.YtahepinbmcgbnaaProg
import Derived.Below
import Derived.Deep.Draws
import Derived.Deep.AppendLies
import Derived.Maps.AppendAt
import Derived.OwnWalk
import Derived.Laws.BytesArg
import Derived.Laws.MakeOwn
import Derived.Laws.OwnMore
import Derived.Deep.OwnRows
import Derived.Tactics
import Derived.Lib.ConvBytes
import Derived.Laws.Slices
import Derived.WalkKit
import Derived.KernelRfl
import Derived.RowKit3
import Derived.Deep.LoopGhost
import Derived.Deep.QuietTactic
import Derived.BigQuiet
import Derived.WideLaws
import Derived.Deep.DeepCutAuto
import Derived.Deep.CutBlock
import Derived.Deep.RegionHeld3
import Derived.Laws.Rows
import Derived.Lib.AppendStr
import Derived.ArgAppend
import Derived.Laws.IdiomCopy
import Derived.OrdersHeld
import Derived.Laws.BitsLemmas
import Derived.RowKit
import Derived.Test.YtahepinbmcgbnaaFl
import Derived.WalkLawsBesides
import Derived.Test.YtahepinbmcgbnaaVMore
section
-- Printed by this session's program (wip/tools: the kit's printer, turned for this claim), out of the translation.
namespace Go.Proofs.Ytahepinbmcgbnaa.PZ
open Go.RowKit Go.Proofs.YtahepinbmcgbnaaW.PrintWords Go.Proofs.YtahepinbmcgbnaaW.PrintLast Go.Proofs.YtahepinbmcgbnaaW.PrintMore
attribute [local go_sem] max2_int min2_int max_two min_two max_three min_three max_four min_four   -- for this text's walks alone
attribute [local go_sem] Fl.frombits Fl.tobits
set_option linter.unusedVariables false
set_option linter.unusedSimpArgs false



def errW : Option Int → Value
 | none => .nilIface
 | some c => .iface 0 (.int .i64 c)
theorem errW_none : errW none = .nilIface := rfl
theorem errW_some (c : Int) : errW (some c) = .iface 0 (.int .i64 c) := rfl

-- the values' own types

end Go.Proofs.Ytahepinbmcgbnaa.PZ
end
section
-- Printed by this session's program (wip/tools: the kit's printer, turned for this claim), out of the translation.
namespace Go.Proofs.Ytahepinbmcgbnaa.PZ
open Go.RowKit Go.Proofs.YtahepinbmcgbnaaW.PrintWords Go.Proofs.YtahepinbmcgbnaaW.PrintLast Go.Proofs.YtahepinbmcgbnaaW.PrintMore
attribute [local go_sem] max2_int min2_int max_two min_two max_three min_three max_four min_four   -- for this text's walks alone
attribute [local go_sem] Fl.frombits Fl.tobits
set_option linter.unusedVariables false
set_option linter.unusedSimpArgs false

/-! ### word_Width: function 22 -/
mutual
def word_Width.j0 : Nat → Int → Bool → Option (Int)
 | 0, _, _ => none
 | k + 1, x3, x6 => if x6 = true then (some 8) else (if x3 = 3 then (word_Width.j1 k x3 (x3 == 3)) else (word_Width.j1 k x3 (x3 == 7)))
def word_Width.j1 : Nat → Int → Bool → Option (Int)
 | 0, _, _ => none
 | k + 1, x3, x9 => if x9 = true then (some 16) else (if x3 = 4 then (word_Width.j2 k x3 (x3 == 4)) else (word_Width.j2 k x3 (x3 == 8)))
def word_Width.j2 : Nat → Int → Bool → Option (Int)
 | 0, _, _ => none
 | k + 1, x3, x12 => if x12 = true then (some 32) else (if x3 = 5 then (word_Width.j3 k x3 (x3 == 5)) else (word_Width.j3 k x3 (x3 == 9)))
def word_Width.j3 : Nat → Int → Bool → Option (Int)
 | 0, _, _ => none
 | k + 1, x3, x15 => if x15 = true then (some 64) else (if x3 = 10 then (some 64) else (if x3 = 11 then (some 64) else (some 0)))
end
def word_Width.f (k : Nat) (a0 : Int) : Option (Int) := if a0 = 1 then (some 1) else (if a0 = 2 then (word_Width.j0 k a0 (a0 == 2)) else (word_Width.j0 k a0 (a0 == 6)))
theorem word_Width.mono_l : ∀ k, (∀ y0 y1, LeO (word_Width.j0 k y0 y1) (word_Width.j0 (k + 1) y0 y1)) ∧ (∀ y0 y1, LeO (word_Width.j1 k y0 y1) (word_Width.j1 (k + 1) y0 y1)) ∧ (∀ y0 y1, LeO (word_Width.j2 k y0 y1) (word_Width.j2 (k + 1) y0 y1)) ∧ (∀ y0 y1, LeO (word_Width.j3 k y0 y1) (word_Width.j3 (k + 1) y0 y1))
 | 0 => ⟨fun _ _ r h => by simp [word_Width.j0] at h, fun _ _ r h => by simp [word_Width.j1] at h, fun _ _ r h => by simp [word_Width.j2] at h, fun _ _ r h => by simp [word_Width.j3] at h⟩
 | k + 1 => by
  obtain ⟨ih0, ih1, ih2, ih3⟩ := word_Width.mono_l k
  refine ⟨?_, ?_, ?_, ?_⟩
  ·intro y0 y1
   unfold word_Width.j0
   repeat' first
   | (with_reducible exact ih0 _ _)
   | (with_reducible exact ih1 _ _)
   | (with_reducible exact ih2 _ _)
   | (with_reducible exact ih3 _ _)
   | (with_reducible exact LeO.refl _)
   | (with_reducible exact LeO.none _)
   | (with_reducible refine LeO.ite ?_ ?_)
   | (with_reducible refine LeO.bind ?_ (fun _ => ?_))
   | exact ih0 _ _
   | exact ih1 _ _
   | exact ih2 _ _
   | exact ih3 _ _
   | exact LeO.none _
   | refine LeO.ite ?_ ?_
   | refine LeO.bind ?_ (fun _ => ?_)
  ·intro y0 y1
   unfold word_Width.j1
   repeat' first
   | (with_reducible exact ih0 _ _)
   | (with_reducible exact ih1 _ _)
   | (with_reducible exact ih2 _ _)
   | (with_reducible exact ih3 _ _)
   | (with_reducible exact LeO.refl _)
   | (with_reducible exact LeO.none _)
   | (with_reducible refine LeO.ite ?_ ?_)
   | (with_reducible refine LeO.bind ?_ (fun _ => ?_))
   | exact ih0 _ _
   | exact ih1 _ _
   | exact ih2 _ _
   | exact ih3 _ _
   | exact LeO.none _
   | refine LeO.ite ?_ ?_
   | refine LeO.bind ?_ (fun _ => ?_)
  ·intro y0 y1
   unfold word_Width.j2
   repeat' first
   | (with_reducible exact ih0 _ _)
   | (with_reducible exact ih1 _ _)
   | (with_reducible exact ih2 _ _)
   | (with_reducible exact ih3 _ _)
   | (with_reducible exact LeO.refl _)
   | (with_reducible exact LeO.none _)
   | (with_reducible refine LeO.ite ?_ ?_)
   | (with_reducible refine LeO.bind ?_ (fun _ => ?_))
   | exact ih0 _ _
   | exact ih1 _ _
   | exact ih2 _ _
   | exact ih3 _ _
   | exact LeO.none _
   | refine LeO.ite ?_ ?_
   | refine LeO.bind ?_ (fun _ => ?_)
  ·intro y0 y1
   unfold word_Width.j3
   repeat' first
   | (with_reducible exact ih0 _ _)
   | (with_reducible exact ih1 _ _)
   | (with_reducible exact ih2 _ _)
   | (with_reducible exact ih3 _ _)
   | (with_reducible exact LeO.refl _)
   | (with_reducible exact LeO.none _)
   | (with_reducible refine LeO.ite ?_ ?_)
   | (with_reducible refine LeO.bind ?_ (fun _ => ?_))
   | exact ih0 _ _
   | exact ih1 _ _
   | exact ih2 _ _
   | exact ih3 _ _
   | exact LeO.none _
   | refine LeO.ite ?_ ?_
   | refine LeO.bind ?_ (fun _ => ?_)
theorem word_Width.mono : ∀ a0 k, LeO (word_Width.f k a0) (word_Width.f (k + 1) a0) := by
 intro a0 k
 obtain ⟨ih0, ih1, ih2, ih3⟩ := word_Width.mono_l k
 unfold word_Width.f
 repeat' first
   | (with_reducible exact ih0 _ _)
   | (with_reducible exact ih1 _ _)
   | (with_reducible exact ih2 _ _)
   | (with_reducible exact ih3 _ _)
   | (with_reducible exact LeO.refl _)
   | (with_reducible exact LeO.none _)
   | (with_reducible refine LeO.ite ?_ ?_)
   | (with_reducible refine LeO.bind ?_ (fun _ => ?_))
   | exact ih0 _ _
   | exact ih1 _ _
   | exact ih2 _ _
   | exact ih3 _ _
   | exact LeO.none _
   | refine LeO.ite ?_ ?_
   | refine LeO.bind ?_ (fun _ => ?_)
set_option maxHeartbeats 8000000 in
set_option maxRecDepth 100000 in
theorem word_Width.calls (k : Nat) (a0 : Int) (r : Int) (w : World) (h : word_Width.f k a0 = some r) :
  Calls Try.prog 22 #[.int .i64 a0] w fun e w' => e = .returned (.int .i64 r) ∧ Drawn0 w w' := by
 have H : (if a0 = 1 then (some 1) else (if a0 = 2 then (word_Width.j0 k a0 (a0 == 2)) else (word_Width.j0 k a0 (a0 == 6)))) = some r := h
 clear h
 by_cases c2 : a0 = 1
 ·rw [if_pos c2] at H
  have c2b0 : (a0 == 1) = true := beq_iff_eq.mpr c2
  have c2b1 : (a0 != 1) = false := bne_eq_false_iff_eq.mpr c2
  clear c2
  obtain rfl := Option.some.inj H
  go_enter Try.func22, Try.ntmps22
  go_wp2
  go_ret
  exact ⟨by first | rfl | (simp; done) | (simp [*]; done), by repeat (first | exact Drawn0.refl _ | apply Drawn0.step)⟩
 ·rw [if_neg c2] at H
  have c2b0 : (a0 == 1) = false := beq_eq_false_iff_ne.mpr c2
  have c2b1 : (a0 != 1) = true := bne_iff_ne.mpr c2
  have HC3 := Aside0.mk H
  clear H
  go_enter Try.func22, Try.ntmps22
  go_upto_if 6 with (fail)
  go_cut [6] (fun v6 wc => ∃ (kq : Nat) (x6_2 : Bool), v6 = .bool x6_2 ∧ Aside0 (word_Width.j0 kq a0 x6_2 = some r) ∧ Aside0 (kq ≤ k) ∧ Drawn0 w wc)
  case first =>
   have H := HC3.out
   clear HC3
   by_cases c4 : a0 = 2
   ·rw [if_pos c4] at H
    have c4b0 : (a0 == 2) = true := beq_iff_eq.mpr c4
    have c4b1 : (a0 != 2) = false := bne_eq_false_iff_eq.mpr c4
    clear c4
    (first | rw [c4b0] | (simp only [i64_w, i32_w]; rw [c4b0]) | skip)
    have H' := Aside0.mk H
    clear H
    go_wp2
    go_meet
    case rel => exact ⟨_, ((a0 == 2)), (by first | rfl | (simp; done) | (simp [*]; done)), H', ⟨by first | omega | exact Nat.le_refl _⟩, by repeat (first | exact Drawn0.refl _ | apply Drawn0.step)⟩
   ·rw [if_neg c4] at H
    have c4b0 : (a0 == 2) = false := beq_eq_false_iff_ne.mpr c4
    have c4b1 : (a0 != 2) = true := bne_iff_ne.mpr c4
    (first | rw [c4b0] | (simp only [i64_w, i32_w]; rw [c4b0]) | skip)
    have H' := Aside0.mk H
    clear H
    go_wp2
    go_meet
    case rel => exact ⟨_, ((a0 == 6)), (by first | rfl | (simp; done) | (simp [*]; done)), H', ⟨by first | omega | exact Nat.le_refl _⟩, by repeat (first | exact Drawn0.refl _ | apply Drawn0.step)⟩
  case rest =>
   clear HC3
   try clear c2
   try clear c2b0
   try clear c2b1
   try clear p2
   try clear c4
   try clear c4b0
   try clear c4b1
   obtain ⟨kq, x6_2, rfl, HA, HJ2, ⟨mc2, rfl⟩⟩ := hcut
   cases kq with
   | zero => exact absurd HA.out (by simp [word_Width.j0])
   | succ kj2 =>
    have H := HA.out
    clear HA
    simp only [word_Width.j0] at H
    by_cases c5 : x6_2 = true
    ·subst c5
     have H1 : (some 8) = some r := by rw [if_pos rfl] at H; exact H
     clear H
     have H := H1
     clear H1
     obtain rfl := Option.some.inj H
     go_wp2
     go_ret
     exact ⟨by first | rfl | (simp; done) | (simp [*]; done), by repeat (first | exact Drawn0.refl _ | apply Drawn0.step)⟩
    ·replace c5 := Bool.eq_false_iff.mpr c5
     subst c5
     have H1 : (if a0 = 3 then (word_Width.j1 kj2 a0 (a0 == 3)) else (word_Width.j1 kj2 a0 (a0 == 7))) = some r := by rw [if_neg (show ¬ (false = true) by decide)] at H; exact H
     clear H
     have H := H1
     clear H1
     have HC6 := Aside0.mk H
     clear H
     go_upto_if 9 with (fail)
     go_cut [9] (fun v9 wc => ∃ (kq : Nat) (x9_5 : Bool), v9 = .bool x9_5 ∧ Aside0 (word_Width.j1 kq a0 x9_5 = some r) ∧ Aside0 (kq ≤ kj2) ∧ Drawn0 w wc)
     case first =>
      have H := HC6.out
      clear HC6
      by_cases c7 : a0 = 3
      ·rw [if_pos c7] at H
       have c7b0 : (a0 == 3) = true := beq_iff_eq.mpr c7
       have c7b1 : (a0 != 3) = false := bne_eq_false_iff_eq.mpr c7
       clear c7
       (first | rw [c7b0] | (simp only [i64_w, i32_w]; rw [c7b0]) | skip)
       have H' := Aside0.mk H
       clear H
       go_wp2
       go_meet
       case rel => exact ⟨_, ((a0 == 3)), (by first | rfl | (simp; done) | (simp [*]; done)), H', ⟨by have := HJ2.out; first | omega | exact Nat.le_refl _⟩, by repeat (first | exact Drawn0.refl _ | apply Drawn0.step)⟩
      ·rw [if_neg c7] at H
       have c7b0 : (a0 == 3) = false := beq_eq_false_iff_ne.mpr c7
       have c7b1 : (a0 != 3) = true := bne_iff_ne.mpr c7
       (first | rw [c7b0] | (simp only [i64_w, i32_w]; rw [c7b0]) | skip)
       have H' := Aside0.mk H
       clear H
       go_wp2
       go_meet
       case rel => exact ⟨_, ((a0 == 7)), (by first | rfl | (simp; done) | (simp [*]; done)), H', ⟨by have := HJ2.out; first | omega | exact Nat.le_refl _⟩, by repeat (first | exact Drawn0.refl _ | apply Drawn0.step)⟩
     case rest =>
      clear HC6
      try clear c2
      try clear c2b0
      try clear c2b1
      try clear p2
      try clear c4
      try clear c4b0
      try clear c4b1
      try clear c5
      try clear c7
      try clear c7b0
      try clear c7b1
      try clear p2
      obtain ⟨kq, x9_5, rfl, HA, HJ5, ⟨mc5, rfl⟩⟩ := hcut
      cases kq with
      | zero => exact absurd HA.out (by simp [word_Width.j1])
      | succ kj5 =>
       have H := HA.out
       clear HA
       simp only [word_Width.j1] at H
       by_cases c8 : x9_5 = true
       ·subst c8
        have H1 : (some 16) = some r := by rw [if_pos rfl] at H; exact H
        clear H
        have H := H1
        clear H1
        obtain rfl := Option.some.inj H
        go_wp2
        go_ret
        exact ⟨by first | rfl | (simp; done) | (simp [*]; done), by repeat (first | exact Drawn0.refl _ | apply Drawn0.step)⟩
       ·replace c8 := Bool.eq_false_iff.mpr c8
        subst c8
        have H1 : (if a0 = 4 then (word_Width.j2 kj5 a0 (a0 == 4)) else (word_Width.j2 kj5 a0 (a0 == 8))) = some r := by rw [if_neg (show ¬ (false = true) by decide)] at H; exact H
        clear H
        have H := H1
        clear H1
        have HC9 := Aside0.mk H
        clear H
        go_upto_if 12 with (fail)
        go_cut [12] (fun v12 wc => ∃ (kq : Nat) (x12_8 : Bool), v12 = .bool x12_8 ∧ Aside0 (word_Width.j2 kq a0 x12_8 = some r) ∧ Aside0 (kq ≤ kj5) ∧ Drawn0 w wc)
        case first =>
         have H := HC9.out
         clear HC9
         by_cases c10 : a0 = 4
         ·rw [if_pos c10] at H
          have c10b0 : (a0 == 4) = true := beq_iff_eq.mpr c10
          have c10b1 : (a0 != 4) = false := bne_eq_false_iff_eq.mpr c10
          clear c10
          (first | rw [c10b0] | (simp only [i64_w, i32_w]; rw [c10b0]) | skip)
          have H' := Aside0.mk H
          clear H
          go_wp2
          go_meet
          case rel => exact ⟨_, ((a0 == 4)), (by first | rfl | (simp; done) | (simp [*]; done)), H', ⟨by have := HJ2.out; have := HJ5.out; first | omega | exact Nat.le_refl _⟩, by repeat (first | exact Drawn0.refl _ | apply Drawn0.step)⟩
         ·rw [if_neg c10] at H
          have c10b0 : (a0 == 4) = false := beq_eq_false_iff_ne.mpr c10
          have c10b1 : (a0 != 4) = true := bne_iff_ne.mpr c10
          (first | rw [c10b0] | (simp only [i64_w, i32_w]; rw [c10b0]) | skip)
          have H' := Aside0.mk H
          clear H
          go_wp2
          go_meet
          case rel => exact ⟨_, ((a0 == 8)), (by first | rfl | (simp; done) | (simp [*]; done)), H', ⟨by have := HJ2.out; have := HJ5.out; first | omega | exact Nat.le_refl _⟩, by repeat (first | exact Drawn0.refl _ | apply Drawn0.step)⟩
        case rest =>
         clear HC9
         try clear c1
         try clear c2
         try clear c2b0
         try clear c2b1
         try clear p2
         try clear c4
         try clear c4b0
         try clear c4b1
         try clear c5
         try clear c7
         try clear c7b0
         try clear c7b1
         try clear c8
         try clear c10
         try clear c10b0
         try clear c10b1
         try clear p2
         obtain ⟨kq, x12_8, rfl, HA, HJ8, ⟨mc8, rfl⟩⟩ := hcut
         cases kq with
         | zero => exact absurd HA.out (by simp [word_Width.j2])
         | succ kj8 =>
          have H := HA.out
          clear HA
          simp only [word_Width.j2] at H
          by_cases c11 : x12_8 = true
          ·subst c11
           have H1 : (some 32) = some r := by rw [if_pos rfl] at H; exact H
           clear H
           have H := H1
           clear H1
           obtain rfl := Option.some.inj H
           go_wp2
           go_ret
           exact ⟨by first | rfl | (simp; done) | (simp [*]; done), by repeat (first | exact Drawn0.refl _ | apply Drawn0.step)⟩
          ·replace c11 := Bool.eq_false_iff.mpr c11
           subst c11
           have H1 : (if a0 = 5 then (word_Width.j3 kj8 a0 (a0 == 5)) else (word_Width.j3 kj8 a0 (a0 == 9))) = some r := by rw [if_neg (show ¬ (false = true) by decide)] at H; exact H
           clear H
           have H := H1
           clear H1
           have HC12 := Aside0.mk H
           clear H
           go_upto_if 15 with (fail)
           go_cut [15] (fun v15 wc => ∃ (kq : Nat) (x15_11 : Bool), v15 = .bool x15_11 ∧ Aside0 (word_Width.j3 kq a0 x15_11 = some r) ∧ Aside0 (kq ≤ kj8) ∧ Drawn0 w wc)
           case first =>
            have H := HC12.out
            clear HC12
            by_cases c13 : a0 = 5
            ·rw [if_pos c13] at H
             have c13b0 : (a0 == 5) = true := beq_iff_eq.mpr c13
             have c13b1 : (a0 != 5) = false := bne_eq_false_iff_eq.mpr c13
             clear c13
             (first | rw [c13b0] | (simp only [i64_w, i32_w]; rw [c13b0]) | skip)
             have H' := Aside0.mk H
             clear H
             go_wp2
             go_meet
             case rel => exact ⟨_, ((a0 == 5)), (by first | rfl | (simp; done) | (simp [*]; done)), H', ⟨by have := HJ2.out; have := HJ5.out; have := HJ8.out; first | omega | exact Nat.le_refl _⟩, by repeat (first | exact Drawn0.refl _ | apply Drawn0.step)⟩
            ·rw [if_neg c13] at H
             have c13b0 : (a0 == 5) = false := beq_eq_false_iff_ne.mpr c13
             have c13b1 : (a0 != 5) = true := bne_iff_ne.mpr c13
             (first | rw [c13b0] | (simp only [i64_w, i32_w]; rw [c13b0]) | skip)
             have H' := Aside0.mk H
             clear H
             go_wp2
             go_meet
             case rel => exact ⟨_, ((a0 == 9)), (by first | rfl | (simp; done) | (simp [*]; done)), H', ⟨by have := HJ2.out; have := HJ5.out; have := HJ8.out; first | omega | exact Nat.le_refl _⟩, by repeat (first | exact Drawn0.refl _ | apply Drawn0.step)⟩
           case rest =>
            clear HC12
            try clear c1
            try clear c2
            try clear c2b0
            try clear c2b1
            try clear p2
            try clear c4
            try clear c4b0
            try clear c4b1
            try clear c5
            try clear c7
            try clear c7b0
            try clear c7b1
            try clear c8
            try clear c10
            try clear c10b0
            try clear c10b1
            try clear c11
            try clear c13
            try clear c13b0
            try clear c13b1
            try clear p2
            obtain ⟨kq, x15_11, rfl, HA, HJ11, ⟨mc11, rfl⟩⟩ := hcut
            cases kq with
            | zero => exact absurd HA.out (by simp [word_Width.j3])
            | succ kj11 =>
             have H := HA.out
             clear HA
             simp only [word_Width.j3] at H
             by_cases c14 : x15_11 = true
             ·subst c14
              have H1 : (some 64) = some r := by rw [if_pos rfl] at H; exact H
              clear H
              have H := H1
              clear H1
              obtain rfl := Option.some.inj H
              go_wp2
              go_ret
              exact ⟨by first | rfl | (simp; done) | (simp [*]; done), by repeat (first | exact Drawn0.refl _ | apply Drawn0.step)⟩
             ·replace c14 := Bool.eq_false_iff.mpr c14
              subst c14
              have H1 : (if a0 = 10 then (some 64) else (if a0 = 11 then (some 64) else (some 0))) = some r := by rw [if_neg (show ¬ (false = true) by decide)] at H; exact H
              clear H
              have H := H1
              clear H1
              by_cases c15 : a0 = 10
              ·rw [if_pos c15] at H
               have c15b0 : (a0 == 10) = true := beq_iff_eq.mpr c15
               have c15b1 : (a0 != 10) = false := bne_eq_false_iff_eq.mpr c15
               clear c15
               obtain rfl := Option.some.inj H
               go_wp2
               go_ret
               exact ⟨by first | rfl | (simp; done) | (simp [*]; done), by repeat (first | exact Drawn0.refl _ | apply Drawn0.step)⟩
              ·rw [if_neg c15] at H
               have c15b0 : (a0 == 10) = false := beq_eq_false_iff_ne.mpr c15
               have c15b1 : (a0 != 10) = true := bne_iff_ne.mpr c15
               by_cases c16 : a0 = 11
               ·rw [if_pos c16] at H
                have c16b0 : (a0 == 11) = true := beq_iff_eq.mpr c16
                have c16b1 : (a0 != 11) = false := bne_eq_false_iff_eq.mpr c16
                clear c16
                obtain rfl := Option.some.inj H
                go_wp2
                go_ret
                exact ⟨by first | rfl | (simp; done) | (simp [*]; done), by repeat (first | exact Drawn0.refl _ | apply Drawn0.step)⟩
               ·rw [if_neg c16] at H
                have c16b0 : (a0 == 11) = false := beq_eq_false_iff_ne.mpr c16
                have c16b1 : (a0 != 11) = true := bne_iff_ne.mpr c16
                obtain rfl := Option.some.inj H
                go_wp2
                go_ret
                exact ⟨by first | rfl | (simp; done) | (simp [*]; done), by repeat (first | exact Drawn0.refl _ | apply Drawn0.step)⟩

end Go.Proofs.Ytahepinbmcgbnaa.PZ
end
section
-- Printed by this session's program (wip/tools: the kit's printer, turned for this claim), out of the translation.
namespace Go.Proofs.Ytahepinbmcgbnaa.PZ
open Go.RowKit Go.Proofs.YtahepinbmcgbnaaW.PrintWords Go.Proofs.YtahepinbmcgbnaaW.PrintLast Go.Proofs.YtahepinbmcgbnaaW.PrintMore
attribute [local go_sem] max2_int min2_int max_two min_two max_three min_three max_four min_four   -- for this text's walks alone
attribute [local go_sem] Fl.frombits Fl.tobits
set_option linter.unusedVariables false
set_option linter.unusedSimpArgs false

/-! ### word_signed: function 49 -/
def word_signed.f (a0 : Int) : Option (Bool) := if a0 ≥ 2 then (some (decide (a0 ≤ 5))) else (some false)
set_option maxHeartbeats 8000000 in
set_option maxRecDepth 100000 in
theorem word_signed.calls (a0 : Int) (r : Bool) (w : World) (h : word_signed.f a0 = some r) :
  Calls Try.prog 49 #[.int .i64 a0] w fun e w' => e = .returned (.bool r) ∧ Drawn0 w w' := by
 have H : (if a0 ≥ 2 then (some (decide (a0 ≤ 5))) else (some false)) = some r := h
 clear h
 by_cases c2 : a0 ≥ 2
 ·rw [if_pos c2] at H
  have c2b0 : decide (2 ≤ a0) = true := decide_eq_true c2
  clear c2
  obtain rfl := Option.some.inj H
  go_enter Try.func49, Try.ntmps49
  go_wp2
  go_ret
  exact ⟨by first | rfl | (simp; done) | (simp [*]; done), by repeat (first | exact Drawn0.refl _ | apply Drawn0.step)⟩
 ·rw [if_neg c2] at H
  have c2b0 : decide (2 ≤ a0) = false := decide_eq_false c2
  clear c2
  obtain rfl := Option.some.inj H
  go_enter Try.func49, Try.ntmps49
  go_wp2
  go_ret
  exact ⟨by first | rfl | (simp; done) | (simp [*]; done), by repeat (first | exact Drawn0.refl _ | apply Drawn0.step)⟩

/-! ### word_Canon: function 15 -/
def word_Canon.f (k : Nat) (a0 : Int) (a1 : Int) : Option (Int) := (word_Width.f k a0).bind fun t101 => (if t101 = 0 then (some 0) else (if 0 ≤ (wrap64 (64 - t101)) then ((word_signed.f a0).bind fun t102 => (if t102 = true then (some (IntKind.u64.wrap (shr .i64 (wrap64 (shl .u64 a1 (wrap64 (64 - t101)))) (wrap64 (64 - t101))))) else (some (shr .u64 (shl .u64 a1 (wrap64 (64 - t101))) (wrap64 (64 - t101)))))) else (none)))
theorem word_Canon.mono : ∀ a0 a1 k, LeO (word_Canon.f k a0 a1) (word_Canon.f (k + 1) a0 a1) := by
 intro a0 a1 k
 unfold word_Canon.f
 repeat' first
   | (with_reducible exact word_Width.mono _ _)
   | (with_reducible exact LeO.refl _)
   | (with_reducible exact LeO.none _)
   | (with_reducible refine LeO.ite ?_ ?_)
   | (with_reducible refine LeO.bind ?_ (fun _ => ?_))
   | exact word_Width.mono _ _
   | exact LeO.none _
   | refine LeO.ite ?_ ?_
   | refine LeO.bind ?_ (fun _ => ?_)
set_option maxHeartbeats 8000000 in
set_option maxRecDepth 100000 in
theorem word_Canon.calls (k : Nat) (a0 : Int) (a1 : Int) (r : Int) (w : World) (h : word_Canon.f k a0 a1 = some r) :
  Calls Try.prog 15 #[.int .i64 a0, .int .u64 a1] w fun e w' => e = .returned (.int .u64 r) ∧ Drawn0 w w' := by
 have H : ((word_Width.f k a0).bind fun t101 => (if t101 = 0 then (some 0) else (if 0 ≤ (wrap64 (64 - t101)) then ((word_signed.f a0).bind fun t102 => (if t102 = true then (some (IntKind.u64.wrap (shr .i64 (wrap64 (shl .u64 a1 (wrap64 (64 - t101)))) (wrap64 (64 - t101))))) else (some (shr .u64 (shl .u64 a1 (wrap64 (64 - t101))) (wrap64 (64 - t101)))))) else (none)))) = some r := h
 clear h
 replace H := Option.bind_eq_some_iff.mp H
 obtain ⟨t101, A30, H⟩ := H
 replace H : (if t101 = 0 then (some 0) else (if 0 ≤ (wrap64 (64 - t101)) then ((word_signed.f a0).bind fun t102 => (if t102 = true then (some (IntKind.u64.wrap (shr .i64 (wrap64 (shl .u64 a1 (wrap64 (64 - t101)))) (wrap64 (64 - t101))))) else (some (shr .u64 (shl .u64 a1 (wrap64 (64 - t101))) (wrap64 (64 - t101)))))) else (none))) = some r := H
 have A3 := Aside0.mk A30
 clear A30
 by_cases c4 : t101 = 0
 ·rw [if_pos c4] at H
  have c4b0 : (t101 == 0) = true := beq_iff_eq.mpr c4
  have c4b1 : (t101 != 0) = false := bne_eq_false_iff_eq.mpr c4
  clear c4
  obtain rfl := Option.some.inj H
  go_enter Try.func15, Try.ntmps15
  go_wp2_with (first | ((with_reducible refine gate_callee (f := 22) rfl ?_); refine goesL_ (some 7) rfl rfl Try.func22 (by kernel_rfl) rfl #[.int .i64 a0] rfl (by (try simp only [List.map_toArray, List.map_cons, List.map_nil]); first | done | rfl | (simp only [List.length_drop, List.length_take]; rfl)) ?_; (with_reducible refine (word_Width.calls k a0 t101 _ A3.out).mono ?_); rintro e w' ⟨rfl, ⟨nd, rfl⟩⟩; refine ⟨_, rfl, ?_⟩))
  go_ret
  exact ⟨by first | rfl | (simp; done) | (simp [*]; done), by repeat (first | exact Drawn0.refl _ | apply Drawn0.step)⟩
 ·rw [if_neg c4] at H
  have c4b0 : (t101 == 0) = false := beq_eq_false_iff_ne.mpr c4
  have c4b1 : (t101 != 0) = true := bne_iff_ne.mpr c4
  obtain ⟨ji5, hji5⟩ : ∃ j_ : Int, (wrap64 (64 - t101)) = j_ := ⟨_, rfl⟩
  replace H : (if 0 ≤ (ji5) then ((word_signed.f a0).bind fun t102 => (if t102 = true then (some (IntKind.u64.wrap (shr .i64 (wrap64 (shl .u64 a1 (ji5))) (ji5)))) else (some (shr .u64 (shl .u64 a1 (ji5)) (ji5))))) else (none)) = some r := by first | (rw [hji5] at H; exact H) | (simp only [hji5] at H ⊢; exact H)
  (try rw [hji5] at A3)
  have hji5w : (IntKind.i64.wrap (64 - t101)) = ji5 := (i64_w _).trans hji5
  by_cases c6 : 0 ≤ (ji5)
  ·rw [if_pos c6] at H
   have c6b0 := eq_true c6
   have c6b1 : decide (0 ≤ (ji5)) = true := decide_eq_true c6
   clear c6
   obtain ⟨ji7, hji7⟩ : ∃ j_ : Int, (shl .u64 a1 (ji5)) = j_ := ⟨_, rfl⟩
   replace H : ((word_signed.f a0).bind fun t102 => (if t102 = true then (some (IntKind.u64.wrap (shr .i64 (wrap64 (ji7)) (ji5)))) else (some (shr .u64 (ji7) (ji5))))) = some r := by first | (rw [hji7] at H; exact H) | (simp only [hji7] at H ⊢; exact H)
   (try rw [hji7] at A3)
   have hji7_ : (IntKind.u64.wrap (a1 * 2 ^ min (ji5).toNat 64)) = ji7 := hji7
   have hji7z : (ji5) ≤ 64 → (IntKind.u64.wrap (a1 * 2 ^ (ji5).toNat)) = ji7 := shl_small hji7
   replace H := Option.bind_eq_some_iff.mp H
   obtain ⟨t102, A80, H⟩ := H
   replace H : (if t102 = true then (some (IntKind.u64.wrap (shr .i64 (wrap64 (ji7)) (ji5)))) else (some (shr .u64 (ji7) (ji5)))) = some r := H
   have A8 := Aside0.mk A80
   clear A80
   by_cases c9 : t102 = true
   ·subst c9
    have H1 : (some (IntKind.u64.wrap (shr .i64 (wrap64 (ji7)) (ji5)))) = some r := by rw [if_pos rfl] at H; exact H
    clear H
    have H := H1
    clear H1
    have c10b0 := eq_true (of_decide_eq_true (by first | (with_reducible assumption) | assumption) : 0 ≤ (ji5))
    obtain ⟨ji11, hji11⟩ : ∃ j_ : Int, (shr .i64 (wrap64 (ji7)) (ji5)) = j_ := ⟨_, rfl⟩
    replace H : (some (IntKind.u64.wrap (ji11))) = some r := by first | (rw [hji11] at H; exact H) | (simp only [hji11] at H ⊢; exact H)
    (try rw [hji11] at A3)
    (try rw [hji11] at A8)
    have hji11_ : ((wrap64 (ji7)) / 2 ^ min (ji5).toNat 64) = ji11 := hji11
    have hji11z : (ji5) ≤ 64 → ((wrap64 (ji7)) / 2 ^ (ji5).toNat) = ji11 := shr_small hji11
    obtain rfl := Option.some.inj H
    go_enter Try.func15, Try.ntmps15
    go_wp2_with (first | ((with_reducible refine gate_callee (f := 22) rfl ?_); refine goesL_ (some 7) rfl rfl Try.func22 (by kernel_rfl) rfl #[.int .i64 a0] rfl (by (try simp only [List.map_toArray, List.map_cons, List.map_nil]); first | done | rfl | (simp only [List.length_drop, List.length_take]; rfl)) ?_; (with_reducible refine (word_Width.calls k a0 t101 _ A3.out).mono ?_); rintro e w' ⟨rfl, ⟨nd, rfl⟩⟩; refine ⟨_, rfl, ?_⟩) | ((with_reducible refine gate_callee (f := 49) rfl ?_); refine goesL_ (some 15) rfl rfl Try.func49 (by kernel_rfl) rfl #[.int .i64 a0] rfl (by (try simp only [List.map_toArray, List.map_cons, List.map_nil]); first | done | rfl | (simp only [List.length_drop, List.length_take]; rfl)) ?_; (with_reducible refine (word_signed.calls a0 true _ A8.out).mono ?_); rintro e w' ⟨rfl, ⟨nd, rfl⟩⟩; refine ⟨_, rfl, ?_⟩))
    go_ret
    exact ⟨by first | rfl | (simp; done) | (simp only [← hji5, ← hji7, ← hji11] <;> (first | rfl | simp)) | (simp [*]; done), by repeat (first | exact Drawn0.refl _ | apply Drawn0.step)⟩
   ·replace c9 := Bool.eq_false_iff.mpr c9
    subst c9
    have H1 : (some (shr .u64 (ji7) (ji5))) = some r := by rw [if_neg (show ¬ (false = true) by decide)] at H; exact H
    clear H
    have H := H1
    clear H1
    have c12b0 := eq_true (of_decide_eq_true (by first | (with_reducible assumption) | assumption) : 0 ≤ (ji5))
    obtain ⟨ji13, hji13⟩ : ∃ j_ : Int, (shr .u64 (ji7) (ji5)) = j_ := ⟨_, rfl⟩
    replace H : (some ji13) = some r := by first | (rw [hji13] at H; exact H) | (simp only [hji13] at H ⊢; exact H)
    (try rw [hji13] at A3)
    (try rw [hji13] at A8)
    have hji13_ : ((ji7) / 2 ^ min (ji5).toNat 64) = ji13 := hji13
    have hji13z : (ji5) ≤ 64 → ((ji7) / 2 ^ (ji5).toNat) = ji13 := shr_small hji13
    obtain rfl := Option.some.inj H
    go_enter Try.func15, Try.ntmps15
    go_wp2_with (first | ((with_reducible refine gate_callee (f := 22) rfl ?_); refine goesL_ (some 7) rfl rfl Try.func22 (by kernel_rfl) rfl #[.int .i64 a0] rfl (by (try simp only [List.map_toArray, List.map_cons, List.map_nil]); first | done | rfl | (simp only [List.length_drop, List.length_take]; rfl)) ?_; (with_reducible refine (word_Width.calls k a0 t101 _ A3.out).mono ?_); rintro e w' ⟨rfl, ⟨nd, rfl⟩⟩; refine ⟨_, rfl, ?_⟩) | ((with_reducible refine gate_callee (f := 49) rfl ?_); refine goesL_ (some 15) rfl rfl Try.func49 (by kernel_rfl) rfl #[.int .i64 a0] rfl (by (try simp only [List.map_toArray, List.map_cons, List.map_nil]); first | done | rfl | (simp only [List.length_drop, List.length_take]; rfl)) ?_; (with_reducible refine (word_signed.calls a0 false _ A8.out).mono ?_); rintro e w' ⟨rfl, ⟨nd, rfl⟩⟩; refine ⟨_, rfl, ?_⟩))
    go_ret
    exact ⟨by first | rfl | (simp; done) | (simp only [← hji5, ← hji7, ← hji13] <;> (first | rfl | simp)) | (simp [*]; done), by repeat (first | exact Drawn0.refl _ | apply Drawn0.step)⟩
  ·rw [if_neg c6] at H
   exact absurd H (by simp)

/-! ### word_Is: function 17 -/
def word_Is.f (k : Nat) (a0 : Int) (a1 : Int) : Option (Bool) := (word_Width.f k a0).bind fun t103 => (if t103 > 0 then ((word_Canon.f k a0 a1).bind fun t104 => (some (t104 == a1))) else (some false))
theorem word_Is.mono : ∀ a0 a1 k, LeO (word_Is.f k a0 a1) (word_Is.f (k + 1) a0 a1) := by
 intro a0 a1 k
 unfold word_Is.f
 repeat' first
   | (with_reducible exact word_Canon.mono _ _ _)
   | (with_reducible exact word_Width.mono _ _)
   | (with_reducible exact LeO.refl _)
   | (with_reducible exact LeO.none _)
   | (with_reducible refine LeO.ite ?_ ?_)
   | (with_reducible refine LeO.bind ?_ (fun _ => ?_))
   | exact word_Canon.mono _ _ _
   | exact word_Width.mono _ _
   | exact LeO.none _
   | refine LeO.ite ?_ ?_
   | refine LeO.bind ?_ (fun _ => ?_)
set_option maxHeartbeats 8000000 in
set_option maxRecDepth 100000 in
theorem word_Is.calls (k : Nat) (a0 : Int) (a1 : Int) (r : Bool) (w : World) (h : word_Is.f k a0 a1 = some r) :
  Calls Try.prog 17 #[.int .i64 a0, .int .u64 a1] w fun e w' => e = .returned (.bool r) ∧ Drawn0 w w' := by
 have H : ((word_Width.f k a0).bind fun t103 => (if t103 > 0 then ((word_Canon.f k a0 a1).bind fun t104 => (some (t104 == a1))) else (some false))) = some r := h
 clear h
 replace H := Option.bind_eq_some_iff.mp H
 obtain ⟨t103, A30, H⟩ := H
 replace H : (if t103 > 0 then ((word_Canon.f k a0 a1).bind fun t104 => (some (t104 == a1))) else (some false)) = some r := H
 have A3 := Aside0.mk A30
 clear A30
 by_cases c4 : t103 > 0
 ·rw [if_pos c4] at H
  have c4b0 : decide (0 < t103) = true := decide_eq_true c4
  clear c4
  replace H := Option.bind_eq_some_iff.mp H
  obtain ⟨t104, A50, H⟩ := H
  replace H : (some (t104 == a1)) = some r := H
  have A5 := Aside0.mk A50
  clear A50
  obtain rfl := Option.some.inj H
  go_enter Try.func17, Try.ntmps17
  go_wp2_with (first | ((with_reducible refine gate_callee (f := 22) rfl ?_); refine goesL_ (some 6) rfl rfl Try.func22 (by kernel_rfl) rfl #[.int .i64 a0] rfl (by (try simp only [List.map_toArray, List.map_cons, List.map_nil]); first | done | rfl | (simp only [List.length_drop, List.length_take]; rfl)) ?_; (with_reducible refine (word_Width.calls k a0 t103 _ A3.out).mono ?_); rintro e w' ⟨rfl, ⟨nd, rfl⟩⟩; refine ⟨_, rfl, ?_⟩) | (go_at_call 15; (with_reducible refine (word_Canon.calls k a0 a1 t104 _ A5.out).mono ?_); rintro e w' ⟨rfl, ⟨nd, rfl⟩⟩))
  go_ret
  exact ⟨by first | rfl | (simp; done) | (simp [*]; done), by repeat (first | exact Drawn0.refl _ | apply Drawn0.step)⟩
 ·rw [if_neg c4] at H
  have c4b0 : decide (0 < t103) = false := decide_eq_false c4
  clear c4
  obtain rfl := Option.some.inj H
  go_enter Try.func17, Try.ntmps17
  go_wp2_with (first | ((with_reducible refine gate_callee (f := 22) rfl ?_); refine goesL_ (some 6) rfl rfl Try.func22 (by kernel_rfl) rfl #[.int .i64 a0] rfl (by (try simp only [List.map_toArray, List.map_cons, List.map_nil]); first | done | rfl | (simp only [List.length_drop, List.length_take]; rfl)) ?_; (with_reducible refine (word_Width.calls k a0 t103 _ A3.out).mono ?_); rintro e w' ⟨rfl, ⟨nd, rfl⟩⟩; refine ⟨_, rfl, ?_⟩))
  go_ret
  exact ⟨by first | rfl | (simp; done) | (simp [*]; done), by repeat (first | exact Drawn0.refl _ | apply Drawn0.step)⟩

/-! ### word_whole: function 50 -/
def word_whole.f (a0 : Int) : Option (Bool) := if a0 ≥ 2 then (some (decide (a0 ≤ 9))) else (some false)
set_option maxHeartbeats 8000000 in
set_option maxRecDepth 100000 in
theorem word_whole.calls (a0 : Int) (r : Bool) (w : World) (h : word_whole.f a0 = some r) :
  Calls Try.prog 50 #[.int .i64 a0] w fun e w' => e = .returned (.bool r) ∧ Drawn0 w w' := by
 have H : (if a0 ≥ 2 then (some (decide (a0 ≤ 9))) else (some false)) = some r := h
 clear h
 by_cases c2 : a0 ≥ 2
 ·rw [if_pos c2] at H
  have c2b0 : decide (2 ≤ a0) = true := decide_eq_true c2
  clear c2
  obtain rfl := Option.some.inj H
  go_enter Try.func50, Try.ntmps50
  go_wp2
  go_ret
  exact ⟨by first | rfl | (simp; done) | (simp [*]; done), by repeat (first | exact Drawn0.refl _ | apply Drawn0.step)⟩
 ·rw [if_neg c2] at H
  have c2b0 : decide (2 ≤ a0) = false := decide_eq_false c2
  clear c2
  obtain rfl := Option.some.inj H
  go_enter Try.func50, Try.ntmps50
  go_wp2
  go_ret
  exact ⟨by first | rfl | (simp; done) | (simp [*]; done), by repeat (first | exact Drawn0.refl _ | apply Drawn0.step)⟩

/-! ### word_has: function 55 -/
mutual
def word_has.j0 : Nat → Int → Int → Bool → Option (Bool)
 | 0, _, _, _ => none
 | k + 1, x0, x1, x5 => if x5 = true then (some false) else ((word_whole.f x1).bind fun t105 => (if t105 = true then (some true) else (if x0 = 11 then (word_has.j1 k x1 x0 (x0 == 11)) else (word_has.j1 k x1 x0 (x0 == 12)))))
def word_has.j1 : Nat → Int → Int → Bool → Option (Bool)
 | 0, _, _, _ => none
 | k + 1, x1, x15, x16 => if x16 = true then (if x1 = 10 then (some true) else (if x1 = 1 then (some true) else (some (x1 == 11)))) else (if x15 = 6 then (word_has.j2 k x1 x15 (x15 == 6)) else (if x15 = 7 then (word_has.j2 k x1 x15 (x15 == 7)) else (word_has.j2 k x1 x15 (x15 == 8))))
def word_has.j2 : Nat → Int → Int → Bool → Option (Bool)
 | 0, _, _, _ => none
 | k + 1, x1, x15, x29 => if x29 = true then (some (x1 == 1)) else (if x15 = 5 then (some false) else (if x15 = 9 then (some false) else (if x15 = 10 then (some false) else (some (x1 == 10)))))
end
def word_has.f (k : Nat) (a0 : Int) (a1 : Int) : Option (Bool) := if a0 < 1 then (word_has.j0 k a0 a1 true) else (word_has.j0 k a0 a1 (decide (a0 > 16)))
theorem word_has.mono_l : ∀ k, (∀ y0 y1 y2, LeO (word_has.j0 k y0 y1 y2) (word_has.j0 (k + 1) y0 y1 y2)) ∧ (∀ y0 y1 y2, LeO (word_has.j1 k y0 y1 y2) (word_has.j1 (k + 1) y0 y1 y2)) ∧ (∀ y0 y1 y2, LeO (word_has.j2 k y0 y1 y2) (word_has.j2 (k + 1) y0 y1 y2))
 | 0 => ⟨fun _ _ _ r h => by simp [word_has.j0] at h, fun _ _ _ r h => by simp [word_has.j1] at h, fun _ _ _ r h => by simp [word_has.j2] at h⟩
 | k + 1 => by
  obtain ⟨ih0, ih1, ih2⟩ := word_has.mono_l k
  refine ⟨?_, ?_, ?_⟩
  ·intro y0 y1 y2
   unfold word_has.j0
   repeat' first
   | (with_reducible exact ih0 _ _ _)
   | (with_reducible exact ih1 _ _ _)
   | (with_reducible exact ih2 _ _ _)
   | (with_reducible exact LeO.refl _)
   | (with_reducible exact LeO.none _)
   | (with_reducible refine LeO.ite ?_ ?_)
   | (with_reducible refine LeO.bind ?_ (fun _ => ?_))
   | exact ih0 _ _ _
   | exact ih1 _ _ _
   | exact ih2 _ _ _
   | exact LeO.none _
   | refine LeO.ite ?_ ?_
   | refine LeO.bind ?_ (fun _ => ?_)
  ·intro y0 y1 y2
   unfold word_has.j1
   repeat' first
   | (with_reducible exact ih0 _ _ _)
   | (with_reducible exact ih1 _ _ _)
   | (with_reducible exact ih2 _ _ _)
   | (with_reducible exact LeO.refl _)
   | (with_reducible exact LeO.none _)
   | (with_reducible refine LeO.ite ?_ ?_)
   | (with_reducible refine LeO.bind ?_ (fun _ => ?_))
   | exact ih0 _ _ _
   | exact ih1 _ _ _
   | exact ih2 _ _ _
   | exact LeO.none _
   | refine LeO.ite ?_ ?_
   | refine LeO.bind ?_ (fun _ => ?_)
  ·intro y0 y1 y2
   unfold word_has.j2
   repeat' first
   | (with_reducible exact ih0 _ _ _)
   | (with_reducible exact ih1 _ _ _)
   | (with_reducible exact ih2 _ _ _)
   | (with_reducible exact LeO.refl _)
   | (with_reducible exact LeO.none _)
   | (with_reducible refine LeO.ite ?_ ?_)
   | (with_reducible refine LeO.bind ?_ (fun _ => ?_))
   | exact ih0 _ _ _
   | exact ih1 _ _ _
   | exact ih2 _ _ _
   | exact LeO.none _
   | refine LeO.ite ?_ ?_
   | refine LeO.bind ?_ (fun _ => ?_)
theorem word_has.mono : ∀ a0 a1 k, LeO (word_has.f k a0 a1) (word_has.f (k + 1) a0 a1) := by
 intro a0 a1 k
 obtain ⟨ih0, ih1, ih2⟩ := word_has.mono_l k
 unfold word_has.f
 repeat' first
   | (with_reducible exact ih0 _ _ _)
   | (with_reducible exact ih1 _ _ _)
   | (with_reducible exact ih2 _ _ _)
   | (with_reducible exact LeO.refl _)
   | (with_reducible exact LeO.none _)
   | (with_reducible refine LeO.ite ?_ ?_)
   | (with_reducible refine LeO.bind ?_ (fun _ => ?_))
   | exact ih0 _ _ _
   | exact ih1 _ _ _
   | exact ih2 _ _ _
   | exact LeO.none _
   | refine LeO.ite ?_ ?_
   | refine LeO.bind ?_ (fun _ => ?_)
set_option maxHeartbeats 8000000 in
set_option maxRecDepth 100000 in
theorem word_has.calls (k : Nat) (a0 : Int) (a1 : Int) (r : Bool) (w : World) (h : word_has.f k a0 a1 = some r) :
  Calls Try.prog 55 #[.int .i64 a0, .int .i64 a1] w fun e w' => e = .returned (.bool r) ∧ Drawn0 w w' := by
 have H : (if a0 < 1 then (word_has.j0 k a0 a1 true) else (word_has.j0 k a0 a1 (decide (a0 > 16)))) = some r := h
 clear h
 have HC3 := Aside0.mk H
 clear H
 go_enter Try.func55, Try.ntmps55
 go_upto_region 1 with (fail)
 go_cut [5] (fun v5 wc => ∃ (kq : Nat) (x5_2 : Bool), v5 = .bool x5_2 ∧ Aside0 (word_has.j0 kq a0 a1 x5_2 = some r) ∧ Aside0 (kq ≤ k) ∧ Drawn0 w wc)
 case first =>
  have H := HC3.out
  clear HC3
  by_cases c4 : a0 < 1
  ·rw [if_pos c4] at H
   have c4b0 : decide (a0 < 1) = true := decide_eq_true c4
   clear c4
   (first | rw [c4b0] | (simp only [i64_w, i32_w]; rw [c4b0]) | skip)
   have H' := Aside0.mk H
   clear H
   go_wp2
   go_meet
   case rel => exact ⟨_, (true), (by first | rfl | (simp; done) | (simp [*]; done)), H', ⟨by first | omega | exact Nat.le_refl _⟩, by repeat (first | exact Drawn0.refl _ | apply Drawn0.step)⟩
  ·rw [if_neg c4] at H
   have c4b0 : decide (a0 < 1) = false := decide_eq_false c4
   clear c4
   (first | rw [c4b0] | (simp only [i64_w, i32_w]; rw [c4b0]) | skip)
   have H' := Aside0.mk H
   clear H
   go_wp2
   go_meet
   case rel => exact ⟨_, (decide (a0 > 16)), (by first | rfl | (simp; done) | (simp [*]; done)), H', ⟨by first | omega | exact Nat.le_refl _⟩, by repeat (first | exact Drawn0.refl _ | apply Drawn0.step)⟩
 case rest =>
  clear HC3
  try clear p2
  try clear c4
  try clear c4b0
  obtain ⟨kq, x5_2, rfl, HA, HJ2, ⟨mc2, rfl⟩⟩ := hcut
  cases kq with
  | zero => exact absurd HA.out (by simp [word_has.j0])
  | succ kj2 =>
   have H := HA.out
   clear HA
   simp only [word_has.j0] at H
   by_cases c5 : x5_2 = true
   ·subst c5
    have H1 : (some false) = some r := by rw [if_pos rfl] at H; exact H
    clear H
    have H := H1
    clear H1
    obtain rfl := Option.some.inj H
    go_wp2
    go_ret
    exact ⟨by first | rfl | (simp; done) | (simp [*]; done), by repeat (first | exact Drawn0.refl _ | apply Drawn0.step)⟩
   ·replace c5 := Bool.eq_false_iff.mpr c5
    subst c5
    have H1 : ((word_whole.f a1).bind fun t105 => (if t105 = true then (some true) else (if a0 = 11 then (word_has.j1 kj2 a1 a0 (a0 == 11)) else (word_has.j1 kj2 a1 a0 (a0 == 12))))) = some r := by rw [if_neg (show ¬ (false = true) by decide)] at H; exact H
    clear H
    have H := H1
    clear H1
    replace H := Option.bind_eq_some_iff.mp H
    obtain ⟨t105, A60, H⟩ := H
    replace H : (if t105 = true then (some true) else (if a0 = 11 then (word_has.j1 kj2 a1 a0 (a0 == 11)) else (word_has.j1 kj2 a1 a0 (a0 == 12)))) = some r := H
    have A6 := Aside0.mk A60
    clear A60
    by_cases c7 : t105 = true
    ·subst c7
     have H1 : (some true) = some r := by rw [if_pos rfl] at H; exact H
     clear H
     have H := H1
     clear H1
     obtain rfl := Option.some.inj H
     go_wp2_with (first | ((with_reducible refine gate_callee (f := 50) rfl ?_); refine goesL_ (some 14) rfl rfl Try.func50 (by kernel_rfl) rfl #[.int .i64 a1] rfl (by (try simp only [List.map_toArray, List.map_cons, List.map_nil]); first | done | rfl | (simp only [List.length_drop, List.length_take]; rfl)) ?_; (with_reducible refine (word_whole.calls a1 true _ A6.out).mono ?_); rintro e w' ⟨rfl, ⟨nd, rfl⟩⟩; refine ⟨_, rfl, ?_⟩))
     go_ret
     exact ⟨by first | rfl | (simp; done) | (simp [*]; done), by repeat (first | exact Drawn0.refl _ | apply Drawn0.step)⟩
    ·replace c7 := Bool.eq_false_iff.mpr c7
     subst c7
     have H1 : (if a0 = 11 then (word_has.j1 kj2 a1 a0 (a0 == 11)) else (word_has.j1 kj2 a1 a0 (a0 == 12))) = some r := by rw [if_neg (show ¬ (false = true) by decide)] at H; exact H
     clear H
     have H := H1
     clear H1
     have HC8 := Aside0.mk H
     clear H
     go_upto_if 16 with (first | ((with_reducible refine gate_callee (f := 50) rfl ?_); refine goesL_ (some 14) rfl rfl Try.func50 (by kernel_rfl) rfl #[.int .i64 a1] rfl (by (try simp only [List.map_toArray, List.map_cons, List.map_nil]); first | done | rfl | (simp only [List.length_drop, List.length_take]; rfl)) ?_; (with_reducible refine (word_whole.calls a1 false _ A6.out).mono ?_); rintro e w' ⟨rfl, ⟨nd, rfl⟩⟩; refine ⟨_, rfl, ?_⟩))
     (try simp only [Act.put, List.setIfInBounds_toArray, List.set_cons_zero, List.set_cons_succ])
     go_cut [16] (fun v16 wc => ∃ (kq : Nat) (x16_7 : Bool), v16 = .bool x16_7 ∧ Aside0 (word_has.j1 kq a1 a0 x16_7 = some r) ∧ Aside0 (kq ≤ kj2) ∧ Drawn0 w wc)
     case first =>
      have H := HC8.out
      clear HC8
      by_cases c9 : a0 = 11
      ·rw [if_pos c9] at H
       have c9b0 : (a0 == 11) = true := beq_iff_eq.mpr c9
       have c9b1 : (a0 != 11) = false := bne_eq_false_iff_eq.mpr c9
       clear c9
       (first | rw [c9b0] | (simp only [i64_w, i32_w]; rw [c9b0]) | skip)
       have H' := Aside0.mk H
       clear H
       go_wp2
       go_meet
       case rel => exact ⟨_, ((a0 == 11)), (by first | rfl | (simp; done) | (simp [*]; done)), H', ⟨by have := HJ2.out; first | omega | exact Nat.le_refl _⟩, by repeat (first | exact Drawn0.refl _ | apply Drawn0.step)⟩
      ·rw [if_neg c9] at H
       have c9b0 : (a0 == 11) = false := beq_eq_false_iff_ne.mpr c9
       have c9b1 : (a0 != 11) = true := bne_iff_ne.mpr c9
       (first | rw [c9b0] | (simp only [i64_w, i32_w]; rw [c9b0]) | skip)
       have H' := Aside0.mk H
       clear H
       go_wp2
       go_meet
       case rel => exact ⟨_, ((a0 == 12)), (by first | rfl | (simp; done) | (simp [*]; done)), H', ⟨by have := HJ2.out; first | omega | exact Nat.le_refl _⟩, by repeat (first | exact Drawn0.refl _ | apply Drawn0.step)⟩
     case rest =>
      clear HC8
      try clear c2
      try clear p2
      try clear c4
      try clear c4b0
      try clear c5
      try clear c7
      try clear c9
      try clear c9b0
      try clear c9b1
      try clear p2
      obtain ⟨kq, x16_7, rfl, HA, HJ7, ⟨mc7, rfl⟩⟩ := hcut
      cases kq with
      | zero => exact absurd HA.out (by simp [word_has.j1])
      | succ kj7 =>
       have H := HA.out
       clear HA
       simp only [word_has.j1] at H
       by_cases c10 : x16_7 = true
       ·subst c10
        have H1 : (if a1 = 10 then (some true) else (if a1 = 1 then (some true) else (some (a1 == 11)))) = some r := by rw [if_pos rfl] at H; exact H
        clear H
        have H := H1
        clear H1
        by_cases c11 : a1 = 10
        ·rw [if_pos c11] at H
         have c11b0 : (a1 == 10) = true := beq_iff_eq.mpr c11
         have c11b1 : (a1 != 10) = false := bne_eq_false_iff_eq.mpr c11
         clear c11
         obtain rfl := Option.some.inj H
         go_wp2
         go_ret
         exact ⟨by first | rfl | (simp; done) | (simp [*]; done), by repeat (first | exact Drawn0.refl _ | apply Drawn0.step)⟩
        ·rw [if_neg c11] at H
         have c11b0 : (a1 == 10) = false := beq_eq_false_iff_ne.mpr c11
         have c11b1 : (a1 != 10) = true := bne_iff_ne.mpr c11
         by_cases c12 : a1 = 1
         ·rw [if_pos c12] at H
          have c12b0 : (a1 == 1) = true := beq_iff_eq.mpr c12
          have c12b1 : (a1 != 1) = false := bne_eq_false_iff_eq.mpr c12
          clear c12
          obtain rfl := Option.some.inj H
          go_wp2
          go_ret
          exact ⟨by first | rfl | (simp; done) | (simp [*]; done), by repeat (first | exact Drawn0.refl _ | apply Drawn0.step)⟩
         ·rw [if_neg c12] at H
          have c12b0 : (a1 == 1) = false := beq_eq_false_iff_ne.mpr c12
          have c12b1 : (a1 != 1) = true := bne_iff_ne.mpr c12
          obtain rfl := Option.some.inj H
          go_wp2
          go_ret
          exact ⟨by first | rfl | (simp; done) | (simp [*]; done), by repeat (first | exact Drawn0.refl _ | apply Drawn0.step)⟩
       ·replace c10 := Bool.eq_false_iff.mpr c10
        subst c10
        have H1 : (if a0 = 6 then (word_has.j2 kj7 a1 a0 (a0 == 6)) else (if a0 = 7 then (word_has.j2 kj7 a1 a0 (a0 == 7)) else (word_has.j2 kj7 a1 a0 (a0 == 8)))) = some r := by rw [if_neg (show ¬ (false = true) by decide)] at H; exact H
        clear H
        have H := H1
        clear H1
        have HC13 := Aside0.mk H
        clear H
        go_upto_if 29 with (fail)
        go_cut [29] (fun v29 wc => ∃ (kq : Nat) (x29_12 : Bool), v29 = .bool x29_12 ∧ Aside0 (word_has.j2 kq a1 a0 x29_12 = some r) ∧ Aside0 (kq ≤ kj7) ∧ Drawn0 w wc)
        case first =>
         have H := HC13.out
         clear HC13
         by_cases c14 : a0 = 6
         ·rw [if_pos c14] at H
          have c14b0 : (a0 == 6) = true := beq_iff_eq.mpr c14
          have c14b1 : (a0 != 6) = false := bne_eq_false_iff_eq.mpr c14
          clear c14
          (first | rw [c14b0] | (simp only [i64_w, i32_w]; rw [c14b0]) | skip)
          have H' := Aside0.mk H
          clear H
          go_wp2
          go_meet
          case rel => exact ⟨_, ((a0 == 6)), (by first | rfl | (simp; done) | (simp [*]; done)), H', ⟨by have := HJ2.out; have := HJ7.out; first | omega | exact Nat.le_refl _⟩, by repeat (first | exact Drawn0.refl _ | apply Drawn0.step)⟩
         ·rw [if_neg c14] at H
          have c14b0 : (a0 == 6) = false := beq_eq_false_iff_ne.mpr c14
          have c14b1 : (a0 != 6) = true := bne_iff_ne.mpr c14
          (first | rw [c14b0] | (simp only [i64_w, i32_w]; rw [c14b0]) | skip)
          by_cases c15 : a0 = 7
          ·rw [if_pos c15] at H
           have c15b0 : (a0 == 7) = true := beq_iff_eq.mpr c15
           have c15b1 : (a0 != 7) = false := bne_eq_false_iff_eq.mpr c15
           clear c15
           have H' := Aside0.mk H
           clear H
           go_wp2
           go_meet
           case rel => exact ⟨_, ((a0 == 7)), (by first | rfl | (simp; done) | (simp [*]; done)), H', ⟨by have := HJ2.out; have := HJ7.out; first | omega | exact Nat.le_refl _⟩, by repeat (first | exact Drawn0.refl _ | apply Drawn0.step)⟩
          ·rw [if_neg c15] at H
           have c15b0 : (a0 == 7) = false := beq_eq_false_iff_ne.mpr c15
           have c15b1 : (a0 != 7) = true := bne_iff_ne.mpr c15
           have H' := Aside0.mk H
           clear H
           go_wp2
           go_meet
           case rel => exact ⟨_, ((a0 == 8)), (by first | rfl | (simp; done) | (simp [*]; done)), H', ⟨by have := HJ2.out; have := HJ7.out; first | omega | exact Nat.le_refl _⟩, by repeat (first | exact Drawn0.refl _ | apply Drawn0.step)⟩
        case rest =>
         clear HC13
         try clear c1
         try clear c2
         try clear p2
         try clear c4
         try clear c4b0
         try clear c5
         try clear c7
         try clear c9
         try clear c9b0
         try clear c9b1
         try clear c10
         try clear c11
         try clear c11b0
         try clear c11b1
         try clear c12
         try clear c12b0
         try clear c12b1
         try clear c14
         try clear c14b0
         try clear c14b1
         try clear c15
         try clear c15b0
         try clear c15b1
         try clear p2
         obtain ⟨kq, x29_12, rfl, HA, HJ12, ⟨mc12, rfl⟩⟩ := hcut
         cases kq with
         | zero => exact absurd HA.out (by simp [word_has.j2])
         | succ kj12 =>
          have H := HA.out
          clear HA
          simp only [word_has.j2] at H
          by_cases c16 : x29_12 = true
          ·subst c16
           have H1 : (some (a1 == 1)) = some r := by rw [if_pos rfl] at H; exact H
           clear H
           have H := H1
           clear H1
           obtain rfl := Option.some.inj H
           go_wp2
           go_ret
           exact ⟨by first | rfl | (simp; done) | (simp [*]; done), by repeat (first | exact Drawn0.refl _ | apply Drawn0.step)⟩
          ·replace c16 := Bool.eq_false_iff.mpr c16
           subst c16
           have H1 : (if a0 = 5 then (some false) else (if a0 = 9 then (some false) else (if a0 = 10 then (some false) else (some (a1 == 10))))) = some r := by rw [if_neg (show ¬ (false = true) by decide)] at H; exact H
           clear H
           have H := H1
           clear H1
           by_cases c17 : a0 = 5
           ·rw [if_pos c17] at H
            have c17b0 : (a0 == 5) = true := beq_iff_eq.mpr c17
            have c17b1 : (a0 != 5) = false := bne_eq_false_iff_eq.mpr c17
            clear c17
            obtain rfl := Option.some.inj H
            go_wp2
            go_ret
            exact ⟨by first | rfl | (simp; done) | (simp [*]; done), by repeat (first | exact Drawn0.refl _ | apply Drawn0.step)⟩
           ·rw [if_neg c17] at H
            have c17b0 : (a0 == 5) = false := beq_eq_false_iff_ne.mpr c17
            have c17b1 : (a0 != 5) = true := bne_iff_ne.mpr c17
            by_cases c18 : a0 = 9
            ·rw [if_pos c18] at H
             have c18b0 : (a0 == 9) = true := beq_iff_eq.mpr c18
             have c18b1 : (a0 != 9) = false := bne_eq_false_iff_eq.mpr c18
             clear c18
             obtain rfl := Option.some.inj H
             go_wp2
             go_ret
             exact ⟨by first | rfl | (simp; done) | (simp [*]; done), by repeat (first | exact Drawn0.refl _ | apply Drawn0.step)⟩
            ·rw [if_neg c18] at H
             have c18b0 : (a0 == 9) = false := beq_eq_false_iff_ne.mpr c18
             have c18b1 : (a0 != 9) = true := bne_iff_ne.mpr c18
             by_cases c19 : a0 = 10
             ·rw [if_pos c19] at H
              have c19b0 : (a0 == 10) = true := beq_iff_eq.mpr c19
              have c19b1 : (a0 != 10) = false := bne_eq_false_iff_eq.mpr c19
              clear c19
              obtain rfl := Option.some.inj H
              go_wp2
              go_ret
              exact ⟨by first | rfl | (simp; done) | (simp [*]; done), by repeat (first | exact Drawn0.refl _ | apply Drawn0.step)⟩
             ·rw [if_neg c19] at H
              have c19b0 : (a0 == 10) = false := beq_eq_false_iff_ne.mpr c19
              have c19b1 : (a0 != 10) = true := bne_iff_ne.mpr c19
              obtain rfl := Option.some.inj H
              go_wp2
              go_ret
              exact ⟨by first | rfl | (simp; done) | (simp [*]; done), by repeat (first | exact Drawn0.refl _ | apply Drawn0.step)⟩

-- in place: function 53

-- in place: function 54

/-! ### word_truth: function 95 -/
def word_truth.f (a0 : Bool) : Option (Int) := if a0 = true then (some 1) else (some 0)
set_option maxHeartbeats 8000000 in
set_option maxRecDepth 100000 in
theorem word_truth.calls (a0 : Bool) (r : Int) (w : World) (h : word_truth.f a0 = some r) :
  Calls Try.prog 95 #[.bool a0] w fun e w' => e = .returned (.int .u64 r) ∧ Drawn0 w w' := by
 have H : (if a0 = true then (some 1) else (some 0)) = some r := h
 clear h
 by_cases c2 : a0 = true
 ·subst c2
  have H1 : (some 1) = some r := by rw [if_pos rfl] at H; exact H
  clear H
  have H := H1
  clear H1
  obtain rfl := Option.some.inj H
  go_enter Try.func95, Try.ntmps95
  go_wp2
  go_ret
  exact ⟨by first | rfl | (simp; done) | (simp [*]; done), by repeat (first | exact Drawn0.refl _ | apply Drawn0.step)⟩
 ·replace c2 := Bool.eq_false_iff.mpr c2
  subst c2
  have H1 : (some 0) = some r := by rw [if_neg (show ¬ (false = true) by decide)] at H; exact H
  clear H
  have H := H1
  clear H1
  obtain rfl := Option.some.inj H
  go_enter Try.func95, Try.ntmps95
  go_wp2
  go_ret
  exact ⟨by first | rfl | (simp; done) | (simp [*]; done), by repeat (first | exact Drawn0.refl _ | apply Drawn0.step)⟩

/-! ### word_order_says: function 57 -/
def word_order_says.f (a0_0 : Bool) (a0_1 : Bool) (a1 : Int) : Option (Int) := if a1 = 11 then ((word_truth.f a0_1).bind fun t107 => (some t107)) else (if a1 = 13 then ((word_truth.f a0_0).bind fun t108 => (some t108)) else (if a1 = 14 then (if a0_0 = true then ((word_truth.f true).bind fun t109 => (some t109)) else ((word_truth.f a0_1).bind fun t110 => (some t110))) else (if a1 = 15 then (if a0_0 = true then ((word_truth.f false).bind fun t111 => (some t111)) else ((word_truth.f (!a0_1)).bind fun t112 => (some t112))) else (if a1 = 16 then ((word_truth.f (!a0_0)).bind fun t113 => (some t113)) else ((word_truth.f (!a0_1)).bind fun t114 => (some t114))))))
set_option maxHeartbeats 8000000 in
set_option maxRecDepth 100000 in
theorem word_order_says.calls (a0_0 : Bool) (a0_1 : Bool) (a1 : Int) (r : Int) (w : World) (h : word_order_says.f a0_0 a0_1 a1 = some r) :
  Calls Try.prog 57 #[.agg #[.bool a0_0, .bool a0_1], .int .i64 a1] w fun e w' => e = .returned (.int .u64 r) ∧ Below w.heap.size w w' := by
 have hu68 := Try.underlying68
 have HB := Aside0.mk (Below.refl w.heap.size w)
 have H : (if a1 = 11 then ((word_truth.f a0_1).bind fun t107 => (some t107)) else (if a1 = 13 then ((word_truth.f a0_0).bind fun t108 => (some t108)) else (if a1 = 14 then (if a0_0 = true then ((word_truth.f true).bind fun t109 => (some t109)) else ((word_truth.f a0_1).bind fun t110 => (some t110))) else (if a1 = 15 then (if a0_0 = true then ((word_truth.f false).bind fun t111 => (some t111)) else ((word_truth.f (!a0_1)).bind fun t112 => (some t112))) else (if a1 = 16 then ((word_truth.f (!a0_0)).bind fun t113 => (some t113)) else ((word_truth.f (!a0_1)).bind fun t114 => (some t114))))))) = some r := h
 clear h
 by_cases c3 : a1 = 11
 ·rw [if_pos c3] at H
  have c3b0 : (a1 == 11) = true := beq_iff_eq.mpr c3
  have c3b1 : (a1 != 11) = false := bne_eq_false_iff_eq.mpr c3
  clear c3
  replace H := Option.bind_eq_some_iff.mp H
  obtain ⟨t107, A40, H⟩ := H
  replace H : (some t107) = some r := H
  have A4 := Aside0.mk A40
  clear A40
  obtain rfl := Option.some.inj H
  go_enter Try.func57, Try.ntmps57
  go_wp2_with (first | ((with_reducible refine gate_dst (N := 2) rfl ?_); refine box_event ?hg (N := 2) ?hd (cs := #[.bool a0_0, .bool a0_1]) (t := 68) ?hr ?_; (case hd => rfl); (case hg => rfl); (case hr => first | (go_simp; done) | (go_simp; rfl)); intro gb106 hg w5 hbox hb; have n0_ := Aside0.mk (below_step (by repeat (first | (with_reducible first | exact HB.out | apply below_alloc | apply pw_below_drewN | apply below_drew1) | exact HB.out)) hb); have n1_ := Aside0.mk (hbox); have n2_ := Aside0.mk ((by rw [hg]; exact (below_size (by repeat (first | (with_reducible first | exact HB.out | apply below_alloc | apply pw_below_drewN | apply below_drew1) | exact HB.out))) : w.heap.size ≤ gb106)); have n3_ := Aside0.mk ((by rw [hg]; exact (below_size (by repeat (first | (with_reducible first | exact HB.out | apply below_alloc | apply pw_below_drewN | apply below_drew1) | exact HB.out))) : w.heap.size ≤ gb106)); clear HB; have HB := n0_; have BK106 := n1_; have GW106 := n2_; have GE106 := n3_; clear n0_ n1_ n2_ n3_; clear hb hbox hg; have hcz6_0 : w5.cell? ⟨gb106, 0, none⟩ = some (.bool a0_0) := (blk_cell BK106.out 0).trans rfl; have hcz6_1 : w5.cell? ⟨gb106, 1, none⟩ = some (.bool a0_1) := (blk_cell BK106.out 1).trans rfl; have hfz6_0 := blk_frozen BK106.out 0; have hfz6_1 := blk_frozen BK106.out 1) | ((with_reducible refine gate_callee (f := 95) rfl ?_); refine goesL_ (some 10) rfl rfl Try.func95 (by kernel_rfl) rfl #[.bool a0_1] rfl (by (try simp only [List.map_toArray, List.map_cons, List.map_nil]); first | done | rfl | (simp only [List.length_drop, List.length_take]; rfl)) ?_; (with_reducible refine (word_truth.calls a0_1 t107 _ A4.out).mono ?_); rintro e w' ⟨rfl, ⟨nd, rfl⟩⟩; refine ⟨_, rfl, ?_⟩))
  go_ret
  exact ⟨by first | rfl | (simp [errW_none, errW_some] <;> rfl) | (simp [*, errW_none, errW_some] <;> rfl), by repeat (first | (with_reducible first | exact HB.out | apply below_alloc | apply pw_below_drewN | apply below_drew1 | refine below_set ?_ GE106.out) | exact HB.out)⟩
 ·rw [if_neg c3] at H
  have c3b0 : (a1 == 11) = false := beq_eq_false_iff_ne.mpr c3
  have c3b1 : (a1 != 11) = true := bne_iff_ne.mpr c3
  by_cases c7 : a1 = 13
  ·rw [if_pos c7] at H
   have c7b0 : (a1 == 13) = true := beq_iff_eq.mpr c7
   have c7b1 : (a1 != 13) = false := bne_eq_false_iff_eq.mpr c7
   clear c7
   replace H := Option.bind_eq_some_iff.mp H
   obtain ⟨t108, A80, H⟩ := H
   replace H : (some t108) = some r := H
   have A8 := Aside0.mk A80
   clear A80
   obtain rfl := Option.some.inj H
   go_enter Try.func57, Try.ntmps57
   go_wp2_with (first | ((with_reducible refine gate_dst (N := 2) rfl ?_); refine box_event ?hg (N := 2) ?hd (cs := #[.bool a0_0, .bool a0_1]) (t := 68) ?hr ?_; (case hd => rfl); (case hg => rfl); (case hr => first | (go_simp; done) | (go_simp; rfl)); intro gb106 hg w9 hbox hb; have n0_ := Aside0.mk (below_step (by repeat (first | (with_reducible first | exact HB.out | apply below_alloc | apply pw_below_drewN | apply below_drew1) | exact HB.out)) hb); have n1_ := Aside0.mk (hbox); have n2_ := Aside0.mk ((by rw [hg]; exact (below_size (by repeat (first | (with_reducible first | exact HB.out | apply below_alloc | apply pw_below_drewN | apply below_drew1) | exact HB.out))) : w.heap.size ≤ gb106)); have n3_ := Aside0.mk ((by rw [hg]; exact (below_size (by repeat (first | (with_reducible first | exact HB.out | apply below_alloc | apply pw_below_drewN | apply below_drew1) | exact HB.out))) : w.heap.size ≤ gb106)); clear HB; have HB := n0_; have BK106 := n1_; have GW106 := n2_; have GE106 := n3_; clear n0_ n1_ n2_ n3_; clear hb hbox hg; have hcz10_0 : w9.cell? ⟨gb106, 0, none⟩ = some (.bool a0_0) := (blk_cell BK106.out 0).trans rfl; have hcz10_1 : w9.cell? ⟨gb106, 1, none⟩ = some (.bool a0_1) := (blk_cell BK106.out 1).trans rfl; have hfz10_0 := blk_frozen BK106.out 0; have hfz10_1 := blk_frozen BK106.out 1) | ((with_reducible refine gate_callee (f := 95) rfl ?_); refine goesL_ (some 15) rfl rfl Try.func95 (by kernel_rfl) rfl #[.bool a0_0] rfl (by (try simp only [List.map_toArray, List.map_cons, List.map_nil]); first | done | rfl | (simp only [List.length_drop, List.length_take]; rfl)) ?_; (with_reducible refine (word_truth.calls a0_0 t108 _ A8.out).mono ?_); rintro e w' ⟨rfl, ⟨nd, rfl⟩⟩; refine ⟨_, rfl, ?_⟩))
   go_ret
   exact ⟨by first | rfl | (simp [errW_none, errW_some] <;> rfl) | (simp [*, errW_none, errW_some] <;> rfl), by repeat (first | (with_reducible first | exact HB.out | apply below_alloc | apply pw_below_drewN | apply below_drew1 | refine below_set ?_ GE106.out) | exact HB.out)⟩
  ·rw [if_neg c7] at H
   have c7b0 : (a1 == 13) = false := beq_eq_false_iff_ne.mpr c7
   have c7b1 : (a1 != 13) = true := bne_iff_ne.mpr c7
   by_cases c11 : a1 = 14
   ·rw [if_pos c11] at H
    have c11b0 : (a1 == 14) = true := beq_iff_eq.mpr c11
    have c11b1 : (a1 != 14) = false := bne_eq_false_iff_eq.mpr c11
    clear c11
    by_cases c12 : a0_0 = true
    ·subst c12
     have H1 : ((word_truth.f true).bind fun t109 => (some t109)) = some r := by rw [if_pos rfl] at H; exact H
     clear H
     have H := H1
     clear H1
     replace H := Option.bind_eq_some_iff.mp H
     obtain ⟨t109, A130, H⟩ := H
     replace H : (some t109) = some r := H
     have A13 := Aside0.mk A130
     clear A130
     obtain rfl := Option.some.inj H
     go_enter Try.func57, Try.ntmps57
     go_wp2_with (first | ((with_reducible refine gate_dst (N := 2) rfl ?_); refine box_event ?hg (N := 2) ?hd (cs := #[.bool true, .bool a0_1]) (t := 68) ?hr ?_; (case hd => rfl); (case hg => rfl); (case hr => first | (go_simp; done) | (go_simp; rfl)); intro gb106 hg w14 hbox hb; have n0_ := Aside0.mk (below_step (by repeat (first | (with_reducible first | exact HB.out | apply below_alloc | apply pw_below_drewN | apply below_drew1) | exact HB.out)) hb); have n1_ := Aside0.mk (hbox); have n2_ := Aside0.mk ((by rw [hg]; exact (below_size (by repeat (first | (with_reducible first | exact HB.out | apply below_alloc | apply pw_below_drewN | apply below_drew1) | exact HB.out))) : w.heap.size ≤ gb106)); have n3_ := Aside0.mk ((by rw [hg]; exact (below_size (by repeat (first | (with_reducible first | exact HB.out | apply below_alloc | apply pw_below_drewN | apply below_drew1) | exact HB.out))) : w.heap.size ≤ gb106)); clear HB; have HB := n0_; have BK106 := n1_; have GW106 := n2_; have GE106 := n3_; clear n0_ n1_ n2_ n3_; clear hb hbox hg; have hcz15_0 : w14.cell? ⟨gb106, 0, none⟩ = some (.bool true) := (blk_cell BK106.out 0).trans rfl; have hcz15_1 : w14.cell? ⟨gb106, 1, none⟩ = some (.bool a0_1) := (blk_cell BK106.out 1).trans rfl; have hfz15_0 := blk_frozen BK106.out 0; have hfz15_1 := blk_frozen BK106.out 1) | ((with_reducible refine gate_callee (f := 95) rfl ?_); refine goesL_ (some 24) rfl rfl Try.func95 (by kernel_rfl) rfl #[.bool true] rfl (by (try simp only [List.map_toArray, List.map_cons, List.map_nil]); first | done | rfl | (simp only [List.length_drop, List.length_take]; rfl)) ?_; (with_reducible refine (word_truth.calls true t109 _ A13.out).mono ?_); rintro e w' ⟨rfl, ⟨nd, rfl⟩⟩; refine ⟨_, rfl, ?_⟩))
     go_ret
     exact ⟨by first | rfl | (simp [errW_none, errW_some] <;> rfl) | (simp [*, errW_none, errW_some] <;> rfl), by repeat (first | (with_reducible first | exact HB.out | apply below_alloc | apply pw_below_drewN | apply below_drew1 | refine below_set ?_ GE106.out) | exact HB.out)⟩
    ·replace c12 := Bool.eq_false_iff.mpr c12
     subst c12
     have H1 : ((word_truth.f a0_1).bind fun t110 => (some t110)) = some r := by rw [if_neg (show ¬ (false = true) by decide)] at H; exact H
     clear H
     have H := H1
     clear H1
     replace H := Option.bind_eq_some_iff.mp H
     obtain ⟨t110, A160, H⟩ := H
     replace H : (some t110) = some r := H
     have A16 := Aside0.mk A160
     clear A160
     obtain rfl := Option.some.inj H
     go_enter Try.func57, Try.ntmps57
     go_wp2_with (first | ((with_reducible refine gate_dst (N := 2) rfl ?_); refine box_event ?hg (N := 2) ?hd (cs := #[.bool false, .bool a0_1]) (t := 68) ?hr ?_; (case hd => rfl); (case hg => rfl); (case hr => first | (go_simp; done) | (go_simp; rfl)); intro gb106 hg w17 hbox hb; have n0_ := Aside0.mk (below_step (by repeat (first | (with_reducible first | exact HB.out | apply below_alloc | apply pw_below_drewN | apply below_drew1) | exact HB.out)) hb); have n1_ := Aside0.mk (hbox); have n2_ := Aside0.mk ((by rw [hg]; exact (below_size (by repeat (first | (with_reducible first | exact HB.out | apply below_alloc | apply pw_below_drewN | apply below_drew1) | exact HB.out))) : w.heap.size ≤ gb106)); have n3_ := Aside0.mk ((by rw [hg]; exact (below_size (by repeat (first | (with_reducible first | exact HB.out | apply below_alloc | apply pw_below_drewN | apply below_drew1) | exact HB.out))) : w.heap.size ≤ gb106)); clear HB; have HB := n0_; have BK106 := n1_; have GW106 := n2_; have GE106 := n3_; clear n0_ n1_ n2_ n3_; clear hb hbox hg; have hcz18_0 : w17.cell? ⟨gb106, 0, none⟩ = some (.bool false) := (blk_cell BK106.out 0).trans rfl; have hcz18_1 : w17.cell? ⟨gb106, 1, none⟩ = some (.bool a0_1) := (blk_cell BK106.out 1).trans rfl; have hfz18_0 := blk_frozen BK106.out 0; have hfz18_1 := blk_frozen BK106.out 1) | ((with_reducible refine gate_callee (f := 95) rfl ?_); refine goesL_ (some 24) rfl rfl Try.func95 (by kernel_rfl) rfl #[.bool a0_1] rfl (by (try simp only [List.map_toArray, List.map_cons, List.map_nil]); first | done | rfl | (simp only [List.length_drop, List.length_take]; rfl)) ?_; (with_reducible refine (word_truth.calls a0_1 t110 _ A16.out).mono ?_); rintro e w' ⟨rfl, ⟨nd, rfl⟩⟩; refine ⟨_, rfl, ?_⟩))
     go_ret
     exact ⟨by first | rfl | (simp [errW_none, errW_some] <;> rfl) | (simp [*, errW_none, errW_some] <;> rfl), by repeat (first | (with_reducible first | exact HB.out | apply below_alloc | apply pw_below_drewN | apply below_drew1 | refine below_set ?_ GE106.out) | exact HB.out)⟩
   ·rw [if_neg c11] at H
    have c11b0 : (a1 == 14) = false := beq_eq_false_iff_ne.mpr c11
    have c11b1 : (a1 != 14) = true := bne_iff_ne.mpr c11
    by_cases c19 : a1 = 15
    ·rw [if_pos c19] at H
     have c19b0 : (a1 == 15) = true := beq_iff_eq.mpr c19
     have c19b1 : (a1 != 15) = false := bne_eq_false_iff_eq.mpr c19
     clear c19
     by_cases c20 : a0_0 = true
     ·subst c20
      have H1 : ((word_truth.f false).bind fun t111 => (some t111)) = some r := by rw [if_pos rfl] at H; exact H
      clear H
      have H := H1
      clear H1
      replace H := Option.bind_eq_some_iff.mp H
      obtain ⟨t111, A210, H⟩ := H
      replace H : (some t111) = some r := H
      have A21 := Aside0.mk A210
      clear A210
      obtain rfl := Option.some.inj H
      go_enter Try.func57, Try.ntmps57
      go_wp2_with (first | ((with_reducible refine gate_dst (N := 2) rfl ?_); refine box_event ?hg (N := 2) ?hd (cs := #[.bool true, .bool a0_1]) (t := 68) ?hr ?_; (case hd => rfl); (case hg => rfl); (case hr => first | (go_simp; done) | (go_simp; rfl)); intro gb106 hg w22 hbox hb; have n0_ := Aside0.mk (below_step (by repeat (first | (with_reducible first | exact HB.out | apply below_alloc | apply pw_below_drewN | apply below_drew1) | exact HB.out)) hb); have n1_ := Aside0.mk (hbox); have n2_ := Aside0.mk ((by rw [hg]; exact (below_size (by repeat (first | (with_reducible first | exact HB.out | apply below_alloc | apply pw_below_drewN | apply below_drew1) | exact HB.out))) : w.heap.size ≤ gb106)); have n3_ := Aside0.mk ((by rw [hg]; exact (below_size (by repeat (first | (with_reducible first | exact HB.out | apply below_alloc | apply pw_below_drewN | apply below_drew1) | exact HB.out))) : w.heap.size ≤ gb106)); clear HB; have HB := n0_; have BK106 := n1_; have GW106 := n2_; have GE106 := n3_; clear n0_ n1_ n2_ n3_; clear hb hbox hg; have hcz23_0 : w22.cell? ⟨gb106, 0, none⟩ = some (.bool true) := (blk_cell BK106.out 0).trans rfl; have hcz23_1 : w22.cell? ⟨gb106, 1, none⟩ = some (.bool a0_1) := (blk_cell BK106.out 1).trans rfl; have hfz23_0 := blk_frozen BK106.out 0; have hfz23_1 := blk_frozen BK106.out 1) | ((with_reducible refine gate_callee (f := 95) rfl ?_); refine goesL_ (some 35) rfl rfl Try.func95 (by kernel_rfl) rfl #[.bool false] rfl (by (try simp only [List.map_toArray, List.map_cons, List.map_nil]); first | done | rfl | (simp only [List.length_drop, List.length_take]; rfl)) ?_; (with_reducible refine (word_truth.calls false t111 _ A21.out).mono ?_); rintro e w' ⟨rfl, ⟨nd, rfl⟩⟩; refine ⟨_, rfl, ?_⟩))
      go_ret
      exact ⟨by first | rfl | (simp [errW_none, errW_some] <;> rfl) | (simp [*, errW_none, errW_some] <;> rfl), by repeat (first | (with_reducible first | exact HB.out | apply below_alloc | apply pw_below_drewN | apply below_drew1 | refine below_set ?_ GE106.out) | exact HB.out)⟩
     ·replace c20 := Bool.eq_false_iff.mpr c20
      subst c20
      have H1 : ((word_truth.f (!a0_1)).bind fun t112 => (some t112)) = some r := by rw [if_neg (show ¬ (false = true) by decide)] at H; exact H
      clear H
      have H := H1
      clear H1
      replace H := Option.bind_eq_some_iff.mp H
      obtain ⟨t112, A240, H⟩ := H
      replace H : (some t112) = some r := H
      have A24 := Aside0.mk A240
      clear A240
      obtain rfl := Option.some.inj H
      go_enter Try.func57, Try.ntmps57
      go_wp2_with (first | ((with_reducible refine gate_dst (N := 2) rfl ?_); refine box_event ?hg (N := 2) ?hd (cs := #[.bool false, .bool a0_1]) (t := 68) ?hr ?_; (case hd => rfl); (case hg => rfl); (case hr => first | (go_simp; done) | (go_simp; rfl)); intro gb106 hg w25 hbox hb; have n0_ := Aside0.mk (below_step (by repeat (first | (with_reducible first | exact HB.out | apply below_alloc | apply pw_below_drewN | apply below_drew1) | exact HB.out)) hb); have n1_ := Aside0.mk (hbox); have n2_ := Aside0.mk ((by rw [hg]; exact (below_size (by repeat (first | (with_reducible first | exact HB.out | apply below_alloc | apply pw_below_drewN | apply below_drew1) | exact HB.out))) : w.heap.size ≤ gb106)); have n3_ := Aside0.mk ((by rw [hg]; exact (below_size (by repeat (first | (with_reducible first | exact HB.out | apply below_alloc | apply pw_below_drewN | apply below_drew1) | exact HB.out))) : w.heap.size ≤ gb106)); clear HB; have HB := n0_; have BK106 := n1_; have GW106 := n2_; have GE106 := n3_; clear n0_ n1_ n2_ n3_; clear hb hbox hg; have hcz26_0 : w25.cell? ⟨gb106, 0, none⟩ = some (.bool false) := (blk_cell BK106.out 0).trans rfl; have hcz26_1 : w25.cell? ⟨gb106, 1, none⟩ = some (.bool a0_1) := (blk_cell BK106.out 1).trans rfl; have hfz26_0 := blk_frozen BK106.out 0; have hfz26_1 := blk_frozen BK106.out 1) | ((with_reducible refine gate_callee (f := 95) rfl ?_); refine goesL_ (some 35) rfl rfl Try.func95 (by kernel_rfl) rfl #[.bool (!a0_1)] rfl (by (try simp only [List.map_toArray, List.map_cons, List.map_nil]); first | done | rfl | (simp only [List.length_drop, List.length_take]; rfl)) ?_; (with_reducible refine (word_truth.calls (!a0_1) t112 _ A24.out).mono ?_); rintro e w' ⟨rfl, ⟨nd, rfl⟩⟩; refine ⟨_, rfl, ?_⟩))
      go_ret
      exact ⟨by first | rfl | (simp [errW_none, errW_some] <;> rfl) | (simp [*, errW_none, errW_some] <;> rfl), by repeat (first | (with_reducible first | exact HB.out | apply below_alloc | apply pw_below_drewN | apply below_drew1 | refine below_set ?_ GE106.out) | exact HB.out)⟩
    ·rw [if_neg c19] at H
     have c19b0 : (a1 == 15) = false := beq_eq_false_iff_ne.mpr c19
     have c19b1 : (a1 != 15) = true := bne_iff_ne.mpr c19
     by_cases c27 : a1 = 16
     ·rw [if_pos c27] at H
      have c27b0 : (a1 == 16) = true := beq_iff_eq.mpr c27
      have c27b1 : (a1 != 16) = false := bne_eq_false_iff_eq.mpr c27
      clear c27
      replace H := Option.bind_eq_some_iff.mp H
      obtain ⟨t113, A280, H⟩ := H
      replace H : (some t113) = some r := H
      have A28 := Aside0.mk A280
      clear A280
      obtain rfl := Option.some.inj H
      go_enter Try.func57, Try.ntmps57
      go_wp2_with (first | ((with_reducible refine gate_dst (N := 2) rfl ?_); refine box_event ?hg (N := 2) ?hd (cs := #[.bool a0_0, .bool a0_1]) (t := 68) ?hr ?_; (case hd => rfl); (case hg => rfl); (case hr => first | (go_simp; done) | (go_simp; rfl)); intro gb106 hg w29 hbox hb; have n0_ := Aside0.mk (below_step (by repeat (first | (with_reducible first | exact HB.out | apply below_alloc | apply pw_below_drewN | apply below_drew1) | exact HB.out)) hb); have n1_ := Aside0.mk (hbox); have n2_ := Aside0.mk ((by rw [hg]; exact (below_size (by repeat (first | (with_reducible first | exact HB.out | apply below_alloc | apply pw_below_drewN | apply below_drew1) | exact HB.out))) : w.heap.size ≤ gb106)); have n3_ := Aside0.mk ((by rw [hg]; exact (below_size (by repeat (first | (with_reducible first | exact HB.out | apply below_alloc | apply pw_below_drewN | apply below_drew1) | exact HB.out))) : w.heap.size ≤ gb106)); clear HB; have HB := n0_; have BK106 := n1_; have GW106 := n2_; have GE106 := n3_; clear n0_ n1_ n2_ n3_; clear hb hbox hg; have hcz30_0 : w29.cell? ⟨gb106, 0, none⟩ = some (.bool a0_0) := (blk_cell BK106.out 0).trans rfl; have hcz30_1 : w29.cell? ⟨gb106, 1, none⟩ = some (.bool a0_1) := (blk_cell BK106.out 1).trans rfl; have hfz30_0 := blk_frozen BK106.out 0; have hfz30_1 := blk_frozen BK106.out 1) | ((with_reducible refine gate_callee (f := 95) rfl ?_); refine goesL_ (some 41) rfl rfl Try.func95 (by kernel_rfl) rfl #[.bool (!a0_0)] rfl (by (try simp only [List.map_toArray, List.map_cons, List.map_nil]); first | done | rfl | (simp only [List.length_drop, List.length_take]; rfl)) ?_; (with_reducible refine (word_truth.calls (!a0_0) t113 _ A28.out).mono ?_); rintro e w' ⟨rfl, ⟨nd, rfl⟩⟩; refine ⟨_, rfl, ?_⟩))
      go_ret
      exact ⟨by first | rfl | (simp [errW_none, errW_some] <;> rfl) | (simp [*, errW_none, errW_some] <;> rfl), by repeat (first | (with_reducible first | exact HB.out | apply below_alloc | apply pw_below_drewN | apply below_drew1 | refine below_set ?_ GE106.out) | exact HB.out)⟩
     ·rw [if_neg c27] at H
      have c27b0 : (a1 == 16) = false := beq_eq_false_iff_ne.mpr c27
      have c27b1 : (a1 != 16) = true := bne_iff_ne.mpr c27
      replace H := Option.bind_eq_some_iff.mp H
      obtain ⟨t114, A310, H⟩ := H
      replace H : (some t114) = some r := H
      have A31 := Aside0.mk A310
      clear A310
      obtain rfl := Option.some.inj H
      go_enter Try.func57, Try.ntmps57
      go_wp2_with (first | ((with_reducible refine gate_dst (N := 2) rfl ?_); refine box_event ?hg (N := 2) ?hd (cs := #[.bool a0_0, .bool a0_1]) (t := 68) ?hr ?_; (case hd => rfl); (case hg => rfl); (case hr => first | (go_simp; done) | (go_simp; rfl)); intro gb106 hg w32 hbox hb; have n0_ := Aside0.mk (below_step (by repeat (first | (with_reducible first | exact HB.out | apply below_alloc | apply pw_below_drewN | apply below_drew1) | exact HB.out)) hb); have n1_ := Aside0.mk (hbox); have n2_ := Aside0.mk ((by rw [hg]; exact (below_size (by repeat (first | (with_reducible first | exact HB.out | apply below_alloc | apply pw_below_drewN | apply below_drew1) | exact HB.out))) : w.heap.size ≤ gb106)); have n3_ := Aside0.mk ((by rw [hg]; exact (below_size (by repeat (first | (with_reducible first | exact HB.out | apply below_alloc | apply pw_below_drewN | apply below_drew1) | exact HB.out))) : w.heap.size ≤ gb106)); clear HB; have HB := n0_; have BK106 := n1_; have GW106 := n2_; have GE106 := n3_; clear n0_ n1_ n2_ n3_; clear hb hbox hg; have hcz33_0 : w32.cell? ⟨gb106, 0, none⟩ = some (.bool a0_0) := (blk_cell BK106.out 0).trans rfl; have hcz33_1 : w32.cell? ⟨gb106, 1, none⟩ = some (.bool a0_1) := (blk_cell BK106.out 1).trans rfl; have hfz33_0 := blk_frozen BK106.out 0; have hfz33_1 := blk_frozen BK106.out 1) | ((with_reducible refine gate_callee (f := 95) rfl ?_); refine goesL_ (some 45) rfl rfl Try.func95 (by kernel_rfl) rfl #[.bool (!a0_1)] rfl (by (try simp only [List.map_toArray, List.map_cons, List.map_nil]); first | done | rfl | (simp only [List.length_drop, List.length_take]; rfl)) ?_; (with_reducible refine (word_truth.calls (!a0_1) t114 _ A31.out).mono ?_); rintro e w' ⟨rfl, ⟨nd, rfl⟩⟩; refine ⟨_, rfl, ?_⟩))
      go_ret
      exact ⟨by first | rfl | (simp [errW_none, errW_some] <;> rfl) | (simp [*, errW_none, errW_some] <;> rfl), by repeat (first | (with_reducible first | exact HB.out | apply below_alloc | apply pw_below_drewN | apply below_drew1 | refine below_set ?_ GE106.out) | exact HB.out)⟩

/-! ### math_IsNaN: function 94 -/
def math_IsNaN.f (a0 : Nat) : Option (Bool) := some (FloatKind.f64.format.order a0 a0 != some .eq)
set_option maxHeartbeats 8000000 in
set_option maxRecDepth 100000 in
theorem math_IsNaN.calls (a0 : Nat) (r : Bool) (w : World) (h : math_IsNaN.f a0 = some r) :
  Calls Try.prog 94 #[.float .f64 a0] w fun e w' => e = .returned (.bool r) ∧ Drawn0 w w' := by
 have H : (some (FloatKind.f64.format.order a0 a0 != some .eq)) = some r := h
 clear h
 obtain rfl := Option.some.inj H
 go_enter Try.func94, Try.ntmps94
 go_wp2
 go_ret
 exact ⟨by first | rfl | (simp; done) | (simp [*]; done), by repeat (first | exact Drawn0.refl _ | apply Drawn0.step)⟩

end Go.Proofs.Ytahepinbmcgbnaa.PZ
end
section
-- Printed by this session's program (wip/tools: the kit's printer, turned for this claim), out of the translation.
namespace Go.Proofs.Ytahepinbmcgbnaa.PZ
open Go.RowKit Go.Proofs.YtahepinbmcgbnaaW.PrintWords Go.Proofs.YtahepinbmcgbnaaW.PrintLast Go.Proofs.YtahepinbmcgbnaaW.PrintMore
attribute [local go_sem] max2_int min2_int max_two min_two max_three min_three max_four min_four   -- for this text's walks alone
attribute [local go_sem] Fl.frombits Fl.tobits
set_option linter.unusedVariables false
set_option linter.unusedSimpArgs false

/-! ### word_floats: function 56 -/
def word_floats.f (a0 a1 a2 : Int) : Option Int := some (Fl.progF a0 a1.toNat a2.toNat)
theorem word_order_says.f_eq (l s : Bool) (op : Int) : word_order_says.f l s op = some (Fl.saysF l s op) := by
 unfold word_order_says.f Fl.saysF word_truth.f Fl.tr
 by_cases h1 : op = 11
 ·subst h1; cases l <;> cases s <;> rfl
 rw [if_neg h1, if_neg h1]
 by_cases h2 : op = 13
 ·subst h2; cases l <;> cases s <;> rfl
 rw [if_neg h2, if_neg h2]
 by_cases h3 : op = 14
 ·subst h3; cases l <;> cases s <;> rfl
 rw [if_neg h3, if_neg h3]
 by_cases h4 : op = 15
 ·subst h4; cases l <;> cases s <;> rfl
 rw [if_neg h4, if_neg h4]
 by_cases h5 : op = 16
 ·subst h5; cases l <;> cases s <;> rfl
 rw [if_neg h5, if_neg h5]
 cases l <;> cases s <;> rfl
set_option maxHeartbeats 8000000 in
set_option maxRecDepth 100000 in
theorem word_floats.calls (a0 a1 a2 : Int) (r : Int) (w : World) (h : word_floats.f a0 a1 a2 = some r) :
  Calls Try.prog 56 #[.int .i64 a0, .int .u64 a1, .int .u64 a2] w fun e w' => e = .returned (.int .u64 r) ∧ Below w.heap.size w w' := by
 obtain rfl : Fl.progF a0 a1.toNat a2.toNat = r := Option.some.inj h
 clear h
 have hfb := Fl.frombits
 have htb := Fl.tobits
 have hcv : ∀ (b : Nat) (w : World), (convert 63 63 (.float .f64 b)).run Try.prog w = .ok (.float .f64 b) w := fun b w => run_convert_float_float (P := Try.prog) w 63 63 .f64 .f64 b b (by kernel_rfl) Try.underlying63 rfl
 unfold Fl.progF Fl.ord
 have hu68 := Try.underlying68
 by_cases hc : a0 ≥ 11
 ·have hcb : decide (11 ≤ a0) = true := decide_eq_true hc
  rw [if_pos hc]
  clear hc
  obtain ⟨p, hp⟩ : ∃ p : Bool, p = (FloatKind.f64.format.order a1.toNat a1.toNat != some .eq) := ⟨_, rfl⟩
  obtain ⟨q, hq⟩ : ∃ q : Bool, q = (FloatKind.f64.format.order a2.toNat a2.toNat != some .eq) := ⟨_, rfl⟩
  rw [← hp, ← hq]
  cases p with
  | true =>
   simp only [Bool.true_or, if_true]
   have hp' := hp.symm
   clear hp hq
   go_enter Try.func56, Try.ntmps56
   go_wp2_with (first | (go_at_call 94; refine (Fl.isNaN_calls _ _).mono ?_; rintro e w' ⟨rfl, rfl⟩) | (go_at_call 95; refine (Fl.truth95 _ _).mono ?_; rintro e w' ⟨rfl, rfl⟩))
   go_ret
   exact ⟨rfl, Below.refl _ _⟩
  | false =>
   cases q with
   | true =>
    simp only [Bool.false_or, if_true]
    have hp' := hp.symm
    have hq' := hq.symm
    clear hp hq
    go_enter Try.func56, Try.ntmps56
    go_wp2_with (first | (go_at_call 94; refine (Fl.isNaN_calls _ _).mono ?_; rintro e w' ⟨rfl, rfl⟩) | (go_at_call 95; refine (Fl.truth95 _ _).mono ?_; rintro e w' ⟨rfl, rfl⟩))
    go_ret
    exact ⟨rfl, Below.refl _ _⟩
   | false =>
    simp only [Bool.false_or, Bool.false_eq_true, if_false]
    have hp' := hp.symm
    have hq' := hq.symm
    clear hp hq
    go_enter Try.func56, Try.ntmps56
    go_wp2_with (first | (go_at_call 94; refine (Fl.isNaN_calls _ _).mono ?_; rintro e w' ⟨rfl, rfl⟩) | (go_at_call 57; refine (word_order_says.calls _ _ _ _ _ (word_order_says.f_eq _ _ _)).mono ?_; rintro e w' ⟨rfl, hb⟩))
    go_ret
    exact ⟨rfl, hb⟩
 ·have hcb : decide (11 ≤ a0) = false := decide_eq_false hc
  rw [if_neg hc]
  clear hc
  by_cases h2 : a0 = 2
  ·subst h2
   simp only [if_true, Int.reduceEq, if_false]
   obtain ⟨k1, V1, hr1, hc1⟩ := Fl.run_ar .add (.inl rfl) 63 a1.toNat a2.toNat
   clear hc1
   obtain ⟨k, V, hr, hc⟩ := Fl.run_ar .sub (.inr (.inl rfl)) 63 a1.toNat a2.toNat
   have hc' := hc (w.drewN k1)
   clear hc
   obtain ⟨p, hp⟩ : ∃ p : Bool, p = (FloatKind.f64.format.order (V (w.drewN k1)) (V (w.drewN k1)) != some .eq) := ⟨_, rfl⟩
   cases p with
   | true =>
    have hp' := hp.symm
    rw [Fl.clean_yes hp'] at hc'
    rw [← hc']
    clear hp hc'
    go_enter Try.func56, Try.ntmps56
    go_wp2_with (first | (go_at_call 94; refine (Fl.isNaN_calls _ _).mono ?_; rintro e w' ⟨rfl, rfl⟩))
    go_ret
    exact ⟨rfl, by first | exact pw_below_drewN (pw_below_drewN (Below.refl _ _) k1) k | exact pw_below_drewN (Below.refl _ _) _⟩
   | false =>
    have hp' := hp.symm
    rw [Fl.clean_no hp'] at hc'
    rw [← hc']
    clear hp hc'
    go_enter Try.func56, Try.ntmps56
    go_wp2_with (first | (go_at_call 94; refine (Fl.isNaN_calls _ _).mono ?_; rintro e w' ⟨rfl, rfl⟩))
    go_ret
    exact ⟨rfl, by first | exact pw_below_drewN (pw_below_drewN (Below.refl _ _) k1) k | exact pw_below_drewN (Below.refl _ _) _⟩
  have b2 : (a0 == 2) = false := beq_eq_false_iff_ne.mpr h2
  by_cases h3 : a0 = 3
  ·subst h3
   simp only [if_true, Int.reduceEq, if_false]
   obtain ⟨k1, V1, hr1, hc1⟩ := Fl.run_ar .add (.inl rfl) 63 a1.toNat a2.toNat
   clear hc1
   obtain ⟨k, V, hr, hc⟩ := Fl.run_ar .mul (.inr (.inr (.inl rfl))) 63 a1.toNat a2.toNat
   have hc' := hc (w.drewN k1)
   clear hc
   obtain ⟨p, hp⟩ : ∃ p : Bool, p = (FloatKind.f64.format.order (V (w.drewN k1)) (V (w.drewN k1)) != some .eq) := ⟨_, rfl⟩
   cases p with
   | true =>
    have hp' := hp.symm
    rw [Fl.clean_yes hp'] at hc'
    rw [← hc']
    clear hp hc'
    go_enter Try.func56, Try.ntmps56
    go_wp2_with (first | (go_at_call 94; refine (Fl.isNaN_calls _ _).mono ?_; rintro e w' ⟨rfl, rfl⟩))
    go_ret
    exact ⟨rfl, by first | exact pw_below_drewN (pw_below_drewN (Below.refl _ _) k1) k | exact pw_below_drewN (Below.refl _ _) _⟩
   | false =>
    have hp' := hp.symm
    rw [Fl.clean_no hp'] at hc'
    rw [← hc']
    clear hp hc'
    go_enter Try.func56, Try.ntmps56
    go_wp2_with (first | (go_at_call 94; refine (Fl.isNaN_calls _ _).mono ?_; rintro e w' ⟨rfl, rfl⟩))
    go_ret
    exact ⟨rfl, by first | exact pw_below_drewN (pw_below_drewN (Below.refl _ _) k1) k | exact pw_below_drewN (Below.refl _ _) _⟩
  have b3 : (a0 == 3) = false := beq_eq_false_iff_ne.mpr h3
  by_cases h4 : a0 = 4
  ·subst h4
   simp only [if_true, Int.reduceEq, if_false]
   obtain ⟨k1, V1, hr1, hc1⟩ := Fl.run_ar .add (.inl rfl) 63 a1.toNat a2.toNat
   clear hc1
   obtain ⟨k, V, hr, hc⟩ := Fl.run_ar .quo (.inr (.inr (.inr rfl))) 63 a1.toNat a2.toNat
   have hc' := hc (w.drewN k1)
   clear hc
   obtain ⟨p, hp⟩ : ∃ p : Bool, p = (FloatKind.f64.format.order (V (w.drewN k1)) (V (w.drewN k1)) != some .eq) := ⟨_, rfl⟩
   cases p with
   | true =>
    have hp' := hp.symm
    rw [Fl.clean_yes hp'] at hc'
    rw [← hc']
    clear hp hc'
    go_enter Try.func56, Try.ntmps56
    go_wp2_with (first | (go_at_call 94; refine (Fl.isNaN_calls _ _).mono ?_; rintro e w' ⟨rfl, rfl⟩))
    go_ret
    exact ⟨rfl, by first | exact pw_below_drewN (pw_below_drewN (Below.refl _ _) k1) k | exact pw_below_drewN (Below.refl _ _) _⟩
   | false =>
    have hp' := hp.symm
    rw [Fl.clean_no hp'] at hc'
    rw [← hc']
    clear hp hc'
    go_enter Try.func56, Try.ntmps56
    go_wp2_with (first | (go_at_call 94; refine (Fl.isNaN_calls _ _).mono ?_; rintro e w' ⟨rfl, rfl⟩))
    go_ret
    exact ⟨rfl, by first | exact pw_below_drewN (pw_below_drewN (Below.refl _ _) k1) k | exact pw_below_drewN (Below.refl _ _) _⟩
  have b4 : (a0 == 4) = false := beq_eq_false_iff_ne.mpr h4
  simp only [h2, h3, h4, if_false]
  clear h2 h3 h4
  obtain ⟨k, V, hr, hc⟩ := Fl.run_ar .add (.inl rfl) 63 a1.toNat a2.toNat
  have hc' := hc w
  clear hc
  obtain ⟨p, hp⟩ : ∃ p : Bool, p = (FloatKind.f64.format.order (V w) (V w) != some .eq) := ⟨_, rfl⟩
  cases p with
  | true =>
   have hp' := hp.symm
   rw [Fl.clean_yes hp'] at hc'
   rw [← hc']
   clear hp hc'
   go_enter Try.func56, Try.ntmps56
   go_wp2_with (first | (go_at_call 94; refine (Fl.isNaN_calls _ _).mono ?_; rintro e w' ⟨rfl, rfl⟩))
   go_ret
   exact ⟨rfl, by first | exact pw_below_drewN (Below.refl _ _) k | exact pw_below_drewN (Below.refl _ _) _⟩
  | false =>
   have hp' := hp.symm
   rw [Fl.clean_no hp'] at hc'
   rw [← hc']
   clear hp hc'
   go_enter Try.func56, Try.ntmps56
   go_wp2_with (first | (go_at_call 94; refine (Fl.isNaN_calls _ _).mono ?_; rintro e w' ⟨rfl, rfl⟩))
   go_ret
   exact ⟨rfl, by first | exact pw_below_drewN (Below.refl _ _) k | exact pw_below_drewN (Below.refl _ _) _⟩


/-! ### word_quotient: function 96 -/
def word_quotient.f (a0 : Int) (a1 : Int) : Option (Int × Int) := if a1 = 18446744073709551615 then (some (IntKind.u64.wrap (-a0), 0)) else (if (wrap64 (a1)) = 0 then (none) else (some (IntKind.u64.wrap (wrap64 (Int.tdiv (wrap64 (a0)) (wrap64 (a1)))), IntKind.u64.wrap (Int.tmod (wrap64 (a0)) (wrap64 (a1))))))
set_option maxHeartbeats 8000000 in
set_option maxRecDepth 100000 in
theorem word_quotient.calls (a0 : Int) (a1 : Int) (r1 : Int) (r2 : Int) (w : World) (h : word_quotient.f a0 a1 = some (r1, r2)) :
  Calls Try.prog 96 #[.int .u64 a0, .int .u64 a1] w fun e w' => e = .returned (.tuple #[.int .u64 r1, .int .u64 r2]) ∧ Drawn0 w w' := by
 have H : (if a1 = 18446744073709551615 then (some (IntKind.u64.wrap (-a0), 0)) else (if (wrap64 (a1)) = 0 then (none) else (some (IntKind.u64.wrap (wrap64 (Int.tdiv (wrap64 (a0)) (wrap64 (a1)))), IntKind.u64.wrap (Int.tmod (wrap64 (a0)) (wrap64 (a1))))))) = some (r1, r2) := h
 clear h
 by_cases c3 : a1 = 18446744073709551615
 ·rw [if_pos c3] at H
  have c3b0 : (a1 == 18446744073709551615) = true := beq_iff_eq.mpr c3
  have c3b1 : (a1 != 18446744073709551615) = false := bne_eq_false_iff_eq.mpr c3
  clear c3
  simp only [Option.some.injEq, Prod.mk.injEq] at H
  obtain ⟨rfl, rfl⟩ := H
  go_enter Try.func96, Try.ntmps96
  go_wp2
  repeat (go_quiet (fail); try go_wp2)
  go_ret2
  exact ⟨by first | rfl | (simp; done) | (simp [*]; done), by repeat (first | exact Drawn0.refl _ | apply Drawn0.step)⟩
 ·rw [if_neg c3] at H
  have c3b0 : (a1 == 18446744073709551615) = false := beq_eq_false_iff_ne.mpr c3
  have c3b1 : (a1 != 18446744073709551615) = true := bne_iff_ne.mpr c3
  by_cases c4 : (wrap64 (a1)) = 0
  ·rw [if_pos c4] at H
   exact absurd H (by simp)
  ·rw [if_neg c4] at H
   have c4b0 : ((wrap64 (a1)) == 0) = false := beq_eq_false_iff_ne.mpr c4
   have c4b1 : ((wrap64 (a1)) != 0) = true := bne_iff_ne.mpr c4
   simp only [Option.some.injEq, Prod.mk.injEq] at H
   obtain ⟨rfl, rfl⟩ := H
   go_enter Try.func96, Try.ntmps96
   go_wp2
   repeat (go_quiet (fail); try go_wp2)
   go_ret2
   exact ⟨by first | rfl | (simp; done) | (simp [*]; done), by repeat (first | exact Drawn0.refl _ | apply Drawn0.step)⟩

/-! ### word_ints: function 58 -/
def word_ints.f (a0 : Int) (a1 : Bool) (a2 : Int) (a3 : Int) : Option (Int) := if a0 = 1 then (some (IntKind.u64.wrap (a2 + a3))) else (if a0 = 2 then (some (IntKind.u64.wrap (a2 - a3))) else (if a0 = 3 then (some (IntKind.u64.wrap (a2 * a3))) else (if a0 = 6 then (some (Go.bits .and .u64 a2 a3)) else (if a0 = 7 then (some (Go.bits .or .u64 a2 a3)) else (if a0 = 8 then (some (Go.bits .xor .u64 a2 a3)) else (if a0 = 9 then (if 0 ≤ a3 then (some (shl .u64 a2 a3)) else (none)) else (if a0 = 10 then (if a1 = true then (if 0 ≤ a3 then (some (IntKind.u64.wrap (shr .i64 (wrap64 (a2)) a3))) else (none)) else (if 0 ≤ a3 then (some (shr .u64 a2 a3)) else (none))) else (if a3 = 0 then (none) else (if a1 = true then ((word_quotient.f a2 a3).bind fun bt115 => (if a0 = 4 then (some bt115.1) else (some bt115.2))) else (if a0 = 4 then (some (IntKind.u64.wrap (Int.tdiv a2 a3))) else (some (Int.tmod a2 a3))))))))))))
set_option maxHeartbeats 8000000 in
set_option maxRecDepth 100000 in
theorem word_ints.calls (a0 : Int) (a1 : Bool) (a2 : Int) (a3 : Int) (r : Int) (w : World) (h : word_ints.f a0 a1 a2 a3 = some r) :
  Calls Try.prog 58 #[.int .i64 a0, .bool a1, .int .u64 a2, .int .u64 a3] w fun e w' => e = .returned (.int .u64 r) ∧ Drawn0 w w' := by
 have H : (if a0 = 1 then (some (IntKind.u64.wrap (a2 + a3))) else (if a0 = 2 then (some (IntKind.u64.wrap (a2 - a3))) else (if a0 = 3 then (some (IntKind.u64.wrap (a2 * a3))) else (if a0 = 6 then (some (Go.bits .and .u64 a2 a3)) else (if a0 = 7 then (some (Go.bits .or .u64 a2 a3)) else (if a0 = 8 then (some (Go.bits .xor .u64 a2 a3)) else (if a0 = 9 then (if 0 ≤ a3 then (some (shl .u64 a2 a3)) else (none)) else (if a0 = 10 then (if a1 = true then (if 0 ≤ a3 then (some (IntKind.u64.wrap (shr .i64 (wrap64 (a2)) a3))) else (none)) else (if 0 ≤ a3 then (some (shr .u64 a2 a3)) else (none))) else (if a3 = 0 then (none) else (if a1 = true then ((word_quotient.f a2 a3).bind fun bt115 => (if a0 = 4 then (some bt115.1) else (some bt115.2))) else (if a0 = 4 then (some (IntKind.u64.wrap (Int.tdiv a2 a3))) else (some (Int.tmod a2 a3))))))))))))) = some r := h
 clear h
 by_cases c5 : a0 = 1
 ·rw [if_pos c5] at H
  have c5b0 : (a0 == 1) = true := beq_iff_eq.mpr c5
  have c5b1 : (a0 != 1) = false := bne_eq_false_iff_eq.mpr c5
  clear c5
  obtain rfl := Option.some.inj H
  go_enter Try.func58, Try.ntmps58
  go_wp2
  repeat (go_quiet (fail); try go_wp2)
  go_ret
  exact ⟨by first | rfl | (simp; done) | (simp [*]; done), by repeat (first | exact Drawn0.refl _ | apply Drawn0.step)⟩
 ·rw [if_neg c5] at H
  have c5b0 : (a0 == 1) = false := beq_eq_false_iff_ne.mpr c5
  have c5b1 : (a0 != 1) = true := bne_iff_ne.mpr c5
  by_cases c6 : a0 = 2
  ·rw [if_pos c6] at H
   have c6b0 : (a0 == 2) = true := beq_iff_eq.mpr c6
   have c6b1 : (a0 != 2) = false := bne_eq_false_iff_eq.mpr c6
   clear c6
   obtain rfl := Option.some.inj H
   go_enter Try.func58, Try.ntmps58
   go_wp2
   repeat (go_quiet (fail); try go_wp2)
   go_ret
   exact ⟨by first | rfl | (simp; done) | (simp [*]; done), by repeat (first | exact Drawn0.refl _ | apply Drawn0.step)⟩
  ·rw [if_neg c6] at H
   have c6b0 : (a0 == 2) = false := beq_eq_false_iff_ne.mpr c6
   have c6b1 : (a0 != 2) = true := bne_iff_ne.mpr c6
   by_cases c7 : a0 = 3
   ·rw [if_pos c7] at H
    have c7b0 : (a0 == 3) = true := beq_iff_eq.mpr c7
    have c7b1 : (a0 != 3) = false := bne_eq_false_iff_eq.mpr c7
    clear c7
    obtain rfl := Option.some.inj H
    go_enter Try.func58, Try.ntmps58
    go_wp2
    repeat (go_quiet (fail); try go_wp2)
    go_ret
    exact ⟨by first | rfl | (simp; done) | (simp [*]; done), by repeat (first | exact Drawn0.refl _ | apply Drawn0.step)⟩
   ·rw [if_neg c7] at H
    have c7b0 : (a0 == 3) = false := beq_eq_false_iff_ne.mpr c7
    have c7b1 : (a0 != 3) = true := bne_iff_ne.mpr c7
    by_cases c8 : a0 = 6
    ·rw [if_pos c8] at H
     have c8b0 : (a0 == 6) = true := beq_iff_eq.mpr c8
     have c8b1 : (a0 != 6) = false := bne_eq_false_iff_eq.mpr c8
     clear c8
     obtain rfl := Option.some.inj H
     go_enter Try.func58, Try.ntmps58
     go_wp2
     repeat (go_quiet (fail); try go_wp2)
     go_ret
     exact ⟨by first | rfl | (simp; done) | (simp [*]; done), by repeat (first | exact Drawn0.refl _ | apply Drawn0.step)⟩
    ·rw [if_neg c8] at H
     have c8b0 : (a0 == 6) = false := beq_eq_false_iff_ne.mpr c8
     have c8b1 : (a0 != 6) = true := bne_iff_ne.mpr c8
     by_cases c9 : a0 = 7
     ·rw [if_pos c9] at H
      have c9b0 : (a0 == 7) = true := beq_iff_eq.mpr c9
      have c9b1 : (a0 != 7) = false := bne_eq_false_iff_eq.mpr c9
      clear c9
      obtain rfl := Option.some.inj H
      go_enter Try.func58, Try.ntmps58
      go_wp2
      repeat (go_quiet (fail); try go_wp2)
      go_ret
      exact ⟨by first | rfl | (simp; done) | (simp [*]; done), by repeat (first | exact Drawn0.refl _ | apply Drawn0.step)⟩
     ·rw [if_neg c9] at H
      have c9b0 : (a0 == 7) = false := beq_eq_false_iff_ne.mpr c9
      have c9b1 : (a0 != 7) = true := bne_iff_ne.mpr c9
      by_cases c10 : a0 = 8
      ·rw [if_pos c10] at H
       have c10b0 : (a0 == 8) = true := beq_iff_eq.mpr c10
       have c10b1 : (a0 != 8) = false := bne_eq_false_iff_eq.mpr c10
       clear c10
       obtain rfl := Option.some.inj H
       go_enter Try.func58, Try.ntmps58
       go_wp2
       repeat (go_quiet (fail); try go_wp2)
       go_ret
       exact ⟨by first | rfl | (simp; done) | (simp [*]; done), by repeat (first | exact Drawn0.refl _ | apply Drawn0.step)⟩
      ·rw [if_neg c10] at H
       have c10b0 : (a0 == 8) = false := beq_eq_false_iff_ne.mpr c10
       have c10b1 : (a0 != 8) = true := bne_iff_ne.mpr c10
       by_cases c11 : a0 = 9
       ·rw [if_pos c11] at H
        have c11b0 : (a0 == 9) = true := beq_iff_eq.mpr c11
        have c11b1 : (a0 != 9) = false := bne_eq_false_iff_eq.mpr c11
        clear c11
        by_cases c12 : 0 ≤ a3
        ·rw [if_pos c12] at H
         have c12b0 := eq_true c12
         have c12b1 : decide (0 ≤ a3) = true := decide_eq_true c12
         clear c12
         obtain ⟨ji13, hji13⟩ : ∃ j_ : Int, (shl .u64 a2 a3) = j_ := ⟨_, rfl⟩
         replace H : (some ji13) = some r := by first | (rw [hji13] at H; exact H) | (simp only [hji13] at H ⊢; exact H)
         have hji13_ : (IntKind.u64.wrap (a2 * 2 ^ min a3.toNat 64)) = ji13 := hji13
         have hji13z : a3 ≤ 64 → (IntKind.u64.wrap (a2 * 2 ^ a3.toNat)) = ji13 := shl_small hji13
         obtain rfl := Option.some.inj H
         go_enter Try.func58, Try.ntmps58
         go_wp2
         repeat (go_quiet (fail); try go_wp2)
         go_ret
         exact ⟨by first | rfl | (simp; done) | (simp only [← hji13] <;> (first | rfl | simp)) | (simp [*]; done), by repeat (first | exact Drawn0.refl _ | apply Drawn0.step)⟩
        ·rw [if_neg c12] at H
         exact absurd H (by simp)
       ·rw [if_neg c11] at H
        have c11b0 : (a0 == 9) = false := beq_eq_false_iff_ne.mpr c11
        have c11b1 : (a0 != 9) = true := bne_iff_ne.mpr c11
        by_cases c14 : a0 = 10
        ·rw [if_pos c14] at H
         have c14b0 : (a0 == 10) = true := beq_iff_eq.mpr c14
         have c14b1 : (a0 != 10) = false := bne_eq_false_iff_eq.mpr c14
         clear c14
         by_cases c15 : a1 = true
         ·subst c15
          have H1 : (if 0 ≤ a3 then (some (IntKind.u64.wrap (shr .i64 (wrap64 (a2)) a3))) else (none)) = some r := by rw [if_pos rfl] at H; exact H
          clear H
          have H := H1
          clear H1
          by_cases c16 : 0 ≤ a3
          ·rw [if_pos c16] at H
           have c16b0 := eq_true c16
           have c16b1 : decide (0 ≤ a3) = true := decide_eq_true c16
           clear c16
           obtain ⟨ji17, hji17⟩ : ∃ j_ : Int, (shr .i64 (wrap64 (a2)) a3) = j_ := ⟨_, rfl⟩
           replace H : (some (IntKind.u64.wrap (ji17))) = some r := by first | (rw [hji17] at H; exact H) | (simp only [hji17] at H ⊢; exact H)
           have hji17_ : ((wrap64 (a2)) / 2 ^ min a3.toNat 64) = ji17 := hji17
           have hji17z : a3 ≤ 64 → ((wrap64 (a2)) / 2 ^ a3.toNat) = ji17 := shr_small hji17
           obtain rfl := Option.some.inj H
           go_enter Try.func58, Try.ntmps58
           go_wp2
           repeat (go_quiet (fail); try go_wp2)
           go_ret
           exact ⟨by first | rfl | (simp; done) | (simp only [← hji17] <;> (first | rfl | simp)) | (simp [*]; done), by repeat (first | exact Drawn0.refl _ | apply Drawn0.step)⟩
          ·rw [if_neg c16] at H
           exact absurd H (by simp)
         ·replace c15 := Bool.eq_false_iff.mpr c15
          subst c15
          have H1 : (if 0 ≤ a3 then (some (shr .u64 a2 a3)) else (none)) = some r := by rw [if_neg (show ¬ (false = true) by decide)] at H; exact H
          clear H
          have H := H1
          clear H1
          by_cases c18 : 0 ≤ a3
          ·rw [if_pos c18] at H
           have c18b0 := eq_true c18
           have c18b1 : decide (0 ≤ a3) = true := decide_eq_true c18
           clear c18
           obtain ⟨ji19, hji19⟩ : ∃ j_ : Int, (shr .u64 a2 a3) = j_ := ⟨_, rfl⟩
           replace H : (some ji19) = some r := by first | (rw [hji19] at H; exact H) | (simp only [hji19] at H ⊢; exact H)
           have hji19_ : (a2 / 2 ^ min a3.toNat 64) = ji19 := hji19
           have hji19z : a3 ≤ 64 → (a2 / 2 ^ a3.toNat) = ji19 := shr_small hji19
           obtain rfl := Option.some.inj H
           go_enter Try.func58, Try.ntmps58
           go_wp2
           repeat (go_quiet (fail); try go_wp2)
           go_ret
           exact ⟨by first | rfl | (simp; done) | (simp only [← hji19] <;> (first | rfl | simp)) | (simp [*]; done), by repeat (first | exact Drawn0.refl _ | apply Drawn0.step)⟩
          ·rw [if_neg c18] at H
           exact absurd H (by simp)
        ·rw [if_neg c14] at H
         have c14b0 : (a0 == 10) = false := beq_eq_false_iff_ne.mpr c14
         have c14b1 : (a0 != 10) = true := bne_iff_ne.mpr c14
         by_cases c20 : a3 = 0
         ·rw [if_pos c20] at H
          exact absurd H (by simp)
         ·rw [if_neg c20] at H
          have c20b0 : (a3 == 0) = false := beq_eq_false_iff_ne.mpr c20
          have c20b1 : (a3 != 0) = true := bne_iff_ne.mpr c20
          by_cases c21 : a1 = true
          ·subst c21
           have H1 : ((word_quotient.f a2 a3).bind fun bt115 => (if a0 = 4 then (some bt115.1) else (some bt115.2))) = some r := by rw [if_pos rfl] at H; exact H
           clear H
           have H := H1
           clear H1
           replace H := Option.bind_eq_some_iff.mp H
           obtain ⟨⟨t115, t116⟩, A220, H⟩ := H
           replace H : (if a0 = 4 then (some t115) else (some t116)) = some r := H
           have A22 := Aside0.mk A220
           clear A220
           by_cases c23 : a0 = 4
           ·rw [if_pos c23] at H
            have c23b0 : (a0 == 4) = true := beq_iff_eq.mpr c23
            have c23b1 : (a0 != 4) = false := bne_eq_false_iff_eq.mpr c23
            clear c23
            obtain rfl := Option.some.inj H
            go_enter Try.func58, Try.ntmps58
            go_wp2_with (first | (go_at_call 96; (with_reducible refine (word_quotient.calls a2 a3 t115 t116 _ A22.out).mono ?_); rintro e w' ⟨rfl, ⟨nd, rfl⟩⟩; (try first | exact ⟨rfl, _, World.drewN_drewN _ _ _⟩ | exact ⟨rfl, _, Eq.trans (World.drewN_drewN _ _ _) (congrArg (World.drewN _) (Nat.add_assoc _ _ _))⟩)))
            repeat (go_quiet (first | (go_at_call 96; (with_reducible refine (word_quotient.calls a2 a3 t115 t116 _ A22.out).mono ?_); rintro e w' ⟨rfl, ⟨nd, rfl⟩⟩; (try first | exact ⟨rfl, _, World.drewN_drewN _ _ _⟩ | exact ⟨rfl, _, Eq.trans (World.drewN_drewN _ _ _) (congrArg (World.drewN _) (Nat.add_assoc _ _ _))⟩))); try go_wp2_with (first | (go_at_call 96; (with_reducible refine (word_quotient.calls a2 a3 t115 t116 _ A22.out).mono ?_); rintro e w' ⟨rfl, ⟨nd, rfl⟩⟩; (try first | exact ⟨rfl, _, World.drewN_drewN _ _ _⟩ | exact ⟨rfl, _, Eq.trans (World.drewN_drewN _ _ _) (congrArg (World.drewN _) (Nat.add_assoc _ _ _))⟩))))
            go_ret
            exact ⟨by first | rfl | (simp; done) | (simp [*]; done), by repeat (first | exact Drawn0.refl _ | apply Drawn0.step)⟩
           ·rw [if_neg c23] at H
            have c23b0 : (a0 == 4) = false := beq_eq_false_iff_ne.mpr c23
            have c23b1 : (a0 != 4) = true := bne_iff_ne.mpr c23
            obtain rfl := Option.some.inj H
            go_enter Try.func58, Try.ntmps58
            go_wp2_with (first | (go_at_call 96; (with_reducible refine (word_quotient.calls a2 a3 t115 t116 _ A22.out).mono ?_); rintro e w' ⟨rfl, ⟨nd, rfl⟩⟩; (try first | exact ⟨rfl, _, World.drewN_drewN _ _ _⟩ | exact ⟨rfl, _, Eq.trans (World.drewN_drewN _ _ _) (congrArg (World.drewN _) (Nat.add_assoc _ _ _))⟩)))
            repeat (go_quiet (first | (go_at_call 96; (with_reducible refine (word_quotient.calls a2 a3 t115 t116 _ A22.out).mono ?_); rintro e w' ⟨rfl, ⟨nd, rfl⟩⟩; (try first | exact ⟨rfl, _, World.drewN_drewN _ _ _⟩ | exact ⟨rfl, _, Eq.trans (World.drewN_drewN _ _ _) (congrArg (World.drewN _) (Nat.add_assoc _ _ _))⟩))); try go_wp2_with (first | (go_at_call 96; (with_reducible refine (word_quotient.calls a2 a3 t115 t116 _ A22.out).mono ?_); rintro e w' ⟨rfl, ⟨nd, rfl⟩⟩; (try first | exact ⟨rfl, _, World.drewN_drewN _ _ _⟩ | exact ⟨rfl, _, Eq.trans (World.drewN_drewN _ _ _) (congrArg (World.drewN _) (Nat.add_assoc _ _ _))⟩))))
            go_ret
            exact ⟨by first | rfl | (simp; done) | (simp [*]; done), by repeat (first | exact Drawn0.refl _ | apply Drawn0.step)⟩
          ·replace c21 := Bool.eq_false_iff.mpr c21
           subst c21
           have H1 : (if a0 = 4 then (some (IntKind.u64.wrap (Int.tdiv a2 a3))) else (some (Int.tmod a2 a3))) = some r := by rw [if_neg (show ¬ (false = true) by decide)] at H; exact H
           clear H
           have H := H1
           clear H1
           by_cases c24 : a0 = 4
           ·rw [if_pos c24] at H
            have c24b0 : (a0 == 4) = true := beq_iff_eq.mpr c24
            have c24b1 : (a0 != 4) = false := bne_eq_false_iff_eq.mpr c24
            clear c24
            obtain rfl := Option.some.inj H
            go_enter Try.func58, Try.ntmps58
            go_wp2
            repeat (go_quiet (fail); try go_wp2)
            go_ret
            exact ⟨by first | rfl | (simp; done) | (simp [*]; done), by repeat (first | exact Drawn0.refl _ | apply Drawn0.step)⟩
           ·rw [if_neg c24] at H
            have c24b0 : (a0 == 4) = false := beq_eq_false_iff_ne.mpr c24
            have c24b1 : (a0 != 4) = true := bne_iff_ne.mpr c24
            obtain rfl := Option.some.inj H
            go_enter Try.func58, Try.ntmps58
            go_wp2
            repeat (go_quiet (fail); try go_wp2)
            go_ret
            exact ⟨by first | rfl | (simp; done) | (simp [*]; done), by repeat (first | exact Drawn0.refl _ | apply Drawn0.step)⟩

end Go.Proofs.Ytahepinbmcgbnaa.PZ
end
section
-- Printed by this session's program (wip/tools: the kit's printer, turned for this claim), out of the translation.
namespace Go.Proofs.Ytahepinbmcgbnaa.PZ
open Go.RowKit Go.Proofs.YtahepinbmcgbnaaW.PrintWords Go.Proofs.YtahepinbmcgbnaaW.PrintLast Go.Proofs.YtahepinbmcgbnaaW.PrintMore
attribute [local go_sem] max2_int min2_int max_two min_two max_three min_three max_four min_four   -- for this text's walks alone
attribute [local go_sem] Fl.frombits Fl.tobits
set_option linter.unusedVariables false
set_option linter.unusedSimpArgs false

/-! ### word_Bin: function 23 -/
mutual
def word_Bin.j0 : Nat → Int → Int → Int → Int → Int → Bool → Option (Int × Int)
 | 0, _, _, _, _, _, _ => none
 | k + 1, x0, x1, x2, x3, x10, x17 => if x17 = true then (word_Bin.j1 k x0 x1 x2 x3 9) else (word_Bin.j1 k x0 x1 x2 x3 x10)
def word_Bin.j1 : Nat → Int → Int → Int → Int → Int → Option (Int × Int)
 | 0, _, _, _, _, _ => none
 | k + 1, x0, x1, x2, x3, x10 => (word_has.f k x0 x1).bind fun t117 => (if t117 = true then ((word_Is.f k x1 x2).bind fun t118 => (if t118 = true then ((word_Is.f k x10 x3).bind fun t119 => (word_Bin.j2 k x0 x1 x2 x3 (!t119))) else (word_Bin.j2 k x0 x1 x2 x3 true))) else (some (0, 10)))
def word_Bin.j2 : Nat → Int → Int → Int → Int → Bool → Option (Int × Int)
 | 0, _, _, _, _, _ => none
 | k + 1, x0, x1, x2, x3, x23 => if x23 = true then (some (0, 11)) else (if x1 = 10 then ((word_floats.f x0 x2 x3).bind fun t120 => (some (t120, 0))) else (if x0 = 4 then (word_Bin.j3 k x0 x1 x2 x3 (x3 == 0)) else (if x0 = 5 then (word_Bin.j3 k x0 x1 x2 x3 (x3 == 0)) else (word_Bin.j3 k x0 x1 x2 x3 false))))
def word_Bin.j3 : Nat → Int → Int → Int → Int → Bool → Option (Int × Int)
 | 0, _, _, _, _, _ => none
 | k + 1, x0, x1, x2, x3, x41 => if x41 = true then (some (0, 12)) else (if x0 ≥ 11 then ((word_signed.f x1).bind fun t121 => (word_Bin.j4 k x0 x1 x2 x3 t121)) else (word_Bin.j4 k x0 x1 x2 x3 false))
def word_Bin.j4 : Nat → Int → Int → Int → Int → Bool → Option (Int × Int)
 | 0, _, _, _, _, _ => none
 | k + 1, x0, x1, x2, x3, x52 => if x52 = true then ((word_order_says.f (decide ((wrap64 (x2)) < (wrap64 (x3)))) (x2 == x3) x0).bind fun t122 => (some (t122, 0))) else (if x0 ≥ 11 then ((word_order_says.f (decide (x2 < x3)) (x2 == x3) x0).bind fun t123 => (some (t123, 0))) else ((word_signed.f x1).bind fun t124 => ((word_ints.f x0 t124 x2 x3).bind fun t125 => ((word_Canon.f k x1 t125).bind fun t126 => (some (t126, 0))))))
end
def word_Bin.f (k : Nat) (a0 : Int) (a1 : Int) (a2 : Int) (a3 : Int) : Option (Int × Int) := if a0 = 9 then (word_Bin.j0 k a0 a1 a2 a3 a1 true) else (word_Bin.j0 k a0 a1 a2 a3 a1 (a0 == 10))
theorem word_Bin.mono_l : ∀ k, (∀ y0 y1 y2 y3 y4 y5, LeO (word_Bin.j0 k y0 y1 y2 y3 y4 y5) (word_Bin.j0 (k + 1) y0 y1 y2 y3 y4 y5)) ∧ (∀ y0 y1 y2 y3 y4, LeO (word_Bin.j1 k y0 y1 y2 y3 y4) (word_Bin.j1 (k + 1) y0 y1 y2 y3 y4)) ∧ (∀ y0 y1 y2 y3 y4, LeO (word_Bin.j2 k y0 y1 y2 y3 y4) (word_Bin.j2 (k + 1) y0 y1 y2 y3 y4)) ∧ (∀ y0 y1 y2 y3 y4, LeO (word_Bin.j3 k y0 y1 y2 y3 y4) (word_Bin.j3 (k + 1) y0 y1 y2 y3 y4)) ∧ (∀ y0 y1 y2 y3 y4, LeO (word_Bin.j4 k y0 y1 y2 y3 y4) (word_Bin.j4 (k + 1) y0 y1 y2 y3 y4))
 | 0 => ⟨fun _ _ _ _ _ _ r h => by simp [word_Bin.j0] at h, fun _ _ _ _ _ r h => by simp [word_Bin.j1] at h, fun _ _ _ _ _ r h => by simp [word_Bin.j2] at h, fun _ _ _ _ _ r h => by simp [word_Bin.j3] at h, fun _ _ _ _ _ r h => by simp [word_Bin.j4] at h⟩
 | k + 1 => by
  obtain ⟨ih0, ih1, ih2, ih3, ih4⟩ := word_Bin.mono_l k
  refine ⟨?_, ?_, ?_, ?_, ?_⟩
  ·intro y0 y1 y2 y3 y4 y5
   unfold word_Bin.j0
   repeat' first
   | (with_reducible exact ih0 _ _ _ _ _ _)
   | (with_reducible exact ih1 _ _ _ _ _)
   | (with_reducible exact ih2 _ _ _ _ _)
   | (with_reducible exact ih3 _ _ _ _ _)
   | (with_reducible exact ih4 _ _ _ _ _)
   | (with_reducible exact word_Canon.mono _ _ _)
   | (with_reducible exact word_Is.mono _ _ _)
   | (with_reducible exact word_has.mono _ _ _)
   | (with_reducible exact LeO.refl _)
   | (with_reducible exact LeO.none _)
   | (with_reducible refine LeO.ite ?_ ?_)
   | (with_reducible refine LeO.bind ?_ (fun _ => ?_))
   | exact ih0 _ _ _ _ _ _
   | exact ih1 _ _ _ _ _
   | exact ih2 _ _ _ _ _
   | exact ih3 _ _ _ _ _
   | exact ih4 _ _ _ _ _
   | exact word_Canon.mono _ _ _
   | exact word_Is.mono _ _ _
   | exact word_has.mono _ _ _
   | exact LeO.none _
   | refine LeO.ite ?_ ?_
   | refine LeO.bind ?_ (fun _ => ?_)
  ·intro y0 y1 y2 y3 y4
   unfold word_Bin.j1
   repeat' first
   | (with_reducible exact ih0 _ _ _ _ _ _)
   | (with_reducible exact ih1 _ _ _ _ _)
   | (with_reducible exact ih2 _ _ _ _ _)
   | (with_reducible exact ih3 _ _ _ _ _)
   | (with_reducible exact ih4 _ _ _ _ _)
   | (with_reducible exact word_Canon.mono _ _ _)
   | (with_reducible exact word_Is.mono _ _ _)
   | (with_reducible exact word_has.mono _ _ _)
   | (with_reducible exact LeO.refl _)
   | (with_reducible exact LeO.none _)
   | (with_reducible refine LeO.ite ?_ ?_)
   | (with_reducible refine LeO.bind ?_ (fun _ => ?_))
   | exact ih0 _ _ _ _ _ _
   | exact ih1 _ _ _ _ _
   | exact ih2 _ _ _ _ _
   | exact ih3 _ _ _ _ _
   | exact ih4 _ _ _ _ _
   | exact word_Canon.mono _ _ _
   | exact word_Is.mono _ _ _
   | exact word_has.mono _ _ _
   | exact LeO.none _
   | refine LeO.ite ?_ ?_
   | refine LeO.bind ?_ (fun _ => ?_)
  ·intro y0 y1 y2 y3 y4
   unfold word_Bin.j2
   repeat' first
   | (with_reducible exact ih0 _ _ _ _ _ _)
   | (with_reducible exact ih1 _ _ _ _ _)
   | (with_reducible exact ih2 _ _ _ _ _)
   | (with_reducible exact ih3 _ _ _ _ _)
   | (with_reducible exact ih4 _ _ _ _ _)
   | (with_reducible exact word_Canon.mono _ _ _)
   | (with_reducible exact word_Is.mono _ _ _)
   | (with_reducible exact word_has.mono _ _ _)
   | (with_reducible exact LeO.refl _)
   | (with_reducible exact LeO.none _)
   | (with_reducible refine LeO.ite ?_ ?_)
   | (with_reducible refine LeO.bind ?_ (fun _ => ?_))
   | exact ih0 _ _ _ _ _ _
   | exact ih1 _ _ _ _ _
   | exact ih2 _ _ _ _ _
   | exact ih3 _ _ _ _ _
   | exact ih4 _ _ _ _ _
   | exact word_Canon.mono _ _ _
   | exact word_Is.mono _ _ _
   | exact word_has.mono _ _ _
   | exact LeO.none _
   | refine LeO.ite ?_ ?_
   | refine LeO.bind ?_ (fun _ => ?_)
  ·intro y0 y1 y2 y3 y4
   unfold word_Bin.j3
   repeat' first
   | (with_reducible exact ih0 _ _ _ _ _ _)
   | (with_reducible exact ih1 _ _ _ _ _)
   | (with_reducible exact ih2 _ _ _ _ _)
   | (with_reducible exact ih3 _ _ _ _ _)
   | (with_reducible exact ih4 _ _ _ _ _)
   | (with_reducible exact word_Canon.mono _ _ _)
   | (with_reducible exact word_Is.mono _ _ _)
   | (with_reducible exact word_has.mono _ _ _)
   | (with_reducible exact LeO.refl _)
   | (with_reducible exact LeO.none _)
   | (with_reducible refine LeO.ite ?_ ?_)
   | (with_reducible refine LeO.bind ?_ (fun _ => ?_))
   | exact ih0 _ _ _ _ _ _
   | exact ih1 _ _ _ _ _
   | exact ih2 _ _ _ _ _
   | exact ih3 _ _ _ _ _
   | exact ih4 _ _ _ _ _
   | exact word_Canon.mono _ _ _
   | exact word_Is.mono _ _ _
   | exact word_has.mono _ _ _
   | exact LeO.none _
   | refine LeO.ite ?_ ?_
   | refine LeO.bind ?_ (fun _ => ?_)
  ·intro y0 y1 y2 y3 y4
   unfold word_Bin.j4
   repeat' first
   | (with_reducible exact ih0 _ _ _ _ _ _)
   | (with_reducible exact ih1 _ _ _ _ _)
   | (with_reducible exact ih2 _ _ _ _ _)
   | (with_reducible exact ih3 _ _ _ _ _)
   | (with_reducible exact ih4 _ _ _ _ _)
   | (with_reducible exact word_Canon.mono _ _ _)
   | (with_reducible exact word_Is.mono _ _ _)
   | (with_reducible exact word_has.mono _ _ _)
   | (with_reducible exact LeO.refl _)
   | (with_reducible exact LeO.none _)
   | (with_reducible refine LeO.ite ?_ ?_)
   | (with_reducible refine LeO.bind ?_ (fun _ => ?_))
   | exact ih0 _ _ _ _ _ _
   | exact ih1 _ _ _ _ _
   | exact ih2 _ _ _ _ _
   | exact ih3 _ _ _ _ _
   | exact ih4 _ _ _ _ _
   | exact word_Canon.mono _ _ _
   | exact word_Is.mono _ _ _
   | exact word_has.mono _ _ _
   | exact LeO.none _
   | refine LeO.ite ?_ ?_
   | refine LeO.bind ?_ (fun _ => ?_)
theorem word_Bin.mono : ∀ a0 a1 a2 a3 k, LeO (word_Bin.f k a0 a1 a2 a3) (word_Bin.f (k + 1) a0 a1 a2 a3) := by
 intro a0 a1 a2 a3 k
 obtain ⟨ih0, ih1, ih2, ih3, ih4⟩ := word_Bin.mono_l k
 unfold word_Bin.f
 repeat' first
   | (with_reducible exact ih0 _ _ _ _ _ _)
   | (with_reducible exact ih1 _ _ _ _ _)
   | (with_reducible exact ih2 _ _ _ _ _)
   | (with_reducible exact ih3 _ _ _ _ _)
   | (with_reducible exact ih4 _ _ _ _ _)
   | (with_reducible exact word_Canon.mono _ _ _)
   | (with_reducible exact word_Is.mono _ _ _)
   | (with_reducible exact word_has.mono _ _ _)
   | (with_reducible exact LeO.refl _)
   | (with_reducible exact LeO.none _)
   | (with_reducible refine LeO.ite ?_ ?_)
   | (with_reducible refine LeO.bind ?_ (fun _ => ?_))
   | exact ih0 _ _ _ _ _ _
   | exact ih1 _ _ _ _ _
   | exact ih2 _ _ _ _ _
   | exact ih3 _ _ _ _ _
   | exact ih4 _ _ _ _ _
   | exact word_Canon.mono _ _ _
   | exact word_Is.mono _ _ _
   | exact word_has.mono _ _ _
   | exact LeO.none _
   | refine LeO.ite ?_ ?_
   | refine LeO.bind ?_ (fun _ => ?_)
set_option maxHeartbeats 8000000 in
set_option maxRecDepth 100000 in
theorem word_Bin.calls (k : Nat) (a0 : Int) (a1 : Int) (a2 : Int) (a3 : Int) (r1 : Int) (r2 : Int) (w : World) (h : word_Bin.f k a0 a1 a2 a3 = some (r1, r2)) :
  Calls Try.prog 23 #[.int .i64 a0, .int .i64 a1, .int .u64 a2, .int .u64 a3] w fun e w' => e = .returned (.tuple #[.int .u64 r1, .int .i64 r2]) ∧ Below w.heap.size w w' := by
 have hu68 := Try.underlying68
 have HB := Aside0.mk (Below.refl w.heap.size w)
 have H : (if a0 = 9 then (word_Bin.j0 k a0 a1 a2 a3 a1 true) else (word_Bin.j0 k a0 a1 a2 a3 a1 (a0 == 10))) = some (r1, r2) := h
 clear h
 have HC5 := Aside0.mk H
 clear H
 go_enter Try.func23, Try.ntmps23
 go_upto_region 2 with (fail)
 go_cut [17] (fun v17 wc => ∃ (kq : Nat) (x17_4 : Bool), v17 = .bool x17_4 ∧ Aside0 (word_Bin.j0 kq a0 a1 a2 a3 a1 x17_4 = some (r1, r2)) ∧ Aside0 (kq ≤ k) ∧ Aside0 (Below w.heap.size w wc))
 case first =>
  have H := HC5.out
  clear HC5
  by_cases c6 : a0 = 9
  ·rw [if_pos c6] at H
   have c6b0 : (a0 == 9) = true := beq_iff_eq.mpr c6
   have c6b1 : (a0 != 9) = false := bne_eq_false_iff_eq.mpr c6
   clear c6
   (first | rw [c6b0] | (simp only [i64_w, i32_w]; rw [c6b0]) | skip)
   have H' := Aside0.mk H
   clear H
   go_wp2
   go_meet
   case rel => exact ⟨_, (true), (by first | rfl | (simp; done) | (simp [*]; done)), H', ⟨by first | omega | exact Nat.le_refl _⟩, ⟨by repeat (first | (with_reducible first | exact HB.out | apply below_alloc | apply pw_below_drewN | apply below_drew1) | exact HB.out)⟩⟩
  ·rw [if_neg c6] at H
   have c6b0 : (a0 == 9) = false := beq_eq_false_iff_ne.mpr c6
   have c6b1 : (a0 != 9) = true := bne_iff_ne.mpr c6
   (first | rw [c6b0] | (simp only [i64_w, i32_w]; rw [c6b0]) | skip)
   have H' := Aside0.mk H
   clear H
   go_wp2
   go_meet
   case rel => exact ⟨_, ((a0 == 10)), (by first | rfl | (simp; done) | (simp [*]; done)), H', ⟨by first | omega | exact Nat.le_refl _⟩, ⟨by repeat (first | (with_reducible first | exact HB.out | apply below_alloc | apply pw_below_drewN | apply below_drew1) | exact HB.out)⟩⟩
 case rest =>
  clear HC5
  try clear c2
  try clear p2
  try clear c6
  try clear c6b0
  try clear c6b1
  obtain ⟨kq, x17_4, rfl, HA, HJ4, HB⟩ := hcut
  cases kq with
  | zero => exact absurd HA.out (by simp [word_Bin.j0])
  | succ kj4 =>
   have H := HA.out
   clear HA
   simp only [word_Bin.j0] at H
   have HC7 := Aside0.mk H
   clear H
   go_upto_if 17 with (fail)
   go_cut [10] (fun v10 wc => ∃ (kq : Nat) (x10_6 : Int), v10 = .int .i64 x10_6 ∧ Aside0 (word_Bin.j1 kq a0 a1 a2 a3 x10_6 = some (r1, r2)) ∧ Aside0 (kq ≤ kj4) ∧ Aside0 (Below w.heap.size w wc))
   case first =>
    have H := HC7.out
    clear HC7
    by_cases c8 : x17_4 = true
    ·subst c8
     have H1 : (word_Bin.j1 kj4 a0 a1 a2 a3 9) = some (r1, r2) := by rw [if_pos rfl] at H; exact H
     clear H
     have H := H1
     clear H1
     have H' := Aside0.mk H
     clear H
     go_wp2
     go_meet
     case rel => exact ⟨_, (9), (by first | rfl | (simp; done) | (simp [*]; done)), H', ⟨by have := HJ4.out; first | omega | exact Nat.le_refl _⟩, ⟨by repeat (first | (with_reducible first | exact HB.out | apply below_alloc | apply pw_below_drewN | apply below_drew1) | exact HB.out)⟩⟩
    ·replace c8 := Bool.eq_false_iff.mpr c8
     subst c8
     have H1 : (word_Bin.j1 kj4 a0 a1 a2 a3 a1) = some (r1, r2) := by rw [if_neg (show ¬ (false = true) by decide)] at H; exact H
     clear H
     have H := H1
     clear H1
     have H' := Aside0.mk H
     clear H
     go_wp2
     go_meet
     case rel => exact ⟨_, (a1), (by first | rfl | (simp; done) | (simp [*]; done)), H', ⟨by have := HJ4.out; first | omega | exact Nat.le_refl _⟩, ⟨by repeat (first | (with_reducible first | exact HB.out | apply below_alloc | apply pw_below_drewN | apply below_drew1) | exact HB.out)⟩⟩
   case rest =>
    clear HC7
    try clear c2
    try clear p2
    try clear c6
    try clear c6b0
    try clear c6b1
    try clear c8
    try clear p2
    obtain ⟨kq, x10_6, rfl, HA, HJ6, HB⟩ := hcut
    cases kq with
    | zero => exact absurd HA.out (by simp [word_Bin.j1])
    | succ kj6 =>
     have H := HA.out
     clear HA
     simp only [word_Bin.j1] at H
     replace H := Option.bind_eq_some_iff.mp H
     obtain ⟨t117, A90, H⟩ := H
     replace H : (if t117 = true then ((word_Is.f kj6 a1 a2).bind fun t118 => (if t118 = true then ((word_Is.f kj6 x10_6 a3).bind fun t119 => (word_Bin.j2 kj6 a0 a1 a2 a3 (!t119))) else (word_Bin.j2 kj6 a0 a1 a2 a3 true))) else (some (0, 10))) = some (r1, r2) := H
     have A9 := Aside0.mk A90
     clear A90
     by_cases c10 : t117 = true
     ·subst c10
      have H1 : ((word_Is.f kj6 a1 a2).bind fun t118 => (if t118 = true then ((word_Is.f kj6 x10_6 a3).bind fun t119 => (word_Bin.j2 kj6 a0 a1 a2 a3 (!t119))) else (word_Bin.j2 kj6 a0 a1 a2 a3 true))) = some (r1, r2) := by rw [if_pos rfl] at H; exact H
      clear H
      have H := H1
      clear H1
      have HC11 := Aside0.mk H
      clear H
      go_upto_region 6 with (first | ((with_reducible refine gate_callee (f := 55) rfl ?_); refine goesL_ (some 21) rfl rfl Try.func55 (by kernel_rfl) rfl #[.int .i64 a0, .int .i64 a1] rfl (by (try simp only [List.map_toArray, List.map_cons, List.map_nil]); first | done | rfl | (simp only [List.length_drop, List.length_take]; rfl)) ?_; (with_reducible refine (word_has.calls kj6 a0 a1 true _ A9.out).mono ?_); rintro e w' ⟨rfl, ⟨nd, rfl⟩⟩; refine ⟨_, rfl, ?_⟩))
      (try simp only [Act.put, List.setIfInBounds_toArray, List.set_cons_zero, List.set_cons_succ])
      go_cut [23] (fun v23 wc => ∃ (kq : Nat) (x23_10 : Bool), v23 = .bool x23_10 ∧ Aside0 (word_Bin.j2 kq a0 a1 a2 a3 x23_10 = some (r1, r2)) ∧ Aside0 (kq ≤ kj6) ∧ Aside0 (Below w.heap.size w wc))
      case first =>
       have H := HC11.out
       clear HC11
       replace H := Option.bind_eq_some_iff.mp H
       obtain ⟨t118, A120, H⟩ := H
       replace H : (if t118 = true then ((word_Is.f kj6 x10_6 a3).bind fun t119 => (word_Bin.j2 kj6 a0 a1 a2 a3 (!t119))) else (word_Bin.j2 kj6 a0 a1 a2 a3 true)) = some (r1, r2) := H
       have A12 := Aside0.mk A120
       clear A120
       by_cases c13 : t118 = true
       ·subst c13
        have H1 : ((word_Is.f kj6 x10_6 a3).bind fun t119 => (word_Bin.j2 kj6 a0 a1 a2 a3 (!t119))) = some (r1, r2) := by rw [if_pos rfl] at H; exact H
        clear H
        have H := H1
        clear H1
        replace H := Option.bind_eq_some_iff.mp H
        obtain ⟨t119, A140, H⟩ := H
        replace H : (word_Bin.j2 kj6 a0 a1 a2 a3 (!t119)) = some (r1, r2) := H
        have A14 := Aside0.mk A140
        clear A140
        have H' := Aside0.mk H
        clear H
        go_wp2_with (first | ((with_reducible refine gate_callee (f := 17) rfl ?_); refine goesL_ (some 26) rfl rfl Try.func17 (by kernel_rfl) rfl #[.int .i64 a1, .int .u64 a2] rfl (by (try simp only [List.map_toArray, List.map_cons, List.map_nil]); first | done | rfl | (simp only [List.length_drop, List.length_take]; rfl)) ?_; (with_reducible refine (word_Is.calls kj6 a1 a2 true _ A12.out).mono ?_); rintro e w' ⟨rfl, ⟨nd, rfl⟩⟩; refine ⟨_, rfl, ?_⟩) | (go_at_call 17; (with_reducible refine (word_Is.calls kj6 x10_6 a3 t119 _ A14.out).mono ?_); rintro e w' ⟨rfl, ⟨nd, rfl⟩⟩))
        go_meet
        case rel => exact ⟨_, (!t119), (by first | rfl | (simp; done) | (simp [*]; done)), H', ⟨by have := HJ4.out; have := HJ6.out; first | omega | exact Nat.le_refl _⟩, ⟨by repeat (first | (with_reducible first | exact HB.out | apply below_alloc | apply pw_below_drewN | apply below_drew1) | exact HB.out)⟩⟩
       ·replace c13 := Bool.eq_false_iff.mpr c13
        subst c13
        have H1 : (word_Bin.j2 kj6 a0 a1 a2 a3 true) = some (r1, r2) := by rw [if_neg (show ¬ (false = true) by decide)] at H; exact H
        clear H
        have H := H1
        clear H1
        have H' := Aside0.mk H
        clear H
        go_wp2_with (first | ((with_reducible refine gate_callee (f := 17) rfl ?_); refine goesL_ (some 26) rfl rfl Try.func17 (by kernel_rfl) rfl #[.int .i64 a1, .int .u64 a2] rfl (by (try simp only [List.map_toArray, List.map_cons, List.map_nil]); first | done | rfl | (simp only [List.length_drop, List.length_take]; rfl)) ?_; (with_reducible refine (word_Is.calls kj6 a1 a2 false _ A12.out).mono ?_); rintro e w' ⟨rfl, ⟨nd, rfl⟩⟩; refine ⟨_, rfl, ?_⟩))
        go_meet
        case rel => exact ⟨_, (true), (by first | rfl | (simp; done) | (simp [*]; done)), H', ⟨by have := HJ4.out; have := HJ6.out; first | omega | exact Nat.le_refl _⟩, ⟨by repeat (first | (with_reducible first | exact HB.out | apply below_alloc | apply pw_below_drewN | apply below_drew1) | exact HB.out)⟩⟩
      case rest =>
       clear HC11
       try clear c1
       try clear c2
       try clear p2
       try clear c5
       try clear c6
       try clear c6b0
       try clear c6b1
       try clear c8
       try clear c10
       try clear c13
       try clear p2
       obtain ⟨kq, x23_10, rfl, HA, HJ10, HB⟩ := hcut
       cases kq with
       | zero => exact absurd HA.out (by simp [word_Bin.j2])
       | succ kj10 =>
        have H := HA.out
        clear HA
        simp only [word_Bin.j2] at H
        by_cases c15 : x23_10 = true
        ·subst c15
         have H1 : (some (0, 11)) = some (r1, r2) := by rw [if_pos rfl] at H; exact H
         clear H
         have H := H1
         clear H1
         simp only [Option.some.injEq, Prod.mk.injEq] at H
         obtain ⟨rfl, rfl⟩ := H
         go_wp2
         go_ret2
         exact ⟨by first | rfl | (simp [errW_none, errW_some] <;> rfl) | (simp [*, errW_none, errW_some] <;> rfl), by repeat (first | (with_reducible first | exact HB.out | apply below_alloc | apply pw_below_drewN | apply below_drew1) | exact HB.out)⟩
        ·replace c15 := Bool.eq_false_iff.mpr c15
         subst c15
         have H1 : (if a1 = 10 then ((word_floats.f a0 a2 a3).bind fun t120 => (some (t120, 0))) else (if a0 = 4 then (word_Bin.j3 kj10 a0 a1 a2 a3 (a3 == 0)) else (if a0 = 5 then (word_Bin.j3 kj10 a0 a1 a2 a3 (a3 == 0)) else (word_Bin.j3 kj10 a0 a1 a2 a3 false)))) = some (r1, r2) := by rw [if_neg (show ¬ (false = true) by decide)] at H; exact H
         clear H
         have H := H1
         clear H1
         by_cases c16 : a1 = 10
         ·rw [if_pos c16] at H
          have c16b0 : (a1 == 10) = true := beq_iff_eq.mpr c16
          have c16b1 : (a1 != 10) = false := bne_eq_false_iff_eq.mpr c16
          clear c16
          replace H := Option.bind_eq_some_iff.mp H
          obtain ⟨t120, A170, H⟩ := H
          replace H : (some (t120, 0)) = some (r1, r2) := H
          have A17 := Aside0.mk A170
          clear A170
          simp only [Option.some.injEq, Prod.mk.injEq] at H
          obtain ⟨rfl, rfl⟩ := H
          go_wp2_with (first | ((with_reducible refine gate_callee (f := 56) rfl ?_); refine goesL_ (some 40) rfl rfl Try.func56 (by kernel_rfl) rfl #[.int .i64 a0, .int .u64 a2, .int .u64 a3] rfl (by (try simp only [List.map_toArray, List.map_cons, List.map_nil]); first | done | rfl | (simp only [List.length_drop, List.length_take]; rfl)) ?_; (with_reducible refine (word_floats.calls a0 a2 a3 t120 _ A17.out).mono ?_); rintro e w18 ⟨rfl, hb⟩; refine ⟨_, rfl, ?_⟩; have n0_ := Aside0.mk (below_step (by repeat (first | (with_reducible first | exact HB.out | apply below_alloc | apply pw_below_drewN | apply below_drew1) | exact HB.out)) hb); clear HB; have HB := n0_; clear n0_; (try clear hb); (try clear hb2); (try clear hk); (try clear hi)))
          go_ret2
          exact ⟨by first | rfl | (simp [errW_none, errW_some] <;> rfl) | (simp [*, errW_none, errW_some] <;> rfl), by repeat (first | (with_reducible first | exact HB.out | apply below_alloc | apply pw_below_drewN | apply below_drew1) | exact HB.out)⟩
         ·rw [if_neg c16] at H
          have c16b0 : (a1 == 10) = false := beq_eq_false_iff_ne.mpr c16
          have c16b1 : (a1 != 10) = true := bne_iff_ne.mpr c16
          have HC19 := Aside0.mk H
          clear H
          go_upto_region 10 with (fail)
          go_cut [41] (fun v41 wc => ∃ (kq : Nat) (x41_18 : Bool), v41 = .bool x41_18 ∧ Aside0 (word_Bin.j3 kq a0 a1 a2 a3 x41_18 = some (r1, r2)) ∧ Aside0 (kq ≤ kj10) ∧ Aside0 (Below w.heap.size w wc))
          case first =>
           have H := HC19.out
           clear HC19
           by_cases c20 : a0 = 4
           ·rw [if_pos c20] at H
            have c20b0 : (a0 == 4) = true := beq_iff_eq.mpr c20
            have c20b1 : (a0 != 4) = false := bne_eq_false_iff_eq.mpr c20
            clear c20
            (first | rw [c20b0] | (simp only [i64_w, i32_w]; rw [c20b0]) | skip)
            have H' := Aside0.mk H
            clear H
            go_wp2
            go_meet
            case rel => exact ⟨_, ((a3 == 0)), (by first | rfl | (simp; done) | (simp [*]; done)), H', ⟨by have := HJ4.out; have := HJ6.out; have := HJ10.out; first | omega | exact Nat.le_refl _⟩, ⟨by repeat (first | (with_reducible first | exact HB.out | apply below_alloc | apply pw_below_drewN | apply below_drew1) | exact HB.out)⟩⟩
           ·rw [if_neg c20] at H
            have c20b0 : (a0 == 4) = false := beq_eq_false_iff_ne.mpr c20
            have c20b1 : (a0 != 4) = true := bne_iff_ne.mpr c20
            (first | rw [c20b0] | (simp only [i64_w, i32_w]; rw [c20b0]) | skip)
            by_cases c21 : a0 = 5
            ·rw [if_pos c21] at H
             have c21b0 : (a0 == 5) = true := beq_iff_eq.mpr c21
             have c21b1 : (a0 != 5) = false := bne_eq_false_iff_eq.mpr c21
             clear c21
             have H' := Aside0.mk H
             clear H
             go_wp2
             go_meet
             case rel => exact ⟨_, ((a3 == 0)), (by first | rfl | (simp; done) | (simp [*]; done)), H', ⟨by have := HJ4.out; have := HJ6.out; have := HJ10.out; first | omega | exact Nat.le_refl _⟩, ⟨by repeat (first | (with_reducible first | exact HB.out | apply below_alloc | apply pw_below_drewN | apply below_drew1) | exact HB.out)⟩⟩
            ·rw [if_neg c21] at H
             have c21b0 : (a0 == 5) = false := beq_eq_false_iff_ne.mpr c21
             have c21b1 : (a0 != 5) = true := bne_iff_ne.mpr c21
             have H' := Aside0.mk H
             clear H
             go_wp2
             go_meet
             case rel => exact ⟨_, (false), (by first | rfl | (simp; done) | (simp [*]; done)), H', ⟨by have := HJ4.out; have := HJ6.out; have := HJ10.out; first | omega | exact Nat.le_refl _⟩, ⟨by repeat (first | (with_reducible first | exact HB.out | apply below_alloc | apply pw_below_drewN | apply below_drew1) | exact HB.out)⟩⟩
          case rest =>
           clear HC19
           try clear c1
           try clear c2
           try clear p2
           try clear c5
           try clear c6
           try clear c6b0
           try clear c6b1
           try clear c8
           try clear c10
           try clear c13
           try clear c15
           try clear c16
           try clear c16b0
           try clear c16b1
           try clear c17
           try clear c20
           try clear c20b0
           try clear c20b1
           try clear c21
           try clear c21b0
           try clear c21b1
           try clear p2
           obtain ⟨kq, x41_18, rfl, HA, HJ18, HB⟩ := hcut
           cases kq with
           | zero => exact absurd HA.out (by simp [word_Bin.j3])
           | succ kj18 =>
            have H := HA.out
            clear HA
            simp only [word_Bin.j3] at H
            by_cases c22 : x41_18 = true
            ·subst c22
             have H1 : (some (0, 12)) = some (r1, r2) := by rw [if_pos rfl] at H; exact H
             clear H
             have H := H1
             clear H1
             simp only [Option.some.injEq, Prod.mk.injEq] at H
             obtain ⟨rfl, rfl⟩ := H
             go_wp2
             go_ret2
             exact ⟨by first | rfl | (simp [errW_none, errW_some] <;> rfl) | (simp [*, errW_none, errW_some] <;> rfl), by repeat (first | (with_reducible first | exact HB.out | apply below_alloc | apply pw_below_drewN | apply below_drew1) | exact HB.out)⟩
            ·replace c22 := Bool.eq_false_iff.mpr c22
             subst c22
             have H1 : (if a0 ≥ 11 then ((word_signed.f a1).bind fun t121 => (word_Bin.j4 kj18 a0 a1 a2 a3 t121)) else (word_Bin.j4 kj18 a0 a1 a2 a3 false)) = some (r1, r2) := by rw [if_neg (show ¬ (false = true) by decide)] at H; exact H
             clear H
             have H := H1
             clear H1
             have HC23 := Aside0.mk H
             clear H
             go_upto_region 12 with (fail)
             go_cut [52] (fun v52 wc => ∃ (kq : Nat) (x52_22 : Bool), v52 = .bool x52_22 ∧ Aside0 (word_Bin.j4 kq a0 a1 a2 a3 x52_22 = some (r1, r2)) ∧ Aside0 (kq ≤ kj18) ∧ Aside0 (Below w.heap.size w wc))
             case first =>
              have H := HC23.out
              clear HC23
              by_cases c24 : a0 ≥ 11
              ·rw [if_pos c24] at H
               have c24b0 : decide (11 ≤ a0) = true := decide_eq_true c24
               clear c24
               (first | rw [c24b0] | (simp only [i64_w, i32_w]; rw [c24b0]) | skip)
               replace H := Option.bind_eq_some_iff.mp H
               obtain ⟨t121, A250, H⟩ := H
               replace H : (word_Bin.j4 kj18 a0 a1 a2 a3 t121) = some (r1, r2) := H
               have A25 := Aside0.mk A250
               clear A250
               have H' := Aside0.mk H
               clear H
               go_wp2_with (first | (go_at_call 49; (with_reducible refine (word_signed.calls a1 t121 _ A25.out).mono ?_); rintro e w' ⟨rfl, ⟨nd, rfl⟩⟩))
               go_meet
               case rel => exact ⟨_, (t121), (by first | rfl | (simp; done) | (simp [*]; done)), H', ⟨by have := HJ4.out; have := HJ6.out; have := HJ10.out; have := HJ18.out; first | omega | exact Nat.le_refl _⟩, ⟨by repeat (first | (with_reducible first | exact HB.out | apply below_alloc | apply pw_below_drewN | apply below_drew1) | exact HB.out)⟩⟩
              ·rw [if_neg c24] at H
               have c24b0 : decide (11 ≤ a0) = false := decide_eq_false c24
               clear c24
               (first | rw [c24b0] | (simp only [i64_w, i32_w]; rw [c24b0]) | skip)
               have H' := Aside0.mk H
               clear H
               go_wp2
               go_meet
               case rel => exact ⟨_, (false), (by first | rfl | (simp; done) | (simp [*]; done)), H', ⟨by have := HJ4.out; have := HJ6.out; have := HJ10.out; have := HJ18.out; first | omega | exact Nat.le_refl _⟩, ⟨by repeat (first | (with_reducible first | exact HB.out | apply below_alloc | apply pw_below_drewN | apply below_drew1) | exact HB.out)⟩⟩
             case rest =>
              clear HC23
              try clear c1
              try clear c2
              try clear p2
              try clear c5
              try clear c6
              try clear c6b0
              try clear c6b1
              try clear c8
              try clear c10
              try clear c13
              try clear c15
              try clear c16
              try clear c16b0
              try clear c16b1
              try clear c17
              try clear c20
              try clear c20b0
              try clear c20b1
              try clear c21
              try clear c21b0
              try clear c21b1
              try clear c22
              try clear c23
              try clear c24
              try clear c24b0
              try clear p2
              obtain ⟨kq, x52_22, rfl, HA, HJ22, HB⟩ := hcut
              cases kq with
              | zero => exact absurd HA.out (by simp [word_Bin.j4])
              | succ kj22 =>
               have H := HA.out
               clear HA
               simp only [word_Bin.j4] at H
               by_cases c26 : x52_22 = true
               ·subst c26
                have H1 : ((word_order_says.f (decide ((wrap64 (a2)) < (wrap64 (a3)))) (a2 == a3) a0).bind fun t122 => (some (t122, 0))) = some (r1, r2) := by rw [if_pos rfl] at H; exact H
                clear H
                have H := H1
                clear H1
                replace H := Option.bind_eq_some_iff.mp H
                obtain ⟨t122, A270, H⟩ := H
                replace H : (some (t122, 0)) = some (r1, r2) := H
                have A27 := Aside0.mk A270
                clear A270
                simp only [Option.some.injEq, Prod.mk.injEq] at H
                obtain ⟨rfl, rfl⟩ := H
                go_wp2_with (first | ((with_reducible refine gate_callee (f := 57) rfl ?_); refine goesL_ (some 69) rfl rfl Try.func57 (by kernel_rfl) rfl #[.agg #[.bool (decide ((wrap64 (a2)) < (wrap64 (a3)))), .bool (a2 == a3)], .int .i64 a0] rfl (by (try simp only [List.map_toArray, List.map_cons, List.map_nil]); first | done | rfl | (simp only [List.length_drop, List.length_take]; rfl)) ?_; (with_reducible refine (word_order_says.calls (decide ((wrap64 (a2)) < (wrap64 (a3)))) (a2 == a3) a0 t122 _ A27.out).mono ?_); rintro e w28 ⟨rfl, hb⟩; refine ⟨_, rfl, ?_⟩; have n0_ := Aside0.mk (below_step (by repeat (first | (with_reducible first | exact HB.out | apply below_alloc | apply pw_below_drewN | apply below_drew1) | exact HB.out)) hb); clear HB; have HB := n0_; clear n0_; (try clear hb); (try clear hb2); (try clear hk); (try clear hi)))
                go_ret2
                exact ⟨by first | rfl | (simp [errW_none, errW_some] <;> rfl) | (simp [*, errW_none, errW_some] <;> rfl), by repeat (first | (with_reducible first | exact HB.out | apply below_alloc | apply pw_below_drewN | apply below_drew1) | exact HB.out)⟩
               ·replace c26 := Bool.eq_false_iff.mpr c26
                subst c26
                have H1 : (if a0 ≥ 11 then ((word_order_says.f (decide (a2 < a3)) (a2 == a3) a0).bind fun t123 => (some (t123, 0))) else ((word_signed.f a1).bind fun t124 => ((word_ints.f a0 t124 a2 a3).bind fun t125 => ((word_Canon.f kj22 a1 t125).bind fun t126 => (some (t126, 0)))))) = some (r1, r2) := by rw [if_neg (show ¬ (false = true) by decide)] at H; exact H
                clear H
                have H := H1
                clear H1
                by_cases c29 : a0 ≥ 11
                ·rw [if_pos c29] at H
                 have c29b0 : decide (11 ≤ a0) = true := decide_eq_true c29
                 clear c29
                 replace H := Option.bind_eq_some_iff.mp H
                 obtain ⟨t123, A300, H⟩ := H
                 replace H : (some (t123, 0)) = some (r1, r2) := H
                 have A30 := Aside0.mk A300
                 clear A300
                 simp only [Option.some.injEq, Prod.mk.injEq] at H
                 obtain ⟨rfl, rfl⟩ := H
                 go_wp2_with (first | ((with_reducible refine gate_callee (f := 57) rfl ?_); refine goesL_ (some 81) rfl rfl Try.func57 (by kernel_rfl) rfl #[.agg #[.bool (decide (a2 < a3)), .bool (a2 == a3)], .int .i64 a0] rfl (by (try simp only [List.map_toArray, List.map_cons, List.map_nil]); first | done | rfl | (simp only [List.length_drop, List.length_take]; rfl)) ?_; (with_reducible refine (word_order_says.calls (decide (a2 < a3)) (a2 == a3) a0 t123 _ A30.out).mono ?_); rintro e w31 ⟨rfl, hb⟩; refine ⟨_, rfl, ?_⟩; have n0_ := Aside0.mk (below_step (by repeat (first | (with_reducible first | exact HB.out | apply below_alloc | apply pw_below_drewN | apply below_drew1) | exact HB.out)) hb); clear HB; have HB := n0_; clear n0_; (try clear hb); (try clear hb2); (try clear hk); (try clear hi)))
                 go_ret2
                 exact ⟨by first | rfl | (simp [errW_none, errW_some] <;> rfl) | (simp [*, errW_none, errW_some] <;> rfl), by repeat (first | (with_reducible first | exact HB.out | apply below_alloc | apply pw_below_drewN | apply below_drew1) | exact HB.out)⟩
                ·rw [if_neg c29] at H
                 have c29b0 : decide (11 ≤ a0) = false := decide_eq_false c29
                 clear c29
                 replace H := Option.bind_eq_some_iff.mp H
                 obtain ⟨t124, A320, H⟩ := H
                 replace H : ((word_ints.f a0 t124 a2 a3).bind fun t125 => ((word_Canon.f kj22 a1 t125).bind fun t126 => (some (t126, 0)))) = some (r1, r2) := H
                 have A32 := Aside0.mk A320
                 clear A320
                 replace H := Option.bind_eq_some_iff.mp H
                 obtain ⟨t125, A330, H⟩ := H
                 replace H : ((word_Canon.f kj22 a1 t125).bind fun t126 => (some (t126, 0))) = some (r1, r2) := H
                 have A33 := Aside0.mk A330
                 clear A330
                 replace H := Option.bind_eq_some_iff.mp H
                 obtain ⟨t126, A340, H⟩ := H
                 replace H : (some (t126, 0)) = some (r1, r2) := H
                 have A34 := Aside0.mk A340
                 clear A340
                 simp only [Option.some.injEq, Prod.mk.injEq] at H
                 obtain ⟨rfl, rfl⟩ := H
                 go_wp2_with (first | ((with_reducible refine gate_callee (f := 49) rfl ?_); refine goesL_ (some 85) rfl rfl Try.func49 (by kernel_rfl) rfl #[.int .i64 a1] rfl (by (try simp only [List.map_toArray, List.map_cons, List.map_nil]); first | done | rfl | (simp only [List.length_drop, List.length_take]; rfl)) ?_; (with_reducible refine (word_signed.calls a1 t124 _ A32.out).mono ?_); rintro e w' ⟨rfl, ⟨nd, rfl⟩⟩; refine ⟨_, rfl, ?_⟩) | ((with_reducible refine gate_callee (f := 58) rfl ?_); refine goesL_ (some 88) rfl rfl Try.func58 (by kernel_rfl) rfl #[.int .i64 a0, .bool t124, .int .u64 a2, .int .u64 a3] rfl (by (try simp only [List.map_toArray, List.map_cons, List.map_nil]); first | done | rfl | (simp only [List.length_drop, List.length_take]; rfl)) ?_; (with_reducible refine (word_ints.calls a0 t124 a2 a3 t125 _ A33.out).mono ?_); rintro e w' ⟨rfl, ⟨nd, rfl⟩⟩; refine ⟨_, rfl, ?_⟩) | ((with_reducible refine gate_callee (f := 15) rfl ?_); refine goesL_ (some 89) rfl rfl Try.func15 (by kernel_rfl) rfl #[.int .i64 a1, .int .u64 t125] rfl (by (try simp only [List.map_toArray, List.map_cons, List.map_nil]); first | done | rfl | (simp only [List.length_drop, List.length_take]; rfl)) ?_; (with_reducible refine (word_Canon.calls kj22 a1 t125 t126 _ A34.out).mono ?_); rintro e w' ⟨rfl, ⟨nd, rfl⟩⟩; refine ⟨_, rfl, ?_⟩))
                 go_ret2
                 exact ⟨by first | rfl | (simp [errW_none, errW_some] <;> rfl) | (simp [*, errW_none, errW_some] <;> rfl), by repeat (first | (with_reducible first | exact HB.out | apply below_alloc | apply pw_below_drewN | apply below_drew1) | exact HB.out)⟩
     ·replace c10 := Bool.eq_false_iff.mpr c10
      subst c10
      have H1 : (some (0, 10)) = some (r1, r2) := by rw [if_neg (show ¬ (false = true) by decide)] at H; exact H
      clear H
      have H := H1
      clear H1
      simp only [Option.some.injEq, Prod.mk.injEq] at H
      obtain ⟨rfl, rfl⟩ := H
      go_wp2_with (first | ((with_reducible refine gate_callee (f := 55) rfl ?_); refine goesL_ (some 21) rfl rfl Try.func55 (by kernel_rfl) rfl #[.int .i64 a0, .int .i64 a1] rfl (by (try simp only [List.map_toArray, List.map_cons, List.map_nil]); first | done | rfl | (simp only [List.length_drop, List.length_take]; rfl)) ?_; (with_reducible refine (word_has.calls kj6 a0 a1 false _ A9.out).mono ?_); rintro e w' ⟨rfl, ⟨nd, rfl⟩⟩; refine ⟨_, rfl, ?_⟩))
      go_ret2
      exact ⟨by first | rfl | (simp [errW_none, errW_some] <;> rfl) | (simp [*, errW_none, errW_some] <;> rfl), by repeat (first | (with_reducible first | exact HB.out | apply below_alloc | apply pw_below_drewN | apply below_drew1) | exact HB.out)⟩

end Go.Proofs.Ytahepinbmcgbnaa.PZ
end
section
-- Printed by this session's program (wip/tools: the kit's printer, turned for this claim), out of the translation.
namespace Go.Proofs.Ytahepinbmcgbnaa.PZ
open Go.RowKit Go.Proofs.YtahepinbmcgbnaaW.PrintWords Go.Proofs.YtahepinbmcgbnaaW.PrintLast Go.Proofs.YtahepinbmcgbnaaW.PrintMore
attribute [local go_sem] max2_int min2_int max_two min_two max_three min_three max_four min_four   -- for this text's walks alone
attribute [local go_sem] Fl.frombits Fl.tobits
set_option linter.unusedVariables false
set_option linter.unusedSimpArgs false

/-! ### word_Un: function 19 -/
mutual
def word_Un.j2 : Nat → Int → Int → Int → Option (Int × Int)
 | 0, _, _, _ => none
 | k + 1, x0, x1, x2 => (word_Is.f k x1 x2).bind fun t129 => (if t129 = true then (if x0 = 2 then (some (Go.bits .xor .u64 x2 1, 0)) else (if x1 = 10 then (some (Go.bits .xor .u64 x2 9223372036854775808, 0)) else (if x0 = 1 then ((word_Canon.f k x1 (IntKind.u64.wrap (-x2))).bind fun t130 => (some (t130, 0))) else ((word_Canon.f k x1 (Go.bits .xor .u64 18446744073709551615 x2)).bind fun t131 => (some (t131, 0)))))) else (some (0, 11)))
def word_Un.j0 : Nat → Int → Int → Int → Bool → Option (Int × Int)
 | 0, _, _, _, _ => none
 | k + 1, x0, x1, x2, x8 => if x8 = true then (word_Un.j2 k x0 x1 x2) else (if x0 = 2 then (word_Un.j1 k x0 x1 x2 (x1 == 1)) else (word_Un.j1 k x0 x1 x2 false))
def word_Un.j1 : Nat → Int → Int → Int → Bool → Option (Int × Int)
 | 0, _, _, _, _ => none
 | k + 1, x0, x1, x2, x19 => if x19 = true then (word_Un.j2 k x0 x1 x2) else (if x0 = 3 then ((word_whole.f x1).bind fun t128 => (if t128 = true then (word_Un.j2 k x0 x1 x2) else (some (0, 10)))) else (some (0, 10)))
end
def word_Un.f (k : Nat) (a0 : Int) (a1 : Int) (a2 : Int) : Option (Int × Int) := if a0 = 1 then ((word_whole.f a1).bind fun t127 => (if t127 = true then (word_Un.j0 k a0 a1 a2 true) else (word_Un.j0 k a0 a1 a2 (a1 == 10)))) else (word_Un.j0 k a0 a1 a2 false)
theorem word_Un.mono_l : ∀ k, (∀ y0 y1 y2, LeO (word_Un.j2 k y0 y1 y2) (word_Un.j2 (k + 1) y0 y1 y2)) ∧ (∀ y0 y1 y2 y3, LeO (word_Un.j0 k y0 y1 y2 y3) (word_Un.j0 (k + 1) y0 y1 y2 y3)) ∧ (∀ y0 y1 y2 y3, LeO (word_Un.j1 k y0 y1 y2 y3) (word_Un.j1 (k + 1) y0 y1 y2 y3))
 | 0 => ⟨fun _ _ _ r h => by simp [word_Un.j2] at h, fun _ _ _ _ r h => by simp [word_Un.j0] at h, fun _ _ _ _ r h => by simp [word_Un.j1] at h⟩
 | k + 1 => by
  obtain ⟨ih0, ih1, ih2⟩ := word_Un.mono_l k
  refine ⟨?_, ?_, ?_⟩
  ·intro y0 y1 y2
   unfold word_Un.j2
   repeat' first
   | (with_reducible exact ih0 _ _ _)
   | (with_reducible exact ih1 _ _ _ _)
   | (with_reducible exact ih2 _ _ _ _)
   | (with_reducible exact word_Canon.mono _ _ _)
   | (with_reducible exact word_Is.mono _ _ _)
   | (with_reducible exact LeO.refl _)
   | (with_reducible exact LeO.none _)
   | (with_reducible refine LeO.ite ?_ ?_)
   | (with_reducible refine LeO.bind ?_ (fun _ => ?_))
   | exact ih0 _ _ _
   | exact ih1 _ _ _ _
   | exact ih2 _ _ _ _
   | exact word_Canon.mono _ _ _
   | exact word_Is.mono _ _ _
   | exact LeO.none _
   | refine LeO.ite ?_ ?_
   | refine LeO.bind ?_ (fun _ => ?_)
  ·intro y0 y1 y2 y3
   unfold word_Un.j0
   repeat' first
   | (with_reducible exact ih0 _ _ _)
   | (with_reducible exact ih1 _ _ _ _)
   | (with_reducible exact ih2 _ _ _ _)
   | (with_reducible exact word_Canon.mono _ _ _)
   | (with_reducible exact word_Is.mono _ _ _)
   | (with_reducible exact LeO.refl _)
   | (with_reducible exact LeO.none _)
   | (with_reducible refine LeO.ite ?_ ?_)
   | (with_reducible refine LeO.bind ?_ (fun _ => ?_))
   | exact ih0 _ _ _
   | exact ih1 _ _ _ _
   | exact ih2 _ _ _ _
   | exact word_Canon.mono _ _ _
   | exact word_Is.mono _ _ _
   | exact LeO.none _
   | refine LeO.ite ?_ ?_
   | refine LeO.bind ?_ (fun _ => ?_)
  ·intro y0 y1 y2 y3
   unfold word_Un.j1
   repeat' first
   | (with_reducible exact ih0 _ _ _)
   | (with_reducible exact ih1 _ _ _ _)
   | (with_reducible exact ih2 _ _ _ _)
   | (with_reducible exact word_Canon.mono _ _ _)
   | (with_reducible exact word_Is.mono _ _ _)
   | (with_reducible exact LeO.refl _)
   | (with_reducible exact LeO.none _)
   | (with_reducible refine LeO.ite ?_ ?_)
   | (with_reducible refine LeO.bind ?_ (fun _ => ?_))
   | exact ih0 _ _ _
   | exact ih1 _ _ _ _
   | exact ih2 _ _ _ _
   | exact word_Canon.mono _ _ _
   | exact word_Is.mono _ _ _
   | exact LeO.none _
   | refine LeO.ite ?_ ?_
   | refine LeO.bind ?_ (fun _ => ?_)
theorem word_Un.mono : ∀ a0 a1 a2 k, LeO (word_Un.f k a0 a1 a2) (word_Un.f (k + 1) a0 a1 a2) := by
 intro a0 a1 a2 k
 obtain ⟨ih0, ih1, ih2⟩ := word_Un.mono_l k
 unfold word_Un.f
 repeat' first
   | (with_reducible exact ih0 _ _ _)
   | (with_reducible exact ih1 _ _ _ _)
   | (with_reducible exact ih2 _ _ _ _)
   | (with_reducible exact word_Canon.mono _ _ _)
   | (with_reducible exact word_Is.mono _ _ _)
   | (with_reducible exact LeO.refl _)
   | (with_reducible exact LeO.none _)
   | (with_reducible refine LeO.ite ?_ ?_)
   | (with_reducible refine LeO.bind ?_ (fun _ => ?_))
   | exact ih0 _ _ _
   | exact ih1 _ _ _ _
   | exact ih2 _ _ _ _
   | exact word_Canon.mono _ _ _
   | exact word_Is.mono _ _ _
   | exact LeO.none _
   | refine LeO.ite ?_ ?_
   | refine LeO.bind ?_ (fun _ => ?_)
set_option maxHeartbeats 8000000 in
set_option maxRecDepth 100000 in
theorem word_Un.calls (k : Nat) (a0 : Int) (a1 : Int) (a2 : Int) (r1 : Int) (r2 : Int) (w : World) (h : word_Un.f k a0 a1 a2 = some (r1, r2)) :
  Calls Try.prog 19 #[.int .i64 a0, .int .i64 a1, .int .u64 a2] w fun e w' => e = .returned (.tuple #[.int .u64 r1, .int .i64 r2]) ∧ Drawn0 w w' := by
 have H : (if a0 = 1 then ((word_whole.f a1).bind fun t127 => (if t127 = true then (word_Un.j0 k a0 a1 a2 true) else (word_Un.j0 k a0 a1 a2 (a1 == 10)))) else (word_Un.j0 k a0 a1 a2 false)) = some (r1, r2) := h
 clear h
 have HC4 := Aside0.mk H
 clear H
 go_enter Try.func19, Try.ntmps19
 go_upto_block 0 with (fail)
 go_cut [] (fun wc => ∃ (kq : Nat), Aside0 (word_Un.j2 kq a0 a1 a2 = some (r1, r2)) ∧ Aside0 (kq ≤ k) ∧ Drawn0 w wc)
 case first =>
  have H := HC4.out
  clear HC4
  have HC5 := Aside0.mk H
  clear H
  go_upto_region 2 with (fail)
  go_cut [8] (fun v8 wc => ∃ (kq : Nat) (x8_4 : Bool), v8 = .bool x8_4 ∧ Aside0 (word_Un.j0 kq a0 a1 a2 x8_4 = some (r1, r2)) ∧ Aside0 (kq ≤ k) ∧ Drawn0 w wc)
  case first =>
   have H := HC5.out
   clear HC5
   by_cases c6 : a0 = 1
   ·rw [if_pos c6] at H
    have c6b0 : (a0 == 1) = true := beq_iff_eq.mpr c6
    have c6b1 : (a0 != 1) = false := bne_eq_false_iff_eq.mpr c6
    clear c6
    (first | rw [c6b0] | (simp only [i64_w, i32_w]; rw [c6b0]) | skip)
    replace H := Option.bind_eq_some_iff.mp H
    obtain ⟨t127, A70, H⟩ := H
    replace H : (if t127 = true then (word_Un.j0 k a0 a1 a2 true) else (word_Un.j0 k a0 a1 a2 (a1 == 10))) = some (r1, r2) := H
    have A7 := Aside0.mk A70
    clear A70
    by_cases c8 : t127 = true
    ·subst c8
     have H1 : (word_Un.j0 k a0 a1 a2 true) = some (r1, r2) := by rw [if_pos rfl] at H; exact H
     clear H
     have H := H1
     clear H1
     have H' := Aside0.mk H
     clear H
     go_wp2_with (first | (go_at_call 50; (with_reducible refine (word_whole.calls a1 true _ A7.out).mono ?_); rintro e w' ⟨rfl, ⟨nd, rfl⟩⟩))
     go_meet
     case rel => exact ⟨_, (true), (by first | rfl | (simp; done) | (simp [*]; done)), H', ⟨by first | omega | exact Nat.le_refl _⟩, by repeat (first | exact Drawn0.refl _ | apply Drawn0.step)⟩
    ·replace c8 := Bool.eq_false_iff.mpr c8
     subst c8
     have H1 : (word_Un.j0 k a0 a1 a2 (a1 == 10)) = some (r1, r2) := by rw [if_neg (show ¬ (false = true) by decide)] at H; exact H
     clear H
     have H := H1
     clear H1
     have H' := Aside0.mk H
     clear H
     go_wp2_with (first | (go_at_call 50; (with_reducible refine (word_whole.calls a1 false _ A7.out).mono ?_); rintro e w' ⟨rfl, ⟨nd, rfl⟩⟩))
     go_meet
     case rel => exact ⟨_, ((a1 == 10)), (by first | rfl | (simp; done) | (simp [*]; done)), H', ⟨by first | omega | exact Nat.le_refl _⟩, by repeat (first | exact Drawn0.refl _ | apply Drawn0.step)⟩
   ·rw [if_neg c6] at H
    have c6b0 : (a0 == 1) = false := beq_eq_false_iff_ne.mpr c6
    have c6b1 : (a0 != 1) = true := bne_iff_ne.mpr c6
    (first | rw [c6b0] | (simp only [i64_w, i32_w]; rw [c6b0]) | skip)
    have H' := Aside0.mk H
    clear H
    go_wp2
    go_meet
    case rel => exact ⟨_, (false), (by first | rfl | (simp; done) | (simp [*]; done)), H', ⟨by first | omega | exact Nat.le_refl _⟩, by repeat (first | exact Drawn0.refl _ | apply Drawn0.step)⟩
  case rest =>
   clear HC5
   try clear c1
   try clear p2
   try clear c6
   try clear c6b0
   try clear c6b1
   try clear c8
   obtain ⟨kq, x8_4, rfl, HA, HJ4, ⟨mc4, rfl⟩⟩ := hcut
   cases kq with
   | zero => exact absurd HA.out (by simp [word_Un.j0])
   | succ kj4 =>
    have H := HA.out
    clear HA
    simp only [word_Un.j0] at H
    by_cases c9 : x8_4 = true
    ·subst c9
     have H1 : (word_Un.j2 kj4 a0 a1 a2) = some (r1, r2) := by rw [if_pos rfl] at H; exact H
     clear H
     have H := H1
     clear H1
     have H' := Aside0.mk H
     clear H
     go_wp2
     go_meet
     case rel => exact ⟨_, H', ⟨by have := HJ4.out; first | omega | exact Nat.le_refl _⟩, by repeat (first | exact Drawn0.refl _ | apply Drawn0.step)⟩
    ·replace c9 := Bool.eq_false_iff.mpr c9
     subst c9
     have H1 : (if a0 = 2 then (word_Un.j1 kj4 a0 a1 a2 (a1 == 1)) else (word_Un.j1 kj4 a0 a1 a2 false)) = some (r1, r2) := by rw [if_neg (show ¬ (false = true) by decide)] at H; exact H
     clear H
     have H := H1
     clear H1
     have HC10 := Aside0.mk H
     clear H
     go_upto_region 3 with (fail)
     go_cut [19] (fun v19 wc => ∃ (kq : Nat) (x19_9 : Bool), v19 = .bool x19_9 ∧ Aside0 (word_Un.j1 kq a0 a1 a2 x19_9 = some (r1, r2)) ∧ Aside0 (kq ≤ kj4) ∧ Drawn0 w wc)
     case first =>
      have H := HC10.out
      clear HC10
      by_cases c11 : a0 = 2
      ·rw [if_pos c11] at H
       have c11b0 : (a0 == 2) = true := beq_iff_eq.mpr c11
       have c11b1 : (a0 != 2) = false := bne_eq_false_iff_eq.mpr c11
       clear c11
       (first | rw [c11b0] | (simp only [i64_w, i32_w]; rw [c11b0]) | skip)
       have H' := Aside0.mk H
       clear H
       go_wp2
       go_meet
       case rel => exact ⟨_, ((a1 == 1)), (by first | rfl | (simp; done) | (simp [*]; done)), H', ⟨by have := HJ4.out; first | omega | exact Nat.le_refl _⟩, by repeat (first | exact Drawn0.refl _ | apply Drawn0.step)⟩
      ·rw [if_neg c11] at H
       have c11b0 : (a0 == 2) = false := beq_eq_false_iff_ne.mpr c11
       have c11b1 : (a0 != 2) = true := bne_iff_ne.mpr c11
       (first | rw [c11b0] | (simp only [i64_w, i32_w]; rw [c11b0]) | skip)
       have H' := Aside0.mk H
       clear H
       go_wp2
       go_meet
       case rel => exact ⟨_, (false), (by first | rfl | (simp; done) | (simp [*]; done)), H', ⟨by have := HJ4.out; first | omega | exact Nat.le_refl _⟩, by repeat (first | exact Drawn0.refl _ | apply Drawn0.step)⟩
     case rest =>
      clear HC10
      try clear c1
      try clear p2
      try clear c4
      try clear c6
      try clear c6b0
      try clear c6b1
      try clear c8
      try clear c9
      try clear c11
      try clear c11b0
      try clear c11b1
      try clear p2
      obtain ⟨kq, x19_9, rfl, HA, HJ9, ⟨mc9, rfl⟩⟩ := hcut
      cases kq with
      | zero => exact absurd HA.out (by simp [word_Un.j1])
      | succ kj9 =>
       have H := HA.out
       clear HA
       simp only [word_Un.j1] at H
       by_cases c12 : x19_9 = true
       ·subst c12
        have H1 : (word_Un.j2 kj9 a0 a1 a2) = some (r1, r2) := by rw [if_pos rfl] at H; exact H
        clear H
        have H := H1
        clear H1
        have H' := Aside0.mk H
        clear H
        go_wp2
        go_meet
        case rel => exact ⟨_, H', ⟨by have := HJ4.out; have := HJ9.out; first | omega | exact Nat.le_refl _⟩, by repeat (first | exact Drawn0.refl _ | apply Drawn0.step)⟩
       ·replace c12 := Bool.eq_false_iff.mpr c12
        subst c12
        have H1 : (if a0 = 3 then ((word_whole.f a1).bind fun t128 => (if t128 = true then (word_Un.j2 kj9 a0 a1 a2) else (some (0, 10)))) else (some (0, 10))) = some (r1, r2) := by rw [if_neg (show ¬ (false = true) by decide)] at H; exact H
        clear H
        have H := H1
        clear H1
        by_cases c13 : a0 = 3
        ·rw [if_pos c13] at H
         have c13b0 : (a0 == 3) = true := beq_iff_eq.mpr c13
         have c13b1 : (a0 != 3) = false := bne_eq_false_iff_eq.mpr c13
         clear c13
         replace H := Option.bind_eq_some_iff.mp H
         obtain ⟨t128, A140, H⟩ := H
         replace H : (if t128 = true then (word_Un.j2 kj9 a0 a1 a2) else (some (0, 10))) = some (r1, r2) := H
         have A14 := Aside0.mk A140
         clear A140
         by_cases c15 : t128 = true
         ·subst c15
          have H1 : (word_Un.j2 kj9 a0 a1 a2) = some (r1, r2) := by rw [if_pos rfl] at H; exact H
          clear H
          have H := H1
          clear H1
          have H' := Aside0.mk H
          clear H
          go_wp2_with (first | (go_at_call 50; (with_reducible refine (word_whole.calls a1 true _ A14.out).mono ?_); rintro e w' ⟨rfl, ⟨nd, rfl⟩⟩))
          go_meet
          case rel => exact ⟨_, H', ⟨by have := HJ4.out; have := HJ9.out; first | omega | exact Nat.le_refl _⟩, by repeat (first | exact Drawn0.refl _ | apply Drawn0.step)⟩
         ·replace c15 := Bool.eq_false_iff.mpr c15
          subst c15
          have H1 : (some (0, 10)) = some (r1, r2) := by rw [if_neg (show ¬ (false = true) by decide)] at H; exact H
          clear H
          have H := H1
          clear H1
          simp only [Option.some.injEq, Prod.mk.injEq] at H
          obtain ⟨rfl, rfl⟩ := H
          go_wp2_with (first | (go_at_call 50; (with_reducible refine (word_whole.calls a1 false _ A14.out).mono ?_); rintro e w' ⟨rfl, ⟨nd, rfl⟩⟩))
          go_ret2
          exact ⟨by first | rfl | (simp; done) | (simp [*]; done), by repeat (first | exact Drawn0.refl _ | apply Drawn0.step)⟩
        ·rw [if_neg c13] at H
         have c13b0 : (a0 == 3) = false := beq_eq_false_iff_ne.mpr c13
         have c13b1 : (a0 != 3) = true := bne_iff_ne.mpr c13
         simp only [Option.some.injEq, Prod.mk.injEq] at H
         obtain ⟨rfl, rfl⟩ := H
         go_wp2
         go_ret2
         exact ⟨by first | rfl | (simp; done) | (simp [*]; done), by repeat (first | exact Drawn0.refl _ | apply Drawn0.step)⟩
 case rest =>
  clear HC4
  try clear c1
  try clear p2
  try clear c4
  try clear c6
  try clear c6b0
  try clear c6b1
  try clear c8
  try clear c9
  try clear c11
  try clear c11b0
  try clear c11b1
  try clear c12
  try clear c13
  try clear c13b0
  try clear c13b1
  try clear c15
  try clear p2
  obtain ⟨kq, HA, HJ3, ⟨mc3, rfl⟩⟩ := hcut
  cases kq with
  | zero => exact absurd HA.out (by simp [word_Un.j2])
  | succ kj3 =>
   have H := HA.out
   clear HA
   simp only [word_Un.j2] at H
   replace H := Option.bind_eq_some_iff.mp H
   obtain ⟨t129, A160, H⟩ := H
   replace H : (if t129 = true then (if a0 = 2 then (some (Go.bits .xor .u64 a2 1, 0)) else (if a1 = 10 then (some (Go.bits .xor .u64 a2 9223372036854775808, 0)) else (if a0 = 1 then ((word_Canon.f kj3 a1 (IntKind.u64.wrap (-a2))).bind fun t130 => (some (t130, 0))) else ((word_Canon.f kj3 a1 (Go.bits .xor .u64 18446744073709551615 a2)).bind fun t131 => (some (t131, 0)))))) else (some (0, 11))) = some (r1, r2) := H
   have A16 := Aside0.mk A160
   clear A160
   by_cases c17 : t129 = true
   ·subst c17
    have H1 : (if a0 = 2 then (some (Go.bits .xor .u64 a2 1, 0)) else (if a1 = 10 then (some (Go.bits .xor .u64 a2 9223372036854775808, 0)) else (if a0 = 1 then ((word_Canon.f kj3 a1 (IntKind.u64.wrap (-a2))).bind fun t130 => (some (t130, 0))) else ((word_Canon.f kj3 a1 (Go.bits .xor .u64 18446744073709551615 a2)).bind fun t131 => (some (t131, 0)))))) = some (r1, r2) := by rw [if_pos rfl] at H; exact H
    clear H
    have H := H1
    clear H1
    by_cases c18 : a0 = 2
    ·rw [if_pos c18] at H
     have c18b0 : (a0 == 2) = true := beq_iff_eq.mpr c18
     have c18b1 : (a0 != 2) = false := bne_eq_false_iff_eq.mpr c18
     clear c18
     simp only [Option.some.injEq, Prod.mk.injEq] at H
     obtain ⟨rfl, rfl⟩ := H
     go_wp2_with (first | ((with_reducible refine gate_callee (f := 17) rfl ?_); refine goesL_ (some 36) rfl rfl Try.func17 (by kernel_rfl) rfl #[.int .i64 a1, .int .u64 a2] rfl (by (try simp only [List.map_toArray, List.map_cons, List.map_nil]); first | done | rfl | (simp only [List.length_drop, List.length_take]; rfl)) ?_; (with_reducible refine (word_Is.calls kj3 a1 a2 true _ A16.out).mono ?_); rintro e w' ⟨rfl, ⟨nd, rfl⟩⟩; refine ⟨_, rfl, ?_⟩))
     go_ret2
     exact ⟨by first | rfl | (simp; done) | (simp [*]; done), by repeat (first | exact Drawn0.refl _ | apply Drawn0.step)⟩
    ·rw [if_neg c18] at H
     have c18b0 : (a0 == 2) = false := beq_eq_false_iff_ne.mpr c18
     have c18b1 : (a0 != 2) = true := bne_iff_ne.mpr c18
     by_cases c19 : a1 = 10
     ·rw [if_pos c19] at H
      have c19b0 : (a1 == 10) = true := beq_iff_eq.mpr c19
      have c19b1 : (a1 != 10) = false := bne_eq_false_iff_eq.mpr c19
      clear c19
      simp only [Option.some.injEq, Prod.mk.injEq] at H
      obtain ⟨rfl, rfl⟩ := H
      go_wp2_with (first | ((with_reducible refine gate_callee (f := 17) rfl ?_); refine goesL_ (some 36) rfl rfl Try.func17 (by kernel_rfl) rfl #[.int .i64 a1, .int .u64 a2] rfl (by (try simp only [List.map_toArray, List.map_cons, List.map_nil]); first | done | rfl | (simp only [List.length_drop, List.length_take]; rfl)) ?_; (with_reducible refine (word_Is.calls kj3 a1 a2 true _ A16.out).mono ?_); rintro e w' ⟨rfl, ⟨nd, rfl⟩⟩; refine ⟨_, rfl, ?_⟩))
      go_ret2
      exact ⟨by first | rfl | (simp; done) | (simp [*]; done), by repeat (first | exact Drawn0.refl _ | apply Drawn0.step)⟩
     ·rw [if_neg c19] at H
      have c19b0 : (a1 == 10) = false := beq_eq_false_iff_ne.mpr c19
      have c19b1 : (a1 != 10) = true := bne_iff_ne.mpr c19
      by_cases c20 : a0 = 1
      ·rw [if_pos c20] at H
       have c20b0 : (a0 == 1) = true := beq_iff_eq.mpr c20
       have c20b1 : (a0 != 1) = false := bne_eq_false_iff_eq.mpr c20
       clear c20
       replace H := Option.bind_eq_some_iff.mp H
       obtain ⟨t130, A210, H⟩ := H
       replace H : (some (t130, 0)) = some (r1, r2) := H
       have A21 := Aside0.mk A210
       clear A210
       simp only [Option.some.injEq, Prod.mk.injEq] at H
       obtain ⟨rfl, rfl⟩ := H
       go_wp2_with (first | ((with_reducible refine gate_callee (f := 17) rfl ?_); refine goesL_ (some 36) rfl rfl Try.func17 (by kernel_rfl) rfl #[.int .i64 a1, .int .u64 a2] rfl (by (try simp only [List.map_toArray, List.map_cons, List.map_nil]); first | done | rfl | (simp only [List.length_drop, List.length_take]; rfl)) ?_; (with_reducible refine (word_Is.calls kj3 a1 a2 true _ A16.out).mono ?_); rintro e w' ⟨rfl, ⟨nd, rfl⟩⟩; refine ⟨_, rfl, ?_⟩) | ((with_reducible refine gate_callee (f := 15) rfl ?_); refine goesL_ (some 54) rfl rfl Try.func15 (by kernel_rfl) rfl #[.int .i64 a1, .int .u64 (IntKind.u64.wrap (-a2))] rfl (by (try simp only [List.map_toArray, List.map_cons, List.map_nil]); first | done | rfl | (simp only [List.length_drop, List.length_take]; rfl)) ?_; (with_reducible refine (word_Canon.calls kj3 a1 (IntKind.u64.wrap (-a2)) t130 _ A21.out).mono ?_); rintro e w' ⟨rfl, ⟨nd, rfl⟩⟩; refine ⟨_, rfl, ?_⟩))
       go_ret2
       exact ⟨by first | rfl | (simp; done) | (simp [*]; done), by repeat (first | exact Drawn0.refl _ | apply Drawn0.step)⟩
      ·rw [if_neg c20] at H
       have c20b0 : (a0 == 1) = false := beq_eq_false_iff_ne.mpr c20
       have c20b1 : (a0 != 1) = true := bne_iff_ne.mpr c20
       replace H := Option.bind_eq_some_iff.mp H
       obtain ⟨t131, A220, H⟩ := H
       replace H : (some (t131, 0)) = some (r1, r2) := H
       have A22 := Aside0.mk A220
       clear A220
       simp only [Option.some.injEq, Prod.mk.injEq] at H
       obtain ⟨rfl, rfl⟩ := H
       go_wp2_with (first | ((with_reducible refine gate_callee (f := 17) rfl ?_); refine goesL_ (some 36) rfl rfl Try.func17 (by kernel_rfl) rfl #[.int .i64 a1, .int .u64 a2] rfl (by (try simp only [List.map_toArray, List.map_cons, List.map_nil]); first | done | rfl | (simp only [List.length_drop, List.length_take]; rfl)) ?_; (with_reducible refine (word_Is.calls kj3 a1 a2 true _ A16.out).mono ?_); rintro e w' ⟨rfl, ⟨nd, rfl⟩⟩; refine ⟨_, rfl, ?_⟩) | ((with_reducible refine gate_callee (f := 15) rfl ?_); refine goesL_ (some 58) rfl rfl Try.func15 (by kernel_rfl) rfl #[.int .i64 a1, .int .u64 (Go.bits .xor .u64 18446744073709551615 a2)] rfl (by (try simp only [List.map_toArray, List.map_cons, List.map_nil]); first | done | rfl | (simp only [List.length_drop, List.length_take]; rfl)) ?_; (with_reducible refine (word_Canon.calls kj3 a1 (Go.bits .xor .u64 18446744073709551615 a2) t131 _ A22.out).mono ?_); rintro e w' ⟨rfl, ⟨nd, rfl⟩⟩; refine ⟨_, rfl, ?_⟩))
       go_ret2
       exact ⟨by first | rfl | (simp; done) | (simp [*]; done), by repeat (first | exact Drawn0.refl _ | apply Drawn0.step)⟩
   ·replace c17 := Bool.eq_false_iff.mpr c17
    subst c17
    have H1 : (some (0, 11)) = some (r1, r2) := by rw [if_neg (show ¬ (false = true) by decide)] at H; exact H
    clear H
    have H := H1
    clear H1
    simp only [Option.some.injEq, Prod.mk.injEq] at H
    obtain ⟨rfl, rfl⟩ := H
    go_wp2_with (first | ((with_reducible refine gate_callee (f := 17) rfl ?_); refine goesL_ (some 36) rfl rfl Try.func17 (by kernel_rfl) rfl #[.int .i64 a1, .int .u64 a2] rfl (by (try simp only [List.map_toArray, List.map_cons, List.map_nil]); first | done | rfl | (simp only [List.length_drop, List.length_take]; rfl)) ?_; (with_reducible refine (word_Is.calls kj3 a1 a2 false _ A16.out).mono ?_); rintro e w' ⟨rfl, ⟨nd, rfl⟩⟩; refine ⟨_, rfl, ?_⟩))
    go_ret2
    exact ⟨by first | rfl | (simp; done) | (simp [*]; done), by repeat (first | exact Drawn0.refl _ | apply Drawn0.step)⟩

end Go.Proofs.Ytahepinbmcgbnaa.PZ
end
