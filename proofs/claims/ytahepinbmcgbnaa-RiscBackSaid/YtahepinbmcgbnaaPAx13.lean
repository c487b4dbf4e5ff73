-- Printed by this session's program (wip/tools: the kit's printer, turned for this claim), out of the translation.
import Derived.Test.YtahepinbmcgbnaaPAx0
import Derived.Test.YtahepinbmcgbnaaPAx11
import Derived.Test.YtahepinbmcgbnaaPAx12
namespace Go.Proofs.Ytahepinbmcgbnaa.PA
open Go.RowKit Go.Proofs.YtahepinbmcgbnaaW.PrintWords Go.Proofs.YtahepinbmcgbnaaW.PrintLast Go.Proofs.YtahepinbmcgbnaaW.PrintMore
attribute [local go_sem] max2_int min2_int max_two min_two max_three min_three max_four min_four   -- for this text's walks alone
attribute [local go_sem] Fl.frombits Fl.tobits
set_option linter.unusedVariables false
set_option linter.unusedSimpArgs false

/-! ### gantryref1_Bin: function 25 -/
mutual
def gantryref1_Bin.j0 : Nat → Int → Int → Int → Int → Bool → Option (Int × Int)
 | 0, _, _, _, _, _ => none
 | k + 1, x0, x1, x2, x3, x30 => if x30 = true then (some (0, 11)) else (if x1 = 10 then ((gantryref1_floats.f x0 ((x2).toNat) ((x3).toNat)).bind fun t268 => (some (t268, 0))) else (if x0 = 1 then ((gantryref1_Canon.f k x1 (IntKind.u64.wrap (x2 + x3))).bind fun t269 => (some (t269, 0))) else (if x0 = 2 then ((gantryref1_Canon.f k x1 (IntKind.u64.wrap (x2 - x3))).bind fun t270 => (some (t270, 0))) else (if x0 = 3 then ((gantryref1_Canon.f k x1 (IntKind.u64.wrap (x2 * x3))).bind fun t271 => (some (t271, 0))) else (if x0 = 4 then (gantryref1_Bin.j1 k x0 x1 x2 x3 x0 (x0 == 4)) else (gantryref1_Bin.j1 k x0 x1 x2 x3 x0 (x0 == 5)))))))
def gantryref1_Bin.j1 : Nat → Int → Int → Int → Int → Int → Bool → Option (Int × Int)
 | 0, _, _, _, _, _, _ => none
 | k + 1, x0, x1, x2, x3, x39, x61 => if x61 = true then (if x3 = 0 then (some (0, 12)) else ((gantryref1_divided.f k x1 x2 x3).bind fun bt272 => (if x0 = 5 then (some (bt272.2, 0)) else (some (bt272.1, 0))))) else (if x39 = 6 then (some (Go.bits .and .u64 x2 x3, 0)) else (if x39 = 7 then (some (Go.bits .or .u64 x2 x3, 0)) else (if x39 = 8 then (some (Go.bits .xor .u64 x2 x3, 0)) else (if x39 = 9 then (gantryref1_Bin.j2 k x0 x1 x2 x3 x39 (x39 == 9)) else (gantryref1_Bin.j2 k x0 x1 x2 x3 x39 (x39 == 10))))))
def gantryref1_Bin.j2 : Nat → Int → Int → Int → Int → Int → Bool → Option (Int × Int)
 | 0, _, _, _, _, _, _ => none
 | k + 1, x0, x1, x2, x3, x39, x92 => if x92 = true then ((gantryref1_shifted.f k x0 x1 x2 x3).bind fun t274 => (some (t274, 0))) else (if x39 = 11 then ((gantryref1_truth.f (x2 == x3)).bind fun t275 => (some (t275, 0))) else (if x39 = 12 then ((gantryref1_truth.f (x2 != x3)).bind fun t276 => (some (t276, 0))) else (if x39 = 13 then ((gantryref1_below.f x1 x2 x3).bind fun t277 => ((gantryref1_truth.f t277).bind fun t278 => (some (t278, 0)))) else (if x39 = 14 then ((gantryref1_below.f x1 x3 x2).bind fun t279 => ((gantryref1_truth.f (!t279)).bind fun t280 => (some (t280, 0)))) else (if x39 = 15 then ((gantryref1_below.f x1 x3 x2).bind fun t281 => ((gantryref1_truth.f t281).bind fun t282 => (some (t282, 0)))) else ((gantryref1_below.f x1 x2 x3).bind fun t283 => ((gantryref1_truth.f (!t283)).bind fun t284 => (some (t284, 0)))))))))
end
def gantryref1_Bin.f (k : Nat) (a0 : Int) (a1 : Int) (a2 : Int) (a3 : Int) : Option (Int × Int) := (gantryref1_HasBin.f k a0 a1).bind fun t264 => (if t264 = true then ((gantryref1_Is.f k a1 a2).bind fun t265 => (if t265 = true then ((gantryref1_Shift.f a0).bind fun t266 => (if t266 = true then (gantryref1_Bin.j0 k a0 a1 a2 a3 false) else ((gantryref1_Is.f k a1 a3).bind fun t267 => (gantryref1_Bin.j0 k a0 a1 a2 a3 (!t267))))) else (gantryref1_Bin.j0 k a0 a1 a2 a3 true))) else (some (0, 10)))
theorem gantryref1_Bin.mono_l : ∀ k, (∀ y0 y1 y2 y3 y4, LeO (gantryref1_Bin.j0 k y0 y1 y2 y3 y4) (gantryref1_Bin.j0 (k + 1) y0 y1 y2 y3 y4)) ∧ (∀ y0 y1 y2 y3 y4 y5, LeO (gantryref1_Bin.j1 k y0 y1 y2 y3 y4 y5) (gantryref1_Bin.j1 (k + 1) y0 y1 y2 y3 y4 y5)) ∧ (∀ y0 y1 y2 y3 y4 y5, LeO (gantryref1_Bin.j2 k y0 y1 y2 y3 y4 y5) (gantryref1_Bin.j2 (k + 1) y0 y1 y2 y3 y4 y5))
 | 0 => ⟨fun _ _ _ _ _ r h => by simp [gantryref1_Bin.j0] at h, fun _ _ _ _ _ _ r h => by simp [gantryref1_Bin.j1] at h, fun _ _ _ _ _ _ r h => by simp [gantryref1_Bin.j2] at h⟩
 | k + 1 => by
  obtain ⟨ih0, ih1, ih2⟩ := gantryref1_Bin.mono_l k
  refine ⟨?_, ?_, ?_⟩
  ·intro y0 y1 y2 y3 y4
   unfold gantryref1_Bin.j0
   repeat' first
   | (with_reducible exact ih0 _ _ _ _ _)
   | (with_reducible exact ih1 _ _ _ _ _ _)
   | (with_reducible exact ih2 _ _ _ _ _ _)
   | (with_reducible exact gantryref1_Canon.mono _ _ _)
   | (with_reducible exact gantryref1_HasBin.mono _ _ _)
   | (with_reducible exact gantryref1_Is.mono _ _ _)
   | (with_reducible exact gantryref1_divided.mono _ _ _ _)
   | (with_reducible exact gantryref1_shifted.mono _ _ _ _ _)
   | (with_reducible exact LeO.refl _)
   | (with_reducible exact LeO.none _)
   | (with_reducible refine LeO.ite ?_ ?_)
   | (with_reducible refine LeO.bind ?_ (fun _ => ?_))
   | exact ih0 _ _ _ _ _
   | exact ih1 _ _ _ _ _ _
   | exact ih2 _ _ _ _ _ _
   | exact gantryref1_Canon.mono _ _ _
   | exact gantryref1_HasBin.mono _ _ _
   | exact gantryref1_Is.mono _ _ _
   | exact gantryref1_divided.mono _ _ _ _
   | exact gantryref1_shifted.mono _ _ _ _ _
   | exact LeO.none _
   | refine LeO.ite ?_ ?_
   | refine LeO.bind ?_ (fun _ => ?_)
  ·intro y0 y1 y2 y3 y4 y5
   unfold gantryref1_Bin.j1
   repeat' first
   | (with_reducible exact ih0 _ _ _ _ _)
   | (with_reducible exact ih1 _ _ _ _ _ _)
   | (with_reducible exact ih2 _ _ _ _ _ _)
   | (with_reducible exact gantryref1_Canon.mono _ _ _)
   | (with_reducible exact gantryref1_HasBin.mono _ _ _)
   | (with_reducible exact gantryref1_Is.mono _ _ _)
   | (with_reducible exact gantryref1_divided.mono _ _ _ _)
   | (with_reducible exact gantryref1_shifted.mono _ _ _ _ _)
   | (with_reducible exact LeO.refl _)
   | (with_reducible exact LeO.none _)
   | (with_reducible refine LeO.ite ?_ ?_)
   | (with_reducible refine LeO.bind ?_ (fun _ => ?_))
   | exact ih0 _ _ _ _ _
   | exact ih1 _ _ _ _ _ _
   | exact ih2 _ _ _ _ _ _
   | exact gantryref1_Canon.mono _ _ _
   | exact gantryref1_HasBin.mono _ _ _
   | exact gantryref1_Is.mono _ _ _
   | exact gantryref1_divided.mono _ _ _ _
   | exact gantryref1_shifted.mono _ _ _ _ _
   | exact LeO.none _
   | refine LeO.ite ?_ ?_
   | refine LeO.bind ?_ (fun _ => ?_)
  ·intro y0 y1 y2 y3 y4 y5
   unfold gantryref1_Bin.j2
   repeat' first
   | (with_reducible exact ih0 _ _ _ _ _)
   | (with_reducible exact ih1 _ _ _ _ _ _)
   | (with_reducible exact ih2 _ _ _ _ _ _)
   | (with_reducible exact gantryref1_Canon.mono _ _ _)
   | (with_reducible exact gantryref1_HasBin.mono _ _ _)
   | (with_reducible exact gantryref1_Is.mono _ _ _)
   | (with_reducible exact gantryref1_divided.mono _ _ _ _)
   | (with_reducible exact gantryref1_shifted.mono _ _ _ _ _)
   | (with_reducible exact LeO.refl _)
   | (with_reducible exact LeO.none _)
   | (with_reducible refine LeO.ite ?_ ?_)
   | (with_reducible refine LeO.bind ?_ (fun _ => ?_))
   | exact ih0 _ _ _ _ _
   | exact ih1 _ _ _ _ _ _
   | exact ih2 _ _ _ _ _ _
   | exact gantryref1_Canon.mono _ _ _
   | exact gantryref1_HasBin.mono _ _ _
   | exact gantryref1_Is.mono _ _ _
   | exact gantryref1_divided.mono _ _ _ _
   | exact gantryref1_shifted.mono _ _ _ _ _
   | exact LeO.none _
   | refine LeO.ite ?_ ?_
   | refine LeO.bind ?_ (fun _ => ?_)
theorem gantryref1_Bin.mono : ∀ a0 a1 a2 a3 k, LeO (gantryref1_Bin.f k a0 a1 a2 a3) (gantryref1_Bin.f (k + 1) a0 a1 a2 a3) := by
 intro a0 a1 a2 a3 k
 obtain ⟨ih0, ih1, ih2⟩ := gantryref1_Bin.mono_l k
 unfold gantryref1_Bin.f
 repeat' first
   | (with_reducible exact ih0 _ _ _ _ _)
   | (with_reducible exact ih1 _ _ _ _ _ _)
   | (with_reducible exact ih2 _ _ _ _ _ _)
   | (with_reducible exact gantryref1_Canon.mono _ _ _)
   | (with_reducible exact gantryref1_HasBin.mono _ _ _)
   | (with_reducible exact gantryref1_Is.mono _ _ _)
   | (with_reducible exact gantryref1_divided.mono _ _ _ _)
   | (with_reducible exact gantryref1_shifted.mono _ _ _ _ _)
   | (with_reducible exact LeO.refl _)
   | (with_reducible exact LeO.none _)
   | (with_reducible refine LeO.ite ?_ ?_)
   | (with_reducible refine LeO.bind ?_ (fun _ => ?_))
   | exact ih0 _ _ _ _ _
   | exact ih1 _ _ _ _ _ _
   | exact ih2 _ _ _ _ _ _
   | exact gantryref1_Canon.mono _ _ _
   | exact gantryref1_HasBin.mono _ _ _
   | exact gantryref1_Is.mono _ _ _
   | exact gantryref1_divided.mono _ _ _ _
   | exact gantryref1_shifted.mono _ _ _ _ _
   | exact LeO.none _
   | refine LeO.ite ?_ ?_
   | refine LeO.bind ?_ (fun _ => ?_)
set_option maxHeartbeats 8000000 in
set_option maxRecDepth 100000 in
theorem gantryref1_Bin.calls (k : Nat) (a0 : Int) (a1 : Int) (a2 : Int) (a3 : Int) (r1 : Int) (r2 : Int) (w : World) (h : gantryref1_Bin.f k a0 a1 a2 a3 = some (r1, r2)) :
  Calls Try.prog 25 #[.int .i64 a0, .int .i64 a1, .int .u64 a2, .int .u64 a3] w fun e w' => e = .returned (.tuple #[.int .u64 r1, .int .i64 r2]) ∧ Drawn0 w w' := by
 have H : ((gantryref1_HasBin.f k a0 a1).bind fun t264 => (if t264 = true then ((gantryref1_Is.f k a1 a2).bind fun t265 => (if t265 = true then ((gantryref1_Shift.f a0).bind fun t266 => (if t266 = true then (gantryref1_Bin.j0 k a0 a1 a2 a3 false) else ((gantryref1_Is.f k a1 a3).bind fun t267 => (gantryref1_Bin.j0 k a0 a1 a2 a3 (!t267))))) else (gantryref1_Bin.j0 k a0 a1 a2 a3 true))) else (some (0, 10)))) = some (r1, r2) := h
 clear h
 replace H := Option.bind_eq_some_iff.mp H
 obtain ⟨t264, A50, H⟩ := H
 replace H : (if t264 = true then ((gantryref1_Is.f k a1 a2).bind fun t265 => (if t265 = true then ((gantryref1_Shift.f a0).bind fun t266 => (if t266 = true then (gantryref1_Bin.j0 k a0 a1 a2 a3 false) else ((gantryref1_Is.f k a1 a3).bind fun t267 => (gantryref1_Bin.j0 k a0 a1 a2 a3 (!t267))))) else (gantryref1_Bin.j0 k a0 a1 a2 a3 true))) else (some (0, 10))) = some (r1, r2) := H
 have A5 := Aside0.mk A50
 clear A50
 by_cases c6 : t264 = true
 ·subst c6
  have H1 : ((gantryref1_Is.f k a1 a2).bind fun t265 => (if t265 = true then ((gantryref1_Shift.f a0).bind fun t266 => (if t266 = true then (gantryref1_Bin.j0 k a0 a1 a2 a3 false) else ((gantryref1_Is.f k a1 a3).bind fun t267 => (gantryref1_Bin.j0 k a0 a1 a2 a3 (!t267))))) else (gantryref1_Bin.j0 k a0 a1 a2 a3 true))) = some (r1, r2) := by rw [if_pos rfl] at H; exact H
  clear H
  have H := H1
  clear H1
  have HC7 := Aside0.mk H
  clear H
  go_enter Try.func25, Try.ntmps25
  go_upto_region 3 with (first | ((with_reducible refine gate_callee (f := 60) rfl ?_); refine goesL_ (some 14) rfl rfl Try.func60 (by kernel_rfl) rfl #[.int .i64 a0, .int .i64 a1] rfl (by (try simp only [List.map_toArray, List.map_cons, List.map_nil]); first | done | rfl | (simp only [List.length_drop, List.length_take]; rfl)) ?_; (with_reducible refine (gantryref1_HasBin.calls k a0 a1 true _ A5.out).mono ?_); rintro e w' ⟨rfl, ⟨nd, rfl⟩⟩; refine ⟨_, rfl, ?_⟩))
  (try simp only [Act.put, List.setIfInBounds_toArray, List.set_cons_zero, List.set_cons_succ])
  go_cut [30] (fun v30 wc => ∃ (kq : Nat) (x30_6 : Bool), v30 = .bool x30_6 ∧ Aside0 (gantryref1_Bin.j0 kq a0 a1 a2 a3 x30_6 = some (r1, r2)) ∧ Aside0 (kq ≤ k) ∧ Drawn0 w wc)
  case first =>
   have H := HC7.out
   clear HC7
   replace H := Option.bind_eq_some_iff.mp H
   obtain ⟨t265, A80, H⟩ := H
   replace H : (if t265 = true then ((gantryref1_Shift.f a0).bind fun t266 => (if t266 = true then (gantryref1_Bin.j0 k a0 a1 a2 a3 false) else ((gantryref1_Is.f k a1 a3).bind fun t267 => (gantryref1_Bin.j0 k a0 a1 a2 a3 (!t267))))) else (gantryref1_Bin.j0 k a0 a1 a2 a3 true)) = some (r1, r2) := H
   have A8 := Aside0.mk A80
   clear A80
   by_cases c9 : t265 = true
   ·subst c9
    have H1 : ((gantryref1_Shift.f a0).bind fun t266 => (if t266 = true then (gantryref1_Bin.j0 k a0 a1 a2 a3 false) else ((gantryref1_Is.f k a1 a3).bind fun t267 => (gantryref1_Bin.j0 k a0 a1 a2 a3 (!t267))))) = some (r1, r2) := by rw [if_pos rfl] at H; exact H
    clear H
    have H := H1
    clear H1
    replace H := Option.bind_eq_some_iff.mp H
    obtain ⟨t266, A100, H⟩ := H
    replace H : (if t266 = true then (gantryref1_Bin.j0 k a0 a1 a2 a3 false) else ((gantryref1_Is.f k a1 a3).bind fun t267 => (gantryref1_Bin.j0 k a0 a1 a2 a3 (!t267)))) = some (r1, r2) := H
    have A10 := Aside0.mk A100
    clear A100
    by_cases c11 : t266 = true
    ·subst c11
     have H1 : (gantryref1_Bin.j0 k a0 a1 a2 a3 false) = some (r1, r2) := by rw [if_pos rfl] at H; exact H
     clear H
     have H := H1
     clear H1
     have H' := Aside0.mk H
     clear H
     go_wp2_with (first | ((with_reducible refine gate_callee (f := 31) rfl ?_); refine goesL_ (some 18) rfl rfl Try.func31 (by kernel_rfl) rfl #[.int .i64 a1, .int .u64 a2] rfl (by (try simp only [List.map_toArray, List.map_cons, List.map_nil]); first | done | rfl | (simp only [List.length_drop, List.length_take]; rfl)) ?_; (with_reducible refine (gantryref1_Is.calls k a1 a2 true _ A8.out).mono ?_); rintro e w' ⟨rfl, ⟨nd, rfl⟩⟩; refine ⟨_, rfl, ?_⟩) | (go_at_call 61; (with_reducible refine (gantryref1_Shift.calls a0 true _ A10.out).mono ?_); rintro e w' ⟨rfl, ⟨nd, rfl⟩⟩))
     go_meet
     case rel => exact ⟨_, (false), (by first | rfl | (simp; done) | (simp [*]; done)), H', ⟨by first | omega | exact Nat.le_refl _⟩, by repeat (first | exact Drawn0.refl _ | apply Drawn0.step)⟩
    ·replace c11 := Bool.eq_false_iff.mpr c11
     subst c11
     have H1 : ((gantryref1_Is.f k a1 a3).bind fun t267 => (gantryref1_Bin.j0 k a0 a1 a2 a3 (!t267))) = some (r1, r2) := by rw [if_neg (show ¬ (false = true) by decide)] at H; exact H
     clear H
     have H := H1
     clear H1
     replace H := Option.bind_eq_some_iff.mp H
     obtain ⟨t267, A120, H⟩ := H
     replace H : (gantryref1_Bin.j0 k a0 a1 a2 a3 (!t267)) = some (r1, r2) := H
     have A12 := Aside0.mk A120
     clear A120
     have H' := Aside0.mk H
     clear H
     go_wp2_with (first | ((with_reducible refine gate_callee (f := 31) rfl ?_); refine goesL_ (some 18) rfl rfl Try.func31 (by kernel_rfl) rfl #[.int .i64 a1, .int .u64 a2] rfl (by (try simp only [List.map_toArray, List.map_cons, List.map_nil]); first | done | rfl | (simp only [List.length_drop, List.length_take]; rfl)) ?_; (with_reducible refine (gantryref1_Is.calls k a1 a2 true _ A8.out).mono ?_); rintro e w' ⟨rfl, ⟨nd, rfl⟩⟩; refine ⟨_, rfl, ?_⟩) | (go_at_call 61; (with_reducible refine (gantryref1_Shift.calls a0 false _ A10.out).mono ?_); rintro e w' ⟨rfl, ⟨nd, rfl⟩⟩) | (go_at_call 31; (with_reducible refine (gantryref1_Is.calls k a1 a3 t267 _ A12.out).mono ?_); rintro e w' ⟨rfl, ⟨nd, rfl⟩⟩))
     go_meet
     case rel => exact ⟨_, (!t267), (by first | rfl | (simp; done) | (simp [*]; done)), H', ⟨by first | omega | exact Nat.le_refl _⟩, by repeat (first | exact Drawn0.refl _ | apply Drawn0.step)⟩
   ·replace c9 := Bool.eq_false_iff.mpr c9
    subst c9
    have H1 : (gantryref1_Bin.j0 k a0 a1 a2 a3 true) = some (r1, r2) := by rw [if_neg (show ¬ (false = true) by decide)] at H; exact H
    clear H
    have H := H1
    clear H1
    have H' := Aside0.mk H
    clear H
    go_wp2_with (first | ((with_reducible refine gate_callee (f := 31) rfl ?_); refine goesL_ (some 18) rfl rfl Try.func31 (by kernel_rfl) rfl #[.int .i64 a1, .int .u64 a2] rfl (by (try simp only [List.map_toArray, List.map_cons, List.map_nil]); first | done | rfl | (simp only [List.length_drop, List.length_take]; rfl)) ?_; (with_reducible refine (gantryref1_Is.calls k a1 a2 false _ A8.out).mono ?_); rintro e w' ⟨rfl, ⟨nd, rfl⟩⟩; refine ⟨_, rfl, ?_⟩))
    go_meet
    case rel => exact ⟨_, (true), (by first | rfl | (simp; done) | (simp [*]; done)), H', ⟨by first | omega | exact Nat.le_refl _⟩, by repeat (first | exact Drawn0.refl _ | apply Drawn0.step)⟩
  case rest =>
   clear HC7
   try clear c1
   try clear c2
   try clear p2
   try clear c3
   try clear c6
   try clear c9
   try clear c11
   obtain ⟨kq, x30_6, rfl, HA, HJ6, ⟨mc6, rfl⟩⟩ := hcut
   cases kq with
   | zero => exact absurd HA.out (by simp [gantryref1_Bin.j0])
   | succ kj6 =>
    have H := HA.out
    clear HA
    simp only [gantryref1_Bin.j0] at H
    by_cases c13 : x30_6 = true
    ·subst c13
     have H1 : (some (0, 11)) = some (r1, r2) := by rw [if_pos rfl] at H; exact H
     clear H
     have H := H1
     clear H1
     simp only [Option.some.injEq, Prod.mk.injEq] at H
     obtain ⟨rfl, rfl⟩ := H
     go_wp2
     go_ret2
     exact ⟨by first | rfl | (simp; done) | (simp [*]; done), by repeat (first | exact Drawn0.refl _ | apply Drawn0.step)⟩
    ·replace c13 := Bool.eq_false_iff.mpr c13
     subst c13
     have H1 : (if a1 = 10 then ((gantryref1_floats.f a0 ((a2).toNat) ((a3).toNat)).bind fun t268 => (some (t268, 0))) else (if a0 = 1 then ((gantryref1_Canon.f kj6 a1 (IntKind.u64.wrap (a2 + a3))).bind fun t269 => (some (t269, 0))) else (if a0 = 2 then ((gantryref1_Canon.f kj6 a1 (IntKind.u64.wrap (a2 - a3))).bind fun t270 => (some (t270, 0))) else (if a0 = 3 then ((gantryref1_Canon.f kj6 a1 (IntKind.u64.wrap (a2 * a3))).bind fun t271 => (some (t271, 0))) else (if a0 = 4 then (gantryref1_Bin.j1 kj6 a0 a1 a2 a3 a0 (a0 == 4)) else (gantryref1_Bin.j1 kj6 a0 a1 a2 a3 a0 (a0 == 5))))))) = some (r1, r2) := by rw [if_neg (show ¬ (false = true) by decide)] at H; exact H
     clear H
     have H := H1
     clear H1
     by_cases c14 : a1 = 10
     ·rw [if_pos c14] at H
      have c14b0 : (a1 == 10) = true := beq_iff_eq.mpr c14
      have c14b1 : (a1 != 10) = false := bne_eq_false_iff_eq.mpr c14
      clear c14
      replace H := Option.bind_eq_some_iff.mp H
      obtain ⟨t268, A150, H⟩ := H
      replace H : (some (t268, 0)) = some (r1, r2) := H
      have A15 := Aside0.mk A150
      clear A150
      simp only [Option.some.injEq, Prod.mk.injEq] at H
      obtain ⟨rfl, rfl⟩ := H
      go_wp2_with (first | ((with_reducible refine gate_callee (f := 62) rfl ?_); refine goesL_ (some 38) rfl rfl Try.func62 (by kernel_rfl) rfl #[.int .i64 a0, .float .f64 ((a2).toNat), .float .f64 ((a3).toNat)] rfl (by (try simp only [List.map_toArray, List.map_cons, List.map_nil]); first | done | rfl | (simp only [List.length_drop, List.length_take]; rfl)) ?_; (with_reducible refine (gantryref1_floats.calls a0 ((a2).toNat) ((a3).toNat) t268 _ A15.out).mono ?_); rintro e w' ⟨rfl, ⟨nd, rfl⟩⟩; refine ⟨_, rfl, ?_⟩))
      go_ret2
      exact ⟨by first | rfl | (simp; done) | (simp [*]; done), by repeat (first | exact Drawn0.refl _ | apply Drawn0.step)⟩
     ·rw [if_neg c14] at H
      have c14b0 : (a1 == 10) = false := beq_eq_false_iff_ne.mpr c14
      have c14b1 : (a1 != 10) = true := bne_iff_ne.mpr c14
      by_cases c16 : a0 = 1
      ·rw [if_pos c16] at H
       have c16b0 : (a0 == 1) = true := beq_iff_eq.mpr c16
       have c16b1 : (a0 != 1) = false := bne_eq_false_iff_eq.mpr c16
       clear c16
       replace H := Option.bind_eq_some_iff.mp H
       obtain ⟨t269, A170, H⟩ := H
       replace H : (some (t269, 0)) = some (r1, r2) := H
       have A17 := Aside0.mk A170
       clear A170
       simp only [Option.some.injEq, Prod.mk.injEq] at H
       obtain ⟨rfl, rfl⟩ := H
       go_wp2_with (first | ((with_reducible refine gate_callee (f := 30) rfl ?_); refine goesL_ (some 46) rfl rfl Try.func30 (by kernel_rfl) rfl #[.int .i64 a1, .int .u64 (IntKind.u64.wrap (a2 + a3))] rfl (by (try simp only [List.map_toArray, List.map_cons, List.map_nil]); first | done | rfl | (simp only [List.length_drop, List.length_take]; rfl)) ?_; (with_reducible refine (gantryref1_Canon.calls kj6 a1 (IntKind.u64.wrap (a2 + a3)) t269 _ A17.out).mono ?_); rintro e w' ⟨rfl, ⟨nd, rfl⟩⟩; refine ⟨_, rfl, ?_⟩))
       go_ret2
       exact ⟨by first | rfl | (simp; done) | (simp [*]; done), by repeat (first | exact Drawn0.refl _ | apply Drawn0.step)⟩
      ·rw [if_neg c16] at H
       have c16b0 : (a0 == 1) = false := beq_eq_false_iff_ne.mpr c16
       have c16b1 : (a0 != 1) = true := bne_iff_ne.mpr c16
       by_cases c18 : a0 = 2
       ·rw [if_pos c18] at H
        have c18b0 : (a0 == 2) = true := beq_iff_eq.mpr c18
        have c18b1 : (a0 != 2) = false := bne_eq_false_iff_eq.mpr c18
        clear c18
        replace H := Option.bind_eq_some_iff.mp H
        obtain ⟨t270, A190, H⟩ := H
        replace H : (some (t270, 0)) = some (r1, r2) := H
        have A19 := Aside0.mk A190
        clear A190
        simp only [Option.some.injEq, Prod.mk.injEq] at H
        obtain ⟨rfl, rfl⟩ := H
        go_wp2_with (first | ((with_reducible refine gate_callee (f := 30) rfl ?_); refine goesL_ (some 53) rfl rfl Try.func30 (by kernel_rfl) rfl #[.int .i64 a1, .int .u64 (IntKind.u64.wrap (a2 - a3))] rfl (by (try simp only [List.map_toArray, List.map_cons, List.map_nil]); first | done | rfl | (simp only [List.length_drop, List.length_take]; rfl)) ?_; (with_reducible refine (gantryref1_Canon.calls kj6 a1 (IntKind.u64.wrap (a2 - a3)) t270 _ A19.out).mono ?_); rintro e w' ⟨rfl, ⟨nd, rfl⟩⟩; refine ⟨_, rfl, ?_⟩))
        go_ret2
        exact ⟨by first | rfl | (simp; done) | (simp [*]; done), by repeat (first | exact Drawn0.refl _ | apply Drawn0.step)⟩
       ·rw [if_neg c18] at H
        have c18b0 : (a0 == 2) = false := beq_eq_false_iff_ne.mpr c18
        have c18b1 : (a0 != 2) = true := bne_iff_ne.mpr c18
        by_cases c20 : a0 = 3
        ·rw [if_pos c20] at H
         have c20b0 : (a0 == 3) = true := beq_iff_eq.mpr c20
         have c20b1 : (a0 != 3) = false := bne_eq_false_iff_eq.mpr c20
         clear c20
         replace H := Option.bind_eq_some_iff.mp H
         obtain ⟨t271, A210, H⟩ := H
         replace H : (some (t271, 0)) = some (r1, r2) := H
         have A21 := Aside0.mk A210
         clear A210
         simp only [Option.some.injEq, Prod.mk.injEq] at H
         obtain ⟨rfl, rfl⟩ := H
         go_wp2_with (first | ((with_reducible refine gate_callee (f := 30) rfl ?_); refine goesL_ (some 60) rfl rfl Try.func30 (by kernel_rfl) rfl #[.int .i64 a1, .int .u64 (IntKind.u64.wrap (a2 * a3))] rfl (by (try simp only [List.map_toArray, List.map_cons, List.map_nil]); first | done | rfl | (simp only [List.length_drop, List.length_take]; rfl)) ?_; (with_reducible refine (gantryref1_Canon.calls kj6 a1 (IntKind.u64.wrap (a2 * a3)) t271 _ A21.out).mono ?_); rintro e w' ⟨rfl, ⟨nd, rfl⟩⟩; refine ⟨_, rfl, ?_⟩))
         go_ret2
         exact ⟨by first | rfl | (simp; done) | (simp [*]; done), by repeat (first | exact Drawn0.refl _ | apply Drawn0.step)⟩
        ·rw [if_neg c20] at H
         have c20b0 : (a0 == 3) = false := beq_eq_false_iff_ne.mpr c20
         have c20b1 : (a0 != 3) = true := bne_iff_ne.mpr c20
         have HC22 := Aside0.mk H
         clear H
         go_upto_if 61 with (fail)
         go_cut [61] (fun v61 wc => ∃ (kq : Nat) (x61_21 : Bool), v61 = .bool x61_21 ∧ Aside0 (gantryref1_Bin.j1 kq a0 a1 a2 a3 a0 x61_21 = some (r1, r2)) ∧ Aside0 (kq ≤ kj6) ∧ Drawn0 w wc)
         case first =>
          have H := HC22.out
          clear HC22
          by_cases c23 : a0 = 4
          ·rw [if_pos c23] at H
           have c23b0 : (a0 == 4) = true := beq_iff_eq.mpr c23
           have c23b1 : (a0 != 4) = false := bne_eq_false_iff_eq.mpr c23
           clear c23
           (first | rw [c23b0] | (simp only [i64_w, i32_w]; rw [c23b0]) | skip)
           have H' := Aside0.mk H
           clear H
           go_wp2
           go_meet
           case rel => exact ⟨_, ((a0 == 4)), (by first | rfl | (simp; done) | (simp [*]; done)), H', ⟨by have := HJ6.out; first | omega | exact Nat.le_refl _⟩, by repeat (first | exact Drawn0.refl _ | apply Drawn0.step)⟩
          ·rw [if_neg c23] at H
           have c23b0 : (a0 == 4) = false := beq_eq_false_iff_ne.mpr c23
           have c23b1 : (a0 != 4) = true := bne_iff_ne.mpr c23
           (first | rw [c23b0] | (simp only [i64_w, i32_w]; rw [c23b0]) | skip)
           have H' := Aside0.mk H
           clear H
           go_wp2
           go_meet
           case rel => exact ⟨_, ((a0 == 5)), (by first | rfl | (simp; done) | (simp [*]; done)), H', ⟨by have := HJ6.out; first | omega | exact Nat.le_refl _⟩, by repeat (first | exact Drawn0.refl _ | apply Drawn0.step)⟩
         case rest =>
          clear HC22
          try clear c1
          try clear c2
          try clear p2
          try clear c3
          try clear c6
          try clear c9
          try clear c11
          try clear c13
          try clear c14
          try clear c14b0
          try clear c14b1
          try clear c16
          try clear c16b0
          try clear c16b1
          try clear c18
          try clear c18b0
          try clear c18b1
          try clear c20
          try clear c20b0
          try clear c20b1
          try clear c23
          try clear c23b0
          try clear c23b1
          try clear p2
          obtain ⟨kq, x61_21, rfl, HA, HJ21, ⟨mc21, rfl⟩⟩ := hcut
          cases kq with
          | zero => exact absurd HA.out (by simp [gantryref1_Bin.j1])
          | succ kj21 =>
           have H := HA.out
           clear HA
           simp only [gantryref1_Bin.j1] at H
           by_cases c24 : x61_21 = true
           ·subst c24
            have H1 : (if a3 = 0 then (some (0, 12)) else ((gantryref1_divided.f kj21 a1 a2 a3).bind fun bt272 => (if a0 = 5 then (some (bt272.2, 0)) else (some (bt272.1, 0))))) = some (r1, r2) := by rw [if_pos rfl] at H; exact H
            clear H
            have H := H1
            clear H1
            by_cases c25 : a3 = 0
            ·rw [if_pos c25] at H
             have c25b0 : (a3 == 0) = true := beq_iff_eq.mpr c25
             have c25b1 : (a3 != 0) = false := bne_eq_false_iff_eq.mpr c25
             clear c25
             simp only [Option.some.injEq, Prod.mk.injEq] at H
             obtain ⟨rfl, rfl⟩ := H
             go_wp2
             go_ret2
             exact ⟨by first | rfl | (simp; done) | (simp [*]; done), by repeat (first | exact Drawn0.refl _ | apply Drawn0.step)⟩
            ·rw [if_neg c25] at H
             have c25b0 : (a3 == 0) = false := beq_eq_false_iff_ne.mpr c25
             have c25b1 : (a3 != 0) = true := bne_iff_ne.mpr c25
             replace H := Option.bind_eq_some_iff.mp H
             obtain ⟨⟨t272, t273⟩, A260, H⟩ := H
             replace H : (if a0 = 5 then (some (t273, 0)) else (some (t272, 0))) = some (r1, r2) := H
             have A26 := Aside0.mk A260
             clear A260
             by_cases c27 : a0 = 5
             ·rw [if_pos c27] at H
              have c27b0 : (a0 == 5) = true := beq_iff_eq.mpr c27
              have c27b1 : (a0 != 5) = false := bne_eq_false_iff_eq.mpr c27
              clear c27
              simp only [Option.some.injEq, Prod.mk.injEq] at H
              obtain ⟨rfl, rfl⟩ := H
              go_wp2_with (first | ((with_reducible refine gate_callee (f := 63) rfl ?_); refine goesL_ (some 70) rfl rfl Try.func63 (by kernel_rfl) rfl #[.int .i64 a1, .int .u64 a2, .int .u64 a3] rfl (by (try simp only [List.map_toArray, List.map_cons, List.map_nil]); first | done | rfl | (simp only [List.length_drop, List.length_take]; rfl)) ?_; (with_reducible refine (gantryref1_divided.calls kj21 a1 a2 a3 t272 t273 _ A26.out).mono ?_); rintro e w' ⟨rfl, ⟨nd, rfl⟩⟩; refine ⟨_, rfl, ?_⟩))
              go_ret2
              exact ⟨by first | rfl | (simp; done) | (simp [*]; done), by repeat (first | exact Drawn0.refl _ | apply Drawn0.step)⟩
             ·rw [if_neg c27] at H
              have c27b0 : (a0 == 5) = false := beq_eq_false_iff_ne.mpr c27
              have c27b1 : (a0 != 5) = true := bne_iff_ne.mpr c27
              simp only [Option.some.injEq, Prod.mk.injEq] at H
              obtain ⟨rfl, rfl⟩ := H
              go_wp2_with (first | ((with_reducible refine gate_callee (f := 63) rfl ?_); refine goesL_ (some 70) rfl rfl Try.func63 (by kernel_rfl) rfl #[.int .i64 a1, .int .u64 a2, .int .u64 a3] rfl (by (try simp only [List.map_toArray, List.map_cons, List.map_nil]); first | done | rfl | (simp only [List.length_drop, List.length_take]; rfl)) ?_; (with_reducible refine (gantryref1_divided.calls kj21 a1 a2 a3 t272 t273 _ A26.out).mono ?_); rintro e w' ⟨rfl, ⟨nd, rfl⟩⟩; refine ⟨_, rfl, ?_⟩))
              go_ret2
              exact ⟨by first | rfl | (simp; done) | (simp [*]; done), by repeat (first | exact Drawn0.refl _ | apply Drawn0.step)⟩
           ·replace c24 := Bool.eq_false_iff.mpr c24
            subst c24
            have H1 : (if a0 = 6 then (some (Go.bits .and .u64 a2 a3, 0)) else (if a0 = 7 then (some (Go.bits .or .u64 a2 a3, 0)) else (if a0 = 8 then (some (Go.bits .xor .u64 a2 a3, 0)) else (if a0 = 9 then (gantryref1_Bin.j2 kj21 a0 a1 a2 a3 a0 (a0 == 9)) else (gantryref1_Bin.j2 kj21 a0 a1 a2 a3 a0 (a0 == 10)))))) = some (r1, r2) := by rw [if_neg (show ¬ (false = true) by decide)] at H; exact H
            clear H
            have H := H1
            clear H1
            by_cases c28 : a0 = 6
            ·rw [if_pos c28] at H
             have c28b0 : (a0 == 6) = true := beq_iff_eq.mpr c28
             have c28b1 : (a0 != 6) = false := bne_eq_false_iff_eq.mpr c28
             clear c28
             simp only [Option.some.injEq, Prod.mk.injEq] at H
             obtain ⟨rfl, rfl⟩ := H
             go_wp2
             go_ret2
             exact ⟨by first | rfl | (simp; done) | (simp [*]; done), by repeat (first | exact Drawn0.refl _ | apply Drawn0.step)⟩
            ·rw [if_neg c28] at H
             have c28b0 : (a0 == 6) = false := beq_eq_false_iff_ne.mpr c28
             have c28b1 : (a0 != 6) = true := bne_iff_ne.mpr c28
             by_cases c29 : a0 = 7
             ·rw [if_pos c29] at H
              have c29b0 : (a0 == 7) = true := beq_iff_eq.mpr c29
              have c29b1 : (a0 != 7) = false := bne_eq_false_iff_eq.mpr c29
              clear c29
              simp only [Option.some.injEq, Prod.mk.injEq] at H
              obtain ⟨rfl, rfl⟩ := H
              go_wp2
              go_ret2
              exact ⟨by first | rfl | (simp; done) | (simp [*]; done), by repeat (first | exact Drawn0.refl _ | apply Drawn0.step)⟩
             ·rw [if_neg c29] at H
              have c29b0 : (a0 == 7) = false := beq_eq_false_iff_ne.mpr c29
              have c29b1 : (a0 != 7) = true := bne_iff_ne.mpr c29
              by_cases c30 : a0 = 8
              ·rw [if_pos c30] at H
               have c30b0 : (a0 == 8) = true := beq_iff_eq.mpr c30
               have c30b1 : (a0 != 8) = false := bne_eq_false_iff_eq.mpr c30
               clear c30
               simp only [Option.some.injEq, Prod.mk.injEq] at H
               obtain ⟨rfl, rfl⟩ := H
               go_wp2
               go_ret2
               exact ⟨by first | rfl | (simp; done) | (simp [*]; done), by repeat (first | exact Drawn0.refl _ | apply Drawn0.step)⟩
              ·rw [if_neg c30] at H
               have c30b0 : (a0 == 8) = false := beq_eq_false_iff_ne.mpr c30
               have c30b1 : (a0 != 8) = true := bne_iff_ne.mpr c30
               have HC31 := Aside0.mk H
               clear H
               go_upto_if 92 with (fail)
               go_cut [92] (fun v92 wc => ∃ (kq : Nat) (x92_30 : Bool), v92 = .bool x92_30 ∧ Aside0 (gantryref1_Bin.j2 kq a0 a1 a2 a3 a0 x92_30 = some (r1, r2)) ∧ Aside0 (kq ≤ kj21) ∧ Drawn0 w wc)
               case first =>
                have H := HC31.out
                clear HC31
                by_cases c32 : a0 = 9
                ·rw [if_pos c32] at H
                 have c32b0 : (a0 == 9) = true := beq_iff_eq.mpr c32
                 have c32b1 : (a0 != 9) = false := bne_eq_false_iff_eq.mpr c32
                 clear c32
                 (first | rw [c32b0] | (simp only [i64_w, i32_w]; rw [c32b0]) | skip)
                 have H' := Aside0.mk H
                 clear H
                 go_wp2
                 go_meet
                 case rel => exact ⟨_, ((a0 == 9)), (by first | rfl | (simp; done) | (simp [*]; done)), H', ⟨by have := HJ6.out; have := HJ21.out; first | omega | exact Nat.le_refl _⟩, by repeat (first | exact Drawn0.refl _ | apply Drawn0.step)⟩
                ·rw [if_neg c32] at H
                 have c32b0 : (a0 == 9) = false := beq_eq_false_iff_ne.mpr c32
                 have c32b1 : (a0 != 9) = true := bne_iff_ne.mpr c32
                 (first | rw [c32b0] | (simp only [i64_w, i32_w]; rw [c32b0]) | skip)
                 have H' := Aside0.mk H
                 clear H
                 go_wp2
                 go_meet
                 case rel => exact ⟨_, ((a0 == 10)), (by first | rfl | (simp; done) | (simp [*]; done)), H', ⟨by have := HJ6.out; have := HJ21.out; first | omega | exact Nat.le_refl _⟩, by repeat (first | exact Drawn0.refl _ | apply Drawn0.step)⟩
               case rest =>
                clear HC31
                try clear c1
                try clear c2
                try clear p2
                try clear c3
                try clear c6
                try clear c9
                try clear c11
                try clear c13
                try clear c14
                try clear c14b0
                try clear c14b1
                try clear c16
                try clear c16b0
                try clear c16b1
                try clear c18
                try clear c18b0
                try clear c18b1
                try clear c20
                try clear c20b0
                try clear c20b1
                try clear c21
                try clear c23
                try clear c23b0
                try clear c23b1
                try clear c24
                try clear c25
                try clear c25b0
                try clear c25b1
                try clear c27
                try clear c27b0
                try clear c27b1
                try clear c28
                try clear c28b0
                try clear c28b1
                try clear c29
                try clear c29b0
                try clear c29b1
                try clear c30
                try clear c30b0
                try clear c30b1
                try clear c31
                try clear c32
                try clear c32b0
                try clear c32b1
                try clear p2
                obtain ⟨kq, x92_30, rfl, HA, HJ30, ⟨mc30, rfl⟩⟩ := hcut
                cases kq with
                | zero => exact absurd HA.out (by simp [gantryref1_Bin.j2])
                | succ kj30 =>
                 have H := HA.out
                 clear HA
                 simp only [gantryref1_Bin.j2] at H
                 by_cases c33 : x92_30 = true
                 ·subst c33
                  have H1 : ((gantryref1_shifted.f kj30 a0 a1 a2 a3).bind fun t274 => (some (t274, 0))) = some (r1, r2) := by rw [if_pos rfl] at H; exact H
                  clear H
                  have H := H1
                  clear H1
                  replace H := Option.bind_eq_some_iff.mp H
                  obtain ⟨t274, A340, H⟩ := H
                  replace H : (some (t274, 0)) = some (r1, r2) := H
                  have A34 := Aside0.mk A340
                  clear A340
                  simp only [Option.some.injEq, Prod.mk.injEq] at H
                  obtain ⟨rfl, rfl⟩ := H
                  go_wp2_with (first | ((with_reducible refine gate_callee (f := 64) rfl ?_); refine goesL_ (some 99) rfl rfl Try.func64 (by kernel_rfl) rfl #[.int .i64 a0, .int .i64 a1, .int .u64 a2, .int .u64 a3] rfl (by (try simp only [List.map_toArray, List.map_cons, List.map_nil]); first | done | rfl | (simp only [List.length_drop, List.length_take]; rfl)) ?_; (with_reducible refine (gantryref1_shifted.calls kj30 a0 a1 a2 a3 t274 _ A34.out).mono ?_); rintro e w' ⟨rfl, ⟨nd, rfl⟩⟩; refine ⟨_, rfl, ?_⟩))
                  go_ret2
                  exact ⟨by first | rfl | (simp; done) | (simp [*]; done), by repeat (first | exact Drawn0.refl _ | apply Drawn0.step)⟩
                 ·replace c33 := Bool.eq_false_iff.mpr c33
                  subst c33
                  have H1 : (if a0 = 11 then ((gantryref1_truth.f (a2 == a3)).bind fun t275 => (some (t275, 0))) else (if a0 = 12 then ((gantryref1_truth.f (a2 != a3)).bind fun t276 => (some (t276, 0))) else (if a0 = 13 then ((gantryref1_below.f a1 a2 a3).bind fun t277 => ((gantryref1_truth.f t277).bind fun t278 => (some (t278, 0)))) else (if a0 = 14 then ((gantryref1_below.f a1 a3 a2).bind fun t279 => ((gantryref1_truth.f (!t279)).bind fun t280 => (some (t280, 0)))) else (if a0 = 15 then ((gantryref1_below.f a1 a3 a2).bind fun t281 => ((gantryref1_truth.f t281).bind fun t282 => (some (t282, 0)))) else ((gantryref1_below.f a1 a2 a3).bind fun t283 => ((gantryref1_truth.f (!t283)).bind fun t284 => (some (t284, 0))))))))) = some (r1, r2) := by rw [if_neg (show ¬ (false = true) by decide)] at H; exact H
                  clear H
                  have H := H1
                  clear H1
                  by_cases c35 : a0 = 11
                  ·rw [if_pos c35] at H
                   have c35b0 : (a0 == 11) = true := beq_iff_eq.mpr c35
                   have c35b1 : (a0 != 11) = false := bne_eq_false_iff_eq.mpr c35
                   clear c35
                   replace H := Option.bind_eq_some_iff.mp H
                   obtain ⟨t275, A360, H⟩ := H
                   replace H : (some (t275, 0)) = some (r1, r2) := H
                   have A36 := Aside0.mk A360
                   clear A360
                   simp only [Option.some.injEq, Prod.mk.injEq] at H
                   obtain ⟨rfl, rfl⟩ := H
                   go_wp2_with (first | ((with_reducible refine gate_callee (f := 65) rfl ?_); refine goesL_ (some 105) rfl rfl Try.func65 (by kernel_rfl) rfl #[.bool (a2 == a3)] rfl (by (try simp only [List.map_toArray, List.map_cons, List.map_nil]); first | done | rfl | (simp only [List.length_drop, List.length_take]; rfl)) ?_; (with_reducible refine (gantryref1_truth.calls (a2 == a3) t275 _ A36.out).mono ?_); rintro e w' ⟨rfl, ⟨nd, rfl⟩⟩; refine ⟨_, rfl, ?_⟩))
                   go_ret2
                   exact ⟨by first | rfl | (simp; done) | (simp [*]; done), by repeat (first | exact Drawn0.refl _ | apply Drawn0.step)⟩
                  ·rw [if_neg c35] at H
                   have c35b0 : (a0 == 11) = false := beq_eq_false_iff_ne.mpr c35
                   have c35b1 : (a0 != 11) = true := bne_iff_ne.mpr c35
                   by_cases c37 : a0 = 12
                   ·rw [if_pos c37] at H
                    have c37b0 : (a0 == 12) = true := beq_iff_eq.mpr c37
                    have c37b1 : (a0 != 12) = false := bne_eq_false_iff_eq.mpr c37
                    clear c37
                    replace H := Option.bind_eq_some_iff.mp H
                    obtain ⟨t276, A380, H⟩ := H
                    replace H : (some (t276, 0)) = some (r1, r2) := H
                    have A38 := Aside0.mk A380
                    clear A380
                    simp only [Option.some.injEq, Prod.mk.injEq] at H
                    obtain ⟨rfl, rfl⟩ := H
                    go_wp2_with (first | ((with_reducible refine gate_callee (f := 65) rfl ?_); refine goesL_ (some 111) rfl rfl Try.func65 (by kernel_rfl) rfl #[.bool (a2 != a3)] rfl (by (try simp only [List.map_toArray, List.map_cons, List.map_nil]); first | done | rfl | (simp only [List.length_drop, List.length_take]; rfl)) ?_; (with_reducible refine (gantryref1_truth.calls (a2 != a3) t276 _ A38.out).mono ?_); rintro e w' ⟨rfl, ⟨nd, rfl⟩⟩; refine ⟨_, rfl, ?_⟩))
                    go_ret2
                    exact ⟨by first | rfl | (simp; done) | (simp [*]; done), by repeat (first | exact Drawn0.refl _ | apply Drawn0.step)⟩
                   ·rw [if_neg c37] at H
                    have c37b0 : (a0 == 12) = false := beq_eq_false_iff_ne.mpr c37
                    have c37b1 : (a0 != 12) = true := bne_iff_ne.mpr c37
                    by_cases c39 : a0 = 13
                    ·rw [if_pos c39] at H
                     have c39b0 : (a0 == 13) = true := beq_iff_eq.mpr c39
                     have c39b1 : (a0 != 13) = false := bne_eq_false_iff_eq.mpr c39
                     clear c39
                     replace H := Option.bind_eq_some_iff.mp H
                     obtain ⟨t277, A400, H⟩ := H
                     replace H : ((gantryref1_truth.f t277).bind fun t278 => (some (t278, 0))) = some (r1, r2) := H
                     have A40 := Aside0.mk A400
                     clear A400
                     replace H := Option.bind_eq_some_iff.mp H
                     obtain ⟨t278, A410, H⟩ := H
                     replace H : (some (t278, 0)) = some (r1, r2) := H
                     have A41 := Aside0.mk A410
                     clear A410
                     simp only [Option.some.injEq, Prod.mk.injEq] at H
                     obtain ⟨rfl, rfl⟩ := H
                     go_wp2_with (first | ((with_reducible refine gate_callee (f := 66) rfl ?_); refine goesL_ (some 117) rfl rfl Try.func66 (by kernel_rfl) rfl #[.int .i64 a1, .int .u64 a2, .int .u64 a3] rfl (by (try simp only [List.map_toArray, List.map_cons, List.map_nil]); first | done | rfl | (simp only [List.length_drop, List.length_take]; rfl)) ?_; (with_reducible refine (gantryref1_below.calls a1 a2 a3 t277 _ A40.out).mono ?_); rintro e w' ⟨rfl, ⟨nd, rfl⟩⟩; refine ⟨_, rfl, ?_⟩) | ((with_reducible refine gate_callee (f := 65) rfl ?_); refine goesL_ (some 118) rfl rfl Try.func65 (by kernel_rfl) rfl #[.bool t277] rfl (by (try simp only [List.map_toArray, List.map_cons, List.map_nil]); first | done | rfl | (simp only [List.length_drop, List.length_take]; rfl)) ?_; (with_reducible refine (gantryref1_truth.calls t277 t278 _ A41.out).mono ?_); rintro e w' ⟨rfl, ⟨nd, rfl⟩⟩; refine ⟨_, rfl, ?_⟩))
                     go_ret2
                     exact ⟨by first | rfl | (simp; done) | (simp [*]; done), by repeat (first | exact Drawn0.refl _ | apply Drawn0.step)⟩
                    ·rw [if_neg c39] at H
                     have c39b0 : (a0 == 13) = false := beq_eq_false_iff_ne.mpr c39
                     have c39b1 : (a0 != 13) = true := bne_iff_ne.mpr c39
                     by_cases c42 : a0 = 14
                     ·rw [if_pos c42] at H
                      have c42b0 : (a0 == 14) = true := beq_iff_eq.mpr c42
                      have c42b1 : (a0 != 14) = false := bne_eq_false_iff_eq.mpr c42
                      clear c42
                      replace H := Option.bind_eq_some_iff.mp H
                      obtain ⟨t279, A430, H⟩ := H
                      replace H : ((gantryref1_truth.f (!t279)).bind fun t280 => (some (t280, 0))) = some (r1, r2) := H
                      have A43 := Aside0.mk A430
                      clear A430
                      replace H := Option.bind_eq_some_iff.mp H
                      obtain ⟨t280, A440, H⟩ := H
                      replace H : (some (t280, 0)) = some (r1, r2) := H
                      have A44 := Aside0.mk A440
                      clear A440
                      simp only [Option.some.injEq, Prod.mk.injEq] at H
                      obtain ⟨rfl, rfl⟩ := H
                      go_wp2_with (first | ((with_reducible refine gate_callee (f := 66) rfl ?_); refine goesL_ (some 124) rfl rfl Try.func66 (by kernel_rfl) rfl #[.int .i64 a1, .int .u64 a3, .int .u64 a2] rfl (by (try simp only [List.map_toArray, List.map_cons, List.map_nil]); first | done | rfl | (simp only [List.length_drop, List.length_take]; rfl)) ?_; (with_reducible refine (gantryref1_below.calls a1 a3 a2 t279 _ A43.out).mono ?_); rintro e w' ⟨rfl, ⟨nd, rfl⟩⟩; refine ⟨_, rfl, ?_⟩) | ((with_reducible refine gate_callee (f := 65) rfl ?_); refine goesL_ (some 126) rfl rfl Try.func65 (by kernel_rfl) rfl #[.bool (!t279)] rfl (by (try simp only [List.map_toArray, List.map_cons, List.map_nil]); first | done | rfl | (simp only [List.length_drop, List.length_take]; rfl)) ?_; (with_reducible refine (gantryref1_truth.calls (!t279) t280 _ A44.out).mono ?_); rintro e w' ⟨rfl, ⟨nd, rfl⟩⟩; refine ⟨_, rfl, ?_⟩))
                      go_ret2
                      exact ⟨by first | rfl | (simp; done) | (simp [*]; done), by repeat (first | exact Drawn0.refl _ | apply Drawn0.step)⟩
                     ·rw [if_neg c42] at H
                      have c42b0 : (a0 == 14) = false := beq_eq_false_iff_ne.mpr c42
                      have c42b1 : (a0 != 14) = true := bne_iff_ne.mpr c42
                      by_cases c45 : a0 = 15
                      ·rw [if_pos c45] at H
                       have c45b0 : (a0 == 15) = true := beq_iff_eq.mpr c45
                       have c45b1 : (a0 != 15) = false := bne_eq_false_iff_eq.mpr c45
                       clear c45
                       replace H := Option.bind_eq_some_iff.mp H
                       obtain ⟨t281, A460, H⟩ := H
                       replace H : ((gantryref1_truth.f t281).bind fun t282 => (some (t282, 0))) = some (r1, r2) := H
                       have A46 := Aside0.mk A460
                       clear A460
                       replace H := Option.bind_eq_some_iff.mp H
                       obtain ⟨t282, A470, H⟩ := H
                       replace H : (some (t282, 0)) = some (r1, r2) := H
                       have A47 := Aside0.mk A470
                       clear A470
                       simp only [Option.some.injEq, Prod.mk.injEq] at H
                       obtain ⟨rfl, rfl⟩ := H
                       go_wp2_with (first | ((with_reducible refine gate_callee (f := 66) rfl ?_); refine goesL_ (some 132) rfl rfl Try.func66 (by kernel_rfl) rfl #[.int .i64 a1, .int .u64 a3, .int .u64 a2] rfl (by (try simp only [List.map_toArray, List.map_cons, List.map_nil]); first | done | rfl | (simp only [List.length_drop, List.length_take]; rfl)) ?_; (with_reducible refine (gantryref1_below.calls a1 a3 a2 t281 _ A46.out).mono ?_); rintro e w' ⟨rfl, ⟨nd, rfl⟩⟩; refine ⟨_, rfl, ?_⟩) | ((with_reducible refine gate_callee (f := 65) rfl ?_); refine goesL_ (some 133) rfl rfl Try.func65 (by kernel_rfl) rfl #[.bool t281] rfl (by (try simp only [List.map_toArray, List.map_cons, List.map_nil]); first | done | rfl | (simp only [List.length_drop, List.length_take]; rfl)) ?_; (with_reducible refine (gantryref1_truth.calls t281 t282 _ A47.out).mono ?_); rintro e w' ⟨rfl, ⟨nd, rfl⟩⟩; refine ⟨_, rfl, ?_⟩))
                       go_ret2
                       exact ⟨by first | rfl | (simp; done) | (simp [*]; done), by repeat (first | exact Drawn0.refl _ | apply Drawn0.step)⟩
                      ·rw [if_neg c45] at H
                       have c45b0 : (a0 == 15) = false := beq_eq_false_iff_ne.mpr c45
                       have c45b1 : (a0 != 15) = true := bne_iff_ne.mpr c45
                       replace H := Option.bind_eq_some_iff.mp H
                       obtain ⟨t283, A480, H⟩ := H
                       replace H : ((gantryref1_truth.f (!t283)).bind fun t284 => (some (t284, 0))) = some (r1, r2) := H
                       have A48 := Aside0.mk A480
                       clear A480
                       replace H := Option.bind_eq_some_iff.mp H
                       obtain ⟨t284, A490, H⟩ := H
                       replace H : (some (t284, 0)) = some (r1, r2) := H
                       have A49 := Aside0.mk A490
                       clear A490
                       simp only [Option.some.injEq, Prod.mk.injEq] at H
                       obtain ⟨rfl, rfl⟩ := H
                       go_wp2_with (first | ((with_reducible refine gate_callee (f := 66) rfl ?_); refine goesL_ (some 137) rfl rfl Try.func66 (by kernel_rfl) rfl #[.int .i64 a1, .int .u64 a2, .int .u64 a3] rfl (by (try simp only [List.map_toArray, List.map_cons, List.map_nil]); first | done | rfl | (simp only [List.length_drop, List.length_take]; rfl)) ?_; (with_reducible refine (gantryref1_below.calls a1 a2 a3 t283 _ A48.out).mono ?_); rintro e w' ⟨rfl, ⟨nd, rfl⟩⟩; refine ⟨_, rfl, ?_⟩) | ((with_reducible refine gate_callee (f := 65) rfl ?_); refine goesL_ (some 139) rfl rfl Try.func65 (by kernel_rfl) rfl #[.bool (!t283)] rfl (by (try simp only [List.map_toArray, List.map_cons, List.map_nil]); first | done | rfl | (simp only [List.length_drop, List.length_take]; rfl)) ?_; (with_reducible refine (gantryref1_truth.calls (!t283) t284 _ A49.out).mono ?_); rintro e w' ⟨rfl, ⟨nd, rfl⟩⟩; refine ⟨_, rfl, ?_⟩))
                       go_ret2
                       exact ⟨by first | rfl | (simp; done) | (simp [*]; done), by repeat (first | exact Drawn0.refl _ | apply Drawn0.step)⟩
 ·replace c6 := Bool.eq_false_iff.mpr c6
  subst c6
  have H1 : (some (0, 10)) = some (r1, r2) := by rw [if_neg (show ¬ (false = true) by decide)] at H; exact H
  clear H
  have H := H1
  clear H1
  simp only [Option.some.injEq, Prod.mk.injEq] at H
  obtain ⟨rfl, rfl⟩ := H
  go_enter Try.func25, Try.ntmps25
  go_wp2_with (first | ((with_reducible refine gate_callee (f := 60) rfl ?_); refine goesL_ (some 14) rfl rfl Try.func60 (by kernel_rfl) rfl #[.int .i64 a0, .int .i64 a1] rfl (by (try simp only [List.map_toArray, List.map_cons, List.map_nil]); first | done | rfl | (simp only [List.length_drop, List.length_take]; rfl)) ?_; (with_reducible refine (gantryref1_HasBin.calls k a0 a1 false _ A5.out).mono ?_); rintro e w' ⟨rfl, ⟨nd, rfl⟩⟩; refine ⟨_, rfl, ?_⟩))
  go_ret2
  exact ⟨by first | rfl | (simp; done) | (simp [*]; done), by repeat (first | exact Drawn0.refl _ | apply Drawn0.step)⟩

/-! ### gantryref1_HasConv: function 67 -/
def gantryref1_HasConv.f (a0 : Int) (a1 : Int) : Option (Bool) := (gantryref1_Int.f a0).bind fun t285 => (if t285 = true then ((gantryref1_Int.f a1).bind fun t286 => (if t286 = true then (some true) else (some (a1 == 10)))) else (if a0 = 10 then ((gantryref1_Int.f a1).bind fun t287 => (if t287 = true then (some true) else (some (a1 == 10)))) else (some false)))
set_option maxHeartbeats 8000000 in
set_option maxRecDepth 100000 in
theorem gantryref1_HasConv.calls (a0 : Int) (a1 : Int) (r : Bool) (w : World) (h : gantryref1_HasConv.f a0 a1 = some r) :
  Calls Try.prog 67 #[.int .i64 a0, .int .i64 a1] w fun e w' => e = .returned (.bool r) ∧ Drawn0 w w' := by
 have H : ((gantryref1_Int.f a0).bind fun t285 => (if t285 = true then ((gantryref1_Int.f a1).bind fun t286 => (if t286 = true then (some true) else (some (a1 == 10)))) else (if a0 = 10 then ((gantryref1_Int.f a1).bind fun t287 => (if t287 = true then (some true) else (some (a1 == 10)))) else (some false)))) = some r := h
 clear h
 replace H := Option.bind_eq_some_iff.mp H
 obtain ⟨t285, A30, H⟩ := H
 replace H : (if t285 = true then ((gantryref1_Int.f a1).bind fun t286 => (if t286 = true then (some true) else (some (a1 == 10)))) else (if a0 = 10 then ((gantryref1_Int.f a1).bind fun t287 => (if t287 = true then (some true) else (some (a1 == 10)))) else (some false))) = some r := H
 have A3 := Aside0.mk A30
 clear A30
 by_cases c4 : t285 = true
 ·subst c4
  have H1 : ((gantryref1_Int.f a1).bind fun t286 => (if t286 = true then (some true) else (some (a1 == 10)))) = some r := by rw [if_pos rfl] at H; exact H
  clear H
  have H := H1
  clear H1
  replace H := Option.bind_eq_some_iff.mp H
  obtain ⟨t286, A50, H⟩ := H
  replace H : (if t286 = true then (some true) else (some (a1 == 10))) = some r := H
  have A5 := Aside0.mk A50
  clear A50
  by_cases c6 : t286 = true
  ·subst c6
   have H1 : (some true) = some r := by rw [if_pos rfl] at H; exact H
   clear H
   have H := H1
   clear H1
   obtain rfl := Option.some.inj H
   go_enter Try.func67, Try.ntmps67
   go_wp2_with (first | ((with_reducible refine gate_callee (f := 83) rfl ?_); refine goesL_ (some 6) rfl rfl Try.func83 (by kernel_rfl) rfl #[.int .i64 a0] rfl (by (try simp only [List.map_toArray, List.map_cons, List.map_nil]); first | done | rfl | (simp only [List.length_drop, List.length_take]; rfl)) ?_; (with_reducible refine (gantryref1_Int.calls a0 true _ A3.out).mono ?_); rintro e w' ⟨rfl, ⟨nd, rfl⟩⟩; refine ⟨_, rfl, ?_⟩) | (go_at_call 83; (with_reducible refine (gantryref1_Int.calls a1 true _ A5.out).mono ?_); rintro e w' ⟨rfl, ⟨nd, rfl⟩⟩))
   go_ret
   exact ⟨by first | rfl | (simp; done) | (simp [*]; done), by repeat (first | exact Drawn0.refl _ | apply Drawn0.step)⟩
  ·replace c6 := Bool.eq_false_iff.mpr c6
   subst c6
   have H1 : (some (a1 == 10)) = some r := by rw [if_neg (show ¬ (false = true) by decide)] at H; exact H
   clear H
   have H := H1
   clear H1
   obtain rfl := Option.some.inj H
   go_enter Try.func67, Try.ntmps67
   go_wp2_with (first | ((with_reducible refine gate_callee (f := 83) rfl ?_); refine goesL_ (some 6) rfl rfl Try.func83 (by kernel_rfl) rfl #[.int .i64 a0] rfl (by (try simp only [List.map_toArray, List.map_cons, List.map_nil]); first | done | rfl | (simp only [List.length_drop, List.length_take]; rfl)) ?_; (with_reducible refine (gantryref1_Int.calls a0 true _ A3.out).mono ?_); rintro e w' ⟨rfl, ⟨nd, rfl⟩⟩; refine ⟨_, rfl, ?_⟩) | (go_at_call 83; (with_reducible refine (gantryref1_Int.calls a1 false _ A5.out).mono ?_); rintro e w' ⟨rfl, ⟨nd, rfl⟩⟩))
   go_ret
   exact ⟨by first | rfl | (simp; done) | (simp [*]; done), by repeat (first | exact Drawn0.refl _ | apply Drawn0.step)⟩
 ·replace c4 := Bool.eq_false_iff.mpr c4
  subst c4
  have H1 : (if a0 = 10 then ((gantryref1_Int.f a1).bind fun t287 => (if t287 = true then (some true) else (some (a1 == 10)))) else (some false)) = some r := by rw [if_neg (show ¬ (false = true) by decide)] at H; exact H
  clear H
  have H := H1
  clear H1
  by_cases c7 : a0 = 10
  ·rw [if_pos c7] at H
   have c7b0 : (a0 == 10) = true := beq_iff_eq.mpr c7
   have c7b1 : (a0 != 10) = false := bne_eq_false_iff_eq.mpr c7
   clear c7
   replace H := Option.bind_eq_some_iff.mp H
   obtain ⟨t287, A80, H⟩ := H
   replace H : (if t287 = true then (some true) else (some (a1 == 10))) = some r := H
   have A8 := Aside0.mk A80
   clear A80
   by_cases c9 : t287 = true
   ·subst c9
    have H1 : (some true) = some r := by rw [if_pos rfl] at H; exact H
    clear H
    have H := H1
    clear H1
    obtain rfl := Option.some.inj H
    go_enter Try.func67, Try.ntmps67
    go_wp2_with (first | ((with_reducible refine gate_callee (f := 83) rfl ?_); refine goesL_ (some 6) rfl rfl Try.func83 (by kernel_rfl) rfl #[.int .i64 a0] rfl (by (try simp only [List.map_toArray, List.map_cons, List.map_nil]); first | done | rfl | (simp only [List.length_drop, List.length_take]; rfl)) ?_; (with_reducible refine (gantryref1_Int.calls a0 false _ A3.out).mono ?_); rintro e w' ⟨rfl, ⟨nd, rfl⟩⟩; refine ⟨_, rfl, ?_⟩) | (go_at_call 83; (with_reducible refine (gantryref1_Int.calls a1 true _ A8.out).mono ?_); rintro e w' ⟨rfl, ⟨nd, rfl⟩⟩))
    go_ret
    exact ⟨by first | rfl | (simp; done) | (simp [*]; done), by repeat (first | exact Drawn0.refl _ | apply Drawn0.step)⟩
   ·replace c9 := Bool.eq_false_iff.mpr c9
    subst c9
    have H1 : (some (a1 == 10)) = some r := by rw [if_neg (show ¬ (false = true) by decide)] at H; exact H
    clear H
    have H := H1
    clear H1
    obtain rfl := Option.some.inj H
    go_enter Try.func67, Try.ntmps67
    go_wp2_with (first | ((with_reducible refine gate_callee (f := 83) rfl ?_); refine goesL_ (some 6) rfl rfl Try.func83 (by kernel_rfl) rfl #[.int .i64 a0] rfl (by (try simp only [List.map_toArray, List.map_cons, List.map_nil]); first | done | rfl | (simp only [List.length_drop, List.length_take]; rfl)) ?_; (with_reducible refine (gantryref1_Int.calls a0 false _ A3.out).mono ?_); rintro e w' ⟨rfl, ⟨nd, rfl⟩⟩; refine ⟨_, rfl, ?_⟩) | (go_at_call 83; (with_reducible refine (gantryref1_Int.calls a1 false _ A8.out).mono ?_); rintro e w' ⟨rfl, ⟨nd, rfl⟩⟩))
    go_ret
    exact ⟨by first | rfl | (simp; done) | (simp [*]; done), by repeat (first | exact Drawn0.refl _ | apply Drawn0.step)⟩
  ·rw [if_neg c7] at H
   have c7b0 : (a0 == 10) = false := beq_eq_false_iff_ne.mpr c7
   have c7b1 : (a0 != 10) = true := bne_iff_ne.mpr c7
   obtain rfl := Option.some.inj H
   go_enter Try.func67, Try.ntmps67
   go_wp2_with (first | ((with_reducible refine gate_callee (f := 83) rfl ?_); refine goesL_ (some 6) rfl rfl Try.func83 (by kernel_rfl) rfl #[.int .i64 a0] rfl (by (try simp only [List.map_toArray, List.map_cons, List.map_nil]); first | done | rfl | (simp only [List.length_drop, List.length_take]; rfl)) ?_; (with_reducible refine (gantryref1_Int.calls a0 false _ A3.out).mono ?_); rintro e w' ⟨rfl, ⟨nd, rfl⟩⟩; refine ⟨_, rfl, ?_⟩))
   go_ret
   exact ⟨by first | rfl | (simp; done) | (simp [*]; done), by repeat (first | exact Drawn0.refl _ | apply Drawn0.step)⟩

end Go.Proofs.Ytahepinbmcgbnaa.PA
