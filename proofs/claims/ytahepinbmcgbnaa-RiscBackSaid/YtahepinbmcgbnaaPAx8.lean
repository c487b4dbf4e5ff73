-- Printed by this session's program (wip/tools: the kit's printer, turned for this claim), out of the translation.
import Derived.Test.YtahepinbmcgbnaaPAx0
import Derived.Test.YtahepinbmcgbnaaPAx3
import Derived.Test.YtahepinbmcgbnaaPAx4
import Derived.Test.YtahepinbmcgbnaaPAx6
namespace Go.Proofs.Ytahepinbmcgbnaa.PA
open Go.RowKit Go.Proofs.YtahepinbmcgbnaaW.PrintWords Go.Proofs.YtahepinbmcgbnaaW.PrintLast Go.Proofs.YtahepinbmcgbnaaW.PrintMore
attribute [local go_sem] max2_int min2_int max_two min_two max_three min_three max_four min_four   -- for this text's walks alone
attribute [local go_sem] Fl.frombits Fl.tobits
set_option linter.unusedVariables false
set_option linter.unusedSimpArgs false

/-! ### gantrylaw1_WordFloats: function 5 -/
mutual
def gantrylaw1_WordFloats.l0 : Nat → List (S25) → Int → Option (Bool)
 | 0, _, _ => none
 | k + 1, x0, x3 => if x3 < (x0.length : Int) then (gantrylaw1_WordFloats.j1 k x0 x3 (decide (x3 < 200))) else (gantrylaw1_WordFloats.j1 k x0 x3 false)
def gantrylaw1_WordFloats.j1 : Nat → List (S25) → Int → Bool → Option (Bool)
 | 0, _, _, _ => none
 | k + 1, x0, x3, x17 => if x17 = true then (if 0 ≤ x3 then (if x3 < (x0.length : Int) then ((gantrylaw1_bin.f k 1 10 ((rd_T25 x0 x3).f3) ((rd_T25 x0 x3).f4)).bind fun t193 => ((word_Un.f k 1 10 ((rd_T25 x0 x3).f4)).bind fun bt194 => ((gantrylaw1_num.f bt194.2).bind fun t196 => (if t196 = 0 then ((gantrylaw1_bin.f k 1 10 ((rd_T25 x0 x3).f4) ((rd_T25 x0 x3).f3)).bind fun t197 => (if t193 = t197 then ((gantrylaw1_bin.f k 3 10 ((rd_T25 x0 x3).f3) ((rd_T25 x0 x3).f4)).bind fun t198 => ((gantrylaw1_bin.f k 3 10 ((rd_T25 x0 x3).f4) ((rd_T25 x0 x3).f3)).bind fun t199 => (if t198 = t199 then ((gantrylaw1_bin.f k 2 10 ((rd_T25 x0 x3).f3) ((rd_T25 x0 x3).f4)).bind fun t200 => ((gantrylaw1_bin.f k 1 10 ((rd_T25 x0 x3).f3) bt194.1).bind fun t201 => (if t200 = t201 then (gantrylaw1_WordFloats.j2 k x0 x3 ((rd_T25 x0 x3).f3) ((rd_T25 x0 x3).f4) 10 t193 (bt194.1 != (Go.bits .xor .u64 ((rd_T25 x0 x3).f4) 9223372036854775808))) else (gantrylaw1_WordFloats.j2 k x0 x3 ((rd_T25 x0 x3).f3) ((rd_T25 x0 x3).f4) 10 t193 true)))) else (gantrylaw1_WordFloats.j2 k x0 x3 ((rd_T25 x0 x3).f3) ((rd_T25 x0 x3).f4) 10 t193 true)))) else (gantrylaw1_WordFloats.j2 k x0 x3 ((rd_T25 x0 x3).f3) ((rd_T25 x0 x3).f4) 10 t193 true))) else (gantrylaw1_WordFloats.j2 k x0 x3 ((rd_T25 x0 x3).f3) ((rd_T25 x0 x3).f4) 10 t193 true))))) else (none)) else (none)) else ((gantrylaw1_wakes.f k).bind fun t190 => (some t190))
def gantrylaw1_WordFloats.j2 : Nat → List (S25) → Int → Int → Int → Int → Int → Bool → Option (Bool)
 | 0, _, _, _, _, _, _, _ => none
 | k + 1, x0, x3, x4, x5, x6, x7, x78 => if x78 = true then (some false) else ((gantrylaw1_bin.f k 12 x6 x7 x7).bind fun t202 => (if t202 = 1 then (if x7 = 9221120237041090560 then ((gantrylaw1_bin.f k 11 x6 9221120237041090560 x4).bind fun t203 => (if t203 = 0 then ((gantrylaw1_bin.f k 12 x6 9221120237041090560 x4).bind fun t204 => (if t204 = 1 then ((gantrylaw1_bin.f k 11 x6 0 9223372036854775808).bind fun t205 => (if t205 = 1 then ((gantrylaw1_bin.f k 13 x6 x4 x5).bind fun t206 => ((gantrylaw1_bin.f k 15 x6 x5 x4).bind fun t207 => (gantrylaw1_WordFloats.j3 k x0 x3 x4 x5 x6 (t206 != t207)))) else (gantrylaw1_WordFloats.j3 k x0 x3 x4 x5 x6 true))) else (gantrylaw1_WordFloats.j3 k x0 x3 x4 x5 x6 true))) else (gantrylaw1_WordFloats.j3 k x0 x3 x4 x5 x6 true))) else (gantrylaw1_WordFloats.j3 k x0 x3 x4 x5 x6 true)) else ((gantrylaw1_bin.f k 11 x6 9221120237041090560 x4).bind fun t208 => (if t208 = 0 then ((gantrylaw1_bin.f k 12 x6 9221120237041090560 x4).bind fun t209 => (if t209 = 1 then ((gantrylaw1_bin.f k 11 x6 0 9223372036854775808).bind fun t210 => (if t210 = 1 then ((gantrylaw1_bin.f k 13 x6 x4 x5).bind fun t211 => ((gantrylaw1_bin.f k 15 x6 x5 x4).bind fun t212 => (gantrylaw1_WordFloats.j3 k x0 x3 x4 x5 x6 (t211 != t212)))) else (gantrylaw1_WordFloats.j3 k x0 x3 x4 x5 x6 true))) else (gantrylaw1_WordFloats.j3 k x0 x3 x4 x5 x6 true))) else (gantrylaw1_WordFloats.j3 k x0 x3 x4 x5 x6 true)))))
def gantrylaw1_WordFloats.j3 : Nat → List (S25) → Int → Int → Int → Int → Bool → Option (Bool)
 | 0, _, _, _, _, _, _ => none
 | k + 1, x0, x3, x4, x5, x6, x115 => if x115 = true then (some false) else ((gantrylaw1_bin.f k 13 x6 x4 x5).bind fun t213 => ((gantrylaw1_bin.f k 11 x6 x4 x5).bind fun t214 => ((gantrylaw1_bin.f k 15 x6 x4 x5).bind fun t215 => (if (IntKind.u64.wrap ((IntKind.u64.wrap (t213 + t214)) + t215)) > 1 then (some false) else (gantrylaw1_WordFloats.l0 k x0 (wrap64 (x3 + 1)))))))
end
def gantrylaw1_WordFloats.f (k : Nat) (l0 : List (S25)) : Option (Bool) := gantrylaw1_WordFloats.l0 k l0 0
theorem gantrylaw1_WordFloats.mono_l : ∀ k, (∀ y0 y1, LeO (gantrylaw1_WordFloats.l0 k y0 y1) (gantrylaw1_WordFloats.l0 (k + 1) y0 y1)) ∧ (∀ y0 y1 y2, LeO (gantrylaw1_WordFloats.j1 k y0 y1 y2) (gantrylaw1_WordFloats.j1 (k + 1) y0 y1 y2)) ∧ (∀ y0 y1 y2 y3 y4 y5 y6, LeO (gantrylaw1_WordFloats.j2 k y0 y1 y2 y3 y4 y5 y6) (gantrylaw1_WordFloats.j2 (k + 1) y0 y1 y2 y3 y4 y5 y6)) ∧ (∀ y0 y1 y2 y3 y4 y5, LeO (gantrylaw1_WordFloats.j3 k y0 y1 y2 y3 y4 y5) (gantrylaw1_WordFloats.j3 (k + 1) y0 y1 y2 y3 y4 y5))
 | 0 => ⟨fun _ _ r h => by simp [gantrylaw1_WordFloats.l0] at h, fun _ _ _ r h => by simp [gantrylaw1_WordFloats.j1] at h, fun _ _ _ _ _ _ _ r h => by simp [gantrylaw1_WordFloats.j2] at h, fun _ _ _ _ _ _ r h => by simp [gantrylaw1_WordFloats.j3] at h⟩
 | k + 1 => by
  obtain ⟨ih0, ih1, ih2, ih3⟩ := gantrylaw1_WordFloats.mono_l k
  refine ⟨?_, ?_, ?_, ?_⟩
  ·intro y0 y1
   unfold gantrylaw1_WordFloats.l0
   repeat' first
   | (with_reducible exact ih0 _ _)
   | (with_reducible exact ih1 _ _ _)
   | (with_reducible exact ih2 _ _ _ _ _ _ _)
   | (with_reducible exact ih3 _ _ _ _ _ _)
   | (with_reducible exact gantrylaw1_bin.mono _ _ _ _ _)
   | (with_reducible exact gantrylaw1_wakes.mono _)
   | (with_reducible exact word_Un.mono _ _ _ _)
   | (with_reducible exact LeO.refl _)
   | (with_reducible exact LeO.none _)
   | (with_reducible refine LeO.ite ?_ ?_)
   | (with_reducible refine LeO.bind ?_ (fun _ => ?_))
   | exact ih0 _ _
   | exact ih1 _ _ _
   | exact ih2 _ _ _ _ _ _ _
   | exact ih3 _ _ _ _ _ _
   | exact gantrylaw1_bin.mono _ _ _ _ _
   | exact gantrylaw1_wakes.mono _
   | exact word_Un.mono _ _ _ _
   | exact LeO.none _
   | refine LeO.ite ?_ ?_
   | refine LeO.bind ?_ (fun _ => ?_)
  ·intro y0 y1 y2
   unfold gantrylaw1_WordFloats.j1
   repeat' first
   | (with_reducible exact ih0 _ _)
   | (with_reducible exact ih1 _ _ _)
   | (with_reducible exact ih2 _ _ _ _ _ _ _)
   | (with_reducible exact ih3 _ _ _ _ _ _)
   | (with_reducible exact gantrylaw1_bin.mono _ _ _ _ _)
   | (with_reducible exact gantrylaw1_wakes.mono _)
   | (with_reducible exact word_Un.mono _ _ _ _)
   | (with_reducible exact LeO.refl _)
   | (with_reducible exact LeO.none _)
   | (with_reducible refine LeO.ite ?_ ?_)
   | (with_reducible refine LeO.bind ?_ (fun _ => ?_))
   | exact ih0 _ _
   | exact ih1 _ _ _
   | exact ih2 _ _ _ _ _ _ _
   | exact ih3 _ _ _ _ _ _
   | exact gantrylaw1_bin.mono _ _ _ _ _
   | exact gantrylaw1_wakes.mono _
   | exact word_Un.mono _ _ _ _
   | exact LeO.none _
   | refine LeO.ite ?_ ?_
   | refine LeO.bind ?_ (fun _ => ?_)
  ·intro y0 y1 y2 y3 y4 y5 y6
   unfold gantrylaw1_WordFloats.j2
   repeat' first
   | (with_reducible exact ih0 _ _)
   | (with_reducible exact ih1 _ _ _)
   | (with_reducible exact ih2 _ _ _ _ _ _ _)
   | (with_reducible exact ih3 _ _ _ _ _ _)
   | (with_reducible exact gantrylaw1_bin.mono _ _ _ _ _)
   | (with_reducible exact gantrylaw1_wakes.mono _)
   | (with_reducible exact word_Un.mono _ _ _ _)
   | (with_reducible exact LeO.refl _)
   | (with_reducible exact LeO.none _)
   | (with_reducible refine LeO.ite ?_ ?_)
   | (with_reducible refine LeO.bind ?_ (fun _ => ?_))
   | exact ih0 _ _
   | exact ih1 _ _ _
   | exact ih2 _ _ _ _ _ _ _
   | exact ih3 _ _ _ _ _ _
   | exact gantrylaw1_bin.mono _ _ _ _ _
   | exact gantrylaw1_wakes.mono _
   | exact word_Un.mono _ _ _ _
   | exact LeO.none _
   | refine LeO.ite ?_ ?_
   | refine LeO.bind ?_ (fun _ => ?_)
  ·intro y0 y1 y2 y3 y4 y5
   unfold gantrylaw1_WordFloats.j3
   repeat' first
   | (with_reducible exact ih0 _ _)
   | (with_reducible exact ih1 _ _ _)
   | (with_reducible exact ih2 _ _ _ _ _ _ _)
   | (with_reducible exact ih3 _ _ _ _ _ _)
   | (with_reducible exact gantrylaw1_bin.mono _ _ _ _ _)
   | (with_reducible exact gantrylaw1_wakes.mono _)
   | (with_reducible exact word_Un.mono _ _ _ _)
   | (with_reducible exact LeO.refl _)
   | (with_reducible exact LeO.none _)
   | (with_reducible refine LeO.ite ?_ ?_)
   | (with_reducible refine LeO.bind ?_ (fun _ => ?_))
   | exact ih0 _ _
   | exact ih1 _ _ _
   | exact ih2 _ _ _ _ _ _ _
   | exact ih3 _ _ _ _ _ _
   | exact gantrylaw1_bin.mono _ _ _ _ _
   | exact gantrylaw1_wakes.mono _
   | exact word_Un.mono _ _ _ _
   | exact LeO.none _
   | refine LeO.ite ?_ ?_
   | refine LeO.bind ?_ (fun _ => ?_)
theorem gantrylaw1_WordFloats.mono : ∀ a0 k, LeO (gantrylaw1_WordFloats.f k a0) (gantrylaw1_WordFloats.f (k + 1) a0) := by
 intro a0 k
 obtain ⟨ih0, ih1, ih2, ih3⟩ := gantrylaw1_WordFloats.mono_l k
 unfold gantrylaw1_WordFloats.f
 repeat' first
   | (with_reducible exact ih0 _ _)
   | (with_reducible exact ih1 _ _ _)
   | (with_reducible exact ih2 _ _ _ _ _ _ _)
   | (with_reducible exact ih3 _ _ _ _ _ _)
   | (with_reducible exact gantrylaw1_bin.mono _ _ _ _ _)
   | (with_reducible exact gantrylaw1_wakes.mono _)
   | (with_reducible exact word_Un.mono _ _ _ _)
   | (with_reducible exact LeO.refl _)
   | (with_reducible exact LeO.none _)
   | (with_reducible refine LeO.ite ?_ ?_)
   | (with_reducible refine LeO.bind ?_ (fun _ => ?_))
   | exact ih0 _ _
   | exact ih1 _ _ _
   | exact ih2 _ _ _ _ _ _ _
   | exact ih3 _ _ _ _ _ _
   | exact gantrylaw1_bin.mono _ _ _ _ _
   | exact gantrylaw1_wakes.mono _
   | exact word_Un.mono _ _ _ _
   | exact LeO.none _
   | refine LeO.ite ?_ ?_
   | refine LeO.bind ?_ (fun _ => ?_)
set_option maxHeartbeats 8000000 in
set_option maxRecDepth 100000 in
theorem gantrylaw1_WordFloats.calls (k : Nat) (A0 : Option Addr) (c0 : Nat) (l0 : List (S25)) (r : Bool) (w : World) (hr0 : Kd.C k25 w A0 l0.length l0) (hc0 : l0.length ≤ c0) (h : gantrylaw1_WordFloats.f k l0 = some r) :
  Calls Try.prog 5 #[.slice A0 l0.length c0] w fun e w' => e = .returned (.bool r) ∧ Below w.heap.size w w' := by
 have HR0 := Aside0.mk hr0
 have HC0 := Aside0.mk hc0
 clear hr0 hc0
 have HB := Aside0.mk (Below.refl w.heap.size w)
 have H : (gantrylaw1_WordFloats.l0 k l0 0) = some r := h
 clear h
 have H' := Aside0.mk H
 clear H
 go_enter Try.func5, Try.ntmps5
 go_wp2
 go_loopg [3] k (fun kq v3 w' => ∃ (x3_1 : Int), v3 = .int .i64 x3_1 ∧ Aside0 (gantrylaw1_WordFloats.l0 kq l0 x3_1 = some r) ∧ Aside0 (kq ≤ k) ∧ Aside0 (Below w.heap.size w w'))
 case atStart => exact ⟨(0), (by first | rfl | (simp; done) | (simp [*]; done)), H', ⟨Nat.le_refl _⟩, ⟨by repeat (first | (with_reducible first | exact HB.out | apply below_alloc | apply pw_below_drewN | apply below_drew1) | exact HB.out)⟩⟩
 case round =>
  clear H'
  obtain ⟨x3_1, rfl, HA, HK1, HB⟩ := hrel
  cases gk with
  | zero => exact absurd HA.out (by simp [gantrylaw1_WordFloats.l0])
  | succ k1 =>
   have H := HA.out
   clear HA
   simp only [gantrylaw1_WordFloats.l0] at H
   have HC2 := Aside0.mk H
   clear H
   go_upto_region 2 with (fail)
   go_cut [17] (fun v17 wc => ∃ (kq : Nat) (x17_1 : Bool), v17 = .bool x17_1 ∧ Aside0 (gantrylaw1_WordFloats.j1 kq l0 x3_1 x17_1 = some r) ∧ Aside0 (kq ≤ k1) ∧ Aside0 (Below w.heap.size w wc))
   case first =>
    have H := HC2.out
    clear HC2
    by_cases c3 : x3_1 < (l0.length : Int)
    ·rw [if_pos c3] at H
     have c3b0 : decide (x3_1 < (l0.length : Int)) = true := decide_eq_true c3
     clear c3
     (first | rw [c3b0] | (simp only [i64_w, i32_w]; rw [c3b0]) | skip)
     have H' := Aside0.mk H
     clear H
     go_wp2
     go_meet
     case rel => exact ⟨_, (decide (x3_1 < 200)), (by first | rfl | (simp; done) | (simp [*]; done)), H', ⟨by have := HK1.out; first | omega | exact Nat.le_refl _⟩, ⟨by repeat (first | (with_reducible first | exact HB.out | apply below_alloc | apply pw_below_drewN | apply below_drew1) | exact HB.out)⟩⟩
    ·rw [if_neg c3] at H
     have c3b0 : decide (x3_1 < (l0.length : Int)) = false := decide_eq_false c3
     clear c3
     (first | rw [c3b0] | (simp only [i64_w, i32_w]; rw [c3b0]) | skip)
     have H' := Aside0.mk H
     clear H
     go_wp2
     go_meet
     case rel => exact ⟨_, (false), (by first | rfl | (simp; done) | (simp [*]; done)), H', ⟨by have := HK1.out; first | omega | exact Nat.le_refl _⟩, ⟨by repeat (first | (with_reducible first | exact HB.out | apply below_alloc | apply pw_below_drewN | apply below_drew1) | exact HB.out)⟩⟩
   case rest =>
    clear HC2
    try clear p2
    try clear c3
    try clear c3b0
    obtain ⟨kq, x17_1, rfl, HA, HJ1, HB⟩ := hcut
    cases kq with
    | zero => exact absurd HA.out (by simp [gantrylaw1_WordFloats.j1])
    | succ kj1 =>
     have H := HA.out
     clear HA
     simp only [gantrylaw1_WordFloats.j1] at H
     by_cases c4 : x17_1 = true
     ·subst c4
      have H1 : (if 0 ≤ x3_1 then (if x3_1 < (l0.length : Int) then ((gantrylaw1_bin.f kj1 1 10 ((rd_T25 l0 x3_1).f3) ((rd_T25 l0 x3_1).f4)).bind fun t193 => ((word_Un.f kj1 1 10 ((rd_T25 l0 x3_1).f4)).bind fun bt194 => ((gantrylaw1_num.f bt194.2).bind fun t196 => (if t196 = 0 then ((gantrylaw1_bin.f kj1 1 10 ((rd_T25 l0 x3_1).f4) ((rd_T25 l0 x3_1).f3)).bind fun t197 => (if t193 = t197 then ((gantrylaw1_bin.f kj1 3 10 ((rd_T25 l0 x3_1).f3) ((rd_T25 l0 x3_1).f4)).bind fun t198 => ((gantrylaw1_bin.f kj1 3 10 ((rd_T25 l0 x3_1).f4) ((rd_T25 l0 x3_1).f3)).bind fun t199 => (if t198 = t199 then ((gantrylaw1_bin.f kj1 2 10 ((rd_T25 l0 x3_1).f3) ((rd_T25 l0 x3_1).f4)).bind fun t200 => ((gantrylaw1_bin.f kj1 1 10 ((rd_T25 l0 x3_1).f3) bt194.1).bind fun t201 => (if t200 = t201 then (gantrylaw1_WordFloats.j2 kj1 l0 x3_1 ((rd_T25 l0 x3_1).f3) ((rd_T25 l0 x3_1).f4) 10 t193 (bt194.1 != (Go.bits .xor .u64 ((rd_T25 l0 x3_1).f4) 9223372036854775808))) else (gantrylaw1_WordFloats.j2 kj1 l0 x3_1 ((rd_T25 l0 x3_1).f3) ((rd_T25 l0 x3_1).f4) 10 t193 true)))) else (gantrylaw1_WordFloats.j2 kj1 l0 x3_1 ((rd_T25 l0 x3_1).f3) ((rd_T25 l0 x3_1).f4) 10 t193 true)))) else (gantrylaw1_WordFloats.j2 kj1 l0 x3_1 ((rd_T25 l0 x3_1).f3) ((rd_T25 l0 x3_1).f4) 10 t193 true))) else (gantrylaw1_WordFloats.j2 kj1 l0 x3_1 ((rd_T25 l0 x3_1).f3) ((rd_T25 l0 x3_1).f4) 10 t193 true))))) else (none)) else (none)) = some r := by rw [if_pos rfl] at H; exact H
      clear H
      have H := H1
      clear H1
      by_cases c5 : 0 ≤ x3_1
      ·rw [if_pos c5] at H
       have c5b0 : decide (0 ≤ x3_1) = true := decide_eq_true c5
       clear c5
       by_cases c6 : x3_1 < (l0.length : Int)
       ·rw [if_pos c6] at H
        have c6b0 : decide (x3_1 < (l0.length : Int)) = true := decide_eq_true c6
        clear c6
        replace H := Option.bind_eq_some_iff.mp H
        obtain ⟨t193, A70, H⟩ := H
        replace H : ((word_Un.f kj1 1 10 ((rd_T25 l0 x3_1).f4)).bind fun bt194 => ((gantrylaw1_num.f bt194.2).bind fun t196 => (if t196 = 0 then ((gantrylaw1_bin.f kj1 1 10 ((rd_T25 l0 x3_1).f4) ((rd_T25 l0 x3_1).f3)).bind fun t197 => (if t193 = t197 then ((gantrylaw1_bin.f kj1 3 10 ((rd_T25 l0 x3_1).f3) ((rd_T25 l0 x3_1).f4)).bind fun t198 => ((gantrylaw1_bin.f kj1 3 10 ((rd_T25 l0 x3_1).f4) ((rd_T25 l0 x3_1).f3)).bind fun t199 => (if t198 = t199 then ((gantrylaw1_bin.f kj1 2 10 ((rd_T25 l0 x3_1).f3) ((rd_T25 l0 x3_1).f4)).bind fun t200 => ((gantrylaw1_bin.f kj1 1 10 ((rd_T25 l0 x3_1).f3) bt194.1).bind fun t201 => (if t200 = t201 then (gantrylaw1_WordFloats.j2 kj1 l0 x3_1 ((rd_T25 l0 x3_1).f3) ((rd_T25 l0 x3_1).f4) 10 t193 (bt194.1 != (Go.bits .xor .u64 ((rd_T25 l0 x3_1).f4) 9223372036854775808))) else (gantrylaw1_WordFloats.j2 kj1 l0 x3_1 ((rd_T25 l0 x3_1).f3) ((rd_T25 l0 x3_1).f4) 10 t193 true)))) else (gantrylaw1_WordFloats.j2 kj1 l0 x3_1 ((rd_T25 l0 x3_1).f3) ((rd_T25 l0 x3_1).f4) 10 t193 true)))) else (gantrylaw1_WordFloats.j2 kj1 l0 x3_1 ((rd_T25 l0 x3_1).f3) ((rd_T25 l0 x3_1).f4) 10 t193 true))) else (gantrylaw1_WordFloats.j2 kj1 l0 x3_1 ((rd_T25 l0 x3_1).f3) ((rd_T25 l0 x3_1).f4) 10 t193 true)))) = some r := H
        have A7 := Aside0.mk A70
        clear A70
        replace H := Option.bind_eq_some_iff.mp H
        obtain ⟨⟨t194, t195⟩, A80, H⟩ := H
        replace H : ((gantrylaw1_num.f t195).bind fun t196 => (if t196 = 0 then ((gantrylaw1_bin.f kj1 1 10 ((rd_T25 l0 x3_1).f4) ((rd_T25 l0 x3_1).f3)).bind fun t197 => (if t193 = t197 then ((gantrylaw1_bin.f kj1 3 10 ((rd_T25 l0 x3_1).f3) ((rd_T25 l0 x3_1).f4)).bind fun t198 => ((gantrylaw1_bin.f kj1 3 10 ((rd_T25 l0 x3_1).f4) ((rd_T25 l0 x3_1).f3)).bind fun t199 => (if t198 = t199 then ((gantrylaw1_bin.f kj1 2 10 ((rd_T25 l0 x3_1).f3) ((rd_T25 l0 x3_1).f4)).bind fun t200 => ((gantrylaw1_bin.f kj1 1 10 ((rd_T25 l0 x3_1).f3) t194).bind fun t201 => (if t200 = t201 then (gantrylaw1_WordFloats.j2 kj1 l0 x3_1 ((rd_T25 l0 x3_1).f3) ((rd_T25 l0 x3_1).f4) 10 t193 (t194 != (Go.bits .xor .u64 ((rd_T25 l0 x3_1).f4) 9223372036854775808))) else (gantrylaw1_WordFloats.j2 kj1 l0 x3_1 ((rd_T25 l0 x3_1).f3) ((rd_T25 l0 x3_1).f4) 10 t193 true)))) else (gantrylaw1_WordFloats.j2 kj1 l0 x3_1 ((rd_T25 l0 x3_1).f3) ((rd_T25 l0 x3_1).f4) 10 t193 true)))) else (gantrylaw1_WordFloats.j2 kj1 l0 x3_1 ((rd_T25 l0 x3_1).f3) ((rd_T25 l0 x3_1).f4) 10 t193 true))) else (gantrylaw1_WordFloats.j2 kj1 l0 x3_1 ((rd_T25 l0 x3_1).f3) ((rd_T25 l0 x3_1).f4) 10 t193 true))) = some r := H
        have A8 := Aside0.mk A80
        clear A80
        have HC9 := Aside0.mk H
        clear H
        have p191 : 0 ≤ (x3_1 : Int) := of_decide_eq_true (by first | (with_reducible assumption) | assumption)
        have q191 : x3_1 < (l0.length : Int) := of_decide_eq_true (by first | (with_reducible assumption) | assumption)
        obtain ⟨ad191, e191, hx191_0, hx191_1, hx191_2, hx191_3, hx191_4⟩ := at_T25 HR0.out x3_1 p191 q191
        cases e191
        replace hx191_0 := (HB.out.cell (World.block_lt_of_cell? w _ hx191_0)).trans hx191_0
        replace hx191_1 := (HB.out.cell (World.block_lt_of_cell? w _ hx191_1)).trans hx191_1
        replace hx191_2 := (HB.out.cell (World.block_lt_of_cell? w _ hx191_2)).trans hx191_2
        replace hx191_3 := (HB.out.cell (World.block_lt_of_cell? w _ hx191_3)).trans hx191_3
        replace hx191_4 := (HB.out.cell (World.block_lt_of_cell? w _ hx191_4)).trans hx191_4
        replace p191 := eq_true p191
        replace q191 := eq_true q191
        have p192 : 0 ≤ (x3_1 : Int) := of_decide_eq_true (by first | (with_reducible assumption) | assumption)
        have q192 : x3_1 < (l0.length : Int) := of_decide_eq_true (by first | (with_reducible assumption) | assumption)
        obtain ⟨ad192, e192, hx192_0, hx192_1, hx192_2, hx192_3, hx192_4⟩ := at_T25 HR0.out x3_1 p192 q192
        obtain rfl : ad191 = ad192 := (by injection e192)
        replace hx192_0 := (HB.out.cell (World.block_lt_of_cell? w _ hx192_0)).trans hx192_0
        replace hx192_1 := (HB.out.cell (World.block_lt_of_cell? w _ hx192_1)).trans hx192_1
        replace hx192_2 := (HB.out.cell (World.block_lt_of_cell? w _ hx192_2)).trans hx192_2
        replace hx192_3 := (HB.out.cell (World.block_lt_of_cell? w _ hx192_3)).trans hx192_3
        replace hx192_4 := (HB.out.cell (World.block_lt_of_cell? w _ hx192_4)).trans hx192_4
        replace p192 := eq_true p192
        replace q192 := eq_true q192
        go_upto_region 9 with (first | ((with_reducible refine gate_callee (f := 16) rfl ?_); refine goesL_ (some 33) rfl rfl Try.func16 (by kernel_rfl) rfl #[.int .i64 1, .int .i64 10, .int .u64 ((rd_T25 l0 x3_1).f3), .int .u64 ((rd_T25 l0 x3_1).f4)] rfl (by (try simp only [List.map_toArray, List.map_cons, List.map_nil]); first | done | rfl | (simp only [List.length_drop, List.length_take]; rfl)) ?_; (with_reducible refine (gantrylaw1_bin.calls kj1 1 10 ((rd_T25 l0 x3_1).f3) ((rd_T25 l0 x3_1).f4) t193 _ A7.out).mono ?_); rintro e w10 ⟨rfl, hb⟩; refine ⟨_, rfl, ?_⟩; have n0_ := Aside0.mk (below_step (by repeat (first | (with_reducible first | exact HB.out | apply below_alloc | apply pw_below_drewN | apply below_drew1) | exact HB.out)) hb); clear HB; have HB := n0_; clear n0_; (try clear hb); (try clear hb2); (try clear hk); (try clear hi)) | ((with_reducible refine gate_callee (f := 19) rfl ?_); refine goesL_ (some 37) rfl rfl Try.func19 (by kernel_rfl) rfl #[.int .i64 1, .int .i64 10, .int .u64 ((rd_T25 l0 x3_1).f4)] rfl (by (try simp only [List.map_toArray, List.map_cons, List.map_nil]); first | done | rfl | (simp only [List.length_drop, List.length_take]; rfl)) ?_; (with_reducible refine (word_Un.calls kj1 1 10 ((rd_T25 l0 x3_1).f4) t194 t195 _ A8.out).mono ?_); rintro e w' ⟨rfl, ⟨nd, rfl⟩⟩; refine ⟨_, rfl, ?_⟩))
        (try simp only [Act.put, List.setIfInBounds_toArray, List.set_cons_zero, List.set_cons_succ])
        go_cut [78] (fun v78 wc => ∃ (kq : Nat) (x78_8 : Bool), v78 = .bool x78_8 ∧ Aside0 (gantrylaw1_WordFloats.j2 kq l0 x3_1 ((rd_T25 l0 x3_1).f3) ((rd_T25 l0 x3_1).f4) 10 t193 x78_8 = some r) ∧ Aside0 (kq ≤ kj1) ∧ Aside0 (Below w.heap.size w wc))
        case first =>
         have H := HC9.out
         clear HC9
         replace H := Option.bind_eq_some_iff.mp H
         obtain ⟨t196, A110, H⟩ := H
         replace H : (if t196 = 0 then ((gantrylaw1_bin.f kj1 1 10 ((rd_T25 l0 x3_1).f4) ((rd_T25 l0 x3_1).f3)).bind fun t197 => (if t193 = t197 then ((gantrylaw1_bin.f kj1 3 10 ((rd_T25 l0 x3_1).f3) ((rd_T25 l0 x3_1).f4)).bind fun t198 => ((gantrylaw1_bin.f kj1 3 10 ((rd_T25 l0 x3_1).f4) ((rd_T25 l0 x3_1).f3)).bind fun t199 => (if t198 = t199 then ((gantrylaw1_bin.f kj1 2 10 ((rd_T25 l0 x3_1).f3) ((rd_T25 l0 x3_1).f4)).bind fun t200 => ((gantrylaw1_bin.f kj1 1 10 ((rd_T25 l0 x3_1).f3) t194).bind fun t201 => (if t200 = t201 then (gantrylaw1_WordFloats.j2 kj1 l0 x3_1 ((rd_T25 l0 x3_1).f3) ((rd_T25 l0 x3_1).f4) 10 t193 (t194 != (Go.bits .xor .u64 ((rd_T25 l0 x3_1).f4) 9223372036854775808))) else (gantrylaw1_WordFloats.j2 kj1 l0 x3_1 ((rd_T25 l0 x3_1).f3) ((rd_T25 l0 x3_1).f4) 10 t193 true)))) else (gantrylaw1_WordFloats.j2 kj1 l0 x3_1 ((rd_T25 l0 x3_1).f3) ((rd_T25 l0 x3_1).f4) 10 t193 true)))) else (gantrylaw1_WordFloats.j2 kj1 l0 x3_1 ((rd_T25 l0 x3_1).f3) ((rd_T25 l0 x3_1).f4) 10 t193 true))) else (gantrylaw1_WordFloats.j2 kj1 l0 x3_1 ((rd_T25 l0 x3_1).f3) ((rd_T25 l0 x3_1).f4) 10 t193 true)) = some r := H
         have A11 := Aside0.mk A110
         clear A110
         by_cases c12 : t196 = 0
         ·rw [if_pos c12] at H
          have c12b0 : (t196 == 0) = true := beq_iff_eq.mpr c12
          have c12b1 : (t196 != 0) = false := bne_eq_false_iff_eq.mpr c12
          clear c12
          (first | rw [c12b0] | (simp only [i64_w, i32_w]; rw [c12b0]) | skip)
          replace H := Option.bind_eq_some_iff.mp H
          obtain ⟨t197, A130, H⟩ := H
          replace H : (if t193 = t197 then ((gantrylaw1_bin.f kj1 3 10 ((rd_T25 l0 x3_1).f3) ((rd_T25 l0 x3_1).f4)).bind fun t198 => ((gantrylaw1_bin.f kj1 3 10 ((rd_T25 l0 x3_1).f4) ((rd_T25 l0 x3_1).f3)).bind fun t199 => (if t198 = t199 then ((gantrylaw1_bin.f kj1 2 10 ((rd_T25 l0 x3_1).f3) ((rd_T25 l0 x3_1).f4)).bind fun t200 => ((gantrylaw1_bin.f kj1 1 10 ((rd_T25 l0 x3_1).f3) t194).bind fun t201 => (if t200 = t201 then (gantrylaw1_WordFloats.j2 kj1 l0 x3_1 ((rd_T25 l0 x3_1).f3) ((rd_T25 l0 x3_1).f4) 10 t193 (t194 != (Go.bits .xor .u64 ((rd_T25 l0 x3_1).f4) 9223372036854775808))) else (gantrylaw1_WordFloats.j2 kj1 l0 x3_1 ((rd_T25 l0 x3_1).f3) ((rd_T25 l0 x3_1).f4) 10 t193 true)))) else (gantrylaw1_WordFloats.j2 kj1 l0 x3_1 ((rd_T25 l0 x3_1).f3) ((rd_T25 l0 x3_1).f4) 10 t193 true)))) else (gantrylaw1_WordFloats.j2 kj1 l0 x3_1 ((rd_T25 l0 x3_1).f3) ((rd_T25 l0 x3_1).f4) 10 t193 true)) = some r := H
          have A13 := Aside0.mk A130
          clear A130
          by_cases c14 : t193 = t197
          ·rw [if_pos c14] at H
           have c14b0 : (t193 == t197) = true := beq_iff_eq.mpr c14
           have c14b1 : (t193 != t197) = false := bne_eq_false_iff_eq.mpr c14
           clear c14
           replace H := Option.bind_eq_some_iff.mp H
           obtain ⟨t198, A150, H⟩ := H
           replace H : ((gantrylaw1_bin.f kj1 3 10 ((rd_T25 l0 x3_1).f4) ((rd_T25 l0 x3_1).f3)).bind fun t199 => (if t198 = t199 then ((gantrylaw1_bin.f kj1 2 10 ((rd_T25 l0 x3_1).f3) ((rd_T25 l0 x3_1).f4)).bind fun t200 => ((gantrylaw1_bin.f kj1 1 10 ((rd_T25 l0 x3_1).f3) t194).bind fun t201 => (if t200 = t201 then (gantrylaw1_WordFloats.j2 kj1 l0 x3_1 ((rd_T25 l0 x3_1).f3) ((rd_T25 l0 x3_1).f4) 10 t193 (t194 != (Go.bits .xor .u64 ((rd_T25 l0 x3_1).f4) 9223372036854775808))) else (gantrylaw1_WordFloats.j2 kj1 l0 x3_1 ((rd_T25 l0 x3_1).f3) ((rd_T25 l0 x3_1).f4) 10 t193 true)))) else (gantrylaw1_WordFloats.j2 kj1 l0 x3_1 ((rd_T25 l0 x3_1).f3) ((rd_T25 l0 x3_1).f4) 10 t193 true))) = some r := H
           have A15 := Aside0.mk A150
           clear A150
           replace H := Option.bind_eq_some_iff.mp H
           obtain ⟨t199, A160, H⟩ := H
           replace H : (if t198 = t199 then ((gantrylaw1_bin.f kj1 2 10 ((rd_T25 l0 x3_1).f3) ((rd_T25 l0 x3_1).f4)).bind fun t200 => ((gantrylaw1_bin.f kj1 1 10 ((rd_T25 l0 x3_1).f3) t194).bind fun t201 => (if t200 = t201 then (gantrylaw1_WordFloats.j2 kj1 l0 x3_1 ((rd_T25 l0 x3_1).f3) ((rd_T25 l0 x3_1).f4) 10 t193 (t194 != (Go.bits .xor .u64 ((rd_T25 l0 x3_1).f4) 9223372036854775808))) else (gantrylaw1_WordFloats.j2 kj1 l0 x3_1 ((rd_T25 l0 x3_1).f3) ((rd_T25 l0 x3_1).f4) 10 t193 true)))) else (gantrylaw1_WordFloats.j2 kj1 l0 x3_1 ((rd_T25 l0 x3_1).f3) ((rd_T25 l0 x3_1).f4) 10 t193 true)) = some r := H
           have A16 := Aside0.mk A160
           clear A160
           by_cases c17 : t198 = t199
           ·rw [if_pos c17] at H
            have c17b0 : (t198 == t199) = true := beq_iff_eq.mpr c17
            have c17b1 : (t198 != t199) = false := bne_eq_false_iff_eq.mpr c17
            clear c17
            replace H := Option.bind_eq_some_iff.mp H
            obtain ⟨t200, A180, H⟩ := H
            replace H : ((gantrylaw1_bin.f kj1 1 10 ((rd_T25 l0 x3_1).f3) t194).bind fun t201 => (if t200 = t201 then (gantrylaw1_WordFloats.j2 kj1 l0 x3_1 ((rd_T25 l0 x3_1).f3) ((rd_T25 l0 x3_1).f4) 10 t193 (t194 != (Go.bits .xor .u64 ((rd_T25 l0 x3_1).f4) 9223372036854775808))) else (gantrylaw1_WordFloats.j2 kj1 l0 x3_1 ((rd_T25 l0 x3_1).f3) ((rd_T25 l0 x3_1).f4) 10 t193 true))) = some r := H
            have A18 := Aside0.mk A180
            clear A180
            replace H := Option.bind_eq_some_iff.mp H
            obtain ⟨t201, A190, H⟩ := H
            replace H : (if t200 = t201 then (gantrylaw1_WordFloats.j2 kj1 l0 x3_1 ((rd_T25 l0 x3_1).f3) ((rd_T25 l0 x3_1).f4) 10 t193 (t194 != (Go.bits .xor .u64 ((rd_T25 l0 x3_1).f4) 9223372036854775808))) else (gantrylaw1_WordFloats.j2 kj1 l0 x3_1 ((rd_T25 l0 x3_1).f3) ((rd_T25 l0 x3_1).f4) 10 t193 true)) = some r := H
            have A19 := Aside0.mk A190
            clear A190
            by_cases c20 : t200 = t201
            ·rw [if_pos c20] at H
             have c20b0 : (t200 == t201) = true := beq_iff_eq.mpr c20
             have c20b1 : (t200 != t201) = false := bne_eq_false_iff_eq.mpr c20
             clear c20
             have H' := Aside0.mk H
             clear H
             go_wp2_with (first | ((with_reducible refine gate_callee (f := 20) rfl ?_); refine goesL_ (some 41) rfl rfl Try.func20 (by kernel_rfl) rfl #[.int .i64 t195] rfl (by (try simp only [List.map_toArray, List.map_cons, List.map_nil]); first | done | rfl | (simp only [List.length_drop, List.length_take]; rfl)) ?_; (with_reducible refine (gantrylaw1_num.calls t195 t196 _ A11.out).mono ?_); rintro e w' ⟨rfl, ⟨nd, rfl⟩⟩; refine ⟨_, rfl, ?_⟩) | (go_at_call 16; (with_reducible refine (gantrylaw1_bin.calls kj1 1 10 ((rd_T25 l0 x3_1).f4) ((rd_T25 l0 x3_1).f3) t197 _ A13.out).mono ?_); rintro e w21 ⟨rfl, hb⟩; have n0_ := Aside0.mk (below_step (by repeat (first | (with_reducible first | exact HB.out | apply below_alloc | apply pw_below_drewN | apply below_drew1) | exact HB.out)) hb); clear HB; have HB := n0_; clear n0_; (try clear hb); (try clear hb2); (try clear hk); (try clear hi)) | (go_at_call 16; (with_reducible refine (gantrylaw1_bin.calls kj1 3 10 ((rd_T25 l0 x3_1).f3) ((rd_T25 l0 x3_1).f4) t198 _ A15.out).mono ?_); rintro e w22 ⟨rfl, hb⟩; have n0_ := Aside0.mk (below_step (by repeat (first | (with_reducible first | exact HB.out | apply below_alloc | apply pw_below_drewN | apply below_drew1) | exact HB.out)) hb); clear HB; have HB := n0_; clear n0_; (try clear hb); (try clear hb2); (try clear hk); (try clear hi)) | (go_at_call 16; (with_reducible refine (gantrylaw1_bin.calls kj1 3 10 ((rd_T25 l0 x3_1).f4) ((rd_T25 l0 x3_1).f3) t199 _ A16.out).mono ?_); rintro e w23 ⟨rfl, hb⟩; have n0_ := Aside0.mk (below_step (by repeat (first | (with_reducible first | exact HB.out | apply below_alloc | apply pw_below_drewN | apply below_drew1) | exact HB.out)) hb); clear HB; have HB := n0_; clear n0_; (try clear hb); (try clear hb2); (try clear hk); (try clear hi)) | (go_at_call 16; (with_reducible refine (gantrylaw1_bin.calls kj1 2 10 ((rd_T25 l0 x3_1).f3) ((rd_T25 l0 x3_1).f4) t200 _ A18.out).mono ?_); rintro e w24 ⟨rfl, hb⟩; have n0_ := Aside0.mk (below_step (by repeat (first | (with_reducible first | exact HB.out | apply below_alloc | apply pw_below_drewN | apply below_drew1) | exact HB.out)) hb); clear HB; have HB := n0_; clear n0_; (try clear hb); (try clear hb2); (try clear hk); (try clear hi)) | (go_at_call 16; (with_reducible refine (gantrylaw1_bin.calls kj1 1 10 ((rd_T25 l0 x3_1).f3) t194 t201 _ A19.out).mono ?_); rintro e w25 ⟨rfl, hb⟩; have n0_ := Aside0.mk (below_step (by repeat (first | (with_reducible first | exact HB.out | apply below_alloc | apply pw_below_drewN | apply below_drew1) | exact HB.out)) hb); clear HB; have HB := n0_; clear n0_; (try clear hb); (try clear hb2); (try clear hk); (try clear hi)))
             go_meet
             case rel => exact ⟨_, ((t194 != (Go.bits .xor .u64 ((rd_T25 l0 x3_1).f4) 9223372036854775808))), (by first | rfl | (simp; done) | (simp [*]; done)), H', ⟨by have := HK1.out; have := HJ1.out; first | omega | exact Nat.le_refl _⟩, ⟨by repeat (first | (with_reducible first | exact HB.out | apply below_alloc | apply pw_below_drewN | apply below_drew1) | exact HB.out)⟩⟩
            ·rw [if_neg c20] at H
             have c20b0 : (t200 == t201) = false := beq_eq_false_iff_ne.mpr c20
             have c20b1 : (t200 != t201) = true := bne_iff_ne.mpr c20
             have H' := Aside0.mk H
             clear H
             go_wp2_with (first | ((with_reducible refine gate_callee (f := 20) rfl ?_); refine goesL_ (some 41) rfl rfl Try.func20 (by kernel_rfl) rfl #[.int .i64 t195] rfl (by (try simp only [List.map_toArray, List.map_cons, List.map_nil]); first | done | rfl | (simp only [List.length_drop, List.length_take]; rfl)) ?_; (with_reducible refine (gantrylaw1_num.calls t195 t196 _ A11.out).mono ?_); rintro e w' ⟨rfl, ⟨nd, rfl⟩⟩; refine ⟨_, rfl, ?_⟩) | (go_at_call 16; (with_reducible refine (gantrylaw1_bin.calls kj1 1 10 ((rd_T25 l0 x3_1).f4) ((rd_T25 l0 x3_1).f3) t197 _ A13.out).mono ?_); rintro e w26 ⟨rfl, hb⟩; have n0_ := Aside0.mk (below_step (by repeat (first | (with_reducible first | exact HB.out | apply below_alloc | apply pw_below_drewN | apply below_drew1) | exact HB.out)) hb); clear HB; have HB := n0_; clear n0_; (try clear hb); (try clear hb2); (try clear hk); (try clear hi)) | (go_at_call 16; (with_reducible refine (gantrylaw1_bin.calls kj1 3 10 ((rd_T25 l0 x3_1).f3) ((rd_T25 l0 x3_1).f4) t198 _ A15.out).mono ?_); rintro e w27 ⟨rfl, hb⟩; have n0_ := Aside0.mk (below_step (by repeat (first | (with_reducible first | exact HB.out | apply below_alloc | apply pw_below_drewN | apply below_drew1) | exact HB.out)) hb); clear HB; have HB := n0_; clear n0_; (try clear hb); (try clear hb2); (try clear hk); (try clear hi)) | (go_at_call 16; (with_reducible refine (gantrylaw1_bin.calls kj1 3 10 ((rd_T25 l0 x3_1).f4) ((rd_T25 l0 x3_1).f3) t199 _ A16.out).mono ?_); rintro e w28 ⟨rfl, hb⟩; have n0_ := Aside0.mk (below_step (by repeat (first | (with_reducible first | exact HB.out | apply below_alloc | apply pw_below_drewN | apply below_drew1) | exact HB.out)) hb); clear HB; have HB := n0_; clear n0_; (try clear hb); (try clear hb2); (try clear hk); (try clear hi)) | (go_at_call 16; (with_reducible refine (gantrylaw1_bin.calls kj1 2 10 ((rd_T25 l0 x3_1).f3) ((rd_T25 l0 x3_1).f4) t200 _ A18.out).mono ?_); rintro e w29 ⟨rfl, hb⟩; have n0_ := Aside0.mk (below_step (by repeat (first | (with_reducible first | exact HB.out | apply below_alloc | apply pw_below_drewN | apply below_drew1) | exact HB.out)) hb); clear HB; have HB := n0_; clear n0_; (try clear hb); (try clear hb2); (try clear hk); (try clear hi)) | (go_at_call 16; (with_reducible refine (gantrylaw1_bin.calls kj1 1 10 ((rd_T25 l0 x3_1).f3) t194 t201 _ A19.out).mono ?_); rintro e w30 ⟨rfl, hb⟩; have n0_ := Aside0.mk (below_step (by repeat (first | (with_reducible first | exact HB.out | apply below_alloc | apply pw_below_drewN | apply below_drew1) | exact HB.out)) hb); clear HB; have HB := n0_; clear n0_; (try clear hb); (try clear hb2); (try clear hk); (try clear hi)))
             go_meet
             case rel => exact ⟨_, (true), (by first | rfl | (simp; done) | (simp [*]; done)), H', ⟨by have := HK1.out; have := HJ1.out; first | omega | exact Nat.le_refl _⟩, ⟨by repeat (first | (with_reducible first | exact HB.out | apply below_alloc | apply pw_below_drewN | apply below_drew1) | exact HB.out)⟩⟩
           ·rw [if_neg c17] at H
            have c17b0 : (t198 == t199) = false := beq_eq_false_iff_ne.mpr c17
            have c17b1 : (t198 != t199) = true := bne_iff_ne.mpr c17
            have H' := Aside0.mk H
            clear H
            go_wp2_with (first | ((with_reducible refine gate_callee (f := 20) rfl ?_); refine goesL_ (some 41) rfl rfl Try.func20 (by kernel_rfl) rfl #[.int .i64 t195] rfl (by (try simp only [List.map_toArray, List.map_cons, List.map_nil]); first | done | rfl | (simp only [List.length_drop, List.length_take]; rfl)) ?_; (with_reducible refine (gantrylaw1_num.calls t195 t196 _ A11.out).mono ?_); rintro e w' ⟨rfl, ⟨nd, rfl⟩⟩; refine ⟨_, rfl, ?_⟩) | (go_at_call 16; (with_reducible refine (gantrylaw1_bin.calls kj1 1 10 ((rd_T25 l0 x3_1).f4) ((rd_T25 l0 x3_1).f3) t197 _ A13.out).mono ?_); rintro e w31 ⟨rfl, hb⟩; have n0_ := Aside0.mk (below_step (by repeat (first | (with_reducible first | exact HB.out | apply below_alloc | apply pw_below_drewN | apply below_drew1) | exact HB.out)) hb); clear HB; have HB := n0_; clear n0_; (try clear hb); (try clear hb2); (try clear hk); (try clear hi)) | (go_at_call 16; (with_reducible refine (gantrylaw1_bin.calls kj1 3 10 ((rd_T25 l0 x3_1).f3) ((rd_T25 l0 x3_1).f4) t198 _ A15.out).mono ?_); rintro e w32 ⟨rfl, hb⟩; have n0_ := Aside0.mk (below_step (by repeat (first | (with_reducible first | exact HB.out | apply below_alloc | apply pw_below_drewN | apply below_drew1) | exact HB.out)) hb); clear HB; have HB := n0_; clear n0_; (try clear hb); (try clear hb2); (try clear hk); (try clear hi)) | (go_at_call 16; (with_reducible refine (gantrylaw1_bin.calls kj1 3 10 ((rd_T25 l0 x3_1).f4) ((rd_T25 l0 x3_1).f3) t199 _ A16.out).mono ?_); rintro e w33 ⟨rfl, hb⟩; have n0_ := Aside0.mk (below_step (by repeat (first | (with_reducible first | exact HB.out | apply below_alloc | apply pw_below_drewN | apply below_drew1) | exact HB.out)) hb); clear HB; have HB := n0_; clear n0_; (try clear hb); (try clear hb2); (try clear hk); (try clear hi)))
            go_meet
            case rel => exact ⟨_, (true), (by first | rfl | (simp; done) | (simp [*]; done)), H', ⟨by have := HK1.out; have := HJ1.out; first | omega | exact Nat.le_refl _⟩, ⟨by repeat (first | (with_reducible first | exact HB.out | apply below_alloc | apply pw_below_drewN | apply below_drew1) | exact HB.out)⟩⟩
          ·rw [if_neg c14] at H
           have c14b0 : (t193 == t197) = false := beq_eq_false_iff_ne.mpr c14
           have c14b1 : (t193 != t197) = true := bne_iff_ne.mpr c14
           have H' := Aside0.mk H
           clear H
           go_wp2_with (first | ((with_reducible refine gate_callee (f := 20) rfl ?_); refine goesL_ (some 41) rfl rfl Try.func20 (by kernel_rfl) rfl #[.int .i64 t195] rfl (by (try simp only [List.map_toArray, List.map_cons, List.map_nil]); first | done | rfl | (simp only [List.length_drop, List.length_take]; rfl)) ?_; (with_reducible refine (gantrylaw1_num.calls t195 t196 _ A11.out).mono ?_); rintro e w' ⟨rfl, ⟨nd, rfl⟩⟩; refine ⟨_, rfl, ?_⟩) | (go_at_call 16; (with_reducible refine (gantrylaw1_bin.calls kj1 1 10 ((rd_T25 l0 x3_1).f4) ((rd_T25 l0 x3_1).f3) t197 _ A13.out).mono ?_); rintro e w34 ⟨rfl, hb⟩; have n0_ := Aside0.mk (below_step (by repeat (first | (with_reducible first | exact HB.out | apply below_alloc | apply pw_below_drewN | apply below_drew1) | exact HB.out)) hb); clear HB; have HB := n0_; clear n0_; (try clear hb); (try clear hb2); (try clear hk); (try clear hi)))
           go_meet
           case rel => exact ⟨_, (true), (by first | rfl | (simp; done) | (simp [*]; done)), H', ⟨by have := HK1.out; have := HJ1.out; first | omega | exact Nat.le_refl _⟩, ⟨by repeat (first | (with_reducible first | exact HB.out | apply below_alloc | apply pw_below_drewN | apply below_drew1) | exact HB.out)⟩⟩
         ·rw [if_neg c12] at H
          have c12b0 : (t196 == 0) = false := beq_eq_false_iff_ne.mpr c12
          have c12b1 : (t196 != 0) = true := bne_iff_ne.mpr c12
          (first | rw [c12b0] | (simp only [i64_w, i32_w]; rw [c12b0]) | skip)
          have H' := Aside0.mk H
          clear H
          go_wp2_with (first | ((with_reducible refine gate_callee (f := 20) rfl ?_); refine goesL_ (some 41) rfl rfl Try.func20 (by kernel_rfl) rfl #[.int .i64 t195] rfl (by (try simp only [List.map_toArray, List.map_cons, List.map_nil]); first | done | rfl | (simp only [List.length_drop, List.length_take]; rfl)) ?_; (with_reducible refine (gantrylaw1_num.calls t195 t196 _ A11.out).mono ?_); rintro e w' ⟨rfl, ⟨nd, rfl⟩⟩; refine ⟨_, rfl, ?_⟩))
          go_meet
          case rel => exact ⟨_, (true), (by first | rfl | (simp; done) | (simp [*]; done)), H', ⟨by have := HK1.out; have := HJ1.out; first | omega | exact Nat.le_refl _⟩, ⟨by repeat (first | (with_reducible first | exact HB.out | apply below_alloc | apply pw_below_drewN | apply below_drew1) | exact HB.out)⟩⟩
        case rest =>
         clear HC9
         try clear c1
         try clear p1
         try clear q1
         try clear hx1
         try clear c2
         try clear p2
         try clear c3
         try clear c3b0
         try clear c4
         try clear c5
         try clear c5b0
         try clear c6
         try clear c6b0
         try clear c12
         try clear c12b0
         try clear c12b1
         try clear c14
         try clear c14b0
         try clear c14b1
         try clear c16
         try clear c17
         try clear c17b0
         try clear c17b1
         try clear c19
         try clear p19
         try clear q19
         try clear hx19
         try clear c20
         try clear c20b0
         try clear c20b1
         try clear hx191_0
         try clear hx191_1
         try clear hx191_2
         try clear hx191_3
         try clear hx191_4
         try clear hx192_0
         try clear hx192_1
         try clear hx192_2
         try clear hx192_3
         try clear hx192_4
         try clear p191
         try clear p192
         try clear p2
         try clear q191
         try clear q192
         obtain ⟨kq, x78_8, rfl, HA, HJ8, HB⟩ := hcut
         cases kq with
         | zero => exact absurd HA.out (by simp [gantrylaw1_WordFloats.j2])
         | succ kj8 =>
          have H := HA.out
          clear HA
          simp only [gantrylaw1_WordFloats.j2] at H
          by_cases c35 : x78_8 = true
          ·subst c35
           have H1 : (some false) = some r := by rw [if_pos rfl] at H; exact H
           clear H
           have H := H1
           clear H1
           obtain rfl := Option.some.inj H
           go_wp2
           go_ret
           exact ⟨by first | rfl | (simp [errW_none, errW_some] <;> rfl) | (simp [*, errW_none, errW_some] <;> rfl), by repeat (first | (with_reducible first | exact HB.out | apply below_alloc | apply pw_below_drewN | apply below_drew1) | exact HB.out)⟩
          ·replace c35 := Bool.eq_false_iff.mpr c35
           subst c35
           have H1 : ((gantrylaw1_bin.f kj8 12 10 t193 t193).bind fun t202 => (if t202 = 1 then (if t193 = 9221120237041090560 then ((gantrylaw1_bin.f kj8 11 10 9221120237041090560 ((rd_T25 l0 x3_1).f3)).bind fun t203 => (if t203 = 0 then ((gantrylaw1_bin.f kj8 12 10 9221120237041090560 ((rd_T25 l0 x3_1).f3)).bind fun t204 => (if t204 = 1 then ((gantrylaw1_bin.f kj8 11 10 0 9223372036854775808).bind fun t205 => (if t205 = 1 then ((gantrylaw1_bin.f kj8 13 10 ((rd_T25 l0 x3_1).f3) ((rd_T25 l0 x3_1).f4)).bind fun t206 => ((gantrylaw1_bin.f kj8 15 10 ((rd_T25 l0 x3_1).f4) ((rd_T25 l0 x3_1).f3)).bind fun t207 => (gantrylaw1_WordFloats.j3 kj8 l0 x3_1 ((rd_T25 l0 x3_1).f3) ((rd_T25 l0 x3_1).f4) 10 (t206 != t207)))) else (gantrylaw1_WordFloats.j3 kj8 l0 x3_1 ((rd_T25 l0 x3_1).f3) ((rd_T25 l0 x3_1).f4) 10 true))) else (gantrylaw1_WordFloats.j3 kj8 l0 x3_1 ((rd_T25 l0 x3_1).f3) ((rd_T25 l0 x3_1).f4) 10 true))) else (gantrylaw1_WordFloats.j3 kj8 l0 x3_1 ((rd_T25 l0 x3_1).f3) ((rd_T25 l0 x3_1).f4) 10 true))) else (gantrylaw1_WordFloats.j3 kj8 l0 x3_1 ((rd_T25 l0 x3_1).f3) ((rd_T25 l0 x3_1).f4) 10 true)) else ((gantrylaw1_bin.f kj8 11 10 9221120237041090560 ((rd_T25 l0 x3_1).f3)).bind fun t208 => (if t208 = 0 then ((gantrylaw1_bin.f kj8 12 10 9221120237041090560 ((rd_T25 l0 x3_1).f3)).bind fun t209 => (if t209 = 1 then ((gantrylaw1_bin.f kj8 11 10 0 9223372036854775808).bind fun t210 => (if t210 = 1 then ((gantrylaw1_bin.f kj8 13 10 ((rd_T25 l0 x3_1).f3) ((rd_T25 l0 x3_1).f4)).bind fun t211 => ((gantrylaw1_bin.f kj8 15 10 ((rd_T25 l0 x3_1).f4) ((rd_T25 l0 x3_1).f3)).bind fun t212 => (gantrylaw1_WordFloats.j3 kj8 l0 x3_1 ((rd_T25 l0 x3_1).f3) ((rd_T25 l0 x3_1).f4) 10 (t211 != t212)))) else (gantrylaw1_WordFloats.j3 kj8 l0 x3_1 ((rd_T25 l0 x3_1).f3) ((rd_T25 l0 x3_1).f4) 10 true))) else (gantrylaw1_WordFloats.j3 kj8 l0 x3_1 ((rd_T25 l0 x3_1).f3) ((rd_T25 l0 x3_1).f4) 10 true))) else (gantrylaw1_WordFloats.j3 kj8 l0 x3_1 ((rd_T25 l0 x3_1).f3) ((rd_T25 l0 x3_1).f4) 10 true))))) = some r := by rw [if_neg (show ¬ (false = true) by decide)] at H; exact H
           clear H
           have H := H1
           clear H1
           have HC36 := Aside0.mk H
           clear H
           go_upto_region 11 with (fail)
           go_cut [115] (fun v115 wc => ∃ (kq : Nat) (x115_35 : Bool), v115 = .bool x115_35 ∧ Aside0 (gantrylaw1_WordFloats.j3 kq l0 x3_1 ((rd_T25 l0 x3_1).f3) ((rd_T25 l0 x3_1).f4) 10 x115_35 = some r) ∧ Aside0 (kq ≤ kj8) ∧ Aside0 (Below w.heap.size w wc))
           case first =>
            have H := HC36.out
            clear HC36
            replace H := Option.bind_eq_some_iff.mp H
            obtain ⟨t202, A370, H⟩ := H
            replace H : (if t202 = 1 then (if t193 = 9221120237041090560 then ((gantrylaw1_bin.f kj8 11 10 9221120237041090560 ((rd_T25 l0 x3_1).f3)).bind fun t203 => (if t203 = 0 then ((gantrylaw1_bin.f kj8 12 10 9221120237041090560 ((rd_T25 l0 x3_1).f3)).bind fun t204 => (if t204 = 1 then ((gantrylaw1_bin.f kj8 11 10 0 9223372036854775808).bind fun t205 => (if t205 = 1 then ((gantrylaw1_bin.f kj8 13 10 ((rd_T25 l0 x3_1).f3) ((rd_T25 l0 x3_1).f4)).bind fun t206 => ((gantrylaw1_bin.f kj8 15 10 ((rd_T25 l0 x3_1).f4) ((rd_T25 l0 x3_1).f3)).bind fun t207 => (gantrylaw1_WordFloats.j3 kj8 l0 x3_1 ((rd_T25 l0 x3_1).f3) ((rd_T25 l0 x3_1).f4) 10 (t206 != t207)))) else (gantrylaw1_WordFloats.j3 kj8 l0 x3_1 ((rd_T25 l0 x3_1).f3) ((rd_T25 l0 x3_1).f4) 10 true))) else (gantrylaw1_WordFloats.j3 kj8 l0 x3_1 ((rd_T25 l0 x3_1).f3) ((rd_T25 l0 x3_1).f4) 10 true))) else (gantrylaw1_WordFloats.j3 kj8 l0 x3_1 ((rd_T25 l0 x3_1).f3) ((rd_T25 l0 x3_1).f4) 10 true))) else (gantrylaw1_WordFloats.j3 kj8 l0 x3_1 ((rd_T25 l0 x3_1).f3) ((rd_T25 l0 x3_1).f4) 10 true)) else ((gantrylaw1_bin.f kj8 11 10 9221120237041090560 ((rd_T25 l0 x3_1).f3)).bind fun t208 => (if t208 = 0 then ((gantrylaw1_bin.f kj8 12 10 9221120237041090560 ((rd_T25 l0 x3_1).f3)).bind fun t209 => (if t209 = 1 then ((gantrylaw1_bin.f kj8 11 10 0 9223372036854775808).bind fun t210 => (if t210 = 1 then ((gantrylaw1_bin.f kj8 13 10 ((rd_T25 l0 x3_1).f3) ((rd_T25 l0 x3_1).f4)).bind fun t211 => ((gantrylaw1_bin.f kj8 15 10 ((rd_T25 l0 x3_1).f4) ((rd_T25 l0 x3_1).f3)).bind fun t212 => (gantrylaw1_WordFloats.j3 kj8 l0 x3_1 ((rd_T25 l0 x3_1).f3) ((rd_T25 l0 x3_1).f4) 10 (t211 != t212)))) else (gantrylaw1_WordFloats.j3 kj8 l0 x3_1 ((rd_T25 l0 x3_1).f3) ((rd_T25 l0 x3_1).f4) 10 true))) else (gantrylaw1_WordFloats.j3 kj8 l0 x3_1 ((rd_T25 l0 x3_1).f3) ((rd_T25 l0 x3_1).f4) 10 true))) else (gantrylaw1_WordFloats.j3 kj8 l0 x3_1 ((rd_T25 l0 x3_1).f3) ((rd_T25 l0 x3_1).f4) 10 true)))) = some r := H
            have A37 := Aside0.mk A370
            clear A370
            by_cases c38 : t202 = 1
            ·rw [if_pos c38] at H
             have c38b0 : (t202 == 1) = true := beq_iff_eq.mpr c38
             have c38b1 : (t202 != 1) = false := bne_eq_false_iff_eq.mpr c38
             clear c38
             (first | rw [c38b0] | (simp only [i64_w, i32_w]; rw [c38b0]) | skip)
             by_cases c39 : t193 = 9221120237041090560
             ·rw [if_pos c39] at H
              have c39b0 : (t193 == 9221120237041090560) = true := beq_iff_eq.mpr c39
              have c39b1 : (t193 != 9221120237041090560) = false := bne_eq_false_iff_eq.mpr c39
              clear c39
              replace H := Option.bind_eq_some_iff.mp H
              obtain ⟨t203, A400, H⟩ := H
              replace H : (if t203 = 0 then ((gantrylaw1_bin.f kj8 12 10 9221120237041090560 ((rd_T25 l0 x3_1).f3)).bind fun t204 => (if t204 = 1 then ((gantrylaw1_bin.f kj8 11 10 0 9223372036854775808).bind fun t205 => (if t205 = 1 then ((gantrylaw1_bin.f kj8 13 10 ((rd_T25 l0 x3_1).f3) ((rd_T25 l0 x3_1).f4)).bind fun t206 => ((gantrylaw1_bin.f kj8 15 10 ((rd_T25 l0 x3_1).f4) ((rd_T25 l0 x3_1).f3)).bind fun t207 => (gantrylaw1_WordFloats.j3 kj8 l0 x3_1 ((rd_T25 l0 x3_1).f3) ((rd_T25 l0 x3_1).f4) 10 (t206 != t207)))) else (gantrylaw1_WordFloats.j3 kj8 l0 x3_1 ((rd_T25 l0 x3_1).f3) ((rd_T25 l0 x3_1).f4) 10 true))) else (gantrylaw1_WordFloats.j3 kj8 l0 x3_1 ((rd_T25 l0 x3_1).f3) ((rd_T25 l0 x3_1).f4) 10 true))) else (gantrylaw1_WordFloats.j3 kj8 l0 x3_1 ((rd_T25 l0 x3_1).f3) ((rd_T25 l0 x3_1).f4) 10 true)) = some r := H
              have A40 := Aside0.mk A400
              clear A400
              by_cases c41 : t203 = 0
              ·rw [if_pos c41] at H
               have c41b0 : (t203 == 0) = true := beq_iff_eq.mpr c41
               have c41b1 : (t203 != 0) = false := bne_eq_false_iff_eq.mpr c41
               clear c41
               replace H := Option.bind_eq_some_iff.mp H
               obtain ⟨t204, A420, H⟩ := H
               replace H : (if t204 = 1 then ((gantrylaw1_bin.f kj8 11 10 0 9223372036854775808).bind fun t205 => (if t205 = 1 then ((gantrylaw1_bin.f kj8 13 10 ((rd_T25 l0 x3_1).f3) ((rd_T25 l0 x3_1).f4)).bind fun t206 => ((gantrylaw1_bin.f kj8 15 10 ((rd_T25 l0 x3_1).f4) ((rd_T25 l0 x3_1).f3)).bind fun t207 => (gantrylaw1_WordFloats.j3 kj8 l0 x3_1 ((rd_T25 l0 x3_1).f3) ((rd_T25 l0 x3_1).f4) 10 (t206 != t207)))) else (gantrylaw1_WordFloats.j3 kj8 l0 x3_1 ((rd_T25 l0 x3_1).f3) ((rd_T25 l0 x3_1).f4) 10 true))) else (gantrylaw1_WordFloats.j3 kj8 l0 x3_1 ((rd_T25 l0 x3_1).f3) ((rd_T25 l0 x3_1).f4) 10 true)) = some r := H
               have A42 := Aside0.mk A420
               clear A420
               by_cases c43 : t204 = 1
               ·rw [if_pos c43] at H
                have c43b0 : (t204 == 1) = true := beq_iff_eq.mpr c43
                have c43b1 : (t204 != 1) = false := bne_eq_false_iff_eq.mpr c43
                clear c43
                replace H := Option.bind_eq_some_iff.mp H
                obtain ⟨t205, A440, H⟩ := H
                replace H : (if t205 = 1 then ((gantrylaw1_bin.f kj8 13 10 ((rd_T25 l0 x3_1).f3) ((rd_T25 l0 x3_1).f4)).bind fun t206 => ((gantrylaw1_bin.f kj8 15 10 ((rd_T25 l0 x3_1).f4) ((rd_T25 l0 x3_1).f3)).bind fun t207 => (gantrylaw1_WordFloats.j3 kj8 l0 x3_1 ((rd_T25 l0 x3_1).f3) ((rd_T25 l0 x3_1).f4) 10 (t206 != t207)))) else (gantrylaw1_WordFloats.j3 kj8 l0 x3_1 ((rd_T25 l0 x3_1).f3) ((rd_T25 l0 x3_1).f4) 10 true)) = some r := H
                have A44 := Aside0.mk A440
                clear A440
                by_cases c45 : t205 = 1
                ·rw [if_pos c45] at H
                 have c45b0 : (t205 == 1) = true := beq_iff_eq.mpr c45
                 have c45b1 : (t205 != 1) = false := bne_eq_false_iff_eq.mpr c45
                 clear c45
                 replace H := Option.bind_eq_some_iff.mp H
                 obtain ⟨t206, A460, H⟩ := H
                 replace H : ((gantrylaw1_bin.f kj8 15 10 ((rd_T25 l0 x3_1).f4) ((rd_T25 l0 x3_1).f3)).bind fun t207 => (gantrylaw1_WordFloats.j3 kj8 l0 x3_1 ((rd_T25 l0 x3_1).f3) ((rd_T25 l0 x3_1).f4) 10 (t206 != t207))) = some r := H
                 have A46 := Aside0.mk A460
                 clear A460
                 replace H := Option.bind_eq_some_iff.mp H
                 obtain ⟨t207, A470, H⟩ := H
                 replace H : (gantrylaw1_WordFloats.j3 kj8 l0 x3_1 ((rd_T25 l0 x3_1).f3) ((rd_T25 l0 x3_1).f4) 10 (t206 != t207)) = some r := H
                 have A47 := Aside0.mk A470
                 clear A470
                 have H' := Aside0.mk H
                 clear H
                 go_wp2_with (first | ((with_reducible refine gate_callee (f := 16) rfl ?_); refine goesL_ (some 82) rfl rfl Try.func16 (by kernel_rfl) rfl #[.int .i64 12, .int .i64 10, .int .u64 t193, .int .u64 t193] rfl (by (try simp only [List.map_toArray, List.map_cons, List.map_nil]); first | done | rfl | (simp only [List.length_drop, List.length_take]; rfl)) ?_; (with_reducible refine (gantrylaw1_bin.calls kj8 12 10 t193 t193 t202 _ A37.out).mono ?_); rintro e w48 ⟨rfl, hb⟩; refine ⟨_, rfl, ?_⟩; have n0_ := Aside0.mk (below_step (by repeat (first | (with_reducible first | exact HB.out | apply below_alloc | apply pw_below_drewN | apply below_drew1) | exact HB.out)) hb); clear HB; have HB := n0_; clear n0_; (try clear hb); (try clear hb2); (try clear hk); (try clear hi)) | (go_at_call 16; (with_reducible refine (gantrylaw1_bin.calls kj8 11 10 9221120237041090560 ((rd_T25 l0 x3_1).f3) t203 _ A40.out).mono ?_); rintro e w49 ⟨rfl, hb⟩; have n0_ := Aside0.mk (below_step (by repeat (first | (with_reducible first | exact HB.out | apply below_alloc | apply pw_below_drewN | apply below_drew1) | exact HB.out)) hb); clear HB; have HB := n0_; clear n0_; (try clear hb); (try clear hb2); (try clear hk); (try clear hi)) | (go_at_call 16; (with_reducible refine (gantrylaw1_bin.calls kj8 12 10 9221120237041090560 ((rd_T25 l0 x3_1).f3) t204 _ A42.out).mono ?_); rintro e w50 ⟨rfl, hb⟩; have n0_ := Aside0.mk (below_step (by repeat (first | (with_reducible first | exact HB.out | apply below_alloc | apply pw_below_drewN | apply below_drew1) | exact HB.out)) hb); clear HB; have HB := n0_; clear n0_; (try clear hb); (try clear hb2); (try clear hk); (try clear hi)) | (go_at_call 16; (with_reducible refine (gantrylaw1_bin.calls kj8 11 10 0 9223372036854775808 t205 _ A44.out).mono ?_); rintro e w51 ⟨rfl, hb⟩; have n0_ := Aside0.mk (below_step (by repeat (first | (with_reducible first | exact HB.out | apply below_alloc | apply pw_below_drewN | apply below_drew1) | exact HB.out)) hb); clear HB; have HB := n0_; clear n0_; (try clear hb); (try clear hb2); (try clear hk); (try clear hi)) | (go_at_call 16; (with_reducible refine (gantrylaw1_bin.calls kj8 13 10 ((rd_T25 l0 x3_1).f3) ((rd_T25 l0 x3_1).f4) t206 _ A46.out).mono ?_); rintro e w52 ⟨rfl, hb⟩; have n0_ := Aside0.mk (below_step (by repeat (first | (with_reducible first | exact HB.out | apply below_alloc | apply pw_below_drewN | apply below_drew1) | exact HB.out)) hb); clear HB; have HB := n0_; clear n0_; (try clear hb); (try clear hb2); (try clear hk); (try clear hi)) | (go_at_call 16; (with_reducible refine (gantrylaw1_bin.calls kj8 15 10 ((rd_T25 l0 x3_1).f4) ((rd_T25 l0 x3_1).f3) t207 _ A47.out).mono ?_); rintro e w53 ⟨rfl, hb⟩; have n0_ := Aside0.mk (below_step (by repeat (first | (with_reducible first | exact HB.out | apply below_alloc | apply pw_below_drewN | apply below_drew1) | exact HB.out)) hb); clear HB; have HB := n0_; clear n0_; (try clear hb); (try clear hb2); (try clear hk); (try clear hi)))
                 go_meet
                 case rel => exact ⟨_, ((t206 != t207)), (by first | rfl | (simp; done) | (simp [*]; done)), H', ⟨by have := HK1.out; have := HJ1.out; have := HJ8.out; first | omega | exact Nat.le_refl _⟩, ⟨by repeat (first | (with_reducible first | exact HB.out | apply below_alloc | apply pw_below_drewN | apply below_drew1) | exact HB.out)⟩⟩
                ·rw [if_neg c45] at H
                 have c45b0 : (t205 == 1) = false := beq_eq_false_iff_ne.mpr c45
                 have c45b1 : (t205 != 1) = true := bne_iff_ne.mpr c45
                 have H' := Aside0.mk H
                 clear H
                 go_wp2_with (first | ((with_reducible refine gate_callee (f := 16) rfl ?_); refine goesL_ (some 82) rfl rfl Try.func16 (by kernel_rfl) rfl #[.int .i64 12, .int .i64 10, .int .u64 t193, .int .u64 t193] rfl (by (try simp only [List.map_toArray, List.map_cons, List.map_nil]); first | done | rfl | (simp only [List.length_drop, List.length_take]; rfl)) ?_; (with_reducible refine (gantrylaw1_bin.calls kj8 12 10 t193 t193 t202 _ A37.out).mono ?_); rintro e w54 ⟨rfl, hb⟩; refine ⟨_, rfl, ?_⟩; have n0_ := Aside0.mk (below_step (by repeat (first | (with_reducible first | exact HB.out | apply below_alloc | apply pw_below_drewN | apply below_drew1) | exact HB.out)) hb); clear HB; have HB := n0_; clear n0_; (try clear hb); (try clear hb2); (try clear hk); (try clear hi)) | (go_at_call 16; (with_reducible refine (gantrylaw1_bin.calls kj8 11 10 9221120237041090560 ((rd_T25 l0 x3_1).f3) t203 _ A40.out).mono ?_); rintro e w55 ⟨rfl, hb⟩; have n0_ := Aside0.mk (below_step (by repeat (first | (with_reducible first | exact HB.out | apply below_alloc | apply pw_below_drewN | apply below_drew1) | exact HB.out)) hb); clear HB; have HB := n0_; clear n0_; (try clear hb); (try clear hb2); (try clear hk); (try clear hi)) | (go_at_call 16; (with_reducible refine (gantrylaw1_bin.calls kj8 12 10 9221120237041090560 ((rd_T25 l0 x3_1).f3) t204 _ A42.out).mono ?_); rintro e w56 ⟨rfl, hb⟩; have n0_ := Aside0.mk (below_step (by repeat (first | (with_reducible first | exact HB.out | apply below_alloc | apply pw_below_drewN | apply below_drew1) | exact HB.out)) hb); clear HB; have HB := n0_; clear n0_; (try clear hb); (try clear hb2); (try clear hk); (try clear hi)) | (go_at_call 16; (with_reducible refine (gantrylaw1_bin.calls kj8 11 10 0 9223372036854775808 t205 _ A44.out).mono ?_); rintro e w57 ⟨rfl, hb⟩; have n0_ := Aside0.mk (below_step (by repeat (first | (with_reducible first | exact HB.out | apply below_alloc | apply pw_below_drewN | apply below_drew1) | exact HB.out)) hb); clear HB; have HB := n0_; clear n0_; (try clear hb); (try clear hb2); (try clear hk); (try clear hi)))
                 go_meet
                 case rel => exact ⟨_, (true), (by first | rfl | (simp; done) | (simp [*]; done)), H', ⟨by have := HK1.out; have := HJ1.out; have := HJ8.out; first | omega | exact Nat.le_refl _⟩, ⟨by repeat (first | (with_reducible first | exact HB.out | apply below_alloc | apply pw_below_drewN | apply below_drew1) | exact HB.out)⟩⟩
               ·rw [if_neg c43] at H
                have c43b0 : (t204 == 1) = false := beq_eq_false_iff_ne.mpr c43
                have c43b1 : (t204 != 1) = true := bne_iff_ne.mpr c43
                have H' := Aside0.mk H
                clear H
                go_wp2_with (first | ((with_reducible refine gate_callee (f := 16) rfl ?_); refine goesL_ (some 82) rfl rfl Try.func16 (by kernel_rfl) rfl #[.int .i64 12, .int .i64 10, .int .u64 t193, .int .u64 t193] rfl (by (try simp only [List.map_toArray, List.map_cons, List.map_nil]); first | done | rfl | (simp only [List.length_drop, List.length_take]; rfl)) ?_; (with_reducible refine (gantrylaw1_bin.calls kj8 12 10 t193 t193 t202 _ A37.out).mono ?_); rintro e w58 ⟨rfl, hb⟩; refine ⟨_, rfl, ?_⟩; have n0_ := Aside0.mk (below_step (by repeat (first | (with_reducible first | exact HB.out | apply below_alloc | apply pw_below_drewN | apply below_drew1) | exact HB.out)) hb); clear HB; have HB := n0_; clear n0_; (try clear hb); (try clear hb2); (try clear hk); (try clear hi)) | (go_at_call 16; (with_reducible refine (gantrylaw1_bin.calls kj8 11 10 9221120237041090560 ((rd_T25 l0 x3_1).f3) t203 _ A40.out).mono ?_); rintro e w59 ⟨rfl, hb⟩; have n0_ := Aside0.mk (below_step (by repeat (first | (with_reducible first | exact HB.out | apply below_alloc | apply pw_below_drewN | apply below_drew1) | exact HB.out)) hb); clear HB; have HB := n0_; clear n0_; (try clear hb); (try clear hb2); (try clear hk); (try clear hi)) | (go_at_call 16; (with_reducible refine (gantrylaw1_bin.calls kj8 12 10 9221120237041090560 ((rd_T25 l0 x3_1).f3) t204 _ A42.out).mono ?_); rintro e w60 ⟨rfl, hb⟩; have n0_ := Aside0.mk (below_step (by repeat (first | (with_reducible first | exact HB.out | apply below_alloc | apply pw_below_drewN | apply below_drew1) | exact HB.out)) hb); clear HB; have HB := n0_; clear n0_; (try clear hb); (try clear hb2); (try clear hk); (try clear hi)))
                go_meet
                case rel => exact ⟨_, (true), (by first | rfl | (simp; done) | (simp [*]; done)), H', ⟨by have := HK1.out; have := HJ1.out; have := HJ8.out; first | omega | exact Nat.le_refl _⟩, ⟨by repeat (first | (with_reducible first | exact HB.out | apply below_alloc | apply pw_below_drewN | apply below_drew1) | exact HB.out)⟩⟩
              ·rw [if_neg c41] at H
               have c41b0 : (t203 == 0) = false := beq_eq_false_iff_ne.mpr c41
               have c41b1 : (t203 != 0) = true := bne_iff_ne.mpr c41
               have H' := Aside0.mk H
               clear H
               go_wp2_with (first | ((with_reducible refine gate_callee (f := 16) rfl ?_); refine goesL_ (some 82) rfl rfl Try.func16 (by kernel_rfl) rfl #[.int .i64 12, .int .i64 10, .int .u64 t193, .int .u64 t193] rfl (by (try simp only [List.map_toArray, List.map_cons, List.map_nil]); first | done | rfl | (simp only [List.length_drop, List.length_take]; rfl)) ?_; (with_reducible refine (gantrylaw1_bin.calls kj8 12 10 t193 t193 t202 _ A37.out).mono ?_); rintro e w61 ⟨rfl, hb⟩; refine ⟨_, rfl, ?_⟩; have n0_ := Aside0.mk (below_step (by repeat (first | (with_reducible first | exact HB.out | apply below_alloc | apply pw_below_drewN | apply below_drew1) | exact HB.out)) hb); clear HB; have HB := n0_; clear n0_; (try clear hb); (try clear hb2); (try clear hk); (try clear hi)) | (go_at_call 16; (with_reducible refine (gantrylaw1_bin.calls kj8 11 10 9221120237041090560 ((rd_T25 l0 x3_1).f3) t203 _ A40.out).mono ?_); rintro e w62 ⟨rfl, hb⟩; have n0_ := Aside0.mk (below_step (by repeat (first | (with_reducible first | exact HB.out | apply below_alloc | apply pw_below_drewN | apply below_drew1) | exact HB.out)) hb); clear HB; have HB := n0_; clear n0_; (try clear hb); (try clear hb2); (try clear hk); (try clear hi)))
               go_meet
               case rel => exact ⟨_, (true), (by first | rfl | (simp; done) | (simp [*]; done)), H', ⟨by have := HK1.out; have := HJ1.out; have := HJ8.out; first | omega | exact Nat.le_refl _⟩, ⟨by repeat (first | (with_reducible first | exact HB.out | apply below_alloc | apply pw_below_drewN | apply below_drew1) | exact HB.out)⟩⟩
             ·rw [if_neg c39] at H
              have c39b0 : (t193 == 9221120237041090560) = false := beq_eq_false_iff_ne.mpr c39
              have c39b1 : (t193 != 9221120237041090560) = true := bne_iff_ne.mpr c39
              have H' := Aside0.mk H
              clear H
              go_wp2_with (first | ((with_reducible refine gate_callee (f := 16) rfl ?_); refine goesL_ (some 82) rfl rfl Try.func16 (by kernel_rfl) rfl #[.int .i64 12, .int .i64 10, .int .u64 t193, .int .u64 t193] rfl (by (try simp only [List.map_toArray, List.map_cons, List.map_nil]); first | done | rfl | (simp only [List.length_drop, List.length_take]; rfl)) ?_; (with_reducible refine (gantrylaw1_bin.calls kj8 12 10 t193 t193 t202 _ A37.out).mono ?_); rintro e w63 ⟨rfl, hb⟩; refine ⟨_, rfl, ?_⟩; have n0_ := Aside0.mk (below_step (by repeat (first | (with_reducible first | exact HB.out | apply below_alloc | apply pw_below_drewN | apply below_drew1) | exact HB.out)) hb); clear HB; have HB := n0_; clear n0_; (try clear hb); (try clear hb2); (try clear hk); (try clear hi)))
              go_meet
              case rel => exact ⟨_, (true), (by first | rfl | (simp; done) | (simp [*]; done)), H', ⟨by have := HK1.out; have := HJ1.out; have := HJ8.out; first | omega | exact Nat.le_refl _⟩, ⟨by repeat (first | (with_reducible first | exact HB.out | apply below_alloc | apply pw_below_drewN | apply below_drew1) | exact HB.out)⟩⟩
            ·rw [if_neg c38] at H
             have c38b0 : (t202 == 1) = false := beq_eq_false_iff_ne.mpr c38
             have c38b1 : (t202 != 1) = true := bne_iff_ne.mpr c38
             (first | rw [c38b0] | (simp only [i64_w, i32_w]; rw [c38b0]) | skip)
             replace H := Option.bind_eq_some_iff.mp H
             obtain ⟨t208, A640, H⟩ := H
             replace H : (if t208 = 0 then ((gantrylaw1_bin.f kj8 12 10 9221120237041090560 ((rd_T25 l0 x3_1).f3)).bind fun t209 => (if t209 = 1 then ((gantrylaw1_bin.f kj8 11 10 0 9223372036854775808).bind fun t210 => (if t210 = 1 then ((gantrylaw1_bin.f kj8 13 10 ((rd_T25 l0 x3_1).f3) ((rd_T25 l0 x3_1).f4)).bind fun t211 => ((gantrylaw1_bin.f kj8 15 10 ((rd_T25 l0 x3_1).f4) ((rd_T25 l0 x3_1).f3)).bind fun t212 => (gantrylaw1_WordFloats.j3 kj8 l0 x3_1 ((rd_T25 l0 x3_1).f3) ((rd_T25 l0 x3_1).f4) 10 (t211 != t212)))) else (gantrylaw1_WordFloats.j3 kj8 l0 x3_1 ((rd_T25 l0 x3_1).f3) ((rd_T25 l0 x3_1).f4) 10 true))) else (gantrylaw1_WordFloats.j3 kj8 l0 x3_1 ((rd_T25 l0 x3_1).f3) ((rd_T25 l0 x3_1).f4) 10 true))) else (gantrylaw1_WordFloats.j3 kj8 l0 x3_1 ((rd_T25 l0 x3_1).f3) ((rd_T25 l0 x3_1).f4) 10 true)) = some r := H
             have A64 := Aside0.mk A640
             clear A640
             by_cases c65 : t208 = 0
             ·rw [if_pos c65] at H
              have c65b0 : (t208 == 0) = true := beq_iff_eq.mpr c65
              have c65b1 : (t208 != 0) = false := bne_eq_false_iff_eq.mpr c65
              clear c65
              replace H := Option.bind_eq_some_iff.mp H
              obtain ⟨t209, A660, H⟩ := H
              replace H : (if t209 = 1 then ((gantrylaw1_bin.f kj8 11 10 0 9223372036854775808).bind fun t210 => (if t210 = 1 then ((gantrylaw1_bin.f kj8 13 10 ((rd_T25 l0 x3_1).f3) ((rd_T25 l0 x3_1).f4)).bind fun t211 => ((gantrylaw1_bin.f kj8 15 10 ((rd_T25 l0 x3_1).f4) ((rd_T25 l0 x3_1).f3)).bind fun t212 => (gantrylaw1_WordFloats.j3 kj8 l0 x3_1 ((rd_T25 l0 x3_1).f3) ((rd_T25 l0 x3_1).f4) 10 (t211 != t212)))) else (gantrylaw1_WordFloats.j3 kj8 l0 x3_1 ((rd_T25 l0 x3_1).f3) ((rd_T25 l0 x3_1).f4) 10 true))) else (gantrylaw1_WordFloats.j3 kj8 l0 x3_1 ((rd_T25 l0 x3_1).f3) ((rd_T25 l0 x3_1).f4) 10 true)) = some r := H
              have A66 := Aside0.mk A660
              clear A660
              by_cases c67 : t209 = 1
              ·rw [if_pos c67] at H
               have c67b0 : (t209 == 1) = true := beq_iff_eq.mpr c67
               have c67b1 : (t209 != 1) = false := bne_eq_false_iff_eq.mpr c67
               clear c67
               replace H := Option.bind_eq_some_iff.mp H
               obtain ⟨t210, A680, H⟩ := H
               replace H : (if t210 = 1 then ((gantrylaw1_bin.f kj8 13 10 ((rd_T25 l0 x3_1).f3) ((rd_T25 l0 x3_1).f4)).bind fun t211 => ((gantrylaw1_bin.f kj8 15 10 ((rd_T25 l0 x3_1).f4) ((rd_T25 l0 x3_1).f3)).bind fun t212 => (gantrylaw1_WordFloats.j3 kj8 l0 x3_1 ((rd_T25 l0 x3_1).f3) ((rd_T25 l0 x3_1).f4) 10 (t211 != t212)))) else (gantrylaw1_WordFloats.j3 kj8 l0 x3_1 ((rd_T25 l0 x3_1).f3) ((rd_T25 l0 x3_1).f4) 10 true)) = some r := H
               have A68 := Aside0.mk A680
               clear A680
               by_cases c69 : t210 = 1
               ·rw [if_pos c69] at H
                have c69b0 : (t210 == 1) = true := beq_iff_eq.mpr c69
                have c69b1 : (t210 != 1) = false := bne_eq_false_iff_eq.mpr c69
                clear c69
                replace H := Option.bind_eq_some_iff.mp H
                obtain ⟨t211, A700, H⟩ := H
                replace H : ((gantrylaw1_bin.f kj8 15 10 ((rd_T25 l0 x3_1).f4) ((rd_T25 l0 x3_1).f3)).bind fun t212 => (gantrylaw1_WordFloats.j3 kj8 l0 x3_1 ((rd_T25 l0 x3_1).f3) ((rd_T25 l0 x3_1).f4) 10 (t211 != t212))) = some r := H
                have A70 := Aside0.mk A700
                clear A700
                replace H := Option.bind_eq_some_iff.mp H
                obtain ⟨t212, A710, H⟩ := H
                replace H : (gantrylaw1_WordFloats.j3 kj8 l0 x3_1 ((rd_T25 l0 x3_1).f3) ((rd_T25 l0 x3_1).f4) 10 (t211 != t212)) = some r := H
                have A71 := Aside0.mk A710
                clear A710
                have H' := Aside0.mk H
                clear H
                go_wp2_with (first | ((with_reducible refine gate_callee (f := 16) rfl ?_); refine goesL_ (some 82) rfl rfl Try.func16 (by kernel_rfl) rfl #[.int .i64 12, .int .i64 10, .int .u64 t193, .int .u64 t193] rfl (by (try simp only [List.map_toArray, List.map_cons, List.map_nil]); first | done | rfl | (simp only [List.length_drop, List.length_take]; rfl)) ?_; (with_reducible refine (gantrylaw1_bin.calls kj8 12 10 t193 t193 t202 _ A37.out).mono ?_); rintro e w72 ⟨rfl, hb⟩; refine ⟨_, rfl, ?_⟩; have n0_ := Aside0.mk (below_step (by repeat (first | (with_reducible first | exact HB.out | apply below_alloc | apply pw_below_drewN | apply below_drew1) | exact HB.out)) hb); clear HB; have HB := n0_; clear n0_; (try clear hb); (try clear hb2); (try clear hk); (try clear hi)) | (go_at_call 16; (with_reducible refine (gantrylaw1_bin.calls kj8 11 10 9221120237041090560 ((rd_T25 l0 x3_1).f3) t208 _ A64.out).mono ?_); rintro e w73 ⟨rfl, hb⟩; have n0_ := Aside0.mk (below_step (by repeat (first | (with_reducible first | exact HB.out | apply below_alloc | apply pw_below_drewN | apply below_drew1) | exact HB.out)) hb); clear HB; have HB := n0_; clear n0_; (try clear hb); (try clear hb2); (try clear hk); (try clear hi)) | (go_at_call 16; (with_reducible refine (gantrylaw1_bin.calls kj8 12 10 9221120237041090560 ((rd_T25 l0 x3_1).f3) t209 _ A66.out).mono ?_); rintro e w74 ⟨rfl, hb⟩; have n0_ := Aside0.mk (below_step (by repeat (first | (with_reducible first | exact HB.out | apply below_alloc | apply pw_below_drewN | apply below_drew1) | exact HB.out)) hb); clear HB; have HB := n0_; clear n0_; (try clear hb); (try clear hb2); (try clear hk); (try clear hi)) | (go_at_call 16; (with_reducible refine (gantrylaw1_bin.calls kj8 11 10 0 9223372036854775808 t210 _ A68.out).mono ?_); rintro e w75 ⟨rfl, hb⟩; have n0_ := Aside0.mk (below_step (by repeat (first | (with_reducible first | exact HB.out | apply below_alloc | apply pw_below_drewN | apply below_drew1) | exact HB.out)) hb); clear HB; have HB := n0_; clear n0_; (try clear hb); (try clear hb2); (try clear hk); (try clear hi)) | (go_at_call 16; (with_reducible refine (gantrylaw1_bin.calls kj8 13 10 ((rd_T25 l0 x3_1).f3) ((rd_T25 l0 x3_1).f4) t211 _ A70.out).mono ?_); rintro e w76 ⟨rfl, hb⟩; have n0_ := Aside0.mk (below_step (by repeat (first | (with_reducible first | exact HB.out | apply below_alloc | apply pw_below_drewN | apply below_drew1) | exact HB.out)) hb); clear HB; have HB := n0_; clear n0_; (try clear hb); (try clear hb2); (try clear hk); (try clear hi)) | (go_at_call 16; (with_reducible refine (gantrylaw1_bin.calls kj8 15 10 ((rd_T25 l0 x3_1).f4) ((rd_T25 l0 x3_1).f3) t212 _ A71.out).mono ?_); rintro e w77 ⟨rfl, hb⟩; have n0_ := Aside0.mk (below_step (by repeat (first | (with_reducible first | exact HB.out | apply below_alloc | apply pw_below_drewN | apply below_drew1) | exact HB.out)) hb); clear HB; have HB := n0_; clear n0_; (try clear hb); (try clear hb2); (try clear hk); (try clear hi)))
                go_meet
                case rel => exact ⟨_, ((t211 != t212)), (by first | rfl | (simp; done) | (simp [*]; done)), H', ⟨by have := HK1.out; have := HJ1.out; have := HJ8.out; first | omega | exact Nat.le_refl _⟩, ⟨by repeat (first | (with_reducible first | exact HB.out | apply below_alloc | apply pw_below_drewN | apply below_drew1) | exact HB.out)⟩⟩
               ·rw [if_neg c69] at H
                have c69b0 : (t210 == 1) = false := beq_eq_false_iff_ne.mpr c69
                have c69b1 : (t210 != 1) = true := bne_iff_ne.mpr c69
                have H' := Aside0.mk H
                clear H
                go_wp2_with (first | ((with_reducible refine gate_callee (f := 16) rfl ?_); refine goesL_ (some 82) rfl rfl Try.func16 (by kernel_rfl) rfl #[.int .i64 12, .int .i64 10, .int .u64 t193, .int .u64 t193] rfl (by (try simp only [List.map_toArray, List.map_cons, List.map_nil]); first | done | rfl | (simp only [List.length_drop, List.length_take]; rfl)) ?_; (with_reducible refine (gantrylaw1_bin.calls kj8 12 10 t193 t193 t202 _ A37.out).mono ?_); rintro e w78 ⟨rfl, hb⟩; refine ⟨_, rfl, ?_⟩; have n0_ := Aside0.mk (below_step (by repeat (first | (with_reducible first | exact HB.out | apply below_alloc | apply pw_below_drewN | apply below_drew1) | exact HB.out)) hb); clear HB; have HB := n0_; clear n0_; (try clear hb); (try clear hb2); (try clear hk); (try clear hi)) | (go_at_call 16; (with_reducible refine (gantrylaw1_bin.calls kj8 11 10 9221120237041090560 ((rd_T25 l0 x3_1).f3) t208 _ A64.out).mono ?_); rintro e w79 ⟨rfl, hb⟩; have n0_ := Aside0.mk (below_step (by repeat (first | (with_reducible first | exact HB.out | apply below_alloc | apply pw_below_drewN | apply below_drew1) | exact HB.out)) hb); clear HB; have HB := n0_; clear n0_; (try clear hb); (try clear hb2); (try clear hk); (try clear hi)) | (go_at_call 16; (with_reducible refine (gantrylaw1_bin.calls kj8 12 10 9221120237041090560 ((rd_T25 l0 x3_1).f3) t209 _ A66.out).mono ?_); rintro e w80 ⟨rfl, hb⟩; have n0_ := Aside0.mk (below_step (by repeat (first | (with_reducible first | exact HB.out | apply below_alloc | apply pw_below_drewN | apply below_drew1) | exact HB.out)) hb); clear HB; have HB := n0_; clear n0_; (try clear hb); (try clear hb2); (try clear hk); (try clear hi)) | (go_at_call 16; (with_reducible refine (gantrylaw1_bin.calls kj8 11 10 0 9223372036854775808 t210 _ A68.out).mono ?_); rintro e w81 ⟨rfl, hb⟩; have n0_ := Aside0.mk (below_step (by repeat (first | (with_reducible first | exact HB.out | apply below_alloc | apply pw_below_drewN | apply below_drew1) | exact HB.out)) hb); clear HB; have HB := n0_; clear n0_; (try clear hb); (try clear hb2); (try clear hk); (try clear hi)))
                go_meet
                case rel => exact ⟨_, (true), (by first | rfl | (simp; done) | (simp [*]; done)), H', ⟨by have := HK1.out; have := HJ1.out; have := HJ8.out; first | omega | exact Nat.le_refl _⟩, ⟨by repeat (first | (with_reducible first | exact HB.out | apply below_alloc | apply pw_below_drewN | apply below_drew1) | exact HB.out)⟩⟩
              ·rw [if_neg c67] at H
               have c67b0 : (t209 == 1) = false := beq_eq_false_iff_ne.mpr c67
               have c67b1 : (t209 != 1) = true := bne_iff_ne.mpr c67
               have H' := Aside0.mk H
               clear H
               go_wp2_with (first | ((with_reducible refine gate_callee (f := 16) rfl ?_); refine goesL_ (some 82) rfl rfl Try.func16 (by kernel_rfl) rfl #[.int .i64 12, .int .i64 10, .int .u64 t193, .int .u64 t193] rfl (by (try simp only [List.map_toArray, List.map_cons, List.map_nil]); first | done | rfl | (simp only [List.length_drop, List.length_take]; rfl)) ?_; (with_reducible refine (gantrylaw1_bin.calls kj8 12 10 t193 t193 t202 _ A37.out).mono ?_); rintro e w82 ⟨rfl, hb⟩; refine ⟨_, rfl, ?_⟩; have n0_ := Aside0.mk (below_step (by repeat (first | (with_reducible first | exact HB.out | apply below_alloc | apply pw_below_drewN | apply below_drew1) | exact HB.out)) hb); clear HB; have HB := n0_; clear n0_; (try clear hb); (try clear hb2); (try clear hk); (try clear hi)) | (go_at_call 16; (with_reducible refine (gantrylaw1_bin.calls kj8 11 10 9221120237041090560 ((rd_T25 l0 x3_1).f3) t208 _ A64.out).mono ?_); rintro e w83 ⟨rfl, hb⟩; have n0_ := Aside0.mk (below_step (by repeat (first | (with_reducible first | exact HB.out | apply below_alloc | apply pw_below_drewN | apply below_drew1) | exact HB.out)) hb); clear HB; have HB := n0_; clear n0_; (try clear hb); (try clear hb2); (try clear hk); (try clear hi)) | (go_at_call 16; (with_reducible refine (gantrylaw1_bin.calls kj8 12 10 9221120237041090560 ((rd_T25 l0 x3_1).f3) t209 _ A66.out).mono ?_); rintro e w84 ⟨rfl, hb⟩; have n0_ := Aside0.mk (below_step (by repeat (first | (with_reducible first | exact HB.out | apply below_alloc | apply pw_below_drewN | apply below_drew1) | exact HB.out)) hb); clear HB; have HB := n0_; clear n0_; (try clear hb); (try clear hb2); (try clear hk); (try clear hi)))
               go_meet
               case rel => exact ⟨_, (true), (by first | rfl | (simp; done) | (simp [*]; done)), H', ⟨by have := HK1.out; have := HJ1.out; have := HJ8.out; first | omega | exact Nat.le_refl _⟩, ⟨by repeat (first | (with_reducible first | exact HB.out | apply below_alloc | apply pw_below_drewN | apply below_drew1) | exact HB.out)⟩⟩
             ·rw [if_neg c65] at H
              have c65b0 : (t208 == 0) = false := beq_eq_false_iff_ne.mpr c65
              have c65b1 : (t208 != 0) = true := bne_iff_ne.mpr c65
              have H' := Aside0.mk H
              clear H
              go_wp2_with (first | ((with_reducible refine gate_callee (f := 16) rfl ?_); refine goesL_ (some 82) rfl rfl Try.func16 (by kernel_rfl) rfl #[.int .i64 12, .int .i64 10, .int .u64 t193, .int .u64 t193] rfl (by (try simp only [List.map_toArray, List.map_cons, List.map_nil]); first | done | rfl | (simp only [List.length_drop, List.length_take]; rfl)) ?_; (with_reducible refine (gantrylaw1_bin.calls kj8 12 10 t193 t193 t202 _ A37.out).mono ?_); rintro e w85 ⟨rfl, hb⟩; refine ⟨_, rfl, ?_⟩; have n0_ := Aside0.mk (below_step (by repeat (first | (with_reducible first | exact HB.out | apply below_alloc | apply pw_below_drewN | apply below_drew1) | exact HB.out)) hb); clear HB; have HB := n0_; clear n0_; (try clear hb); (try clear hb2); (try clear hk); (try clear hi)) | (go_at_call 16; (with_reducible refine (gantrylaw1_bin.calls kj8 11 10 9221120237041090560 ((rd_T25 l0 x3_1).f3) t208 _ A64.out).mono ?_); rintro e w86 ⟨rfl, hb⟩; have n0_ := Aside0.mk (below_step (by repeat (first | (with_reducible first | exact HB.out | apply below_alloc | apply pw_below_drewN | apply below_drew1) | exact HB.out)) hb); clear HB; have HB := n0_; clear n0_; (try clear hb); (try clear hb2); (try clear hk); (try clear hi)))
              go_meet
              case rel => exact ⟨_, (true), (by first | rfl | (simp; done) | (simp [*]; done)), H', ⟨by have := HK1.out; have := HJ1.out; have := HJ8.out; first | omega | exact Nat.le_refl _⟩, ⟨by repeat (first | (with_reducible first | exact HB.out | apply below_alloc | apply pw_below_drewN | apply below_drew1) | exact HB.out)⟩⟩
           case rest =>
            clear HC36
            try clear c1
            try clear p1
            try clear q1
            try clear hx1
            try clear c2
            try clear p2
            try clear c3
            try clear c3b0
            try clear c4
            try clear c5
            try clear c5b0
            try clear c6
            try clear c6b0
            try clear c12
            try clear c12b0
            try clear c12b1
            try clear c14
            try clear c14b0
            try clear c14b1
            try clear c16
            try clear c17
            try clear c17b0
            try clear c17b1
            try clear c19
            try clear p19
            try clear q19
            try clear hx19
            try clear c20
            try clear c20b0
            try clear c20b1
            try clear c35
            try clear c38
            try clear c38b0
            try clear c38b1
            try clear c39
            try clear c39b0
            try clear c39b1
            try clear c41
            try clear c41b0
            try clear c41b1
            try clear c43
            try clear c43b0
            try clear c43b1
            try clear c45
            try clear c45b0
            try clear c45b1
            try clear c65
            try clear c65b0
            try clear c65b1
            try clear c67
            try clear c67b0
            try clear c67b1
            try clear c69
            try clear c69b0
            try clear c69b1
            try clear hx191_0
            try clear hx191_1
            try clear hx191_2
            try clear hx191_3
            try clear hx191_4
            try clear hx192_0
            try clear hx192_1
            try clear hx192_2
            try clear hx192_3
            try clear hx192_4
            try clear p1
            try clear p19
            try clear p191
            try clear p192
            try clear p2
            try clear q1
            try clear q19
            try clear q191
            try clear q192
            obtain ⟨kq, x115_35, rfl, HA, HJ35, HB⟩ := hcut
            cases kq with
            | zero => exact absurd HA.out (by simp [gantrylaw1_WordFloats.j3])
            | succ kj35 =>
             have H := HA.out
             clear HA
             simp only [gantrylaw1_WordFloats.j3] at H
             by_cases c87 : x115_35 = true
             ·subst c87
              have H1 : (some false) = some r := by rw [if_pos rfl] at H; exact H
              clear H
              have H := H1
              clear H1
              obtain rfl := Option.some.inj H
              go_wp2
              go_ret
              exact ⟨by first | rfl | (simp [errW_none, errW_some] <;> rfl) | (simp [*, errW_none, errW_some] <;> rfl), by repeat (first | (with_reducible first | exact HB.out | apply below_alloc | apply pw_below_drewN | apply below_drew1) | exact HB.out)⟩
             ·replace c87 := Bool.eq_false_iff.mpr c87
              subst c87
              have H1 : ((gantrylaw1_bin.f kj35 13 10 ((rd_T25 l0 x3_1).f3) ((rd_T25 l0 x3_1).f4)).bind fun t213 => ((gantrylaw1_bin.f kj35 11 10 ((rd_T25 l0 x3_1).f3) ((rd_T25 l0 x3_1).f4)).bind fun t214 => ((gantrylaw1_bin.f kj35 15 10 ((rd_T25 l0 x3_1).f3) ((rd_T25 l0 x3_1).f4)).bind fun t215 => (if (IntKind.u64.wrap ((IntKind.u64.wrap (t213 + t214)) + t215)) > 1 then (some false) else (gantrylaw1_WordFloats.l0 kj35 l0 (wrap64 (x3_1 + 1))))))) = some r := by rw [if_neg (show ¬ (false = true) by decide)] at H; exact H
              clear H
              have H := H1
              clear H1
              replace H := Option.bind_eq_some_iff.mp H
              obtain ⟨t213, A880, H⟩ := H
              replace H : ((gantrylaw1_bin.f kj35 11 10 ((rd_T25 l0 x3_1).f3) ((rd_T25 l0 x3_1).f4)).bind fun t214 => ((gantrylaw1_bin.f kj35 15 10 ((rd_T25 l0 x3_1).f3) ((rd_T25 l0 x3_1).f4)).bind fun t215 => (if (IntKind.u64.wrap ((IntKind.u64.wrap (t213 + t214)) + t215)) > 1 then (some false) else (gantrylaw1_WordFloats.l0 kj35 l0 (wrap64 (x3_1 + 1)))))) = some r := H
              have A88 := Aside0.mk A880
              clear A880
              replace H := Option.bind_eq_some_iff.mp H
              obtain ⟨t214, A890, H⟩ := H
              replace H : ((gantrylaw1_bin.f kj35 15 10 ((rd_T25 l0 x3_1).f3) ((rd_T25 l0 x3_1).f4)).bind fun t215 => (if (IntKind.u64.wrap ((IntKind.u64.wrap (t213 + t214)) + t215)) > 1 then (some false) else (gantrylaw1_WordFloats.l0 kj35 l0 (wrap64 (x3_1 + 1))))) = some r := H
              have A89 := Aside0.mk A890
              clear A890
              replace H := Option.bind_eq_some_iff.mp H
              obtain ⟨t215, A900, H⟩ := H
              replace H : (if (IntKind.u64.wrap ((IntKind.u64.wrap (t213 + t214)) + t215)) > 1 then (some false) else (gantrylaw1_WordFloats.l0 kj35 l0 (wrap64 (x3_1 + 1)))) = some r := H
              have A90 := Aside0.mk A900
              clear A900
              by_cases c91 : (IntKind.u64.wrap ((IntKind.u64.wrap (t213 + t214)) + t215)) > 1
              ·rw [if_pos c91] at H
               have c91b0 : decide (1 < (IntKind.u64.wrap ((IntKind.u64.wrap (t213 + t214)) + t215))) = true := decide_eq_true c91
               clear c91
               obtain rfl := Option.some.inj H
               go_wp2_with (first | ((with_reducible refine gate_callee (f := 16) rfl ?_); refine goesL_ (some 119) rfl rfl Try.func16 (by kernel_rfl) rfl #[.int .i64 13, .int .i64 10, .int .u64 ((rd_T25 l0 x3_1).f3), .int .u64 ((rd_T25 l0 x3_1).f4)] rfl (by (try simp only [List.map_toArray, List.map_cons, List.map_nil]); first | done | rfl | (simp only [List.length_drop, List.length_take]; rfl)) ?_; (with_reducible refine (gantrylaw1_bin.calls kj35 13 10 ((rd_T25 l0 x3_1).f3) ((rd_T25 l0 x3_1).f4) t213 _ A88.out).mono ?_); rintro e w92 ⟨rfl, hb⟩; refine ⟨_, rfl, ?_⟩; have n0_ := Aside0.mk (below_step (by repeat (first | (with_reducible first | exact HB.out | apply below_alloc | apply pw_below_drewN | apply below_drew1) | exact HB.out)) hb); clear HB; have HB := n0_; clear n0_; (try clear hb); (try clear hb2); (try clear hk); (try clear hi)) | ((with_reducible refine gate_callee (f := 16) rfl ?_); refine goesL_ (some 123) rfl rfl Try.func16 (by kernel_rfl) rfl #[.int .i64 11, .int .i64 10, .int .u64 ((rd_T25 l0 x3_1).f3), .int .u64 ((rd_T25 l0 x3_1).f4)] rfl (by (try simp only [List.map_toArray, List.map_cons, List.map_nil]); first | done | rfl | (simp only [List.length_drop, List.length_take]; rfl)) ?_; (with_reducible refine (gantrylaw1_bin.calls kj35 11 10 ((rd_T25 l0 x3_1).f3) ((rd_T25 l0 x3_1).f4) t214 _ A89.out).mono ?_); rintro e w93 ⟨rfl, hb⟩; refine ⟨_, rfl, ?_⟩; have n0_ := Aside0.mk (below_step (by repeat (first | (with_reducible first | exact HB.out | apply below_alloc | apply pw_below_drewN | apply below_drew1) | exact HB.out)) hb); clear HB; have HB := n0_; clear n0_; (try clear hb); (try clear hb2); (try clear hk); (try clear hi)) | ((with_reducible refine gate_callee (f := 16) rfl ?_); refine goesL_ (some 128) rfl rfl Try.func16 (by kernel_rfl) rfl #[.int .i64 15, .int .i64 10, .int .u64 ((rd_T25 l0 x3_1).f3), .int .u64 ((rd_T25 l0 x3_1).f4)] rfl (by (try simp only [List.map_toArray, List.map_cons, List.map_nil]); first | done | rfl | (simp only [List.length_drop, List.length_take]; rfl)) ?_; (with_reducible refine (gantrylaw1_bin.calls kj35 15 10 ((rd_T25 l0 x3_1).f3) ((rd_T25 l0 x3_1).f4) t215 _ A90.out).mono ?_); rintro e w94 ⟨rfl, hb⟩; refine ⟨_, rfl, ?_⟩; have n0_ := Aside0.mk (below_step (by repeat (first | (with_reducible first | exact HB.out | apply below_alloc | apply pw_below_drewN | apply below_drew1) | exact HB.out)) hb); clear HB; have HB := n0_; clear n0_; (try clear hb); (try clear hb2); (try clear hk); (try clear hi)))
               go_ret
               exact ⟨by first | rfl | (simp [errW_none, errW_some] <;> rfl) | (simp [*, errW_none, errW_some] <;> rfl), by repeat (first | (with_reducible first | exact HB.out | apply below_alloc | apply pw_below_drewN | apply below_drew1) | exact HB.out)⟩
              ·rw [if_neg c91] at H
               have c91b0 : decide (1 < (IntKind.u64.wrap ((IntKind.u64.wrap (t213 + t214)) + t215))) = false := decide_eq_false c91
               clear c91
               have H' := Aside0.mk H
               clear H
               go_wp2_with (first | ((with_reducible refine gate_callee (f := 16) rfl ?_); refine goesL_ (some 119) rfl rfl Try.func16 (by kernel_rfl) rfl #[.int .i64 13, .int .i64 10, .int .u64 ((rd_T25 l0 x3_1).f3), .int .u64 ((rd_T25 l0 x3_1).f4)] rfl (by (try simp only [List.map_toArray, List.map_cons, List.map_nil]); first | done | rfl | (simp only [List.length_drop, List.length_take]; rfl)) ?_; (with_reducible refine (gantrylaw1_bin.calls kj35 13 10 ((rd_T25 l0 x3_1).f3) ((rd_T25 l0 x3_1).f4) t213 _ A88.out).mono ?_); rintro e w95 ⟨rfl, hb⟩; refine ⟨_, rfl, ?_⟩; have n0_ := Aside0.mk (below_step (by repeat (first | (with_reducible first | exact HB.out | apply below_alloc | apply pw_below_drewN | apply below_drew1) | exact HB.out)) hb); clear HB; have HB := n0_; clear n0_; (try clear hb); (try clear hb2); (try clear hk); (try clear hi)) | ((with_reducible refine gate_callee (f := 16) rfl ?_); refine goesL_ (some 123) rfl rfl Try.func16 (by kernel_rfl) rfl #[.int .i64 11, .int .i64 10, .int .u64 ((rd_T25 l0 x3_1).f3), .int .u64 ((rd_T25 l0 x3_1).f4)] rfl (by (try simp only [List.map_toArray, List.map_cons, List.map_nil]); first | done | rfl | (simp only [List.length_drop, List.length_take]; rfl)) ?_; (with_reducible refine (gantrylaw1_bin.calls kj35 11 10 ((rd_T25 l0 x3_1).f3) ((rd_T25 l0 x3_1).f4) t214 _ A89.out).mono ?_); rintro e w96 ⟨rfl, hb⟩; refine ⟨_, rfl, ?_⟩; have n0_ := Aside0.mk (below_step (by repeat (first | (with_reducible first | exact HB.out | apply below_alloc | apply pw_below_drewN | apply below_drew1) | exact HB.out)) hb); clear HB; have HB := n0_; clear n0_; (try clear hb); (try clear hb2); (try clear hk); (try clear hi)) | ((with_reducible refine gate_callee (f := 16) rfl ?_); refine goesL_ (some 128) rfl rfl Try.func16 (by kernel_rfl) rfl #[.int .i64 15, .int .i64 10, .int .u64 ((rd_T25 l0 x3_1).f3), .int .u64 ((rd_T25 l0 x3_1).f4)] rfl (by (try simp only [List.map_toArray, List.map_cons, List.map_nil]); first | done | rfl | (simp only [List.length_drop, List.length_take]; rfl)) ?_; (with_reducible refine (gantrylaw1_bin.calls kj35 15 10 ((rd_T25 l0 x3_1).f3) ((rd_T25 l0 x3_1).f4) t215 _ A90.out).mono ?_); rintro e w97 ⟨rfl, hb⟩; refine ⟨_, rfl, ?_⟩; have n0_ := Aside0.mk (below_step (by repeat (first | (with_reducible first | exact HB.out | apply below_alloc | apply pw_below_drewN | apply below_drew1) | exact HB.out)) hb); clear HB; have HB := n0_; clear n0_; (try clear hb); (try clear hb2); (try clear hk); (try clear hi)))
               go_roundg kj35
               case measure => have := HK1.out; have := HJ1.out; have := HJ8.out; have := HJ35.out; omega
               case rel => exact ⟨(wrap64 (x3_1 + 1)), (by first | rfl | (simp; done) | (simp [*]; done)), H', ⟨by have := HK1.out; have := HJ1.out; have := HJ8.out; have := HJ35.out; omega⟩, ⟨by repeat (first | (with_reducible first | exact HB.out | apply below_alloc | apply pw_below_drewN | apply below_drew1) | exact HB.out)⟩⟩
       ·rw [if_neg c6] at H
        exact absurd H (by simp)
      ·rw [if_neg c5] at H
       exact absurd H (by simp)
     ·replace c4 := Bool.eq_false_iff.mpr c4
      subst c4
      have H1 : ((gantrylaw1_wakes.f kj1).bind fun t190 => (some t190)) = some r := by rw [if_neg (show ¬ (false = true) by decide)] at H; exact H
      clear H
      have H := H1
      clear H1
      replace H := Option.bind_eq_some_iff.mp H
      obtain ⟨t190, A980, H⟩ := H
      replace H : (some t190) = some r := H
      have A98 := Aside0.mk A980
      clear A980
      obtain rfl := Option.some.inj H
      go_wp2_with (first | ((with_reducible refine gate_callee (f := 18) rfl ?_); refine goesL_ (some 131) rfl rfl Try.func18 (by kernel_rfl) rfl #[] rfl (by (try simp only [List.map_toArray, List.map_cons, List.map_nil]); first | done | rfl | (simp only [List.length_drop, List.length_take]; rfl)) ?_; (with_reducible refine (gantrylaw1_wakes.calls kj1  t190 _ A98.out).mono ?_); rintro e w99 ⟨rfl, hb⟩; refine ⟨_, rfl, ?_⟩; have n0_ := Aside0.mk (below_step (by repeat (first | (with_reducible first | exact HB.out | apply below_alloc | apply pw_below_drewN | apply below_drew1) | exact HB.out)) hb); clear HB; have HB := n0_; clear n0_; (try clear hb); (try clear hb2); (try clear hk); (try clear hi)))
      go_ret
      exact ⟨by first | rfl | (simp [errW_none, errW_some] <;> rfl) | (simp [*, errW_none, errW_some] <;> rfl), by repeat (first | (with_reducible first | exact HB.out | apply below_alloc | apply pw_below_drewN | apply below_drew1) | exact HB.out)⟩

end Go.Proofs.Ytahepinbmcgbnaa.PA
