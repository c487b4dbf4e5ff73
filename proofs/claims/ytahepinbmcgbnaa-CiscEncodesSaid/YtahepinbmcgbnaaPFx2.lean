-- Printed by this session's program (wip/tools: the kit's printer, turned for this claim), out of the translation.
import Derived.Test.YtahepinbmcgbnaaPFx0
import Derived.Test.YtahepinbmcgbnaaPFx1
namespace Go.Proofs.Ytahepinbmcgbnaa.PF
open Go.RowKit Go.Proofs.YtahepinbmcgbnaaW.PrintWords Go.Proofs.YtahepinbmcgbnaaW.PrintLast Go.Proofs.YtahepinbmcgbnaaW.PrintMore
attribute [local go_sem] max2_int min2_int max_two min_two max_three min_three max_four min_four   -- for this text's walks alone
open Go.Proofs.Ytahepinbmcgbnaa
set_option linter.unusedVariables false
set_option linter.unusedSimpArgs false

/-! ### gantrylaw4_CiscEncodes: function 11 -/
mutual
def gantrylaw4_CiscEncodes.l0 : Nat → List (S46) → Int → Option (Bool)
 | 0, _, _ => none
 | k + 1, x0, x3 => if x3 < (x0.length : Int) then (gantrylaw4_CiscEncodes.j1 k x0 x3 (decide (x3 < 100))) else (gantrylaw4_CiscEncodes.j1 k x0 x3 false)
def gantrylaw4_CiscEncodes.j1 : Nat → List (S46) → Int → Bool → Option (Bool)
 | 0, _, _, _ => none
 | k + 1, x0, x3, x13 => if x13 = true then (if 0 ≤ x3 then (if x3 < (x0.length : Int) then ((cisc_Encode.f ((rd_T46 x0 x3).f0) ((rd_T46 x0 x3).f1) ((rd_T46 x0 x3).f2) ((rd_T46 x0 x3).f3) ((rd_T46 x0 x3).f4) ((rd_T46 x0 x3).f5) ((rd_T46 x0 x3).f6) ((rd_T46 x0 x3).f7) ((rd_T46 x0 x3).f8)).bind fun bt122 => ((gantryref4_May.f ((rd_T46 x0 x3).f0) ((rd_T46 x0 x3).f1) ((rd_T46 x0 x3).f2) ((rd_T46 x0 x3).f3) ((rd_T46 x0 x3).f4) ((rd_T46 x0 x3).f5) ((rd_T46 x0 x3).f6) ((rd_T46 x0 x3).f7) ((rd_T46 x0 x3).f8)).bind fun t127 => (if t127 = true then ((gantrylaw4_num.f bt122.2).bind fun t129 => (if t129 = 0 then ((gantryref4_Encode.f ((rd_T46 x0 x3).f0) ((rd_T46 x0 x3).f1) ((rd_T46 x0 x3).f2) ((rd_T46 x0 x3).f3) ((rd_T46 x0 x3).f4) ((rd_T46 x0 x3).f5) ((rd_T46 x0 x3).f6) ((rd_T46 x0 x3).f7) ((rd_T46 x0 x3).f8)).bind fun t131 => ((gantryref0_EqBytes.f k bt122.1 t131).bind fun t134 => (if t134 = true then ((gantrylaw0_Bytes.f k bt122.1).bind fun _ => (gantrylaw4_CiscEncodes.l0 k x0 (wrap64 (x3 + 1)))) else (some false)))) else (some false))) else ((gantrylaw4_num.f bt122.2).bind fun t128 => (if t128 = 40 then (if (bt122.1.length : Int) > 0 then (some false) else (gantrylaw4_CiscEncodes.l0 k x0 (wrap64 (x3 + 1)))) else (some false)))))) else (none)) else (none)) else ((gantrylaw4_wakes.f k).bind fun t120 => (some t120))
end
def gantrylaw4_CiscEncodes.f (k : Nat) (l0 : List (S46)) : Option (Bool) := gantrylaw4_CiscEncodes.l0 k l0 0
theorem gantrylaw4_CiscEncodes.mono_l : ∀ k, (∀ y0 y1, LeO (gantrylaw4_CiscEncodes.l0 k y0 y1) (gantrylaw4_CiscEncodes.l0 (k + 1) y0 y1)) ∧ (∀ y0 y1 y2, LeO (gantrylaw4_CiscEncodes.j1 k y0 y1 y2) (gantrylaw4_CiscEncodes.j1 (k + 1) y0 y1 y2))
 | 0 => ⟨fun _ _ r h => by simp [gantrylaw4_CiscEncodes.l0] at h, fun _ _ _ r h => by simp [gantrylaw4_CiscEncodes.j1] at h⟩
 | k + 1 => by
  obtain ⟨ih0, ih1⟩ := gantrylaw4_CiscEncodes.mono_l k
  refine ⟨?_, ?_⟩
  ·intro y0 y1
   unfold gantrylaw4_CiscEncodes.l0
   repeat' first
   | (with_reducible exact ih0 _ _)
   | (with_reducible exact ih1 _ _ _)
   | (with_reducible exact gantrylaw0_Bytes.mono _ _)
   | (with_reducible exact gantrylaw4_wakes.mono _)
   | (with_reducible exact gantryref0_EqBytes.mono _ _ _)
   | (with_reducible exact LeO.refl _)
   | (with_reducible exact LeO.none _)
   | (with_reducible refine LeO.ite ?_ ?_)
   | (with_reducible refine LeO.bind ?_ (fun _ => ?_))
   | exact ih0 _ _
   | exact ih1 _ _ _
   | exact gantrylaw0_Bytes.mono _ _
   | exact gantrylaw4_wakes.mono _
   | exact gantryref0_EqBytes.mono _ _ _
   | exact LeO.none _
   | refine LeO.ite ?_ ?_
   | refine LeO.bind ?_ (fun _ => ?_)
  ·intro y0 y1 y2
   unfold gantrylaw4_CiscEncodes.j1
   repeat' first
   | (with_reducible exact ih0 _ _)
   | (with_reducible exact ih1 _ _ _)
   | (with_reducible exact gantrylaw0_Bytes.mono _ _)
   | (with_reducible exact gantrylaw4_wakes.mono _)
   | (with_reducible exact gantryref0_EqBytes.mono _ _ _)
   | (with_reducible exact LeO.refl _)
   | (with_reducible exact LeO.none _)
   | (with_reducible refine LeO.ite ?_ ?_)
   | (with_reducible refine LeO.bind ?_ (fun _ => ?_))
   | exact ih0 _ _
   | exact ih1 _ _ _
   | exact gantrylaw0_Bytes.mono _ _
   | exact gantrylaw4_wakes.mono _
   | exact gantryref0_EqBytes.mono _ _ _
   | exact LeO.none _
   | refine LeO.ite ?_ ?_
   | refine LeO.bind ?_ (fun _ => ?_)
theorem gantrylaw4_CiscEncodes.mono : ∀ a0 k, LeO (gantrylaw4_CiscEncodes.f k a0) (gantrylaw4_CiscEncodes.f (k + 1) a0) := by
 intro a0 k
 obtain ⟨ih0, ih1⟩ := gantrylaw4_CiscEncodes.mono_l k
 unfold gantrylaw4_CiscEncodes.f
 repeat' first
   | (with_reducible exact ih0 _ _)
   | (with_reducible exact ih1 _ _ _)
   | (with_reducible exact gantrylaw0_Bytes.mono _ _)
   | (with_reducible exact gantrylaw4_wakes.mono _)
   | (with_reducible exact gantryref0_EqBytes.mono _ _ _)
   | (with_reducible exact LeO.refl _)
   | (with_reducible exact LeO.none _)
   | (with_reducible refine LeO.ite ?_ ?_)
   | (with_reducible refine LeO.bind ?_ (fun _ => ?_))
   | exact ih0 _ _
   | exact ih1 _ _ _
   | exact gantrylaw0_Bytes.mono _ _
   | exact gantrylaw4_wakes.mono _
   | exact gantryref0_EqBytes.mono _ _ _
   | exact LeO.none _
   | refine LeO.ite ?_ ?_
   | refine LeO.bind ?_ (fun _ => ?_)
set_option maxHeartbeats 8000000 in
set_option maxRecDepth 100000 in
theorem gantrylaw4_CiscEncodes.calls (k : Nat) (A0 : Option Addr) (c0 : Nat) (l0 : List (S46)) (r : Bool) (w : World) (hr0 : Kd.C k46 w A0 l0.length l0) (hc0 : l0.length ≤ c0) (h : gantrylaw4_CiscEncodes.f k l0 = some r) :
  Calls Try.prog 11 #[.slice A0 l0.length c0] w fun e w' => e = .returned (.bool r) ∧ Below w.heap.size w w' := by
 have hu46 := Try.underlying46
 have HR0 := Aside0.mk hr0
 have HC0 := Aside0.mk hc0
 clear hr0 hc0
 have HB := Aside0.mk (Below.refl w.heap.size w)
 have H : (gantrylaw4_CiscEncodes.l0 k l0 0) = some r := h
 clear h
 have H' := Aside0.mk H
 clear H
 go_enter Try.func11, Try.ntmps11
 go_wp2
 go_loopg [3] k (fun kq v3 w' => ∃ (x3_1 : Int), v3 = .int .i64 x3_1 ∧ Aside0 (gantrylaw4_CiscEncodes.l0 kq l0 x3_1 = some r) ∧ Aside0 (kq ≤ k) ∧ Aside0 (Below w.heap.size w w'))
 case atStart => exact ⟨(0), (by first | rfl | (simp; done) | (simp [*]; done)), H', ⟨Nat.le_refl _⟩, ⟨by repeat (first | (with_reducible first | exact HB.out | apply below_alloc | apply pw_below_drewN | apply below_drew1) | exact HB.out)⟩⟩
 case round =>
  clear H'
  try clear c1
  obtain ⟨x3_1, rfl, HA, HK1, HB⟩ := hrel
  cases gk with
  | zero => exact absurd HA.out (by simp [gantrylaw4_CiscEncodes.l0])
  | succ k1 =>
   have H := HA.out
   clear HA
   simp only [gantrylaw4_CiscEncodes.l0] at H
   have HC2 := Aside0.mk H
   clear H
   go_upto_region 2 with (fail)
   go_cut [13] (fun v13 wc => ∃ (kq : Nat) (x13_1 : Bool), v13 = .bool x13_1 ∧ Aside0 (gantrylaw4_CiscEncodes.j1 kq l0 x3_1 x13_1 = some r) ∧ Aside0 (kq ≤ k1) ∧ Aside0 (Below w.heap.size w wc))
   case first =>
    have H := HC2.out
    clear HC2
    by_cases c3 : x3_1 < (l0.length : Int)
    ·rw [if_pos c3] at H
     have c3b0 : decide (x3_1 < (l0.length : Int)) = true := decide_eq_true c3
     clear c3
     (first | rw [c3b0] | (simp only [i64_w, i32_w]; rw [c3b0]) | skip)
     have H' := Aside0.mk H
     clear H
     go_wp2
     go_meet
     case rel => exact ⟨_, (decide (x3_1 < 100)), (by first | rfl | (simp; done) | (simp [*]; done)), H', ⟨by have := HK1.out; first | omega | exact Nat.le_refl _⟩, ⟨by repeat (first | (with_reducible first | exact HB.out | apply below_alloc | apply pw_below_drewN | apply below_drew1) | exact HB.out)⟩⟩
    ·rw [if_neg c3] at H
     have c3b0 : decide (x3_1 < (l0.length : Int)) = false := decide_eq_false c3
     clear c3
     (first | rw [c3b0] | (simp only [i64_w, i32_w]; rw [c3b0]) | skip)
     have H' := Aside0.mk H
     clear H
     go_wp2
     go_meet
     case rel => exact ⟨_, (false), (by first | rfl | (simp; done) | (simp [*]; done)), H', ⟨by have := HK1.out; first | omega | exact Nat.le_refl _⟩, ⟨by repeat (first | (with_reducible first | exact HB.out | apply below_alloc | apply pw_below_drewN | apply below_drew1) | exact HB.out)⟩⟩
   case rest =>
    clear HC2
    try clear c1
    try clear p2
    try clear c3
    try clear c3b0
    obtain ⟨kq, x13_1, rfl, HA, HJ1, HB⟩ := hcut
    cases kq with
    | zero => exact absurd HA.out (by simp [gantrylaw4_CiscEncodes.j1])
    | succ kj1 =>
     have H := HA.out
     clear HA
     simp only [gantrylaw4_CiscEncodes.j1] at H
     by_cases c4 : x13_1 = true
     ·subst c4
      have H1 : (if 0 ≤ x3_1 then (if x3_1 < (l0.length : Int) then ((cisc_Encode.f ((rd_T46 l0 x3_1).f0) ((rd_T46 l0 x3_1).f1) ((rd_T46 l0 x3_1).f2) ((rd_T46 l0 x3_1).f3) ((rd_T46 l0 x3_1).f4) ((rd_T46 l0 x3_1).f5) ((rd_T46 l0 x3_1).f6) ((rd_T46 l0 x3_1).f7) ((rd_T46 l0 x3_1).f8)).bind fun bt122 => ((gantryref4_May.f ((rd_T46 l0 x3_1).f0) ((rd_T46 l0 x3_1).f1) ((rd_T46 l0 x3_1).f2) ((rd_T46 l0 x3_1).f3) ((rd_T46 l0 x3_1).f4) ((rd_T46 l0 x3_1).f5) ((rd_T46 l0 x3_1).f6) ((rd_T46 l0 x3_1).f7) ((rd_T46 l0 x3_1).f8)).bind fun t127 => (if t127 = true then ((gantrylaw4_num.f bt122.2).bind fun t129 => (if t129 = 0 then ((gantryref4_Encode.f ((rd_T46 l0 x3_1).f0) ((rd_T46 l0 x3_1).f1) ((rd_T46 l0 x3_1).f2) ((rd_T46 l0 x3_1).f3) ((rd_T46 l0 x3_1).f4) ((rd_T46 l0 x3_1).f5) ((rd_T46 l0 x3_1).f6) ((rd_T46 l0 x3_1).f7) ((rd_T46 l0 x3_1).f8)).bind fun t131 => ((gantryref0_EqBytes.f kj1 bt122.1 t131).bind fun t134 => (if t134 = true then ((gantrylaw0_Bytes.f kj1 bt122.1).bind fun _ => (gantrylaw4_CiscEncodes.l0 kj1 l0 (wrap64 (x3_1 + 1)))) else (some false)))) else (some false))) else ((gantrylaw4_num.f bt122.2).bind fun t128 => (if t128 = 40 then (if (bt122.1.length : Int) > 0 then (some false) else (gantrylaw4_CiscEncodes.l0 kj1 l0 (wrap64 (x3_1 + 1)))) else (some false)))))) else (none)) else (none)) = some r := by rw [if_pos rfl] at H; exact H
      clear H
      have H := H1
      clear H1
      by_cases c5 : 0 ≤ x3_1
      ·rw [if_pos c5] at H
       have c5b0 : decide (0 ≤ x3_1) = true := decide_eq_true c5
       clear c5
       by_cases c6 : x3_1 < (l0.length : Int)
       ·rw [if_pos c6] at H
        have c6b0 : decide (x3_1 < (l0.length : Int)) = true := decide_eq_true c6
        clear c6
        replace H := Option.bind_eq_some_iff.mp H
        obtain ⟨⟨t122, t125⟩, A70, H⟩ := H
        replace H : ((gantryref4_May.f ((rd_T46 l0 x3_1).f0) ((rd_T46 l0 x3_1).f1) ((rd_T46 l0 x3_1).f2) ((rd_T46 l0 x3_1).f3) ((rd_T46 l0 x3_1).f4) ((rd_T46 l0 x3_1).f5) ((rd_T46 l0 x3_1).f6) ((rd_T46 l0 x3_1).f7) ((rd_T46 l0 x3_1).f8)).bind fun t127 => (if t127 = true then ((gantrylaw4_num.f t125).bind fun t129 => (if t129 = 0 then ((gantryref4_Encode.f ((rd_T46 l0 x3_1).f0) ((rd_T46 l0 x3_1).f1) ((rd_T46 l0 x3_1).f2) ((rd_T46 l0 x3_1).f3) ((rd_T46 l0 x3_1).f4) ((rd_T46 l0 x3_1).f5) ((rd_T46 l0 x3_1).f6) ((rd_T46 l0 x3_1).f7) ((rd_T46 l0 x3_1).f8)).bind fun t131 => ((gantryref0_EqBytes.f kj1 t122 t131).bind fun t134 => (if t134 = true then ((gantrylaw0_Bytes.f kj1 t122).bind fun _ => (gantrylaw4_CiscEncodes.l0 kj1 l0 (wrap64 (x3_1 + 1)))) else (some false)))) else (some false))) else ((gantrylaw4_num.f t125).bind fun t128 => (if t128 = 40 then (if (t122.length : Int) > 0 then (some false) else (gantrylaw4_CiscEncodes.l0 kj1 l0 (wrap64 (x3_1 + 1)))) else (some false))))) = some r := H
        have A7 := Aside0.mk A70
        clear A70
        replace H := Option.bind_eq_some_iff.mp H
        obtain ⟨t127, A80, H⟩ := H
        replace H : (if t127 = true then ((gantrylaw4_num.f t125).bind fun t129 => (if t129 = 0 then ((gantryref4_Encode.f ((rd_T46 l0 x3_1).f0) ((rd_T46 l0 x3_1).f1) ((rd_T46 l0 x3_1).f2) ((rd_T46 l0 x3_1).f3) ((rd_T46 l0 x3_1).f4) ((rd_T46 l0 x3_1).f5) ((rd_T46 l0 x3_1).f6) ((rd_T46 l0 x3_1).f7) ((rd_T46 l0 x3_1).f8)).bind fun t131 => ((gantryref0_EqBytes.f kj1 t122 t131).bind fun t134 => (if t134 = true then ((gantrylaw0_Bytes.f kj1 t122).bind fun _ => (gantrylaw4_CiscEncodes.l0 kj1 l0 (wrap64 (x3_1 + 1)))) else (some false)))) else (some false))) else ((gantrylaw4_num.f t125).bind fun t128 => (if t128 = 40 then (if (t122.length : Int) > 0 then (some false) else (gantrylaw4_CiscEncodes.l0 kj1 l0 (wrap64 (x3_1 + 1)))) else (some false)))) = some r := H
        have A8 := Aside0.mk A80
        clear A80
        by_cases c9 : t127 = true
        ·subst c9
         have H1 : ((gantrylaw4_num.f t125).bind fun t129 => (if t129 = 0 then ((gantryref4_Encode.f ((rd_T46 l0 x3_1).f0) ((rd_T46 l0 x3_1).f1) ((rd_T46 l0 x3_1).f2) ((rd_T46 l0 x3_1).f3) ((rd_T46 l0 x3_1).f4) ((rd_T46 l0 x3_1).f5) ((rd_T46 l0 x3_1).f6) ((rd_T46 l0 x3_1).f7) ((rd_T46 l0 x3_1).f8)).bind fun t131 => ((gantryref0_EqBytes.f kj1 t122 t131).bind fun t134 => (if t134 = true then ((gantrylaw0_Bytes.f kj1 t122).bind fun _ => (gantrylaw4_CiscEncodes.l0 kj1 l0 (wrap64 (x3_1 + 1)))) else (some false)))) else (some false))) = some r := by rw [if_pos rfl] at H; exact H
         clear H
         have H := H1
         clear H1
         replace H := Option.bind_eq_some_iff.mp H
         obtain ⟨t129, A100, H⟩ := H
         replace H : (if t129 = 0 then ((gantryref4_Encode.f ((rd_T46 l0 x3_1).f0) ((rd_T46 l0 x3_1).f1) ((rd_T46 l0 x3_1).f2) ((rd_T46 l0 x3_1).f3) ((rd_T46 l0 x3_1).f4) ((rd_T46 l0 x3_1).f5) ((rd_T46 l0 x3_1).f6) ((rd_T46 l0 x3_1).f7) ((rd_T46 l0 x3_1).f8)).bind fun t131 => ((gantryref0_EqBytes.f kj1 t122 t131).bind fun t134 => (if t134 = true then ((gantrylaw0_Bytes.f kj1 t122).bind fun _ => (gantrylaw4_CiscEncodes.l0 kj1 l0 (wrap64 (x3_1 + 1)))) else (some false)))) else (some false)) = some r := H
         have A10 := Aside0.mk A100
         clear A100
         by_cases c11 : t129 = 0
         ·rw [if_pos c11] at H
          have c11b0 : (t129 == 0) = true := beq_iff_eq.mpr c11
          have c11b1 : (t129 != 0) = false := bne_eq_false_iff_eq.mpr c11
          clear c11
          replace H := Option.bind_eq_some_iff.mp H
          obtain ⟨t131, A120, H⟩ := H
          replace H : ((gantryref0_EqBytes.f kj1 t122 t131).bind fun t134 => (if t134 = true then ((gantrylaw0_Bytes.f kj1 t122).bind fun _ => (gantrylaw4_CiscEncodes.l0 kj1 l0 (wrap64 (x3_1 + 1)))) else (some false))) = some r := H
          have A12 := Aside0.mk A120
          clear A120
          replace H := Option.bind_eq_some_iff.mp H
          obtain ⟨t134, A130, H⟩ := H
          replace H : (if t134 = true then ((gantrylaw0_Bytes.f kj1 t122).bind fun _ => (gantrylaw4_CiscEncodes.l0 kj1 l0 (wrap64 (x3_1 + 1)))) else (some false)) = some r := H
          have A13 := Aside0.mk A130
          clear A130
          by_cases c14 : t134 = true
          ·subst c14
           have H1 : ((gantrylaw0_Bytes.f kj1 t122).bind fun _ => (gantrylaw4_CiscEncodes.l0 kj1 l0 (wrap64 (x3_1 + 1)))) = some r := by rw [if_pos rfl] at H; exact H
           clear H
           have H := H1
           clear H1
           replace H := Option.bind_eq_some_iff.mp H
           obtain ⟨_, A150, H⟩ := H
           replace H : (gantrylaw4_CiscEncodes.l0 kj1 l0 (wrap64 (x3_1 + 1))) = some r := H
           have A15 := Aside0.mk A150
           clear A150
           have H' := Aside0.mk H
           clear H
           have p121 : 0 ≤ (x3_1 : Int) := of_decide_eq_true (by first | (with_reducible assumption) | assumption)
           have q121 : x3_1 < (l0.length : Int) := of_decide_eq_true (by first | (with_reducible assumption) | assumption)
           obtain ⟨ad121, e121, hx121_0, hx121_1, hx121_2, hx121_3, hx121_4, hx121_5, hx121_6, hx121_7, hx121_8⟩ := at_T46 HR0.out x3_1 p121 q121
           cases e121
           replace hx121_0 := (HB.out.cell (World.block_lt_of_cell? w _ hx121_0)).trans hx121_0
           replace hx121_1 := (HB.out.cell (World.block_lt_of_cell? w _ hx121_1)).trans hx121_1
           replace hx121_2 := (HB.out.cell (World.block_lt_of_cell? w _ hx121_2)).trans hx121_2
           replace hx121_3 := (HB.out.cell (World.block_lt_of_cell? w _ hx121_3)).trans hx121_3
           replace hx121_4 := (HB.out.cell (World.block_lt_of_cell? w _ hx121_4)).trans hx121_4
           replace hx121_5 := (HB.out.cell (World.block_lt_of_cell? w _ hx121_5)).trans hx121_5
           replace hx121_6 := (HB.out.cell (World.block_lt_of_cell? w _ hx121_6)).trans hx121_6
           replace hx121_7 := (HB.out.cell (World.block_lt_of_cell? w _ hx121_7)).trans hx121_7
           replace hx121_8 := (HB.out.cell (World.block_lt_of_cell? w _ hx121_8)).trans hx121_8
           replace p121 := eq_true p121
           replace q121 := eq_true q121
           go_wp2_with (first | ((with_reducible refine gate_callee (f := 42) rfl ?_); refine goesL_ (some 21) rfl rfl Try.func42 (by kernel_rfl) rfl #[.agg #[.int .i64 ((rd_T46 l0 x3_1).f0), .int .i64 ((rd_T46 l0 x3_1).f1), .int .i64 ((rd_T46 l0 x3_1).f2), .int .i64 ((rd_T46 l0 x3_1).f3), .int .i64 ((rd_T46 l0 x3_1).f4), .int .i64 ((rd_T46 l0 x3_1).f5), .int .i64 ((rd_T46 l0 x3_1).f6), .int .i64 ((rd_T46 l0 x3_1).f7), .int .i64 ((rd_T46 l0 x3_1).f8)]] rfl (by (try simp only [List.map_toArray, List.map_cons, List.map_nil]); first | done | rfl | (simp only [List.length_drop, List.length_take]; rfl)) ?_; (with_reducible refine (cisc_Encode.calls ((rd_T46 l0 x3_1).f0) ((rd_T46 l0 x3_1).f1) ((rd_T46 l0 x3_1).f2) ((rd_T46 l0 x3_1).f3) ((rd_T46 l0 x3_1).f4) ((rd_T46 l0 x3_1).f5) ((rd_T46 l0 x3_1).f6) ((rd_T46 l0 x3_1).f7) ((rd_T46 l0 x3_1).f8) t122 t125 _ A7.out).mono ?_); rintro e w16 ⟨v123, rfl, ho0, hb⟩; refine ⟨_, rfl, ?_⟩; have n0_ := Aside0.mk (Kd.R_lower ho0 (below_size (by repeat (first | (with_reducible first | exact HB.out | apply below_alloc | apply pw_below_drewN | apply below_drew1) | exact HB.out)))); have n1_ := Aside0.mk (below_step (by repeat (first | (with_reducible first | exact HB.out | apply below_alloc | apply pw_below_drewN | apply below_drew1) | exact HB.out)) hb); clear HB; have HO124 := n0_; have HB := n1_; clear n0_ n1_; (try clear hb); (try clear hb2); (try clear hk); (try clear hi); (try clear ho0); have p126 : 0 ≤ (x3_1 : Int) := of_decide_eq_true (by first | (with_reducible assumption) | assumption); have q126 : x3_1 < (l0.length : Int) := of_decide_eq_true (by first | (with_reducible assumption) | assumption); obtain ⟨ad126, e126, hx126_0, hx126_1, hx126_2, hx126_3, hx126_4, hx126_5, hx126_6, hx126_7, hx126_8⟩ := at_T46 HR0.out x3_1 p126 q126; obtain rfl : ad121 = ad126 := (by injection e126); replace hx126_0 := (HB.out.cell (World.block_lt_of_cell? w _ hx126_0)).trans hx126_0; replace hx126_1 := (HB.out.cell (World.block_lt_of_cell? w _ hx126_1)).trans hx126_1; replace hx126_2 := (HB.out.cell (World.block_lt_of_cell? w _ hx126_2)).trans hx126_2; replace hx126_3 := (HB.out.cell (World.block_lt_of_cell? w _ hx126_3)).trans hx126_3; replace hx126_4 := (HB.out.cell (World.block_lt_of_cell? w _ hx126_4)).trans hx126_4; replace hx126_5 := (HB.out.cell (World.block_lt_of_cell? w _ hx126_5)).trans hx126_5; replace hx126_6 := (HB.out.cell (World.block_lt_of_cell? w _ hx126_6)).trans hx126_6; replace hx126_7 := (HB.out.cell (World.block_lt_of_cell? w _ hx126_7)).trans hx126_7; replace hx126_8 := (HB.out.cell (World.block_lt_of_cell? w _ hx126_8)).trans hx126_8; replace p126 := eq_true p126; replace q126 := eq_true q126) | ((with_reducible refine gate_callee (f := 43) rfl ?_); refine goesL_ (some 28) rfl rfl Try.func43 (by kernel_rfl) rfl #[.agg #[.int .i64 ((rd_T46 l0 x3_1).f0), .int .i64 ((rd_T46 l0 x3_1).f1), .int .i64 ((rd_T46 l0 x3_1).f2), .int .i64 ((rd_T46 l0 x3_1).f3), .int .i64 ((rd_T46 l0 x3_1).f4), .int .i64 ((rd_T46 l0 x3_1).f5), .int .i64 ((rd_T46 l0 x3_1).f6), .int .i64 ((rd_T46 l0 x3_1).f7), .int .i64 ((rd_T46 l0 x3_1).f8)]] rfl (by (try simp only [List.map_toArray, List.map_cons, List.map_nil]); first | done | rfl | (simp only [List.length_drop, List.length_take]; rfl)) ?_; (with_reducible refine (gantryref4_May.calls ((rd_T46 l0 x3_1).f0) ((rd_T46 l0 x3_1).f1) ((rd_T46 l0 x3_1).f2) ((rd_T46 l0 x3_1).f3) ((rd_T46 l0 x3_1).f4) ((rd_T46 l0 x3_1).f5) ((rd_T46 l0 x3_1).f6) ((rd_T46 l0 x3_1).f7) ((rd_T46 l0 x3_1).f8) true _ A8.out).mono ?_); rintro e w17 ⟨rfl, hb⟩; refine ⟨_, rfl, ?_⟩; have n0_ := Aside0.mk (Kd.R_below (by (with_reducible repeat (first | apply Kd.R_alloc | apply Kd.R_drewN | apply Kd.R_drew)); exact HO124.out) hb); have n1_ := Aside0.mk (below_step (by repeat (first | (with_reducible first | exact HB.out | apply below_alloc | apply pw_below_drewN | apply below_drew1) | exact HB.out)) hb); clear HO124; clear HB; have HO124 := n0_; have HB := n1_; clear n0_ n1_; (try clear hb); (try clear hb2); (try clear hk); (try clear hi)) | ((with_reducible refine gate_callee (f := 44) rfl ?_); refine goesL_ (some 39) rfl rfl Try.func44 (by kernel_rfl) rfl #[.int .i64 t125] rfl (by (try simp only [List.map_toArray, List.map_cons, List.map_nil]); first | done | rfl | (simp only [List.length_drop, List.length_take]; rfl)) ?_; (with_reducible refine (gantrylaw4_num.calls t125 t129 _ A10.out).mono ?_); rintro e w' ⟨rfl, ⟨nd, rfl⟩⟩; refine ⟨_, rfl, ?_⟩; have p130 : 0 ≤ (x3_1 : Int) := of_decide_eq_true (by first | (with_reducible assumption) | assumption); have q130 : x3_1 < (l0.length : Int) := of_decide_eq_true (by first | (with_reducible assumption) | assumption); obtain ⟨ad130, e130, hx130_0, hx130_1, hx130_2, hx130_3, hx130_4, hx130_5, hx130_6, hx130_7, hx130_8⟩ := at_T46 HR0.out x3_1 p130 q130; obtain rfl : ad121 = ad130 := (by injection e130); replace hx130_0 := (HB.out.cell (World.block_lt_of_cell? w _ hx130_0)).trans hx130_0; replace hx130_1 := (HB.out.cell (World.block_lt_of_cell? w _ hx130_1)).trans hx130_1; replace hx130_2 := (HB.out.cell (World.block_lt_of_cell? w _ hx130_2)).trans hx130_2; replace hx130_3 := (HB.out.cell (World.block_lt_of_cell? w _ hx130_3)).trans hx130_3; replace hx130_4 := (HB.out.cell (World.block_lt_of_cell? w _ hx130_4)).trans hx130_4; replace hx130_5 := (HB.out.cell (World.block_lt_of_cell? w _ hx130_5)).trans hx130_5; replace hx130_6 := (HB.out.cell (World.block_lt_of_cell? w _ hx130_6)).trans hx130_6; replace hx130_7 := (HB.out.cell (World.block_lt_of_cell? w _ hx130_7)).trans hx130_7; replace hx130_8 := (HB.out.cell (World.block_lt_of_cell? w _ hx130_8)).trans hx130_8; replace p130 := eq_true p130; replace q130 := eq_true q130) | (go_at_call 45; (with_reducible refine (gantryref4_Encode.calls ((rd_T46 l0 x3_1).f0) ((rd_T46 l0 x3_1).f1) ((rd_T46 l0 x3_1).f2) ((rd_T46 l0 x3_1).f3) ((rd_T46 l0 x3_1).f4) ((rd_T46 l0 x3_1).f5) ((rd_T46 l0 x3_1).f6) ((rd_T46 l0 x3_1).f7) ((rd_T46 l0 x3_1).f8) t131 _ A12.out).mono ?_); rintro e w18 ⟨v132, rfl, ho0, hb⟩; have n0_ := Aside0.mk (Kd.R_elder' (by (with_reducible repeat (first | apply Kd.R_alloc | apply Kd.R_drewN | apply Kd.R_drew)); exact HO124.out) (Kd.R_base ho0) hb); have n1_ := Aside0.mk (Kd.R_lower (Kd.R_new' ho0 (Kd.R_lt (by (with_reducible repeat (first | apply Kd.R_alloc | apply Kd.R_drewN | apply Kd.R_drew)); exact HO124.out))) (below_size (by repeat (first | (with_reducible first | exact HB.out | apply below_alloc | apply pw_below_drewN | apply below_drew1) | exact HB.out)))); have n2_ := Aside0.mk (below_step (by repeat (first | (with_reducible first | exact HB.out | apply below_alloc | apply pw_below_drewN | apply below_drew1) | exact HB.out)) hb); clear HO124; clear HB; have HO124 := n0_; have HO133 := n1_; have HB := n2_; clear n0_ n1_ n2_; (try clear hb); (try clear hb2); (try clear hk); (try clear hi); (try clear ho0); obtain ⟨Ao19, co19, eo19⟩ := Kd.R_slice HO124.out; subst eo19; obtain ⟨Ao20, co20, eo20⟩ := Kd.R_slice HO133.out; subst eo20) | (go_at_call 35; (with_reducible refine (gantryref0_EqBytes.calls kj1 _ _ t122 _ _ t131 true _ ?side1 ?side2 ?side3 ?side4 A13.out).mono ?_); (case side1 => repeat (first | exact (Kd.R_reads' HO124.out).2.2 | (with_reducible refine Kd.C_alloc ?_ _) | (with_reducible refine Kd.C_drewN ?_ _) | (with_reducible refine Kd.C_drew ?_))); (case side2 => exact (Kd.R_reads' HO124.out).2.1); (case side3 => repeat (first | exact (Kd.R_reads' HO133.out).2.2 | (with_reducible refine Kd.C_alloc ?_ _) | (with_reducible refine Kd.C_drewN ?_ _) | (with_reducible refine Kd.C_drew ?_))); (case side4 => exact (Kd.R_reads' HO133.out).2.1); rintro e w' ⟨rfl, ⟨nd, rfl⟩⟩) | ((with_reducible refine gate_callee (f := 37) rfl ?_); refine goesL_ (some 52) rfl rfl Try.func37 (by kernel_rfl) rfl #[.slice Ao19 t122.length co19] rfl (by (try simp only [List.map_toArray, List.map_cons, List.map_nil]); first | done | rfl | (simp only [List.length_drop, List.length_take]; rfl)) ?_; (with_reducible refine (gantrylaw0_Bytes.calls kj1 (fun k_ => some k_ = (.slice Ao19 t122.length co19 : Value).ownBlock) (.slice Ao19 t122.length co19) t122  w _ ?side1 ?side2 A15.out).mono ?_); (case side1 => repeat (first | (with_reducible first | exact HB.out | apply below_alloc | apply pw_below_drewN | apply below_drew1) | exact HB.out)); (case side2 => exact Kd.R_tight rfl HO124.out); rintro e w21 ⟨rfl, hb, hkp⟩; refine ⟨_, rfl, ?_⟩; have n0_ := Aside0.mk (Kd.R_mono (ok' := fun k_ => True) (Kd.R_keptB (HO133.out) hkp (fun k_ hk_ hs_ => (hk_.2) hs_)) (fun k_ hk_ => trivial)); have n1_ := Aside0.mk (hb); clear HO133; clear HB; clear HO124; have HO133 := n0_; have HB := n1_; clear n0_ n1_; (try clear hb); (try clear hkp)))
           go_roundg kj1
           case measure => have := HK1.out; have := HJ1.out; omega
           case rel => exact ⟨(wrap64 (x3_1 + 1)), (by first | rfl | (simp; done) | (simp [*]; done)), H', ⟨by have := HK1.out; have := HJ1.out; omega⟩, ⟨by repeat (first | (with_reducible first | exact HB.out | apply below_alloc | apply pw_below_drewN | apply below_drew1) | exact HB.out)⟩⟩
          ·replace c14 := Bool.eq_false_iff.mpr c14
           subst c14
           have H1 : (some false) = some r := by rw [if_neg (show ¬ (false = true) by decide)] at H; exact H
           clear H
           have H := H1
           clear H1
           obtain rfl := Option.some.inj H
           have p121 : 0 ≤ (x3_1 : Int) := of_decide_eq_true (by first | (with_reducible assumption) | assumption)
           have q121 : x3_1 < (l0.length : Int) := of_decide_eq_true (by first | (with_reducible assumption) | assumption)
           obtain ⟨ad121, e121, hx121_0, hx121_1, hx121_2, hx121_3, hx121_4, hx121_5, hx121_6, hx121_7, hx121_8⟩ := at_T46 HR0.out x3_1 p121 q121
           cases e121
           replace hx121_0 := (HB.out.cell (World.block_lt_of_cell? w _ hx121_0)).trans hx121_0
           replace hx121_1 := (HB.out.cell (World.block_lt_of_cell? w _ hx121_1)).trans hx121_1
           replace hx121_2 := (HB.out.cell (World.block_lt_of_cell? w _ hx121_2)).trans hx121_2
           replace hx121_3 := (HB.out.cell (World.block_lt_of_cell? w _ hx121_3)).trans hx121_3
           replace hx121_4 := (HB.out.cell (World.block_lt_of_cell? w _ hx121_4)).trans hx121_4
           replace hx121_5 := (HB.out.cell (World.block_lt_of_cell? w _ hx121_5)).trans hx121_5
           replace hx121_6 := (HB.out.cell (World.block_lt_of_cell? w _ hx121_6)).trans hx121_6
           replace hx121_7 := (HB.out.cell (World.block_lt_of_cell? w _ hx121_7)).trans hx121_7
           replace hx121_8 := (HB.out.cell (World.block_lt_of_cell? w _ hx121_8)).trans hx121_8
           replace p121 := eq_true p121
           replace q121 := eq_true q121
           go_wp2_with (first | ((with_reducible refine gate_callee (f := 42) rfl ?_); refine goesL_ (some 21) rfl rfl Try.func42 (by kernel_rfl) rfl #[.agg #[.int .i64 ((rd_T46 l0 x3_1).f0), .int .i64 ((rd_T46 l0 x3_1).f1), .int .i64 ((rd_T46 l0 x3_1).f2), .int .i64 ((rd_T46 l0 x3_1).f3), .int .i64 ((rd_T46 l0 x3_1).f4), .int .i64 ((rd_T46 l0 x3_1).f5), .int .i64 ((rd_T46 l0 x3_1).f6), .int .i64 ((rd_T46 l0 x3_1).f7), .int .i64 ((rd_T46 l0 x3_1).f8)]] rfl (by (try simp only [List.map_toArray, List.map_cons, List.map_nil]); first | done | rfl | (simp only [List.length_drop, List.length_take]; rfl)) ?_; (with_reducible refine (cisc_Encode.calls ((rd_T46 l0 x3_1).f0) ((rd_T46 l0 x3_1).f1) ((rd_T46 l0 x3_1).f2) ((rd_T46 l0 x3_1).f3) ((rd_T46 l0 x3_1).f4) ((rd_T46 l0 x3_1).f5) ((rd_T46 l0 x3_1).f6) ((rd_T46 l0 x3_1).f7) ((rd_T46 l0 x3_1).f8) t122 t125 _ A7.out).mono ?_); rintro e w22 ⟨v123, rfl, ho0, hb⟩; refine ⟨_, rfl, ?_⟩; have n0_ := Aside0.mk (Kd.R_lower ho0 (below_size (by repeat (first | (with_reducible first | exact HB.out | apply below_alloc | apply pw_below_drewN | apply below_drew1) | exact HB.out)))); have n1_ := Aside0.mk (below_step (by repeat (first | (with_reducible first | exact HB.out | apply below_alloc | apply pw_below_drewN | apply below_drew1) | exact HB.out)) hb); clear HB; have HO124 := n0_; have HB := n1_; clear n0_ n1_; (try clear hb); (try clear hb2); (try clear hk); (try clear hi); (try clear ho0); have p126 : 0 ≤ (x3_1 : Int) := of_decide_eq_true (by first | (with_reducible assumption) | assumption); have q126 : x3_1 < (l0.length : Int) := of_decide_eq_true (by first | (with_reducible assumption) | assumption); obtain ⟨ad126, e126, hx126_0, hx126_1, hx126_2, hx126_3, hx126_4, hx126_5, hx126_6, hx126_7, hx126_8⟩ := at_T46 HR0.out x3_1 p126 q126; obtain rfl : ad121 = ad126 := (by injection e126); replace hx126_0 := (HB.out.cell (World.block_lt_of_cell? w _ hx126_0)).trans hx126_0; replace hx126_1 := (HB.out.cell (World.block_lt_of_cell? w _ hx126_1)).trans hx126_1; replace hx126_2 := (HB.out.cell (World.block_lt_of_cell? w _ hx126_2)).trans hx126_2; replace hx126_3 := (HB.out.cell (World.block_lt_of_cell? w _ hx126_3)).trans hx126_3; replace hx126_4 := (HB.out.cell (World.block_lt_of_cell? w _ hx126_4)).trans hx126_4; replace hx126_5 := (HB.out.cell (World.block_lt_of_cell? w _ hx126_5)).trans hx126_5; replace hx126_6 := (HB.out.cell (World.block_lt_of_cell? w _ hx126_6)).trans hx126_6; replace hx126_7 := (HB.out.cell (World.block_lt_of_cell? w _ hx126_7)).trans hx126_7; replace hx126_8 := (HB.out.cell (World.block_lt_of_cell? w _ hx126_8)).trans hx126_8; replace p126 := eq_true p126; replace q126 := eq_true q126) | ((with_reducible refine gate_callee (f := 43) rfl ?_); refine goesL_ (some 28) rfl rfl Try.func43 (by kernel_rfl) rfl #[.agg #[.int .i64 ((rd_T46 l0 x3_1).f0), .int .i64 ((rd_T46 l0 x3_1).f1), .int .i64 ((rd_T46 l0 x3_1).f2), .int .i64 ((rd_T46 l0 x3_1).f3), .int .i64 ((rd_T46 l0 x3_1).f4), .int .i64 ((rd_T46 l0 x3_1).f5), .int .i64 ((rd_T46 l0 x3_1).f6), .int .i64 ((rd_T46 l0 x3_1).f7), .int .i64 ((rd_T46 l0 x3_1).f8)]] rfl (by (try simp only [List.map_toArray, List.map_cons, List.map_nil]); first | done | rfl | (simp only [List.length_drop, List.length_take]; rfl)) ?_; (with_reducible refine (gantryref4_May.calls ((rd_T46 l0 x3_1).f0) ((rd_T46 l0 x3_1).f1) ((rd_T46 l0 x3_1).f2) ((rd_T46 l0 x3_1).f3) ((rd_T46 l0 x3_1).f4) ((rd_T46 l0 x3_1).f5) ((rd_T46 l0 x3_1).f6) ((rd_T46 l0 x3_1).f7) ((rd_T46 l0 x3_1).f8) true _ A8.out).mono ?_); rintro e w23 ⟨rfl, hb⟩; refine ⟨_, rfl, ?_⟩; have n0_ := Aside0.mk (Kd.R_below (by (with_reducible repeat (first | apply Kd.R_alloc | apply Kd.R_drewN | apply Kd.R_drew)); exact HO124.out) hb); have n1_ := Aside0.mk (below_step (by repeat (first | (with_reducible first | exact HB.out | apply below_alloc | apply pw_below_drewN | apply below_drew1) | exact HB.out)) hb); clear HO124; clear HB; have HO124 := n0_; have HB := n1_; clear n0_ n1_; (try clear hb); (try clear hb2); (try clear hk); (try clear hi)) | ((with_reducible refine gate_callee (f := 44) rfl ?_); refine goesL_ (some 39) rfl rfl Try.func44 (by kernel_rfl) rfl #[.int .i64 t125] rfl (by (try simp only [List.map_toArray, List.map_cons, List.map_nil]); first | done | rfl | (simp only [List.length_drop, List.length_take]; rfl)) ?_; (with_reducible refine (gantrylaw4_num.calls t125 t129 _ A10.out).mono ?_); rintro e w' ⟨rfl, ⟨nd, rfl⟩⟩; refine ⟨_, rfl, ?_⟩; have p130 : 0 ≤ (x3_1 : Int) := of_decide_eq_true (by first | (with_reducible assumption) | assumption); have q130 : x3_1 < (l0.length : Int) := of_decide_eq_true (by first | (with_reducible assumption) | assumption); obtain ⟨ad130, e130, hx130_0, hx130_1, hx130_2, hx130_3, hx130_4, hx130_5, hx130_6, hx130_7, hx130_8⟩ := at_T46 HR0.out x3_1 p130 q130; obtain rfl : ad121 = ad130 := (by injection e130); replace hx130_0 := (HB.out.cell (World.block_lt_of_cell? w _ hx130_0)).trans hx130_0; replace hx130_1 := (HB.out.cell (World.block_lt_of_cell? w _ hx130_1)).trans hx130_1; replace hx130_2 := (HB.out.cell (World.block_lt_of_cell? w _ hx130_2)).trans hx130_2; replace hx130_3 := (HB.out.cell (World.block_lt_of_cell? w _ hx130_3)).trans hx130_3; replace hx130_4 := (HB.out.cell (World.block_lt_of_cell? w _ hx130_4)).trans hx130_4; replace hx130_5 := (HB.out.cell (World.block_lt_of_cell? w _ hx130_5)).trans hx130_5; replace hx130_6 := (HB.out.cell (World.block_lt_of_cell? w _ hx130_6)).trans hx130_6; replace hx130_7 := (HB.out.cell (World.block_lt_of_cell? w _ hx130_7)).trans hx130_7; replace hx130_8 := (HB.out.cell (World.block_lt_of_cell? w _ hx130_8)).trans hx130_8; replace p130 := eq_true p130; replace q130 := eq_true q130) | (go_at_call 45; (with_reducible refine (gantryref4_Encode.calls ((rd_T46 l0 x3_1).f0) ((rd_T46 l0 x3_1).f1) ((rd_T46 l0 x3_1).f2) ((rd_T46 l0 x3_1).f3) ((rd_T46 l0 x3_1).f4) ((rd_T46 l0 x3_1).f5) ((rd_T46 l0 x3_1).f6) ((rd_T46 l0 x3_1).f7) ((rd_T46 l0 x3_1).f8) t131 _ A12.out).mono ?_); rintro e w24 ⟨v132, rfl, ho0, hb⟩; have n0_ := Aside0.mk (Kd.R_elder' (by (with_reducible repeat (first | apply Kd.R_alloc | apply Kd.R_drewN | apply Kd.R_drew)); exact HO124.out) (Kd.R_base ho0) hb); have n1_ := Aside0.mk (Kd.R_lower (Kd.R_new' ho0 (Kd.R_lt (by (with_reducible repeat (first | apply Kd.R_alloc | apply Kd.R_drewN | apply Kd.R_drew)); exact HO124.out))) (below_size (by repeat (first | (with_reducible first | exact HB.out | apply below_alloc | apply pw_below_drewN | apply below_drew1) | exact HB.out)))); have n2_ := Aside0.mk (below_step (by repeat (first | (with_reducible first | exact HB.out | apply below_alloc | apply pw_below_drewN | apply below_drew1) | exact HB.out)) hb); clear HO124; clear HB; have HO124 := n0_; have HO133 := n1_; have HB := n2_; clear n0_ n1_ n2_; (try clear hb); (try clear hb2); (try clear hk); (try clear hi); (try clear ho0); obtain ⟨Ao25, co25, eo25⟩ := Kd.R_slice HO124.out; subst eo25; obtain ⟨Ao26, co26, eo26⟩ := Kd.R_slice HO133.out; subst eo26) | (go_at_call 35; (with_reducible refine (gantryref0_EqBytes.calls kj1 _ _ t122 _ _ t131 false _ ?side1 ?side2 ?side3 ?side4 A13.out).mono ?_); (case side1 => repeat (first | exact (Kd.R_reads' HO124.out).2.2 | (with_reducible refine Kd.C_alloc ?_ _) | (with_reducible refine Kd.C_drewN ?_ _) | (with_reducible refine Kd.C_drew ?_))); (case side2 => exact (Kd.R_reads' HO124.out).2.1); (case side3 => repeat (first | exact (Kd.R_reads' HO133.out).2.2 | (with_reducible refine Kd.C_alloc ?_ _) | (with_reducible refine Kd.C_drewN ?_ _) | (with_reducible refine Kd.C_drew ?_))); (case side4 => exact (Kd.R_reads' HO133.out).2.1); rintro e w' ⟨rfl, ⟨nd, rfl⟩⟩))
           go_ret
           exact ⟨by first | rfl | (simp [errW_none, errW_some] <;> rfl) | (simp [*, errW_none, errW_some] <;> rfl), by repeat (first | (with_reducible first | exact HB.out | apply below_alloc | apply pw_below_drewN | apply below_drew1) | exact HB.out)⟩
         ·rw [if_neg c11] at H
          have c11b0 : (t129 == 0) = false := beq_eq_false_iff_ne.mpr c11
          have c11b1 : (t129 != 0) = true := bne_iff_ne.mpr c11
          obtain rfl := Option.some.inj H
          have p121 : 0 ≤ (x3_1 : Int) := of_decide_eq_true (by first | (with_reducible assumption) | assumption)
          have q121 : x3_1 < (l0.length : Int) := of_decide_eq_true (by first | (with_reducible assumption) | assumption)
          obtain ⟨ad121, e121, hx121_0, hx121_1, hx121_2, hx121_3, hx121_4, hx121_5, hx121_6, hx121_7, hx121_8⟩ := at_T46 HR0.out x3_1 p121 q121
          cases e121
          replace hx121_0 := (HB.out.cell (World.block_lt_of_cell? w _ hx121_0)).trans hx121_0
          replace hx121_1 := (HB.out.cell (World.block_lt_of_cell? w _ hx121_1)).trans hx121_1
          replace hx121_2 := (HB.out.cell (World.block_lt_of_cell? w _ hx121_2)).trans hx121_2
          replace hx121_3 := (HB.out.cell (World.block_lt_of_cell? w _ hx121_3)).trans hx121_3
          replace hx121_4 := (HB.out.cell (World.block_lt_of_cell? w _ hx121_4)).trans hx121_4
          replace hx121_5 := (HB.out.cell (World.block_lt_of_cell? w _ hx121_5)).trans hx121_5
          replace hx121_6 := (HB.out.cell (World.block_lt_of_cell? w _ hx121_6)).trans hx121_6
          replace hx121_7 := (HB.out.cell (World.block_lt_of_cell? w _ hx121_7)).trans hx121_7
          replace hx121_8 := (HB.out.cell (World.block_lt_of_cell? w _ hx121_8)).trans hx121_8
          replace p121 := eq_true p121
          replace q121 := eq_true q121
          go_wp2_with (first | ((with_reducible refine gate_callee (f := 42) rfl ?_); refine goesL_ (some 21) rfl rfl Try.func42 (by kernel_rfl) rfl #[.agg #[.int .i64 ((rd_T46 l0 x3_1).f0), .int .i64 ((rd_T46 l0 x3_1).f1), .int .i64 ((rd_T46 l0 x3_1).f2), .int .i64 ((rd_T46 l0 x3_1).f3), .int .i64 ((rd_T46 l0 x3_1).f4), .int .i64 ((rd_T46 l0 x3_1).f5), .int .i64 ((rd_T46 l0 x3_1).f6), .int .i64 ((rd_T46 l0 x3_1).f7), .int .i64 ((rd_T46 l0 x3_1).f8)]] rfl (by (try simp only [List.map_toArray, List.map_cons, List.map_nil]); first | done | rfl | (simp only [List.length_drop, List.length_take]; rfl)) ?_; (with_reducible refine (cisc_Encode.calls ((rd_T46 l0 x3_1).f0) ((rd_T46 l0 x3_1).f1) ((rd_T46 l0 x3_1).f2) ((rd_T46 l0 x3_1).f3) ((rd_T46 l0 x3_1).f4) ((rd_T46 l0 x3_1).f5) ((rd_T46 l0 x3_1).f6) ((rd_T46 l0 x3_1).f7) ((rd_T46 l0 x3_1).f8) t122 t125 _ A7.out).mono ?_); rintro e w27 ⟨v123, rfl, ho0, hb⟩; refine ⟨_, rfl, ?_⟩; have n0_ := Aside0.mk (Kd.R_lower ho0 (below_size (by repeat (first | (with_reducible first | exact HB.out | apply below_alloc | apply pw_below_drewN | apply below_drew1) | exact HB.out)))); have n1_ := Aside0.mk (below_step (by repeat (first | (with_reducible first | exact HB.out | apply below_alloc | apply pw_below_drewN | apply below_drew1) | exact HB.out)) hb); clear HB; have HO124 := n0_; have HB := n1_; clear n0_ n1_; (try clear hb); (try clear hb2); (try clear hk); (try clear hi); (try clear ho0); have p126 : 0 ≤ (x3_1 : Int) := of_decide_eq_true (by first | (with_reducible assumption) | assumption); have q126 : x3_1 < (l0.length : Int) := of_decide_eq_true (by first | (with_reducible assumption) | assumption); obtain ⟨ad126, e126, hx126_0, hx126_1, hx126_2, hx126_3, hx126_4, hx126_5, hx126_6, hx126_7, hx126_8⟩ := at_T46 HR0.out x3_1 p126 q126; obtain rfl : ad121 = ad126 := (by injection e126); replace hx126_0 := (HB.out.cell (World.block_lt_of_cell? w _ hx126_0)).trans hx126_0; replace hx126_1 := (HB.out.cell (World.block_lt_of_cell? w _ hx126_1)).trans hx126_1; replace hx126_2 := (HB.out.cell (World.block_lt_of_cell? w _ hx126_2)).trans hx126_2; replace hx126_3 := (HB.out.cell (World.block_lt_of_cell? w _ hx126_3)).trans hx126_3; replace hx126_4 := (HB.out.cell (World.block_lt_of_cell? w _ hx126_4)).trans hx126_4; replace hx126_5 := (HB.out.cell (World.block_lt_of_cell? w _ hx126_5)).trans hx126_5; replace hx126_6 := (HB.out.cell (World.block_lt_of_cell? w _ hx126_6)).trans hx126_6; replace hx126_7 := (HB.out.cell (World.block_lt_of_cell? w _ hx126_7)).trans hx126_7; replace hx126_8 := (HB.out.cell (World.block_lt_of_cell? w _ hx126_8)).trans hx126_8; replace p126 := eq_true p126; replace q126 := eq_true q126) | ((with_reducible refine gate_callee (f := 43) rfl ?_); refine goesL_ (some 28) rfl rfl Try.func43 (by kernel_rfl) rfl #[.agg #[.int .i64 ((rd_T46 l0 x3_1).f0), .int .i64 ((rd_T46 l0 x3_1).f1), .int .i64 ((rd_T46 l0 x3_1).f2), .int .i64 ((rd_T46 l0 x3_1).f3), .int .i64 ((rd_T46 l0 x3_1).f4), .int .i64 ((rd_T46 l0 x3_1).f5), .int .i64 ((rd_T46 l0 x3_1).f6), .int .i64 ((rd_T46 l0 x3_1).f7), .int .i64 ((rd_T46 l0 x3_1).f8)]] rfl (by (try simp only [List.map_toArray, List.map_cons, List.map_nil]); first | done | rfl | (simp only [List.length_drop, List.length_take]; rfl)) ?_; (with_reducible refine (gantryref4_May.calls ((rd_T46 l0 x3_1).f0) ((rd_T46 l0 x3_1).f1) ((rd_T46 l0 x3_1).f2) ((rd_T46 l0 x3_1).f3) ((rd_T46 l0 x3_1).f4) ((rd_T46 l0 x3_1).f5) ((rd_T46 l0 x3_1).f6) ((rd_T46 l0 x3_1).f7) ((rd_T46 l0 x3_1).f8) true _ A8.out).mono ?_); rintro e w28 ⟨rfl, hb⟩; refine ⟨_, rfl, ?_⟩; have n0_ := Aside0.mk (Kd.R_below (by (with_reducible repeat (first | apply Kd.R_alloc | apply Kd.R_drewN | apply Kd.R_drew)); exact HO124.out) hb); have n1_ := Aside0.mk (below_step (by repeat (first | (with_reducible first | exact HB.out | apply below_alloc | apply pw_below_drewN | apply below_drew1) | exact HB.out)) hb); clear HO124; clear HB; have HO124 := n0_; have HB := n1_; clear n0_ n1_; (try clear hb); (try clear hb2); (try clear hk); (try clear hi)) | ((with_reducible refine gate_callee (f := 44) rfl ?_); refine goesL_ (some 39) rfl rfl Try.func44 (by kernel_rfl) rfl #[.int .i64 t125] rfl (by (try simp only [List.map_toArray, List.map_cons, List.map_nil]); first | done | rfl | (simp only [List.length_drop, List.length_take]; rfl)) ?_; (with_reducible refine (gantrylaw4_num.calls t125 t129 _ A10.out).mono ?_); rintro e w' ⟨rfl, ⟨nd, rfl⟩⟩; refine ⟨_, rfl, ?_⟩))
          go_ret
          exact ⟨by first | rfl | (simp [errW_none, errW_some] <;> rfl) | (simp [*, errW_none, errW_some] <;> rfl), by repeat (first | (with_reducible first | exact HB.out | apply below_alloc | apply pw_below_drewN | apply below_drew1) | exact HB.out)⟩
        ·replace c9 := Bool.eq_false_iff.mpr c9
         subst c9
         have H1 : ((gantrylaw4_num.f t125).bind fun t128 => (if t128 = 40 then (if (t122.length : Int) > 0 then (some false) else (gantrylaw4_CiscEncodes.l0 kj1 l0 (wrap64 (x3_1 + 1)))) else (some false))) = some r := by rw [if_neg (show ¬ (false = true) by decide)] at H; exact H
         clear H
         have H := H1
         clear H1
         replace H := Option.bind_eq_some_iff.mp H
         obtain ⟨t128, A290, H⟩ := H
         replace H : (if t128 = 40 then (if (t122.length : Int) > 0 then (some false) else (gantrylaw4_CiscEncodes.l0 kj1 l0 (wrap64 (x3_1 + 1)))) else (some false)) = some r := H
         have A29 := Aside0.mk A290
         clear A290
         by_cases c30 : t128 = 40
         ·rw [if_pos c30] at H
          have c30b0 : (t128 == 40) = true := beq_iff_eq.mpr c30
          have c30b1 : (t128 != 40) = false := bne_eq_false_iff_eq.mpr c30
          clear c30
          by_cases c31 : (t122.length : Int) > 0
          ·rw [if_pos c31] at H
           have c31b0 : decide (0 < (t122.length : Int)) = true := decide_eq_true c31
           have c31b1 : decide (0 < t122.length) = true := decide_eq_true (by omega)
           clear c31
           obtain rfl := Option.some.inj H
           have p121 : 0 ≤ (x3_1 : Int) := of_decide_eq_true (by first | (with_reducible assumption) | assumption)
           have q121 : x3_1 < (l0.length : Int) := of_decide_eq_true (by first | (with_reducible assumption) | assumption)
           obtain ⟨ad121, e121, hx121_0, hx121_1, hx121_2, hx121_3, hx121_4, hx121_5, hx121_6, hx121_7, hx121_8⟩ := at_T46 HR0.out x3_1 p121 q121
           cases e121
           replace hx121_0 := (HB.out.cell (World.block_lt_of_cell? w _ hx121_0)).trans hx121_0
           replace hx121_1 := (HB.out.cell (World.block_lt_of_cell? w _ hx121_1)).trans hx121_1
           replace hx121_2 := (HB.out.cell (World.block_lt_of_cell? w _ hx121_2)).trans hx121_2
           replace hx121_3 := (HB.out.cell (World.block_lt_of_cell? w _ hx121_3)).trans hx121_3
           replace hx121_4 := (HB.out.cell (World.block_lt_of_cell? w _ hx121_4)).trans hx121_4
           replace hx121_5 := (HB.out.cell (World.block_lt_of_cell? w _ hx121_5)).trans hx121_5
           replace hx121_6 := (HB.out.cell (World.block_lt_of_cell? w _ hx121_6)).trans hx121_6
           replace hx121_7 := (HB.out.cell (World.block_lt_of_cell? w _ hx121_7)).trans hx121_7
           replace hx121_8 := (HB.out.cell (World.block_lt_of_cell? w _ hx121_8)).trans hx121_8
           replace p121 := eq_true p121
           replace q121 := eq_true q121
           go_wp2_with (first | ((with_reducible refine gate_callee (f := 42) rfl ?_); refine goesL_ (some 21) rfl rfl Try.func42 (by kernel_rfl) rfl #[.agg #[.int .i64 ((rd_T46 l0 x3_1).f0), .int .i64 ((rd_T46 l0 x3_1).f1), .int .i64 ((rd_T46 l0 x3_1).f2), .int .i64 ((rd_T46 l0 x3_1).f3), .int .i64 ((rd_T46 l0 x3_1).f4), .int .i64 ((rd_T46 l0 x3_1).f5), .int .i64 ((rd_T46 l0 x3_1).f6), .int .i64 ((rd_T46 l0 x3_1).f7), .int .i64 ((rd_T46 l0 x3_1).f8)]] rfl (by (try simp only [List.map_toArray, List.map_cons, List.map_nil]); first | done | rfl | (simp only [List.length_drop, List.length_take]; rfl)) ?_; (with_reducible refine (cisc_Encode.calls ((rd_T46 l0 x3_1).f0) ((rd_T46 l0 x3_1).f1) ((rd_T46 l0 x3_1).f2) ((rd_T46 l0 x3_1).f3) ((rd_T46 l0 x3_1).f4) ((rd_T46 l0 x3_1).f5) ((rd_T46 l0 x3_1).f6) ((rd_T46 l0 x3_1).f7) ((rd_T46 l0 x3_1).f8) t122 t125 _ A7.out).mono ?_); rintro e w32 ⟨v123, rfl, ho0, hb⟩; refine ⟨_, rfl, ?_⟩; have n0_ := Aside0.mk (Kd.R_lower ho0 (below_size (by repeat (first | (with_reducible first | exact HB.out | apply below_alloc | apply pw_below_drewN | apply below_drew1) | exact HB.out)))); have n1_ := Aside0.mk (below_step (by repeat (first | (with_reducible first | exact HB.out | apply below_alloc | apply pw_below_drewN | apply below_drew1) | exact HB.out)) hb); clear HB; have HO124 := n0_; have HB := n1_; clear n0_ n1_; (try clear hb); (try clear hb2); (try clear hk); (try clear hi); (try clear ho0); have p126 : 0 ≤ (x3_1 : Int) := of_decide_eq_true (by first | (with_reducible assumption) | assumption); have q126 : x3_1 < (l0.length : Int) := of_decide_eq_true (by first | (with_reducible assumption) | assumption); obtain ⟨ad126, e126, hx126_0, hx126_1, hx126_2, hx126_3, hx126_4, hx126_5, hx126_6, hx126_7, hx126_8⟩ := at_T46 HR0.out x3_1 p126 q126; obtain rfl : ad121 = ad126 := (by injection e126); replace hx126_0 := (HB.out.cell (World.block_lt_of_cell? w _ hx126_0)).trans hx126_0; replace hx126_1 := (HB.out.cell (World.block_lt_of_cell? w _ hx126_1)).trans hx126_1; replace hx126_2 := (HB.out.cell (World.block_lt_of_cell? w _ hx126_2)).trans hx126_2; replace hx126_3 := (HB.out.cell (World.block_lt_of_cell? w _ hx126_3)).trans hx126_3; replace hx126_4 := (HB.out.cell (World.block_lt_of_cell? w _ hx126_4)).trans hx126_4; replace hx126_5 := (HB.out.cell (World.block_lt_of_cell? w _ hx126_5)).trans hx126_5; replace hx126_6 := (HB.out.cell (World.block_lt_of_cell? w _ hx126_6)).trans hx126_6; replace hx126_7 := (HB.out.cell (World.block_lt_of_cell? w _ hx126_7)).trans hx126_7; replace hx126_8 := (HB.out.cell (World.block_lt_of_cell? w _ hx126_8)).trans hx126_8; replace p126 := eq_true p126; replace q126 := eq_true q126) | ((with_reducible refine gate_callee (f := 43) rfl ?_); refine goesL_ (some 28) rfl rfl Try.func43 (by kernel_rfl) rfl #[.agg #[.int .i64 ((rd_T46 l0 x3_1).f0), .int .i64 ((rd_T46 l0 x3_1).f1), .int .i64 ((rd_T46 l0 x3_1).f2), .int .i64 ((rd_T46 l0 x3_1).f3), .int .i64 ((rd_T46 l0 x3_1).f4), .int .i64 ((rd_T46 l0 x3_1).f5), .int .i64 ((rd_T46 l0 x3_1).f6), .int .i64 ((rd_T46 l0 x3_1).f7), .int .i64 ((rd_T46 l0 x3_1).f8)]] rfl (by (try simp only [List.map_toArray, List.map_cons, List.map_nil]); first | done | rfl | (simp only [List.length_drop, List.length_take]; rfl)) ?_; (with_reducible refine (gantryref4_May.calls ((rd_T46 l0 x3_1).f0) ((rd_T46 l0 x3_1).f1) ((rd_T46 l0 x3_1).f2) ((rd_T46 l0 x3_1).f3) ((rd_T46 l0 x3_1).f4) ((rd_T46 l0 x3_1).f5) ((rd_T46 l0 x3_1).f6) ((rd_T46 l0 x3_1).f7) ((rd_T46 l0 x3_1).f8) false _ A8.out).mono ?_); rintro e w33 ⟨rfl, hb⟩; refine ⟨_, rfl, ?_⟩; have n0_ := Aside0.mk (Kd.R_below (by (with_reducible repeat (first | apply Kd.R_alloc | apply Kd.R_drewN | apply Kd.R_drew)); exact HO124.out) hb); have n1_ := Aside0.mk (below_step (by repeat (first | (with_reducible first | exact HB.out | apply below_alloc | apply pw_below_drewN | apply below_drew1) | exact HB.out)) hb); clear HO124; clear HB; have HO124 := n0_; have HB := n1_; clear n0_ n1_; (try clear hb); (try clear hb2); (try clear hk); (try clear hi)) | ((with_reducible refine gate_callee (f := 44) rfl ?_); refine goesL_ (some 31) rfl rfl Try.func44 (by kernel_rfl) rfl #[.int .i64 t125] rfl (by (try simp only [List.map_toArray, List.map_cons, List.map_nil]); first | done | rfl | (simp only [List.length_drop, List.length_take]; rfl)) ?_; (with_reducible refine (gantrylaw4_num.calls t125 t128 _ A29.out).mono ?_); rintro e w' ⟨rfl, ⟨nd, rfl⟩⟩; refine ⟨_, rfl, ?_⟩; obtain ⟨Ao34, co34, eo34⟩ := Kd.R_slice HO124.out; subst eo34))
           go_ret
           exact ⟨by first | rfl | (simp [errW_none, errW_some] <;> rfl) | (simp [*, errW_none, errW_some] <;> rfl), by repeat (first | (with_reducible first | exact HB.out | apply below_alloc | apply pw_below_drewN | apply below_drew1) | exact HB.out)⟩
          ·rw [if_neg c31] at H
           have c31b0 : decide (0 < (t122.length : Int)) = false := decide_eq_false c31
           have c31b1 : decide (0 < t122.length) = false := decide_eq_false (by omega)
           clear c31
           have H' := Aside0.mk H
           clear H
           have p121 : 0 ≤ (x3_1 : Int) := of_decide_eq_true (by first | (with_reducible assumption) | assumption)
           have q121 : x3_1 < (l0.length : Int) := of_decide_eq_true (by first | (with_reducible assumption) | assumption)
           obtain ⟨ad121, e121, hx121_0, hx121_1, hx121_2, hx121_3, hx121_4, hx121_5, hx121_6, hx121_7, hx121_8⟩ := at_T46 HR0.out x3_1 p121 q121
           cases e121
           replace hx121_0 := (HB.out.cell (World.block_lt_of_cell? w _ hx121_0)).trans hx121_0
           replace hx121_1 := (HB.out.cell (World.block_lt_of_cell? w _ hx121_1)).trans hx121_1
           replace hx121_2 := (HB.out.cell (World.block_lt_of_cell? w _ hx121_2)).trans hx121_2
           replace hx121_3 := (HB.out.cell (World.block_lt_of_cell? w _ hx121_3)).trans hx121_3
           replace hx121_4 := (HB.out.cell (World.block_lt_of_cell? w _ hx121_4)).trans hx121_4
           replace hx121_5 := (HB.out.cell (World.block_lt_of_cell? w _ hx121_5)).trans hx121_5
           replace hx121_6 := (HB.out.cell (World.block_lt_of_cell? w _ hx121_6)).trans hx121_6
           replace hx121_7 := (HB.out.cell (World.block_lt_of_cell? w _ hx121_7)).trans hx121_7
           replace hx121_8 := (HB.out.cell (World.block_lt_of_cell? w _ hx121_8)).trans hx121_8
           replace p121 := eq_true p121
           replace q121 := eq_true q121
           go_wp2_with (first | ((with_reducible refine gate_callee (f := 42) rfl ?_); refine goesL_ (some 21) rfl rfl Try.func42 (by kernel_rfl) rfl #[.agg #[.int .i64 ((rd_T46 l0 x3_1).f0), .int .i64 ((rd_T46 l0 x3_1).f1), .int .i64 ((rd_T46 l0 x3_1).f2), .int .i64 ((rd_T46 l0 x3_1).f3), .int .i64 ((rd_T46 l0 x3_1).f4), .int .i64 ((rd_T46 l0 x3_1).f5), .int .i64 ((rd_T46 l0 x3_1).f6), .int .i64 ((rd_T46 l0 x3_1).f7), .int .i64 ((rd_T46 l0 x3_1).f8)]] rfl (by (try simp only [List.map_toArray, List.map_cons, List.map_nil]); first | done | rfl | (simp only [List.length_drop, List.length_take]; rfl)) ?_; (with_reducible refine (cisc_Encode.calls ((rd_T46 l0 x3_1).f0) ((rd_T46 l0 x3_1).f1) ((rd_T46 l0 x3_1).f2) ((rd_T46 l0 x3_1).f3) ((rd_T46 l0 x3_1).f4) ((rd_T46 l0 x3_1).f5) ((rd_T46 l0 x3_1).f6) ((rd_T46 l0 x3_1).f7) ((rd_T46 l0 x3_1).f8) t122 t125 _ A7.out).mono ?_); rintro e w35 ⟨v123, rfl, ho0, hb⟩; refine ⟨_, rfl, ?_⟩; have n0_ := Aside0.mk (Kd.R_lower ho0 (below_size (by repeat (first | (with_reducible first | exact HB.out | apply below_alloc | apply pw_below_drewN | apply below_drew1) | exact HB.out)))); have n1_ := Aside0.mk (below_step (by repeat (first | (with_reducible first | exact HB.out | apply below_alloc | apply pw_below_drewN | apply below_drew1) | exact HB.out)) hb); clear HB; have HO124 := n0_; have HB := n1_; clear n0_ n1_; (try clear hb); (try clear hb2); (try clear hk); (try clear hi); (try clear ho0); have p126 : 0 ≤ (x3_1 : Int) := of_decide_eq_true (by first | (with_reducible assumption) | assumption); have q126 : x3_1 < (l0.length : Int) := of_decide_eq_true (by first | (with_reducible assumption) | assumption); obtain ⟨ad126, e126, hx126_0, hx126_1, hx126_2, hx126_3, hx126_4, hx126_5, hx126_6, hx126_7, hx126_8⟩ := at_T46 HR0.out x3_1 p126 q126; obtain rfl : ad121 = ad126 := (by injection e126); replace hx126_0 := (HB.out.cell (World.block_lt_of_cell? w _ hx126_0)).trans hx126_0; replace hx126_1 := (HB.out.cell (World.block_lt_of_cell? w _ hx126_1)).trans hx126_1; replace hx126_2 := (HB.out.cell (World.block_lt_of_cell? w _ hx126_2)).trans hx126_2; replace hx126_3 := (HB.out.cell (World.block_lt_of_cell? w _ hx126_3)).trans hx126_3; replace hx126_4 := (HB.out.cell (World.block_lt_of_cell? w _ hx126_4)).trans hx126_4; replace hx126_5 := (HB.out.cell (World.block_lt_of_cell? w _ hx126_5)).trans hx126_5; replace hx126_6 := (HB.out.cell (World.block_lt_of_cell? w _ hx126_6)).trans hx126_6; replace hx126_7 := (HB.out.cell (World.block_lt_of_cell? w _ hx126_7)).trans hx126_7; replace hx126_8 := (HB.out.cell (World.block_lt_of_cell? w _ hx126_8)).trans hx126_8; replace p126 := eq_true p126; replace q126 := eq_true q126) | ((with_reducible refine gate_callee (f := 43) rfl ?_); refine goesL_ (some 28) rfl rfl Try.func43 (by kernel_rfl) rfl #[.agg #[.int .i64 ((rd_T46 l0 x3_1).f0), .int .i64 ((rd_T46 l0 x3_1).f1), .int .i64 ((rd_T46 l0 x3_1).f2), .int .i64 ((rd_T46 l0 x3_1).f3), .int .i64 ((rd_T46 l0 x3_1).f4), .int .i64 ((rd_T46 l0 x3_1).f5), .int .i64 ((rd_T46 l0 x3_1).f6), .int .i64 ((rd_T46 l0 x3_1).f7), .int .i64 ((rd_T46 l0 x3_1).f8)]] rfl (by (try simp only [List.map_toArray, List.map_cons, List.map_nil]); first | done | rfl | (simp only [List.length_drop, List.length_take]; rfl)) ?_; (with_reducible refine (gantryref4_May.calls ((rd_T46 l0 x3_1).f0) ((rd_T46 l0 x3_1).f1) ((rd_T46 l0 x3_1).f2) ((rd_T46 l0 x3_1).f3) ((rd_T46 l0 x3_1).f4) ((rd_T46 l0 x3_1).f5) ((rd_T46 l0 x3_1).f6) ((rd_T46 l0 x3_1).f7) ((rd_T46 l0 x3_1).f8) false _ A8.out).mono ?_); rintro e w36 ⟨rfl, hb⟩; refine ⟨_, rfl, ?_⟩; have n0_ := Aside0.mk (Kd.R_below (by (with_reducible repeat (first | apply Kd.R_alloc | apply Kd.R_drewN | apply Kd.R_drew)); exact HO124.out) hb); have n1_ := Aside0.mk (below_step (by repeat (first | (with_reducible first | exact HB.out | apply below_alloc | apply pw_below_drewN | apply below_drew1) | exact HB.out)) hb); clear HO124; clear HB; have HO124 := n0_; have HB := n1_; clear n0_ n1_; (try clear hb); (try clear hb2); (try clear hk); (try clear hi)) | ((with_reducible refine gate_callee (f := 44) rfl ?_); refine goesL_ (some 31) rfl rfl Try.func44 (by kernel_rfl) rfl #[.int .i64 t125] rfl (by (try simp only [List.map_toArray, List.map_cons, List.map_nil]); first | done | rfl | (simp only [List.length_drop, List.length_take]; rfl)) ?_; (with_reducible refine (gantrylaw4_num.calls t125 t128 _ A29.out).mono ?_); rintro e w' ⟨rfl, ⟨nd, rfl⟩⟩; refine ⟨_, rfl, ?_⟩; obtain ⟨Ao37, co37, eo37⟩ := Kd.R_slice HO124.out; subst eo37))
           go_roundg kj1
           case measure => have := HK1.out; have := HJ1.out; omega
           case rel => exact ⟨(wrap64 (x3_1 + 1)), (by first | rfl | (simp; done) | (simp [*]; done)), H', ⟨by have := HK1.out; have := HJ1.out; omega⟩, ⟨by repeat (first | (with_reducible first | exact HB.out | apply below_alloc | apply pw_below_drewN | apply below_drew1) | exact HB.out)⟩⟩
         ·rw [if_neg c30] at H
          have c30b0 : (t128 == 40) = false := beq_eq_false_iff_ne.mpr c30
          have c30b1 : (t128 != 40) = true := bne_iff_ne.mpr c30
          obtain rfl := Option.some.inj H
          have p121 : 0 ≤ (x3_1 : Int) := of_decide_eq_true (by first | (with_reducible assumption) | assumption)
          have q121 : x3_1 < (l0.length : Int) := of_decide_eq_true (by first | (with_reducible assumption) | assumption)
          obtain ⟨ad121, e121, hx121_0, hx121_1, hx121_2, hx121_3, hx121_4, hx121_5, hx121_6, hx121_7, hx121_8⟩ := at_T46 HR0.out x3_1 p121 q121
          cases e121
          replace hx121_0 := (HB.out.cell (World.block_lt_of_cell? w _ hx121_0)).trans hx121_0
          replace hx121_1 := (HB.out.cell (World.block_lt_of_cell? w _ hx121_1)).trans hx121_1
          replace hx121_2 := (HB.out.cell (World.block_lt_of_cell? w _ hx121_2)).trans hx121_2
          replace hx121_3 := (HB.out.cell (World.block_lt_of_cell? w _ hx121_3)).trans hx121_3
          replace hx121_4 := (HB.out.cell (World.block_lt_of_cell? w _ hx121_4)).trans hx121_4
          replace hx121_5 := (HB.out.cell (World.block_lt_of_cell? w _ hx121_5)).trans hx121_5
          replace hx121_6 := (HB.out.cell (World.block_lt_of_cell? w _ hx121_6)).trans hx121_6
          replace hx121_7 := (HB.out.cell (World.block_lt_of_cell? w _ hx121_7)).trans hx121_7
          replace hx121_8 := (HB.out.cell (World.block_lt_of_cell? w _ hx121_8)).trans hx121_8
          replace p121 := eq_true p121
          replace q121 := eq_true q121
          go_wp2_with (first | ((with_reducible refine gate_callee (f := 42) rfl ?_); refine goesL_ (some 21) rfl rfl Try.func42 (by kernel_rfl) rfl #[.agg #[.int .i64 ((rd_T46 l0 x3_1).f0), .int .i64 ((rd_T46 l0 x3_1).f1), .int .i64 ((rd_T46 l0 x3_1).f2), .int .i64 ((rd_T46 l0 x3_1).f3), .int .i64 ((rd_T46 l0 x3_1).f4), .int .i64 ((rd_T46 l0 x3_1).f5), .int .i64 ((rd_T46 l0 x3_1).f6), .int .i64 ((rd_T46 l0 x3_1).f7), .int .i64 ((rd_T46 l0 x3_1).f8)]] rfl (by (try simp only [List.map_toArray, List.map_cons, List.map_nil]); first | done | rfl | (simp only [List.length_drop, List.length_take]; rfl)) ?_; (with_reducible refine (cisc_Encode.calls ((rd_T46 l0 x3_1).f0) ((rd_T46 l0 x3_1).f1) ((rd_T46 l0 x3_1).f2) ((rd_T46 l0 x3_1).f3) ((rd_T46 l0 x3_1).f4) ((rd_T46 l0 x3_1).f5) ((rd_T46 l0 x3_1).f6) ((rd_T46 l0 x3_1).f7) ((rd_T46 l0 x3_1).f8) t122 t125 _ A7.out).mono ?_); rintro e w38 ⟨v123, rfl, ho0, hb⟩; refine ⟨_, rfl, ?_⟩; have n0_ := Aside0.mk (Kd.R_lower ho0 (below_size (by repeat (first | (with_reducible first | exact HB.out | apply below_alloc | apply pw_below_drewN | apply below_drew1) | exact HB.out)))); have n1_ := Aside0.mk (below_step (by repeat (first | (with_reducible first | exact HB.out | apply below_alloc | apply pw_below_drewN | apply below_drew1) | exact HB.out)) hb); clear HB; have HO124 := n0_; have HB := n1_; clear n0_ n1_; (try clear hb); (try clear hb2); (try clear hk); (try clear hi); (try clear ho0); have p126 : 0 ≤ (x3_1 : Int) := of_decide_eq_true (by first | (with_reducible assumption) | assumption); have q126 : x3_1 < (l0.length : Int) := of_decide_eq_true (by first | (with_reducible assumption) | assumption); obtain ⟨ad126, e126, hx126_0, hx126_1, hx126_2, hx126_3, hx126_4, hx126_5, hx126_6, hx126_7, hx126_8⟩ := at_T46 HR0.out x3_1 p126 q126; obtain rfl : ad121 = ad126 := (by injection e126); replace hx126_0 := (HB.out.cell (World.block_lt_of_cell? w _ hx126_0)).trans hx126_0; replace hx126_1 := (HB.out.cell (World.block_lt_of_cell? w _ hx126_1)).trans hx126_1; replace hx126_2 := (HB.out.cell (World.block_lt_of_cell? w _ hx126_2)).trans hx126_2; replace hx126_3 := (HB.out.cell (World.block_lt_of_cell? w _ hx126_3)).trans hx126_3; replace hx126_4 := (HB.out.cell (World.block_lt_of_cell? w _ hx126_4)).trans hx126_4; replace hx126_5 := (HB.out.cell (World.block_lt_of_cell? w _ hx126_5)).trans hx126_5; replace hx126_6 := (HB.out.cell (World.block_lt_of_cell? w _ hx126_6)).trans hx126_6; replace hx126_7 := (HB.out.cell (World.block_lt_of_cell? w _ hx126_7)).trans hx126_7; replace hx126_8 := (HB.out.cell (World.block_lt_of_cell? w _ hx126_8)).trans hx126_8; replace p126 := eq_true p126; replace q126 := eq_true q126) | ((with_reducible refine gate_callee (f := 43) rfl ?_); refine goesL_ (some 28) rfl rfl Try.func43 (by kernel_rfl) rfl #[.agg #[.int .i64 ((rd_T46 l0 x3_1).f0), .int .i64 ((rd_T46 l0 x3_1).f1), .int .i64 ((rd_T46 l0 x3_1).f2), .int .i64 ((rd_T46 l0 x3_1).f3), .int .i64 ((rd_T46 l0 x3_1).f4), .int .i64 ((rd_T46 l0 x3_1).f5), .int .i64 ((rd_T46 l0 x3_1).f6), .int .i64 ((rd_T46 l0 x3_1).f7), .int .i64 ((rd_T46 l0 x3_1).f8)]] rfl (by (try simp only [List.map_toArray, List.map_cons, List.map_nil]); first | done | rfl | (simp only [List.length_drop, List.length_take]; rfl)) ?_; (with_reducible refine (gantryref4_May.calls ((rd_T46 l0 x3_1).f0) ((rd_T46 l0 x3_1).f1) ((rd_T46 l0 x3_1).f2) ((rd_T46 l0 x3_1).f3) ((rd_T46 l0 x3_1).f4) ((rd_T46 l0 x3_1).f5) ((rd_T46 l0 x3_1).f6) ((rd_T46 l0 x3_1).f7) ((rd_T46 l0 x3_1).f8) false _ A8.out).mono ?_); rintro e w39 ⟨rfl, hb⟩; refine ⟨_, rfl, ?_⟩; have n0_ := Aside0.mk (Kd.R_below (by (with_reducible repeat (first | apply Kd.R_alloc | apply Kd.R_drewN | apply Kd.R_drew)); exact HO124.out) hb); have n1_ := Aside0.mk (below_step (by repeat (first | (with_reducible first | exact HB.out | apply below_alloc | apply pw_below_drewN | apply below_drew1) | exact HB.out)) hb); clear HO124; clear HB; have HO124 := n0_; have HB := n1_; clear n0_ n1_; (try clear hb); (try clear hb2); (try clear hk); (try clear hi)) | ((with_reducible refine gate_callee (f := 44) rfl ?_); refine goesL_ (some 31) rfl rfl Try.func44 (by kernel_rfl) rfl #[.int .i64 t125] rfl (by (try simp only [List.map_toArray, List.map_cons, List.map_nil]); first | done | rfl | (simp only [List.length_drop, List.length_take]; rfl)) ?_; (with_reducible refine (gantrylaw4_num.calls t125 t128 _ A29.out).mono ?_); rintro e w' ⟨rfl, ⟨nd, rfl⟩⟩; refine ⟨_, rfl, ?_⟩))
          go_ret
          exact ⟨by first | rfl | (simp [errW_none, errW_some] <;> rfl) | (simp [*, errW_none, errW_some] <;> rfl), by repeat (first | (with_reducible first | exact HB.out | apply below_alloc | apply pw_below_drewN | apply below_drew1) | exact HB.out)⟩
       ·rw [if_neg c6] at H
        exact absurd H (by simp)
      ·rw [if_neg c5] at H
       exact absurd H (by simp)
     ·replace c4 := Bool.eq_false_iff.mpr c4
      subst c4
      have H1 : ((gantrylaw4_wakes.f kj1).bind fun t120 => (some t120)) = some r := by rw [if_neg (show ¬ (false = true) by decide)] at H; exact H
      clear H
      have H := H1
      clear H1
      replace H := Option.bind_eq_some_iff.mp H
      obtain ⟨t120, A400, H⟩ := H
      replace H : (some t120) = some r := H
      have A40 := Aside0.mk A400
      clear A400
      obtain rfl := Option.some.inj H
      go_wp2_with (first | ((with_reducible refine gate_callee (f := 46) rfl ?_); refine goesL_ (some 53) rfl rfl Try.func46 (by kernel_rfl) rfl #[] rfl (by (try simp only [List.map_toArray, List.map_cons, List.map_nil]); first | done | rfl | (simp only [List.length_drop, List.length_take]; rfl)) ?_; (with_reducible refine (gantrylaw4_wakes.calls kj1  t120 _ A40.out).mono ?_); rintro e w41 ⟨rfl, hb⟩; refine ⟨_, rfl, ?_⟩; have n0_ := Aside0.mk (below_step (by repeat (first | (with_reducible first | exact HB.out | apply below_alloc | apply pw_below_drewN | apply below_drew1) | exact HB.out)) hb); clear HB; have HB := n0_; clear n0_; (try clear hb); (try clear hb2); (try clear hk); (try clear hi)))
      go_ret
      exact ⟨by first | rfl | (simp [errW_none, errW_some] <;> rfl) | (simp [*, errW_none, errW_some] <;> rfl), by repeat (first | (with_reducible first | exact HB.out | apply below_alloc | apply pw_below_drewN | apply below_drew1) | exact HB.out)⟩

end Go.Proofs.Ytahepinbmcgbnaa.PF
