-- Printed by this session's program (wip/tools: the kit's printer, turned for this claim), out of the translation.
import Derived.Test.YtahepinbmcgbnaaPAx0
import Derived.Test.YtahepinbmcgbnaaPAx2
import Derived.Test.YtahepinbmcgbnaaPAx4
namespace Go.Proofs.Ytahepinbmcgbnaa.PA
open Go.RowKit Go.Proofs.YtahepinbmcgbnaaW.PrintWords Go.Proofs.YtahepinbmcgbnaaW.PrintLast Go.Proofs.YtahepinbmcgbnaaW.PrintMore
attribute [local go_sem] max2_int min2_int max_two min_two max_three min_three max_four min_four   -- for this text's walks alone
attribute [local go_sem] Fl.frombits Fl.tobits
set_option linter.unusedVariables false
set_option linter.unusedSimpArgs false

/-! ### gantrylaw1_wakes: function 18 -/
def gantrylaw1_wakes.f (k : Nat)  : Option (Bool) := (word_Bin.f k 1 6 200 100).bind fun bt129 => ((gantrylaw1_num.f bt129.2).bind fun t131 => (if t131 = 0 then (if bt129.1 = 44 then ((word_Width.f k 3).bind fun t132 => (some (t132 == 16))) else (some false)) else (some false)))
theorem gantrylaw1_wakes.mono : ∀ k, LeO (gantrylaw1_wakes.f k ) (gantrylaw1_wakes.f (k + 1) ) := by
  intro  k
  unfold gantrylaw1_wakes.f
  repeat' first
      | (with_reducible exact word_Bin.mono _ _ _ _ _)
      | (with_reducible exact word_Width.mono _ _)
      | (with_reducible exact LeO.refl _)
      | (with_reducible exact LeO.none _)
      | (with_reducible refine LeO.ite ?_ ?_)
      | (with_reducible refine LeO.bind ?_ (fun _ => ?_))
      | exact word_Bin.mono _ _ _ _ _
      | exact word_Width.mono _ _
      | exact LeO.none _
      | refine LeO.ite ?_ ?_
      | refine LeO.bind ?_ (fun _ => ?_)
set_option maxHeartbeats 8000000 in
set_option maxRecDepth 100000 in
theorem gantrylaw1_wakes.calls (k : Nat)  (r : Bool) (w : World) (h : gantrylaw1_wakes.f k  = some r) :
    Calls Try.prog 18 #[] w fun e w' => e = .returned (.bool r) ∧ Below w.heap.size w w' := by
  have HB := Aside0.mk (Below.refl w.heap.size w)
  have H : ((word_Bin.f k 1 6 200 100).bind fun bt129 => ((gantrylaw1_num.f bt129.2).bind fun t131 => (if t131 = 0 then (if bt129.1 = 44 then ((word_Width.f k 3).bind fun t132 => (some (t132 == 16))) else (some false)) else (some false)))) = some r := h
  clear h
  replace H := Option.bind_eq_some_iff.mp H
  obtain ⟨⟨t129, t130⟩, A10, H⟩ := H
  replace H : ((gantrylaw1_num.f t130).bind fun t131 => (if t131 = 0 then (if t129 = 44 then ((word_Width.f k 3).bind fun t132 => (some (t132 == 16))) else (some false)) else (some false))) = some r := H
  have A1 := Aside0.mk A10
  clear A10
  replace H := Option.bind_eq_some_iff.mp H
  obtain ⟨t131, A20, H⟩ := H
  replace H : (if t131 = 0 then (if t129 = 44 then ((word_Width.f k 3).bind fun t132 => (some (t132 == 16))) else (some false)) else (some false)) = some r := H
  have A2 := Aside0.mk A20
  clear A20
  by_cases c3 : t131 = 0
  · rw [if_pos c3] at H
    have c3b0 : (t131 == 0) = true := beq_iff_eq.mpr c3
    have c3b1 : (t131 != 0) = false := bne_eq_false_iff_eq.mpr c3
    clear c3
    by_cases c4 : t129 = 44
    · rw [if_pos c4] at H
      have c4b0 : (t129 == 44) = true := beq_iff_eq.mpr c4
      have c4b1 : (t129 != 44) = false := bne_eq_false_iff_eq.mpr c4
      clear c4
      replace H := Option.bind_eq_some_iff.mp H
      obtain ⟨t132, A50, H⟩ := H
      replace H : (some (t132 == 16)) = some r := H
      have A5 := Aside0.mk A50
      clear A50
      obtain rfl := Option.some.inj H
      go_enter Try.func18, Try.ntmps18
      go_wp2_with (first | ((with_reducible refine gate_callee (f := 23) rfl ?_); refine goesL_ (some 4) rfl rfl Try.func23 (by kernel_rfl) rfl #[.int .i64 1, .int .i64 6, .int .u64 200, .int .u64 100] rfl (by (try simp only [List.map_toArray, List.map_cons, List.map_nil]); first | done | rfl | (simp only [List.length_drop, List.length_take]; rfl)) ?_; (with_reducible refine (word_Bin.calls k 1 6 200 100 t129 t130 _ A1.out).mono ?_); rintro e w6 ⟨rfl, hb⟩; refine ⟨_, rfl, ?_⟩; have n0_ := Aside0.mk (below_step (by repeat (first | (with_reducible first | exact HB.out | apply below_alloc | apply pw_below_drewN | apply below_drew1) | exact HB.out)) hb); clear HB; have HB := n0_; clear n0_; (try clear hb); (try clear hb2); (try clear hk); (try clear hi)) | ((with_reducible refine gate_callee (f := 20) rfl ?_); refine goesL_ (some 8) rfl rfl Try.func20 (by kernel_rfl) rfl #[.int .i64 t130] rfl (by (try simp only [List.map_toArray, List.map_cons, List.map_nil]); first | done | rfl | (simp only [List.length_drop, List.length_take]; rfl)) ?_; (with_reducible refine (gantrylaw1_num.calls t130 t131 _ A2.out).mono ?_); rintro e w' ⟨rfl, ⟨nd, rfl⟩⟩; refine ⟨_, rfl, ?_⟩) | (go_at_call 22; (with_reducible refine (word_Width.calls k 3 t132 _ A5.out).mono ?_); rintro e w' ⟨rfl, ⟨nd, rfl⟩⟩))
      go_ret
      exact ⟨by first | rfl | (simp [errW_none, errW_some] <;> rfl) | (simp [*, errW_none, errW_some] <;> rfl), by repeat (first | (with_reducible first | exact HB.out | apply below_alloc | apply pw_below_drewN | apply below_drew1) | exact HB.out)⟩
    · rw [if_neg c4] at H
      have c4b0 : (t129 == 44) = false := beq_eq_false_iff_ne.mpr c4
      have c4b1 : (t129 != 44) = true := bne_iff_ne.mpr c4
      obtain rfl := Option.some.inj H
      go_enter Try.func18, Try.ntmps18
      go_wp2_with (first | ((with_reducible refine gate_callee (f := 23) rfl ?_); refine goesL_ (some 4) rfl rfl Try.func23 (by kernel_rfl) rfl #[.int .i64 1, .int .i64 6, .int .u64 200, .int .u64 100] rfl (by (try simp only [List.map_toArray, List.map_cons, List.map_nil]); first | done | rfl | (simp only [List.length_drop, List.length_take]; rfl)) ?_; (with_reducible refine (word_Bin.calls k 1 6 200 100 t129 t130 _ A1.out).mono ?_); rintro e w7 ⟨rfl, hb⟩; refine ⟨_, rfl, ?_⟩; have n0_ := Aside0.mk (below_step (by repeat (first | (with_reducible first | exact HB.out | apply below_alloc | apply pw_below_drewN | apply below_drew1) | exact HB.out)) hb); clear HB; have HB := n0_; clear n0_; (try clear hb); (try clear hb2); (try clear hk); (try clear hi)) | ((with_reducible refine gate_callee (f := 20) rfl ?_); refine goesL_ (some 8) rfl rfl Try.func20 (by kernel_rfl) rfl #[.int .i64 t130] rfl (by (try simp only [List.map_toArray, List.map_cons, List.map_nil]); first | done | rfl | (simp only [List.length_drop, List.length_take]; rfl)) ?_; (with_reducible refine (gantrylaw1_num.calls t130 t131 _ A2.out).mono ?_); rintro e w' ⟨rfl, ⟨nd, rfl⟩⟩; refine ⟨_, rfl, ?_⟩))
      go_ret
      exact ⟨by first | rfl | (simp [errW_none, errW_some] <;> rfl) | (simp [*, errW_none, errW_some] <;> rfl), by repeat (first | (with_reducible first | exact HB.out | apply below_alloc | apply pw_below_drewN | apply below_drew1) | exact HB.out)⟩
  · rw [if_neg c3] at H
    have c3b0 : (t131 == 0) = false := beq_eq_false_iff_ne.mpr c3
    have c3b1 : (t131 != 0) = true := bne_iff_ne.mpr c3
    obtain rfl := Option.some.inj H
    go_enter Try.func18, Try.ntmps18
    go_wp2_with (first | ((with_reducible refine gate_callee (f := 23) rfl ?_); refine goesL_ (some 4) rfl rfl Try.func23 (by kernel_rfl) rfl #[.int .i64 1, .int .i64 6, .int .u64 200, .int .u64 100] rfl (by (try simp only [List.map_toArray, List.map_cons, List.map_nil]); first | done | rfl | (simp only [List.length_drop, List.length_take]; rfl)) ?_; (with_reducible refine (word_Bin.calls k 1 6 200 100 t129 t130 _ A1.out).mono ?_); rintro e w8 ⟨rfl, hb⟩; refine ⟨_, rfl, ?_⟩; have n0_ := Aside0.mk (below_step (by repeat (first | (with_reducible first | exact HB.out | apply below_alloc | apply pw_below_drewN | apply below_drew1) | exact HB.out)) hb); clear HB; have HB := n0_; clear n0_; (try clear hb); (try clear hb2); (try clear hk); (try clear hi)) | ((with_reducible refine gate_callee (f := 20) rfl ?_); refine goesL_ (some 8) rfl rfl Try.func20 (by kernel_rfl) rfl #[.int .i64 t130] rfl (by (try simp only [List.map_toArray, List.map_cons, List.map_nil]); first | done | rfl | (simp only [List.length_drop, List.length_take]; rfl)) ?_; (with_reducible refine (gantrylaw1_num.calls t130 t131 _ A2.out).mono ?_); rintro e w' ⟨rfl, ⟨nd, rfl⟩⟩; refine ⟨_, rfl, ?_⟩))
    go_ret
    exact ⟨by first | rfl | (simp [errW_none, errW_some] <;> rfl) | (simp [*, errW_none, errW_some] <;> rfl), by repeat (first | (with_reducible first | exact HB.out | apply below_alloc | apply pw_below_drewN | apply below_drew1) | exact HB.out)⟩

/-! ### gantrylaw1_WordShifts: function 3 -/
mutual
def gantrylaw1_WordShifts.l0 : Nat → List (S25) → Int → Option (Bool)
  | 0, _, _ => none
  | k + 1, x0, x3 => if x3 < (x0.length : Int) then (gantrylaw1_WordShifts.j1 k x0 x3 (decide (x3 < 200))) else (gantrylaw1_WordShifts.j1 k x0 x3 false)
def gantrylaw1_WordShifts.j1 : Nat → List (S25) → Int → Bool → Option (Bool)
  | 0, _, _, _ => none
  | k + 1, x0, x3, x18 => if x18 = true then (if 0 ≤ x3 then (if x3 < (x0.length : Int) then ((word_Canon.f k (wrap64 (2 + (wrap64 (Int.tmod (IntKind.u64.wrap ((rd_T25 x0 x3).f1)) 8)))) ((rd_T25 x0 x3).f3)).bind fun t136 => (gantrylaw1_WordShifts.l1 k x0 x3 (wrap64 (2 + (wrap64 (Int.tmod (IntKind.u64.wrap ((rd_T25 x0 x3).f1)) 8)))) t136 (Int.tmod ((rd_T25 x0 x3).f4) 70) t136 t136 0 ((rd_T25 x0 x3).f0) ((rd_T25 x0 x3).f1) ((rd_T25 x0 x3).f2) ((rd_T25 x0 x3).f3) ((rd_T25 x0 x3).f4))) else (none)) else (none)) else ((gantrylaw1_wakes.f k).bind fun t133 => (some t133))
def gantrylaw1_WordShifts.l1 : Nat → List (S25) → Int → Int → Int → Int → Int → Int → Int → Int → Int → Int → Int → Int → Option (Bool)
  | 0, _, _, _, _, _, _, _, _, _, _, _, _, _ => none
  | k + 1, x0, x3, x5, x6, x7, x8, x9, x10, x136000, x136001, x136002, x136003, x136004 => if x10 < x7 then ((gantrylaw1_bin.f k 9 x5 x8 1).bind fun t137 => ((gantrylaw1_bin.f k 10 x5 x9 1).bind fun t138 => (gantrylaw1_WordShifts.l1 k x0 x3 x5 x6 x7 t137 t138 (IntKind.u64.wrap (x10 + 1)) x136000 x136001 x136002 x136003 x136004))) else ((gantrylaw1_bin.f k 9 x5 x6 x7).bind fun t139 => (if t139 = x8 then ((gantrylaw1_bin.f k 10 x5 x6 x7).bind fun t140 => (if t140 = x9 then ((word_Is.f k x5 x8).bind fun t141 => (if t141 = true then ((word_Is.f k x5 x9).bind fun t142 => (gantrylaw1_WordShifts.j3 k x0 x3 x5 x6 (!t142) x136000 x136001 x136002 x136003 x136004)) else (gantrylaw1_WordShifts.j3 k x0 x3 x5 x6 true x136000 x136001 x136002 x136003 x136004))) else (gantrylaw1_WordShifts.j3 k x0 x3 x5 x6 true x136000 x136001 x136002 x136003 x136004))) else (gantrylaw1_WordShifts.j3 k x0 x3 x5 x6 true x136000 x136001 x136002 x136003 x136004)))
def gantrylaw1_WordShifts.j3 : Nat → List (S25) → Int → Int → Int → Bool → Int → Int → Int → Int → Int → Option (Bool)
  | 0, _, _, _, _, _, _, _, _, _, _ => none
  | k + 1, x0, x3, x5, x6, x76, x136000, x136001, x136002, x136003, x136004 => if x76 = true then (some false) else (if x136004 ≥ 64 then ((gantrylaw1_bin.f k 9 x5 x6 x136004).bind fun t143 => (if t143 = 0 then ((gantrylaw1_bin.f k 10 x5 x6 x136004).bind fun t144 => ((gantrylaw1_bin.f k 10 x5 x6 64).bind fun t145 => (if t144 = t145 then (gantrylaw1_WordShifts.l0 k x0 (wrap64 (x3 + 1))) else (some false)))) else (some false))) else (gantrylaw1_WordShifts.l0 k x0 (wrap64 (x3 + 1))))
end
def gantrylaw1_WordShifts.f (k : Nat) (l0 : List (S25)) : Option (Bool) := gantrylaw1_WordShifts.l0 k l0 0
theorem gantrylaw1_WordShifts.mono_l : ∀ k, (∀ y0 y1, LeO (gantrylaw1_WordShifts.l0 k y0 y1) (gantrylaw1_WordShifts.l0 (k + 1) y0 y1)) ∧ (∀ y0 y1 y2, LeO (gantrylaw1_WordShifts.j1 k y0 y1 y2) (gantrylaw1_WordShifts.j1 (k + 1) y0 y1 y2)) ∧ (∀ y0 y1 y2 y3 y4 y5 y6 y7 y8 y9 y10 y11 y12, LeO (gantrylaw1_WordShifts.l1 k y0 y1 y2 y3 y4 y5 y6 y7 y8 y9 y10 y11 y12) (gantrylaw1_WordShifts.l1 (k + 1) y0 y1 y2 y3 y4 y5 y6 y7 y8 y9 y10 y11 y12)) ∧ (∀ y0 y1 y2 y3 y4 y5 y6 y7 y8 y9, LeO (gantrylaw1_WordShifts.j3 k y0 y1 y2 y3 y4 y5 y6 y7 y8 y9) (gantrylaw1_WordShifts.j3 (k + 1) y0 y1 y2 y3 y4 y5 y6 y7 y8 y9))
  | 0 => ⟨fun _ _ r h => by simp [gantrylaw1_WordShifts.l0] at h, fun _ _ _ r h => by simp [gantrylaw1_WordShifts.j1] at h, fun _ _ _ _ _ _ _ _ _ _ _ _ _ r h => by simp [gantrylaw1_WordShifts.l1] at h, fun _ _ _ _ _ _ _ _ _ _ r h => by simp [gantrylaw1_WordShifts.j3] at h⟩
  | k + 1 => by
    obtain ⟨ih0, ih1, ih2, ih3⟩ := gantrylaw1_WordShifts.mono_l k
    refine ⟨?_, ?_, ?_, ?_⟩
    · intro y0 y1
      unfold gantrylaw1_WordShifts.l0
      repeat' first
      | (with_reducible exact ih0 _ _)
      | (with_reducible exact ih1 _ _ _)
      | (with_reducible exact ih2 _ _ _ _ _ _ _ _ _ _ _ _ _)
      | (with_reducible exact ih3 _ _ _ _ _ _ _ _ _ _)
      | (with_reducible exact gantrylaw1_bin.mono _ _ _ _ _)
      | (with_reducible exact gantrylaw1_wakes.mono _)
      | (with_reducible exact word_Canon.mono _ _ _)
      | (with_reducible exact word_Is.mono _ _ _)
      | (with_reducible exact LeO.refl _)
      | (with_reducible exact LeO.none _)
      | (with_reducible refine LeO.ite ?_ ?_)
      | (with_reducible refine LeO.bind ?_ (fun _ => ?_))
      | exact ih0 _ _
      | exact ih1 _ _ _
      | exact ih2 _ _ _ _ _ _ _ _ _ _ _ _ _
      | exact ih3 _ _ _ _ _ _ _ _ _ _
      | exact gantrylaw1_bin.mono _ _ _ _ _
      | exact gantrylaw1_wakes.mono _
      | exact word_Canon.mono _ _ _
      | exact word_Is.mono _ _ _
      | exact LeO.none _
      | refine LeO.ite ?_ ?_
      | refine LeO.bind ?_ (fun _ => ?_)
    · intro y0 y1 y2
      unfold gantrylaw1_WordShifts.j1
      repeat' first
      | (with_reducible exact ih0 _ _)
      | (with_reducible exact ih1 _ _ _)
      | (with_reducible exact ih2 _ _ _ _ _ _ _ _ _ _ _ _ _)
      | (with_reducible exact ih3 _ _ _ _ _ _ _ _ _ _)
      | (with_reducible exact gantrylaw1_bin.mono _ _ _ _ _)
      | (with_reducible exact gantrylaw1_wakes.mono _)
      | (with_reducible exact word_Canon.mono _ _ _)
      | (with_reducible exact word_Is.mono _ _ _)
      | (with_reducible exact LeO.refl _)
      | (with_reducible exact LeO.none _)
      | (with_reducible refine LeO.ite ?_ ?_)
      | (with_reducible refine LeO.bind ?_ (fun _ => ?_))
      | exact ih0 _ _
      | exact ih1 _ _ _
      | exact ih2 _ _ _ _ _ _ _ _ _ _ _ _ _
      | exact ih3 _ _ _ _ _ _ _ _ _ _
      | exact gantrylaw1_bin.mono _ _ _ _ _
      | exact gantrylaw1_wakes.mono _
      | exact word_Canon.mono _ _ _
      | exact word_Is.mono _ _ _
      | exact LeO.none _
      | refine LeO.ite ?_ ?_
      | refine LeO.bind ?_ (fun _ => ?_)
    · intro y0 y1 y2 y3 y4 y5 y6 y7 y8 y9 y10 y11 y12
      unfold gantrylaw1_WordShifts.l1
      repeat' first
      | (with_reducible exact ih0 _ _)
      | (with_reducible exact ih1 _ _ _)
      | (with_reducible exact ih2 _ _ _ _ _ _ _ _ _ _ _ _ _)
      | (with_reducible exact ih3 _ _ _ _ _ _ _ _ _ _)
      | (with_reducible exact gantrylaw1_bin.mono _ _ _ _ _)
      | (with_reducible exact gantrylaw1_wakes.mono _)
      | (with_reducible exact word_Canon.mono _ _ _)
      | (with_reducible exact word_Is.mono _ _ _)
      | (with_reducible exact LeO.refl _)
      | (with_reducible exact LeO.none _)
      | (with_reducible refine LeO.ite ?_ ?_)
      | (with_reducible refine LeO.bind ?_ (fun _ => ?_))
      | exact ih0 _ _
      | exact ih1 _ _ _
      | exact ih2 _ _ _ _ _ _ _ _ _ _ _ _ _
      | exact ih3 _ _ _ _ _ _ _ _ _ _
      | exact gantrylaw1_bin.mono _ _ _ _ _
      | exact gantrylaw1_wakes.mono _
      | exact word_Canon.mono _ _ _
      | exact word_Is.mono _ _ _
      | exact LeO.none _
      | refine LeO.ite ?_ ?_
      | refine LeO.bind ?_ (fun _ => ?_)
    · intro y0 y1 y2 y3 y4 y5 y6 y7 y8 y9
      unfold gantrylaw1_WordShifts.j3
      repeat' first
      | (with_reducible exact ih0 _ _)
      | (with_reducible exact ih1 _ _ _)
      | (with_reducible exact ih2 _ _ _ _ _ _ _ _ _ _ _ _ _)
      | (with_reducible exact ih3 _ _ _ _ _ _ _ _ _ _)
      | (with_reducible exact gantrylaw1_bin.mono _ _ _ _ _)
      | (with_reducible exact gantrylaw1_wakes.mono _)
      | (with_reducible exact word_Canon.mono _ _ _)
      | (with_reducible exact word_Is.mono _ _ _)
      | (with_reducible exact LeO.refl _)
      | (with_reducible exact LeO.none _)
      | (with_reducible refine LeO.ite ?_ ?_)
      | (with_reducible refine LeO.bind ?_ (fun _ => ?_))
      | exact ih0 _ _
      | exact ih1 _ _ _
      | exact ih2 _ _ _ _ _ _ _ _ _ _ _ _ _
      | exact ih3 _ _ _ _ _ _ _ _ _ _
      | exact gantrylaw1_bin.mono _ _ _ _ _
      | exact gantrylaw1_wakes.mono _
      | exact word_Canon.mono _ _ _
      | exact word_Is.mono _ _ _
      | exact LeO.none _
      | refine LeO.ite ?_ ?_
      | refine LeO.bind ?_ (fun _ => ?_)
theorem gantrylaw1_WordShifts.mono : ∀ a0 k, LeO (gantrylaw1_WordShifts.f k a0) (gantrylaw1_WordShifts.f (k + 1) a0) := by
  intro a0 k
  obtain ⟨ih0, ih1, ih2, ih3⟩ := gantrylaw1_WordShifts.mono_l k
  unfold gantrylaw1_WordShifts.f
  repeat' first
      | (with_reducible exact ih0 _ _)
      | (with_reducible exact ih1 _ _ _)
      | (with_reducible exact ih2 _ _ _ _ _ _ _ _ _ _ _ _ _)
      | (with_reducible exact ih3 _ _ _ _ _ _ _ _ _ _)
      | (with_reducible exact gantrylaw1_bin.mono _ _ _ _ _)
      | (with_reducible exact gantrylaw1_wakes.mono _)
      | (with_reducible exact word_Canon.mono _ _ _)
      | (with_reducible exact word_Is.mono _ _ _)
      | (with_reducible exact LeO.refl _)
      | (with_reducible exact LeO.none _)
      | (with_reducible refine LeO.ite ?_ ?_)
      | (with_reducible refine LeO.bind ?_ (fun _ => ?_))
      | exact ih0 _ _
      | exact ih1 _ _ _
      | exact ih2 _ _ _ _ _ _ _ _ _ _ _ _ _
      | exact ih3 _ _ _ _ _ _ _ _ _ _
      | exact gantrylaw1_bin.mono _ _ _ _ _
      | exact gantrylaw1_wakes.mono _
      | exact word_Canon.mono _ _ _
      | exact word_Is.mono _ _ _
      | exact LeO.none _
      | refine LeO.ite ?_ ?_
      | refine LeO.bind ?_ (fun _ => ?_)
set_option maxHeartbeats 8000000 in
set_option maxRecDepth 100000 in
theorem gantrylaw1_WordShifts.calls (k : Nat) (A0 : Option Addr) (c0 : Nat) (l0 : List (S25)) (r : Bool) (w : World) (hr0 : Kd.C k25 w A0 l0.length l0) (hc0 : l0.length ≤ c0) (h : gantrylaw1_WordShifts.f k l0 = some r) :
    Calls Try.prog 3 #[.slice A0 l0.length c0] w fun e w' => e = .returned (.bool r) ∧ Below w.heap.size w w' := by
  have hu25 := Try.underlying25
  have HR0 := Aside0.mk hr0
  have HC0 := Aside0.mk hc0
  clear hr0 hc0
  have HB := Aside0.mk (Below.refl w.heap.size w)
  have H : (gantrylaw1_WordShifts.l0 k l0 0) = some r := h
  clear h
  have H' := Aside0.mk H
  clear H
  go_enter Try.func3, Try.ntmps3
  go_wp2
  go_loopg [3] k (fun kq v3 w' => ∃ (x3_1 : Int), v3 = .int .i64 x3_1 ∧ Aside0 (gantrylaw1_WordShifts.l0 kq l0 x3_1 = some r) ∧ Aside0 (kq ≤ k) ∧ Aside0 (Below w.heap.size w w'))
  case atStart => exact ⟨(0), (by first | rfl | (simp; done) | (simp [*]; done)), H', ⟨Nat.le_refl _⟩, ⟨by repeat (first | (with_reducible first | exact HB.out | apply below_alloc | apply pw_below_drewN | apply below_drew1) | exact HB.out)⟩⟩
  case round =>
    clear H'
    obtain ⟨x3_1, rfl, HA, HK1, HB⟩ := hrel
    cases gk with
    | zero => exact absurd HA.out (by simp [gantrylaw1_WordShifts.l0])
    | succ k1 =>
      have H := HA.out
      clear HA
      simp only [gantrylaw1_WordShifts.l0] at H
      have HC2 := Aside0.mk H
      clear H
      go_upto_region 2 with (fail)
      go_cut [18] (fun v18 wc => ∃ (kq : Nat) (x18_1 : Bool), v18 = .bool x18_1 ∧ Aside0 (gantrylaw1_WordShifts.j1 kq l0 x3_1 x18_1 = some r) ∧ Aside0 (kq ≤ k1) ∧ Aside0 (Below w.heap.size w wc))
      case first =>
        have H := HC2.out
        clear HC2
        by_cases c3 : x3_1 < (l0.length : Int)
        · rw [if_pos c3] at H
          have c3b0 : decide (x3_1 < (l0.length : Int)) = true := decide_eq_true c3
          clear c3
          (first | rw [c3b0] | (simp only [i64_w, i32_w]; rw [c3b0]) | skip)
          have H' := Aside0.mk H
          clear H
          go_wp2
          go_meet
          case rel => exact ⟨_, (decide (x3_1 < 200)), (by first | rfl | (simp; done) | (simp [*]; done)), H', ⟨by have := HK1.out; first | omega | exact Nat.le_refl _⟩, ⟨by repeat (first | (with_reducible first | exact HB.out | apply below_alloc | apply pw_below_drewN | apply below_drew1) | exact HB.out)⟩⟩
        · rw [if_neg c3] at H
          have c3b0 : decide (x3_1 < (l0.length : Int)) = false := decide_eq_false c3
          clear c3
          (first | rw [c3b0] | (simp only [i64_w, i32_w]; rw [c3b0]) | skip)
          have H' := Aside0.mk H
          clear H
          go_wp2
          go_meet
          case rel => exact ⟨_, (false), (by first | rfl | (simp; done) | (simp [*]; done)), H', ⟨by have := HK1.out; first | omega | exact Nat.le_refl _⟩, ⟨by repeat (first | (with_reducible first | exact HB.out | apply below_alloc | apply pw_below_drewN | apply below_drew1) | exact HB.out)⟩⟩
      case rest =>
        clear HC2
        try clear p2
        try clear c3
        try clear c3b0
        obtain ⟨kq, x18_1, rfl, HA, HJ1, HB⟩ := hcut
        cases kq with
        | zero => exact absurd HA.out (by simp [gantrylaw1_WordShifts.j1])
        | succ kj1 =>
          have H := HA.out
          clear HA
          simp only [gantrylaw1_WordShifts.j1] at H
          by_cases c4 : x18_1 = true
          · subst c4
            have H1 : (if 0 ≤ x3_1 then (if x3_1 < (l0.length : Int) then ((word_Canon.f kj1 (wrap64 (2 + (wrap64 (Int.tmod (IntKind.u64.wrap ((rd_T25 l0 x3_1).f1)) 8)))) ((rd_T25 l0 x3_1).f3)).bind fun t136 => (gantrylaw1_WordShifts.l1 kj1 l0 x3_1 (wrap64 (2 + (wrap64 (Int.tmod (IntKind.u64.wrap ((rd_T25 l0 x3_1).f1)) 8)))) t136 (Int.tmod ((rd_T25 l0 x3_1).f4) 70) t136 t136 0 ((rd_T25 l0 x3_1).f0) ((rd_T25 l0 x3_1).f1) ((rd_T25 l0 x3_1).f2) ((rd_T25 l0 x3_1).f3) ((rd_T25 l0 x3_1).f4))) else (none)) else (none)) = some r := by rw [if_pos rfl] at H; exact H
            clear H
            have H := H1
            clear H1
            by_cases c5 : 0 ≤ x3_1
            · rw [if_pos c5] at H
              have c5b0 : decide (0 ≤ x3_1) = true := decide_eq_true c5
              clear c5
              by_cases c6 : x3_1 < (l0.length : Int)
              · rw [if_pos c6] at H
                have c6b0 : decide (x3_1 < (l0.length : Int)) = true := decide_eq_true c6
                clear c6
                replace H := Option.bind_eq_some_iff.mp H
                obtain ⟨t136, A70, H⟩ := H
                replace H : (gantrylaw1_WordShifts.l1 kj1 l0 x3_1 (wrap64 (2 + (wrap64 (Int.tmod (IntKind.u64.wrap ((rd_T25 l0 x3_1).f1)) 8)))) t136 (Int.tmod ((rd_T25 l0 x3_1).f4) 70) t136 t136 0 ((rd_T25 l0 x3_1).f0) ((rd_T25 l0 x3_1).f1) ((rd_T25 l0 x3_1).f2) ((rd_T25 l0 x3_1).f3) ((rd_T25 l0 x3_1).f4)) = some r := H
                have A7 := Aside0.mk A70
                clear A70
                have H' := Aside0.mk H
                clear H
                have p134 : 0 ≤ (x3_1 : Int) := of_decide_eq_true (by first | (with_reducible assumption) | assumption)
                have q134 : x3_1 < (l0.length : Int) := of_decide_eq_true (by first | (with_reducible assumption) | assumption)
                obtain ⟨ad134, e134, hx134_0, hx134_1, hx134_2, hx134_3, hx134_4⟩ := at_T25 HR0.out x3_1 p134 q134
                cases e134
                replace hx134_0 := (HB.out.cell (World.block_lt_of_cell? w _ hx134_0)).trans hx134_0
                replace hx134_1 := (HB.out.cell (World.block_lt_of_cell? w _ hx134_1)).trans hx134_1
                replace hx134_2 := (HB.out.cell (World.block_lt_of_cell? w _ hx134_2)).trans hx134_2
                replace hx134_3 := (HB.out.cell (World.block_lt_of_cell? w _ hx134_3)).trans hx134_3
                replace hx134_4 := (HB.out.cell (World.block_lt_of_cell? w _ hx134_4)).trans hx134_4
                replace p134 := eq_true p134
                replace q134 := eq_true q134
                go_wp2_with (first | ((with_reducible refine gate_dst (N := 4) rfl ?_); refine box_event ?hg (N := 4) ?hd (cs := #[.int .i64 0, .int .i64 0, .int .i64 0, .int .u64 0, .int .u64 0]) (t := 25) ?hr ?_; (case hd => rfl); (case hg => rfl); (case hr => first | (go_simp; done) | (go_simp; rfl)); intro gb135 hg w8 hbox hb; have n0_ := Aside0.mk (below_step (by repeat (first | (with_reducible first | exact HB.out | apply below_alloc | apply pw_below_drewN | apply below_drew1) | exact HB.out)) hb); have n1_ := Aside0.mk (hbox); have n2_ := Aside0.mk ((by rw [hg]; exact (below_size (by repeat (first | (with_reducible first | exact HB.out | apply below_alloc | apply pw_below_drewN | apply below_drew1) | exact HB.out))) : w.heap.size ≤ gb135)); have n3_ := Aside0.mk ((by rw [hg]; exact (below_size (by repeat (first | (with_reducible first | exact HB.out | apply below_alloc | apply pw_below_drewN | apply below_drew1) | exact HB.out))) : w.heap.size ≤ gb135)); clear HB; have HB := n0_; have BK135 := n1_; have GW135 := n2_; have GE135 := n3_; clear n0_ n1_ n2_ n3_; clear hb hbox hg; have hcz9_0 : w8.cell? ⟨gb135, 0, none⟩ = some (.int .i64 0) := (blk_cell BK135.out 0).trans rfl; have hcz9_1 : w8.cell? ⟨gb135, 1, none⟩ = some (.int .i64 0) := (blk_cell BK135.out 1).trans rfl; have hcz9_2 : w8.cell? ⟨gb135, 2, none⟩ = some (.int .i64 0) := (blk_cell BK135.out 2).trans rfl; have hcz9_3 : w8.cell? ⟨gb135, 3, none⟩ = some (.int .u64 0) := (blk_cell BK135.out 3).trans rfl; have hcz9_4 : w8.cell? ⟨gb135, 4, none⟩ = some (.int .u64 0) := (blk_cell BK135.out 4).trans rfl; have hfz9_0 := blk_frozen BK135.out 0; have hfz9_1 := blk_frozen BK135.out 1; have hfz9_2 := blk_frozen BK135.out 2; have hfz9_3 := blk_frozen BK135.out 3; have hfz9_4 := blk_frozen BK135.out 4) | ((with_reducible refine gate_callee (f := 15) rfl ?_); refine goesL_ (some 34) rfl rfl Try.func15 (by kernel_rfl) rfl #[.int .i64 (wrap64 (2 + (wrap64 (Int.tmod (IntKind.u64.wrap ((rd_T25 l0 x3_1).f1)) 8)))), .int .u64 ((rd_T25 l0 x3_1).f3)] rfl (by (try simp only [List.map_toArray, List.map_cons, List.map_nil]); first | done | rfl | (simp only [List.length_drop, List.length_take]; rfl)) ?_; (with_reducible refine (word_Canon.calls kj1 (wrap64 (2 + (wrap64 (Int.tmod (IntKind.u64.wrap ((rd_T25 l0 x3_1).f1)) 8)))) ((rd_T25 l0 x3_1).f3) t136 _ A7.out).mono ?_); rintro e w' ⟨rfl, ⟨nd, rfl⟩⟩; refine ⟨_, rfl, ?_⟩))
                go_loopg [8, 9, 10] kj1 (fun kq v8 v9 v10 w' => ∃ (x8_3 : Int) (x9_3 : Int) (x10_3 : Int), v8 = .int .u64 x8_3 ∧ v9 = .int .u64 x9_3 ∧ v10 = .int .u64 x10_3 ∧ Aside0 (gantrylaw1_WordShifts.l1 kq l0 x3_1 (wrap64 (2 + (wrap64 (Int.tmod (IntKind.u64.wrap ((rd_T25 l0 x3_1).f1)) 8)))) t136 (Int.tmod ((rd_T25 l0 x3_1).f4) 70) x8_3 x9_3 x10_3 ((rd_T25 l0 x3_1).f0) ((rd_T25 l0 x3_1).f1) ((rd_T25 l0 x3_1).f2) ((rd_T25 l0 x3_1).f3) ((rd_T25 l0 x3_1).f4) = some r) ∧ Aside0 (kq ≤ kj1) ∧ Aside0 (w'.heap[gb135]? = some (.cells #[.int .i64 ((rd_T25 l0 x3_1).f0), .int .i64 ((rd_T25 l0 x3_1).f1), .int .i64 ((rd_T25 l0 x3_1).f2), .int .u64 ((rd_T25 l0 x3_1).f3), .int .u64 ((rd_T25 l0 x3_1).f4)] 25 (0, 0))) ∧ Aside0 (Below w.heap.size w w'))
                case atStart => exact ⟨(t136), (t136), (0), (by first | rfl | (simp; done) | (simp [*]; done)), (by first | rfl | (simp; done) | (simp [*]; done)), (by first | rfl | (simp; done) | (simp [*]; done)), H', ⟨Nat.le_refl _⟩, ⟨by (with_reducible repeat (first | refine blk_drewN ?_ _ | refine blk_drew ?_ | refine blk_alloc ?_ _)); refine blk_put (cs := #[.int .i64 ((rd_T25 l0 x3_1).f0), .int .i64 ((rd_T25 l0 x3_1).f1), .int .i64 ((rd_T25 l0 x3_1).f2), .int .u64 ((rd_T25 l0 x3_1).f3), .int .u64 0]) ?_ 4 _ rfl; (with_reducible repeat (first | refine blk_drewN ?_ _ | refine blk_drew ?_ | refine blk_alloc ?_ _)); refine blk_put (cs := #[.int .i64 ((rd_T25 l0 x3_1).f0), .int .i64 ((rd_T25 l0 x3_1).f1), .int .i64 ((rd_T25 l0 x3_1).f2), .int .u64 0, .int .u64 0]) ?_ 3 _ rfl; (with_reducible repeat (first | refine blk_drewN ?_ _ | refine blk_drew ?_ | refine blk_alloc ?_ _)); refine blk_put (cs := #[.int .i64 ((rd_T25 l0 x3_1).f0), .int .i64 ((rd_T25 l0 x3_1).f1), .int .i64 0, .int .u64 0, .int .u64 0]) ?_ 2 _ rfl; (with_reducible repeat (first | refine blk_drewN ?_ _ | refine blk_drew ?_ | refine blk_alloc ?_ _)); refine blk_put (cs := #[.int .i64 ((rd_T25 l0 x3_1).f0), .int .i64 0, .int .i64 0, .int .u64 0, .int .u64 0]) ?_ 1 _ rfl; (with_reducible repeat (first | refine blk_drewN ?_ _ | refine blk_drew ?_ | refine blk_alloc ?_ _)); refine blk_put (cs := #[.int .i64 0, .int .i64 0, .int .i64 0, .int .u64 0, .int .u64 0]) ?_ 0 _ rfl; (with_reducible repeat (first | refine blk_drewN ?_ _ | refine blk_drew ?_ | refine blk_alloc ?_ _)); exact BK135.out⟩, ⟨by repeat (first | (with_reducible first | exact HB.out | apply below_alloc | apply pw_below_drewN | apply below_drew1 | refine below_set ?_ GE135.out) | exact HB.out)⟩⟩
                case round =>
                  clear H'
                  try clear c1
                  try clear p1
                  try clear q1
                  try clear hx1
                  try clear p2
                  try clear c3
                  try clear c3b0
                  try clear c4
                  try clear c5
                  try clear c5b0
                  try clear c6
                  try clear c6b0
                  try clear p6
                  try clear hcz9_0
                  try clear hcz9_1
                  try clear hcz9_2
                  try clear hcz9_3
                  try clear hcz9_4
                  try clear hfz9_0
                  try clear hfz9_1
                  try clear hfz9_2
                  try clear hfz9_3
                  try clear hfz9_4
                  try clear hx134_0
                  try clear hx134_1
                  try clear hx134_2
                  try clear hx134_3
                  try clear hx134_4
                  try clear p134
                  try clear p2
                  try clear q134
                  obtain ⟨x8_3, x9_3, x10_3, rfl, rfl, rfl, HA, HK3, BK135, HB⟩ := hrel
                  cases gk with
                  | zero => exact absurd HA.out (by simp [gantrylaw1_WordShifts.l1])
                  | succ k3 =>
                    have H := HA.out
                    clear HA
                    simp only [gantrylaw1_WordShifts.l1] at H
                    by_cases c10 : x10_3 < (Int.tmod ((rd_T25 l0 x3_1).f4) 70)
                    · rw [if_pos c10] at H
                      have c10b0 : decide (x10_3 < (Int.tmod ((rd_T25 l0 x3_1).f4) 70)) = true := decide_eq_true c10
                      clear c10
                      replace H := Option.bind_eq_some_iff.mp H
                      obtain ⟨t137, A110, H⟩ := H
                      replace H : ((gantrylaw1_bin.f k3 10 (wrap64 (2 + (wrap64 (Int.tmod (IntKind.u64.wrap ((rd_T25 l0 x3_1).f1)) 8)))) x9_3 1).bind fun t138 => (gantrylaw1_WordShifts.l1 k3 l0 x3_1 (wrap64 (2 + (wrap64 (Int.tmod (IntKind.u64.wrap ((rd_T25 l0 x3_1).f1)) 8)))) t136 (Int.tmod ((rd_T25 l0 x3_1).f4) 70) t137 t138 (IntKind.u64.wrap (x10_3 + 1)) ((rd_T25 l0 x3_1).f0) ((rd_T25 l0 x3_1).f1) ((rd_T25 l0 x3_1).f2) ((rd_T25 l0 x3_1).f3) ((rd_T25 l0 x3_1).f4))) = some r := H
                      have A11 := Aside0.mk A110
                      clear A110
                      replace H := Option.bind_eq_some_iff.mp H
                      obtain ⟨t138, A120, H⟩ := H
                      replace H : (gantrylaw1_WordShifts.l1 k3 l0 x3_1 (wrap64 (2 + (wrap64 (Int.tmod (IntKind.u64.wrap ((rd_T25 l0 x3_1).f1)) 8)))) t136 (Int.tmod ((rd_T25 l0 x3_1).f4) 70) t137 t138 (IntKind.u64.wrap (x10_3 + 1)) ((rd_T25 l0 x3_1).f0) ((rd_T25 l0 x3_1).f1) ((rd_T25 l0 x3_1).f2) ((rd_T25 l0 x3_1).f3) ((rd_T25 l0 x3_1).f4)) = some r := H
                      have A12 := Aside0.mk A120
                      clear A120
                      have H' := Aside0.mk H
                      clear H
                      go_wp2_with (first | ((with_reducible refine gate_callee (f := 16) rfl ?_); refine goesL_ (some 47) rfl rfl Try.func16 (by kernel_rfl) rfl #[.int .i64 9, .int .i64 (wrap64 (2 + (wrap64 (Int.tmod (IntKind.u64.wrap ((rd_T25 l0 x3_1).f1)) 8)))), .int .u64 x8_3, .int .u64 1] rfl (by (try simp only [List.map_toArray, List.map_cons, List.map_nil]); first | done | rfl | (simp only [List.length_drop, List.length_take]; rfl)) ?_; (with_reducible refine (gantrylaw1_bin.calls k3 9 (wrap64 (2 + (wrap64 (Int.tmod (IntKind.u64.wrap ((rd_T25 l0 x3_1).f1)) 8)))) x8_3 1 t137 _ A11.out).mono ?_); rintro e w13 ⟨rfl, hb⟩; refine ⟨_, rfl, ?_⟩; have n0_ := Aside0.mk (blk_below (g := gb135) (o := .cells #[.int .i64 ((rd_T25 l0 x3_1).f0), .int .i64 ((rd_T25 l0 x3_1).f1), .int .i64 ((rd_T25 l0 x3_1).f2), .int .u64 ((rd_T25 l0 x3_1).f3), .int .u64 ((rd_T25 l0 x3_1).f4)] 25 (0, 0)) (by (with_reducible repeat (first | refine blk_drewN ?_ _ | refine blk_drew ?_ | refine blk_alloc ?_ _)); exact BK135.out) hb); have n1_ := Aside0.mk (below_step (by repeat (first | (with_reducible first | exact HB.out | apply below_alloc | apply pw_below_drewN | apply below_drew1 | refine below_set ?_ GE135.out) | exact HB.out)) hb); clear BK135; clear HB; have BK135 := n0_; have HB := n1_; clear n0_ n1_; (try clear hb); (try clear hb2); (try clear hk); (try clear hi)) | ((with_reducible refine gate_callee (f := 16) rfl ?_); refine goesL_ (some 50) rfl rfl Try.func16 (by kernel_rfl) rfl #[.int .i64 10, .int .i64 (wrap64 (2 + (wrap64 (Int.tmod (IntKind.u64.wrap ((rd_T25 l0 x3_1).f1)) 8)))), .int .u64 x9_3, .int .u64 1] rfl (by (try simp only [List.map_toArray, List.map_cons, List.map_nil]); first | done | rfl | (simp only [List.length_drop, List.length_take]; rfl)) ?_; (with_reducible refine (gantrylaw1_bin.calls k3 10 (wrap64 (2 + (wrap64 (Int.tmod (IntKind.u64.wrap ((rd_T25 l0 x3_1).f1)) 8)))) x9_3 1 t138 _ A12.out).mono ?_); rintro e w14 ⟨rfl, hb⟩; refine ⟨_, rfl, ?_⟩; have n0_ := Aside0.mk (blk_below (g := gb135) (o := .cells #[.int .i64 ((rd_T25 l0 x3_1).f0), .int .i64 ((rd_T25 l0 x3_1).f1), .int .i64 ((rd_T25 l0 x3_1).f2), .int .u64 ((rd_T25 l0 x3_1).f3), .int .u64 ((rd_T25 l0 x3_1).f4)] 25 (0, 0)) (by (with_reducible repeat (first | refine blk_drewN ?_ _ | refine blk_drew ?_ | refine blk_alloc ?_ _)); exact BK135.out) hb); have n1_ := Aside0.mk (below_step (by repeat (first | (with_reducible first | exact HB.out | apply below_alloc | apply pw_below_drewN | apply below_drew1 | refine below_set ?_ GE135.out) | exact HB.out)) hb); clear BK135; clear HB; have BK135 := n0_; have HB := n1_; clear n0_ n1_; (try clear hb); (try clear hb2); (try clear hk); (try clear hi)))
                      go_roundg k3
                      case measure => have := HK1.out; have := HJ1.out; have := HK3.out; omega
                      case rel => exact ⟨(t137), (t138), (IntKind.u64.wrap (x10_3 + 1)), (by first | rfl | (simp; done) | (simp [*]; done)), (by first | rfl | (simp; done) | (simp [*]; done)), (by first | rfl | (simp; done) | (simp [*]; done)), H', ⟨by have := HK1.out; have := HJ1.out; have := HK3.out; omega⟩, ⟨by (with_reducible repeat (first | refine blk_drewN ?_ _ | refine blk_drew ?_ | refine blk_alloc ?_ _)); exact BK135.out⟩, ⟨by repeat (first | (with_reducible first | exact HB.out | apply below_alloc | apply pw_below_drewN | apply below_drew1 | refine below_set ?_ GE135.out) | exact HB.out)⟩⟩
                    · rw [if_neg c10] at H
                      have c10b0 : decide (x10_3 < (Int.tmod ((rd_T25 l0 x3_1).f4) 70)) = false := decide_eq_false c10
                      clear c10
                      have HC15 := Aside0.mk H
                      clear H
                      go_upto_region 15 with (fail)
                      go_cut [76] (fun v76 wc => ∃ (kq : Nat) (x76_14 : Bool), v76 = .bool x76_14 ∧ Aside0 (gantrylaw1_WordShifts.j3 kq l0 x3_1 (wrap64 (2 + (wrap64 (Int.tmod (IntKind.u64.wrap ((rd_T25 l0 x3_1).f1)) 8)))) t136 x76_14 ((rd_T25 l0 x3_1).f0) ((rd_T25 l0 x3_1).f1) ((rd_T25 l0 x3_1).f2) ((rd_T25 l0 x3_1).f3) ((rd_T25 l0 x3_1).f4) = some r) ∧ Aside0 (kq ≤ k3) ∧ Aside0 (wc.heap[gb135]? = some (.cells #[.int .i64 ((rd_T25 l0 x3_1).f0), .int .i64 ((rd_T25 l0 x3_1).f1), .int .i64 ((rd_T25 l0 x3_1).f2), .int .u64 ((rd_T25 l0 x3_1).f3), .int .u64 ((rd_T25 l0 x3_1).f4)] 25 (0, 0))) ∧ Aside0 (Below w.heap.size w wc))
                      case first =>
                        have H := HC15.out
                        clear HC15
                        replace H := Option.bind_eq_some_iff.mp H
                        obtain ⟨t139, A160, H⟩ := H
                        replace H : (if t139 = x8_3 then ((gantrylaw1_bin.f k3 10 (wrap64 (2 + (wrap64 (Int.tmod (IntKind.u64.wrap ((rd_T25 l0 x3_1).f1)) 8)))) t136 (Int.tmod ((rd_T25 l0 x3_1).f4) 70)).bind fun t140 => (if t140 = x9_3 then ((word_Is.f k3 (wrap64 (2 + (wrap64 (Int.tmod (IntKind.u64.wrap ((rd_T25 l0 x3_1).f1)) 8)))) x8_3).bind fun t141 => (if t141 = true then ((word_Is.f k3 (wrap64 (2 + (wrap64 (Int.tmod (IntKind.u64.wrap ((rd_T25 l0 x3_1).f1)) 8)))) x9_3).bind fun t142 => (gantrylaw1_WordShifts.j3 k3 l0 x3_1 (wrap64 (2 + (wrap64 (Int.tmod (IntKind.u64.wrap ((rd_T25 l0 x3_1).f1)) 8)))) t136 (!t142) ((rd_T25 l0 x3_1).f0) ((rd_T25 l0 x3_1).f1) ((rd_T25 l0 x3_1).f2) ((rd_T25 l0 x3_1).f3) ((rd_T25 l0 x3_1).f4))) else (gantrylaw1_WordShifts.j3 k3 l0 x3_1 (wrap64 (2 + (wrap64 (Int.tmod (IntKind.u64.wrap ((rd_T25 l0 x3_1).f1)) 8)))) t136 true ((rd_T25 l0 x3_1).f0) ((rd_T25 l0 x3_1).f1) ((rd_T25 l0 x3_1).f2) ((rd_T25 l0 x3_1).f3) ((rd_T25 l0 x3_1).f4)))) else (gantrylaw1_WordShifts.j3 k3 l0 x3_1 (wrap64 (2 + (wrap64 (Int.tmod (IntKind.u64.wrap ((rd_T25 l0 x3_1).f1)) 8)))) t136 true ((rd_T25 l0 x3_1).f0) ((rd_T25 l0 x3_1).f1) ((rd_T25 l0 x3_1).f2) ((rd_T25 l0 x3_1).f3) ((rd_T25 l0 x3_1).f4)))) else (gantrylaw1_WordShifts.j3 k3 l0 x3_1 (wrap64 (2 + (wrap64 (Int.tmod (IntKind.u64.wrap ((rd_T25 l0 x3_1).f1)) 8)))) t136 true ((rd_T25 l0 x3_1).f0) ((rd_T25 l0 x3_1).f1) ((rd_T25 l0 x3_1).f2) ((rd_T25 l0 x3_1).f3) ((rd_T25 l0 x3_1).f4))) = some r := H
                        have A16 := Aside0.mk A160
                        clear A160
                        by_cases c17 : t139 = x8_3
                        · rw [if_pos c17] at H
                          have c17b0 : (t139 == x8_3) = true := beq_iff_eq.mpr c17
                          have c17b1 : (t139 != x8_3) = false := bne_eq_false_iff_eq.mpr c17
                          clear c17
                          (first | rw [c17b0] | (simp only [i64_w, i32_w]; rw [c17b0]) | skip)
                          replace H := Option.bind_eq_some_iff.mp H
                          obtain ⟨t140, A180, H⟩ := H
                          replace H : (if t140 = x9_3 then ((word_Is.f k3 (wrap64 (2 + (wrap64 (Int.tmod (IntKind.u64.wrap ((rd_T25 l0 x3_1).f1)) 8)))) x8_3).bind fun t141 => (if t141 = true then ((word_Is.f k3 (wrap64 (2 + (wrap64 (Int.tmod (IntKind.u64.wrap ((rd_T25 l0 x3_1).f1)) 8)))) x9_3).bind fun t142 => (gantrylaw1_WordShifts.j3 k3 l0 x3_1 (wrap64 (2 + (wrap64 (Int.tmod (IntKind.u64.wrap ((rd_T25 l0 x3_1).f1)) 8)))) t136 (!t142) ((rd_T25 l0 x3_1).f0) ((rd_T25 l0 x3_1).f1) ((rd_T25 l0 x3_1).f2) ((rd_T25 l0 x3_1).f3) ((rd_T25 l0 x3_1).f4))) else (gantrylaw1_WordShifts.j3 k3 l0 x3_1 (wrap64 (2 + (wrap64 (Int.tmod (IntKind.u64.wrap ((rd_T25 l0 x3_1).f1)) 8)))) t136 true ((rd_T25 l0 x3_1).f0) ((rd_T25 l0 x3_1).f1) ((rd_T25 l0 x3_1).f2) ((rd_T25 l0 x3_1).f3) ((rd_T25 l0 x3_1).f4)))) else (gantrylaw1_WordShifts.j3 k3 l0 x3_1 (wrap64 (2 + (wrap64 (Int.tmod (IntKind.u64.wrap ((rd_T25 l0 x3_1).f1)) 8)))) t136 true ((rd_T25 l0 x3_1).f0) ((rd_T25 l0 x3_1).f1) ((rd_T25 l0 x3_1).f2) ((rd_T25 l0 x3_1).f3) ((rd_T25 l0 x3_1).f4))) = some r := H
                          have A18 := Aside0.mk A180
                          clear A180
                          by_cases c19 : t140 = x9_3
                          · rw [if_pos c19] at H
                            have c19b0 : (t140 == x9_3) = true := beq_iff_eq.mpr c19
                            have c19b1 : (t140 != x9_3) = false := bne_eq_false_iff_eq.mpr c19
                            clear c19
                            replace H := Option.bind_eq_some_iff.mp H
                            obtain ⟨t141, A200, H⟩ := H
                            replace H : (if t141 = true then ((word_Is.f k3 (wrap64 (2 + (wrap64 (Int.tmod (IntKind.u64.wrap ((rd_T25 l0 x3_1).f1)) 8)))) x9_3).bind fun t142 => (gantrylaw1_WordShifts.j3 k3 l0 x3_1 (wrap64 (2 + (wrap64 (Int.tmod (IntKind.u64.wrap ((rd_T25 l0 x3_1).f1)) 8)))) t136 (!t142) ((rd_T25 l0 x3_1).f0) ((rd_T25 l0 x3_1).f1) ((rd_T25 l0 x3_1).f2) ((rd_T25 l0 x3_1).f3) ((rd_T25 l0 x3_1).f4))) else (gantrylaw1_WordShifts.j3 k3 l0 x3_1 (wrap64 (2 + (wrap64 (Int.tmod (IntKind.u64.wrap ((rd_T25 l0 x3_1).f1)) 8)))) t136 true ((rd_T25 l0 x3_1).f0) ((rd_T25 l0 x3_1).f1) ((rd_T25 l0 x3_1).f2) ((rd_T25 l0 x3_1).f3) ((rd_T25 l0 x3_1).f4))) = some r := H
                            have A20 := Aside0.mk A200
                            clear A200
                            by_cases c21 : t141 = true
                            · subst c21
                              have H1 : ((word_Is.f k3 (wrap64 (2 + (wrap64 (Int.tmod (IntKind.u64.wrap ((rd_T25 l0 x3_1).f1)) 8)))) x9_3).bind fun t142 => (gantrylaw1_WordShifts.j3 k3 l0 x3_1 (wrap64 (2 + (wrap64 (Int.tmod (IntKind.u64.wrap ((rd_T25 l0 x3_1).f1)) 8)))) t136 (!t142) ((rd_T25 l0 x3_1).f0) ((rd_T25 l0 x3_1).f1) ((rd_T25 l0 x3_1).f2) ((rd_T25 l0 x3_1).f3) ((rd_T25 l0 x3_1).f4))) = some r := by rw [if_pos rfl] at H; exact H
                              clear H
                              have H := H1
                              clear H1
                              replace H := Option.bind_eq_some_iff.mp H
                              obtain ⟨t142, A220, H⟩ := H
                              replace H : (gantrylaw1_WordShifts.j3 k3 l0 x3_1 (wrap64 (2 + (wrap64 (Int.tmod (IntKind.u64.wrap ((rd_T25 l0 x3_1).f1)) 8)))) t136 (!t142) ((rd_T25 l0 x3_1).f0) ((rd_T25 l0 x3_1).f1) ((rd_T25 l0 x3_1).f2) ((rd_T25 l0 x3_1).f3) ((rd_T25 l0 x3_1).f4)) = some r := H
                              have A22 := Aside0.mk A220
                              clear A220
                              have H' := Aside0.mk H
                              clear H
                              go_wp2_with (first | ((with_reducible refine gate_callee (f := 16) rfl ?_); refine goesL_ (some 54) rfl rfl Try.func16 (by kernel_rfl) rfl #[.int .i64 9, .int .i64 (wrap64 (2 + (wrap64 (Int.tmod (IntKind.u64.wrap ((rd_T25 l0 x3_1).f1)) 8)))), .int .u64 t136, .int .u64 (Int.tmod ((rd_T25 l0 x3_1).f4) 70)] rfl (by (try simp only [List.map_toArray, List.map_cons, List.map_nil]); first | done | rfl | (simp only [List.length_drop, List.length_take]; rfl)) ?_; (with_reducible refine (gantrylaw1_bin.calls k3 9 (wrap64 (2 + (wrap64 (Int.tmod (IntKind.u64.wrap ((rd_T25 l0 x3_1).f1)) 8)))) t136 (Int.tmod ((rd_T25 l0 x3_1).f4) 70) t139 _ A16.out).mono ?_); rintro e w23 ⟨rfl, hb⟩; refine ⟨_, rfl, ?_⟩; have n0_ := Aside0.mk (blk_below (g := gb135) (o := .cells #[.int .i64 ((rd_T25 l0 x3_1).f0), .int .i64 ((rd_T25 l0 x3_1).f1), .int .i64 ((rd_T25 l0 x3_1).f2), .int .u64 ((rd_T25 l0 x3_1).f3), .int .u64 ((rd_T25 l0 x3_1).f4)] 25 (0, 0)) (by (with_reducible repeat (first | refine blk_drewN ?_ _ | refine blk_drew ?_ | refine blk_alloc ?_ _)); exact BK135.out) hb); have n1_ := Aside0.mk (below_step (by repeat (first | (with_reducible first | exact HB.out | apply below_alloc | apply pw_below_drewN | apply below_drew1 | refine below_set ?_ GE135.out) | exact HB.out)) hb); clear BK135; clear HB; have BK135 := n0_; have HB := n1_; clear n0_ n1_; (try clear hb); (try clear hb2); (try clear hk); (try clear hi)) | (go_at_call 16; (with_reducible refine (gantrylaw1_bin.calls k3 10 (wrap64 (2 + (wrap64 (Int.tmod (IntKind.u64.wrap ((rd_T25 l0 x3_1).f1)) 8)))) t136 (Int.tmod ((rd_T25 l0 x3_1).f4) 70) t140 _ A18.out).mono ?_); rintro e w24 ⟨rfl, hb⟩; have n0_ := Aside0.mk (blk_below (g := gb135) (o := .cells #[.int .i64 ((rd_T25 l0 x3_1).f0), .int .i64 ((rd_T25 l0 x3_1).f1), .int .i64 ((rd_T25 l0 x3_1).f2), .int .u64 ((rd_T25 l0 x3_1).f3), .int .u64 ((rd_T25 l0 x3_1).f4)] 25 (0, 0)) (by (with_reducible repeat (first | refine blk_drewN ?_ _ | refine blk_drew ?_ | refine blk_alloc ?_ _)); exact BK135.out) hb); have n1_ := Aside0.mk (below_step (by repeat (first | (with_reducible first | exact HB.out | apply below_alloc | apply pw_below_drewN | apply below_drew1 | refine below_set ?_ GE135.out) | exact HB.out)) hb); clear BK135; clear HB; have BK135 := n0_; have HB := n1_; clear n0_ n1_; (try clear hb); (try clear hb2); (try clear hk); (try clear hi)) | (go_at_call 17; (with_reducible refine (word_Is.calls k3 (wrap64 (2 + (wrap64 (Int.tmod (IntKind.u64.wrap ((rd_T25 l0 x3_1).f1)) 8)))) x8_3 true _ A20.out).mono ?_); rintro e w' ⟨rfl, ⟨nd, rfl⟩⟩) | (go_at_call 17; (with_reducible refine (word_Is.calls k3 (wrap64 (2 + (wrap64 (Int.tmod (IntKind.u64.wrap ((rd_T25 l0 x3_1).f1)) 8)))) x9_3 t142 _ A22.out).mono ?_); rintro e w' ⟨rfl, ⟨nd, rfl⟩⟩))
                              go_meet
                              case rel => exact ⟨_, (!t142), (by first | rfl | (simp; done) | (simp [*]; done)), H', ⟨by have := HK1.out; have := HJ1.out; have := HK3.out; first | omega | exact Nat.le_refl _⟩, ⟨by (with_reducible repeat (first | refine blk_drewN ?_ _ | refine blk_drew ?_ | refine blk_alloc ?_ _)); exact BK135.out⟩, ⟨by repeat (first | (with_reducible first | exact HB.out | apply below_alloc | apply pw_below_drewN | apply below_drew1 | refine below_set ?_ GE135.out) | exact HB.out)⟩⟩
                            · replace c21 := Bool.eq_false_iff.mpr c21
                              subst c21
                              have H1 : (gantrylaw1_WordShifts.j3 k3 l0 x3_1 (wrap64 (2 + (wrap64 (Int.tmod (IntKind.u64.wrap ((rd_T25 l0 x3_1).f1)) 8)))) t136 true ((rd_T25 l0 x3_1).f0) ((rd_T25 l0 x3_1).f1) ((rd_T25 l0 x3_1).f2) ((rd_T25 l0 x3_1).f3) ((rd_T25 l0 x3_1).f4)) = some r := by rw [if_neg (show ¬ (false = true) by decide)] at H; exact H
                              clear H
                              have H := H1
                              clear H1
                              have H' := Aside0.mk H
                              clear H
                              go_wp2_with (first | ((with_reducible refine gate_callee (f := 16) rfl ?_); refine goesL_ (some 54) rfl rfl Try.func16 (by kernel_rfl) rfl #[.int .i64 9, .int .i64 (wrap64 (2 + (wrap64 (Int.tmod (IntKind.u64.wrap ((rd_T25 l0 x3_1).f1)) 8)))), .int .u64 t136, .int .u64 (Int.tmod ((rd_T25 l0 x3_1).f4) 70)] rfl (by (try simp only [List.map_toArray, List.map_cons, List.map_nil]); first | done | rfl | (simp only [List.length_drop, List.length_take]; rfl)) ?_; (with_reducible refine (gantrylaw1_bin.calls k3 9 (wrap64 (2 + (wrap64 (Int.tmod (IntKind.u64.wrap ((rd_T25 l0 x3_1).f1)) 8)))) t136 (Int.tmod ((rd_T25 l0 x3_1).f4) 70) t139 _ A16.out).mono ?_); rintro e w25 ⟨rfl, hb⟩; refine ⟨_, rfl, ?_⟩; have n0_ := Aside0.mk (blk_below (g := gb135) (o := .cells #[.int .i64 ((rd_T25 l0 x3_1).f0), .int .i64 ((rd_T25 l0 x3_1).f1), .int .i64 ((rd_T25 l0 x3_1).f2), .int .u64 ((rd_T25 l0 x3_1).f3), .int .u64 ((rd_T25 l0 x3_1).f4)] 25 (0, 0)) (by (with_reducible repeat (first | refine blk_drewN ?_ _ | refine blk_drew ?_ | refine blk_alloc ?_ _)); exact BK135.out) hb); have n1_ := Aside0.mk (below_step (by repeat (first | (with_reducible first | exact HB.out | apply below_alloc | apply pw_below_drewN | apply below_drew1 | refine below_set ?_ GE135.out) | exact HB.out)) hb); clear BK135; clear HB; have BK135 := n0_; have HB := n1_; clear n0_ n1_; (try clear hb); (try clear hb2); (try clear hk); (try clear hi)) | (go_at_call 16; (with_reducible refine (gantrylaw1_bin.calls k3 10 (wrap64 (2 + (wrap64 (Int.tmod (IntKind.u64.wrap ((rd_T25 l0 x3_1).f1)) 8)))) t136 (Int.tmod ((rd_T25 l0 x3_1).f4) 70) t140 _ A18.out).mono ?_); rintro e w26 ⟨rfl, hb⟩; have n0_ := Aside0.mk (blk_below (g := gb135) (o := .cells #[.int .i64 ((rd_T25 l0 x3_1).f0), .int .i64 ((rd_T25 l0 x3_1).f1), .int .i64 ((rd_T25 l0 x3_1).f2), .int .u64 ((rd_T25 l0 x3_1).f3), .int .u64 ((rd_T25 l0 x3_1).f4)] 25 (0, 0)) (by (with_reducible repeat (first | refine blk_drewN ?_ _ | refine blk_drew ?_ | refine blk_alloc ?_ _)); exact BK135.out) hb); have n1_ := Aside0.mk (below_step (by repeat (first | (with_reducible first | exact HB.out | apply below_alloc | apply pw_below_drewN | apply below_drew1 | refine below_set ?_ GE135.out) | exact HB.out)) hb); clear BK135; clear HB; have BK135 := n0_; have HB := n1_; clear n0_ n1_; (try clear hb); (try clear hb2); (try clear hk); (try clear hi)) | (go_at_call 17; (with_reducible refine (word_Is.calls k3 (wrap64 (2 + (wrap64 (Int.tmod (IntKind.u64.wrap ((rd_T25 l0 x3_1).f1)) 8)))) x8_3 false _ A20.out).mono ?_); rintro e w' ⟨rfl, ⟨nd, rfl⟩⟩))
                              go_meet
                              case rel => exact ⟨_, (true), (by first | rfl | (simp; done) | (simp [*]; done)), H', ⟨by have := HK1.out; have := HJ1.out; have := HK3.out; first | omega | exact Nat.le_refl _⟩, ⟨by (with_reducible repeat (first | refine blk_drewN ?_ _ | refine blk_drew ?_ | refine blk_alloc ?_ _)); exact BK135.out⟩, ⟨by repeat (first | (with_reducible first | exact HB.out | apply below_alloc | apply pw_below_drewN | apply below_drew1 | refine below_set ?_ GE135.out) | exact HB.out)⟩⟩
                          · rw [if_neg c19] at H
                            have c19b0 : (t140 == x9_3) = false := beq_eq_false_iff_ne.mpr c19
                            have c19b1 : (t140 != x9_3) = true := bne_iff_ne.mpr c19
                            have H' := Aside0.mk H
                            clear H
                            go_wp2_with (first | ((with_reducible refine gate_callee (f := 16) rfl ?_); refine goesL_ (some 54) rfl rfl Try.func16 (by kernel_rfl) rfl #[.int .i64 9, .int .i64 (wrap64 (2 + (wrap64 (Int.tmod (IntKind.u64.wrap ((rd_T25 l0 x3_1).f1)) 8)))), .int .u64 t136, .int .u64 (Int.tmod ((rd_T25 l0 x3_1).f4) 70)] rfl (by (try simp only [List.map_toArray, List.map_cons, List.map_nil]); first | done | rfl | (simp only [List.length_drop, List.length_take]; rfl)) ?_; (with_reducible refine (gantrylaw1_bin.calls k3 9 (wrap64 (2 + (wrap64 (Int.tmod (IntKind.u64.wrap ((rd_T25 l0 x3_1).f1)) 8)))) t136 (Int.tmod ((rd_T25 l0 x3_1).f4) 70) t139 _ A16.out).mono ?_); rintro e w27 ⟨rfl, hb⟩; refine ⟨_, rfl, ?_⟩; have n0_ := Aside0.mk (blk_below (g := gb135) (o := .cells #[.int .i64 ((rd_T25 l0 x3_1).f0), .int .i64 ((rd_T25 l0 x3_1).f1), .int .i64 ((rd_T25 l0 x3_1).f2), .int .u64 ((rd_T25 l0 x3_1).f3), .int .u64 ((rd_T25 l0 x3_1).f4)] 25 (0, 0)) (by (with_reducible repeat (first | refine blk_drewN ?_ _ | refine blk_drew ?_ | refine blk_alloc ?_ _)); exact BK135.out) hb); have n1_ := Aside0.mk (below_step (by repeat (first | (with_reducible first | exact HB.out | apply below_alloc | apply pw_below_drewN | apply below_drew1 | refine below_set ?_ GE135.out) | exact HB.out)) hb); clear BK135; clear HB; have BK135 := n0_; have HB := n1_; clear n0_ n1_; (try clear hb); (try clear hb2); (try clear hk); (try clear hi)) | (go_at_call 16; (with_reducible refine (gantrylaw1_bin.calls k3 10 (wrap64 (2 + (wrap64 (Int.tmod (IntKind.u64.wrap ((rd_T25 l0 x3_1).f1)) 8)))) t136 (Int.tmod ((rd_T25 l0 x3_1).f4) 70) t140 _ A18.out).mono ?_); rintro e w28 ⟨rfl, hb⟩; have n0_ := Aside0.mk (blk_below (g := gb135) (o := .cells #[.int .i64 ((rd_T25 l0 x3_1).f0), .int .i64 ((rd_T25 l0 x3_1).f1), .int .i64 ((rd_T25 l0 x3_1).f2), .int .u64 ((rd_T25 l0 x3_1).f3), .int .u64 ((rd_T25 l0 x3_1).f4)] 25 (0, 0)) (by (with_reducible repeat (first | refine blk_drewN ?_ _ | refine blk_drew ?_ | refine blk_alloc ?_ _)); exact BK135.out) hb); have n1_ := Aside0.mk (below_step (by repeat (first | (with_reducible first | exact HB.out | apply below_alloc | apply pw_below_drewN | apply below_drew1 | refine below_set ?_ GE135.out) | exact HB.out)) hb); clear BK135; clear HB; have BK135 := n0_; have HB := n1_; clear n0_ n1_; (try clear hb); (try clear hb2); (try clear hk); (try clear hi)))
                            go_meet
                            case rel => exact ⟨_, (true), (by first | rfl | (simp; done) | (simp [*]; done)), H', ⟨by have := HK1.out; have := HJ1.out; have := HK3.out; first | omega | exact Nat.le_refl _⟩, ⟨by (with_reducible repeat (first | refine blk_drewN ?_ _ | refine blk_drew ?_ | refine blk_alloc ?_ _)); exact BK135.out⟩, ⟨by repeat (first | (with_reducible first | exact HB.out | apply below_alloc | apply pw_below_drewN | apply below_drew1 | refine below_set ?_ GE135.out) | exact HB.out)⟩⟩
                        · rw [if_neg c17] at H
                          have c17b0 : (t139 == x8_3) = false := beq_eq_false_iff_ne.mpr c17
                          have c17b1 : (t139 != x8_3) = true := bne_iff_ne.mpr c17
                          (first | rw [c17b0] | (simp only [i64_w, i32_w]; rw [c17b0]) | skip)
                          have H' := Aside0.mk H
                          clear H
                          go_wp2_with (first | ((with_reducible refine gate_callee (f := 16) rfl ?_); refine goesL_ (some 54) rfl rfl Try.func16 (by kernel_rfl) rfl #[.int .i64 9, .int .i64 (wrap64 (2 + (wrap64 (Int.tmod (IntKind.u64.wrap ((rd_T25 l0 x3_1).f1)) 8)))), .int .u64 t136, .int .u64 (Int.tmod ((rd_T25 l0 x3_1).f4) 70)] rfl (by (try simp only [List.map_toArray, List.map_cons, List.map_nil]); first | done | rfl | (simp only [List.length_drop, List.length_take]; rfl)) ?_; (with_reducible refine (gantrylaw1_bin.calls k3 9 (wrap64 (2 + (wrap64 (Int.tmod (IntKind.u64.wrap ((rd_T25 l0 x3_1).f1)) 8)))) t136 (Int.tmod ((rd_T25 l0 x3_1).f4) 70) t139 _ A16.out).mono ?_); rintro e w29 ⟨rfl, hb⟩; refine ⟨_, rfl, ?_⟩; have n0_ := Aside0.mk (blk_below (g := gb135) (o := .cells #[.int .i64 ((rd_T25 l0 x3_1).f0), .int .i64 ((rd_T25 l0 x3_1).f1), .int .i64 ((rd_T25 l0 x3_1).f2), .int .u64 ((rd_T25 l0 x3_1).f3), .int .u64 ((rd_T25 l0 x3_1).f4)] 25 (0, 0)) (by (with_reducible repeat (first | refine blk_drewN ?_ _ | refine blk_drew ?_ | refine blk_alloc ?_ _)); exact BK135.out) hb); have n1_ := Aside0.mk (below_step (by repeat (first | (with_reducible first | exact HB.out | apply below_alloc | apply pw_below_drewN | apply below_drew1 | refine below_set ?_ GE135.out) | exact HB.out)) hb); clear BK135; clear HB; have BK135 := n0_; have HB := n1_; clear n0_ n1_; (try clear hb); (try clear hb2); (try clear hk); (try clear hi)))
                          go_meet
                          case rel => exact ⟨_, (true), (by first | rfl | (simp; done) | (simp [*]; done)), H', ⟨by have := HK1.out; have := HJ1.out; have := HK3.out; first | omega | exact Nat.le_refl _⟩, ⟨by (with_reducible repeat (first | refine blk_drewN ?_ _ | refine blk_drew ?_ | refine blk_alloc ?_ _)); exact BK135.out⟩, ⟨by repeat (first | (with_reducible first | exact HB.out | apply below_alloc | apply pw_below_drewN | apply below_drew1 | refine below_set ?_ GE135.out) | exact HB.out)⟩⟩
                      case rest =>
                        clear HC15
                        try clear c1
                        try clear p1
                        try clear q1
                        try clear hx1
                        try clear c2
                        try clear p2
                        try clear c3
                        try clear c3b0
                        try clear c4
                        try clear c5
                        try clear c5b0
                        try clear c6
                        try clear c6b0
                        try clear p6
                        try clear c10
                        try clear c10b0
                        try clear p13
                        try clear q13
                        try clear hx13
                        try clear c15
                        try clear c16
                        try clear c17
                        try clear c17b0
                        try clear c17b1
                        try clear c19
                        try clear c19b0
                        try clear c19b1
                        try clear c21
                        try clear hcz9_0
                        try clear hcz9_1
                        try clear hcz9_2
                        try clear hcz9_3
                        try clear hcz9_4
                        try clear hfz9_0
                        try clear hfz9_1
                        try clear hfz9_2
                        try clear hfz9_3
                        try clear hfz9_4
                        try clear hx134_0
                        try clear hx134_1
                        try clear hx134_2
                        try clear hx134_3
                        try clear hx134_4
                        try clear p1
                        try clear p134
                        try clear p2
                        try clear p6
                        try clear q1
                        try clear q134
                        obtain ⟨kq, x76_14, rfl, HA, HJ14, BK135, HB⟩ := hcut
                        cases kq with
                        | zero => exact absurd HA.out (by simp [gantrylaw1_WordShifts.j3])
                        | succ kj14 =>
                          have H := HA.out
                          clear HA
                          simp only [gantrylaw1_WordShifts.j3] at H
                          by_cases c30 : x76_14 = true
                          · subst c30
                            have H1 : (some false) = some r := by rw [if_pos rfl] at H; exact H
                            clear H
                            have H := H1
                            clear H1
                            obtain rfl := Option.some.inj H
                            go_wp2
                            go_ret
                            exact ⟨by first | rfl | (simp [errW_none, errW_some] <;> rfl) | (simp [*, errW_none, errW_some] <;> rfl), by repeat (first | (with_reducible first | exact HB.out | apply below_alloc | apply pw_below_drewN | apply below_drew1 | refine below_set ?_ GE135.out) | exact HB.out)⟩
                          · replace c30 := Bool.eq_false_iff.mpr c30
                            subst c30
                            have H1 : (if ((rd_T25 l0 x3_1).f4) ≥ 64 then ((gantrylaw1_bin.f kj14 9 (wrap64 (2 + (wrap64 (Int.tmod (IntKind.u64.wrap ((rd_T25 l0 x3_1).f1)) 8)))) t136 ((rd_T25 l0 x3_1).f4)).bind fun t143 => (if t143 = 0 then ((gantrylaw1_bin.f kj14 10 (wrap64 (2 + (wrap64 (Int.tmod (IntKind.u64.wrap ((rd_T25 l0 x3_1).f1)) 8)))) t136 ((rd_T25 l0 x3_1).f4)).bind fun t144 => ((gantrylaw1_bin.f kj14 10 (wrap64 (2 + (wrap64 (Int.tmod (IntKind.u64.wrap ((rd_T25 l0 x3_1).f1)) 8)))) t136 64).bind fun t145 => (if t144 = t145 then (gantrylaw1_WordShifts.l0 kj14 l0 (wrap64 (x3_1 + 1))) else (some false)))) else (some false))) else (gantrylaw1_WordShifts.l0 kj14 l0 (wrap64 (x3_1 + 1)))) = some r := by rw [if_neg (show ¬ (false = true) by decide)] at H; exact H
                            clear H
                            have H := H1
                            clear H1
                            by_cases c31 : ((rd_T25 l0 x3_1).f4) ≥ 64
                            · rw [if_pos c31] at H
                              have c31b0 : decide (64 ≤ ((rd_T25 l0 x3_1).f4)) = true := decide_eq_true c31
                              clear c31
                              replace H := Option.bind_eq_some_iff.mp H
                              obtain ⟨t143, A320, H⟩ := H
                              replace H : (if t143 = 0 then ((gantrylaw1_bin.f kj14 10 (wrap64 (2 + (wrap64 (Int.tmod (IntKind.u64.wrap ((rd_T25 l0 x3_1).f1)) 8)))) t136 ((rd_T25 l0 x3_1).f4)).bind fun t144 => ((gantrylaw1_bin.f kj14 10 (wrap64 (2 + (wrap64 (Int.tmod (IntKind.u64.wrap ((rd_T25 l0 x3_1).f1)) 8)))) t136 64).bind fun t145 => (if t144 = t145 then (gantrylaw1_WordShifts.l0 kj14 l0 (wrap64 (x3_1 + 1))) else (some false)))) else (some false)) = some r := H
                              have A32 := Aside0.mk A320
                              clear A320
                              by_cases c33 : t143 = 0
                              · rw [if_pos c33] at H
                                have c33b0 : (t143 == 0) = true := beq_iff_eq.mpr c33
                                have c33b1 : (t143 != 0) = false := bne_eq_false_iff_eq.mpr c33
                                clear c33
                                replace H := Option.bind_eq_some_iff.mp H
                                obtain ⟨t144, A340, H⟩ := H
                                replace H : ((gantrylaw1_bin.f kj14 10 (wrap64 (2 + (wrap64 (Int.tmod (IntKind.u64.wrap ((rd_T25 l0 x3_1).f1)) 8)))) t136 64).bind fun t145 => (if t144 = t145 then (gantrylaw1_WordShifts.l0 kj14 l0 (wrap64 (x3_1 + 1))) else (some false))) = some r := H
                                have A34 := Aside0.mk A340
                                clear A340
                                replace H := Option.bind_eq_some_iff.mp H
                                obtain ⟨t145, A350, H⟩ := H
                                replace H : (if t144 = t145 then (gantrylaw1_WordShifts.l0 kj14 l0 (wrap64 (x3_1 + 1))) else (some false)) = some r := H
                                have A35 := Aside0.mk A350
                                clear A350
                                by_cases c36 : t144 = t145
                                · rw [if_pos c36] at H
                                  have c36b0 : (t144 == t145) = true := beq_iff_eq.mpr c36
                                  have c36b1 : (t144 != t145) = false := bne_eq_false_iff_eq.mpr c36
                                  clear c36
                                  have H' := Aside0.mk H
                                  clear H
                                  have hcz37_0 : wc.cell? ⟨gb135, 0, none⟩ = some (.int .i64 ((rd_T25 l0 x3_1).f0)) := (blk_cell BK135.out 0).trans rfl
                                  have hcz37_1 : wc.cell? ⟨gb135, 1, none⟩ = some (.int .i64 ((rd_T25 l0 x3_1).f1)) := (blk_cell BK135.out 1).trans rfl
                                  have hcz37_2 : wc.cell? ⟨gb135, 2, none⟩ = some (.int .i64 ((rd_T25 l0 x3_1).f2)) := (blk_cell BK135.out 2).trans rfl
                                  have hcz37_3 : wc.cell? ⟨gb135, 3, none⟩ = some (.int .u64 ((rd_T25 l0 x3_1).f3)) := (blk_cell BK135.out 3).trans rfl
                                  have hcz37_4 : wc.cell? ⟨gb135, 4, none⟩ = some (.int .u64 ((rd_T25 l0 x3_1).f4)) := (blk_cell BK135.out 4).trans rfl
                                  have hfz37_0 := blk_frozen BK135.out 0
                                  have hfz37_1 := blk_frozen BK135.out 1
                                  have hfz37_2 := blk_frozen BK135.out 2
                                  have hfz37_3 := blk_frozen BK135.out 3
                                  have hfz37_4 := blk_frozen BK135.out 4
                                  go_wp2_with (first | (go_at_call 16; (with_reducible refine (gantrylaw1_bin.calls kj14 9 (wrap64 (2 + (wrap64 (Int.tmod (IntKind.u64.wrap ((rd_T25 l0 x3_1).f1)) 8)))) t136 ((rd_T25 l0 x3_1).f4) t143 _ A32.out).mono ?_); rintro e w38 ⟨rfl, hb⟩; have n0_ := Aside0.mk (blk_below (g := gb135) (o := .cells #[.int .i64 ((rd_T25 l0 x3_1).f0), .int .i64 ((rd_T25 l0 x3_1).f1), .int .i64 ((rd_T25 l0 x3_1).f2), .int .u64 ((rd_T25 l0 x3_1).f3), .int .u64 ((rd_T25 l0 x3_1).f4)] 25 (0, 0)) (by (with_reducible repeat (first | refine blk_drewN ?_ _ | refine blk_drew ?_ | refine blk_alloc ?_ _)); exact BK135.out) hb); have n1_ := Aside0.mk (below_step (by repeat (first | (with_reducible first | exact HB.out | apply below_alloc | apply pw_below_drewN | apply below_drew1 | refine below_set ?_ GE135.out) | exact HB.out)) hb); clear BK135; clear HB; have BK135 := n0_; have HB := n1_; clear n0_ n1_; (try clear hb); (try clear hb2); (try clear hk); (try clear hi); have hcz39_0 : w38.cell? ⟨gb135, 0, none⟩ = some (.int .i64 ((rd_T25 l0 x3_1).f0)) := (blk_cell BK135.out 0).trans rfl; have hcz39_1 : w38.cell? ⟨gb135, 1, none⟩ = some (.int .i64 ((rd_T25 l0 x3_1).f1)) := (blk_cell BK135.out 1).trans rfl; have hcz39_2 : w38.cell? ⟨gb135, 2, none⟩ = some (.int .i64 ((rd_T25 l0 x3_1).f2)) := (blk_cell BK135.out 2).trans rfl; have hcz39_3 : w38.cell? ⟨gb135, 3, none⟩ = some (.int .u64 ((rd_T25 l0 x3_1).f3)) := (blk_cell BK135.out 3).trans rfl; have hcz39_4 : w38.cell? ⟨gb135, 4, none⟩ = some (.int .u64 ((rd_T25 l0 x3_1).f4)) := (blk_cell BK135.out 4).trans rfl; have hfz39_0 := blk_frozen BK135.out 0; have hfz39_1 := blk_frozen BK135.out 1; have hfz39_2 := blk_frozen BK135.out 2; have hfz39_3 := blk_frozen BK135.out 3; have hfz39_4 := blk_frozen BK135.out 4) | (go_at_call 16; (with_reducible refine (gantrylaw1_bin.calls kj14 10 (wrap64 (2 + (wrap64 (Int.tmod (IntKind.u64.wrap ((rd_T25 l0 x3_1).f1)) 8)))) t136 ((rd_T25 l0 x3_1).f4) t144 _ A34.out).mono ?_); rintro e w40 ⟨rfl, hb⟩; have n0_ := Aside0.mk (blk_below (g := gb135) (o := .cells #[.int .i64 ((rd_T25 l0 x3_1).f0), .int .i64 ((rd_T25 l0 x3_1).f1), .int .i64 ((rd_T25 l0 x3_1).f2), .int .u64 ((rd_T25 l0 x3_1).f3), .int .u64 ((rd_T25 l0 x3_1).f4)] 25 (0, 0)) (by (with_reducible repeat (first | refine blk_drewN ?_ _ | refine blk_drew ?_ | refine blk_alloc ?_ _)); exact BK135.out) hb); have n1_ := Aside0.mk (below_step (by repeat (first | (with_reducible first | exact HB.out | apply below_alloc | apply pw_below_drewN | apply below_drew1 | refine below_set ?_ GE135.out) | exact HB.out)) hb); clear BK135; clear HB; have BK135 := n0_; have HB := n1_; clear n0_ n1_; (try clear hb); (try clear hb2); (try clear hk); (try clear hi)) | (go_at_call 16; (with_reducible refine (gantrylaw1_bin.calls kj14 10 (wrap64 (2 + (wrap64 (Int.tmod (IntKind.u64.wrap ((rd_T25 l0 x3_1).f1)) 8)))) t136 64 t145 _ A35.out).mono ?_); rintro e w41 ⟨rfl, hb⟩; have n0_ := Aside0.mk (blk_below (g := gb135) (o := .cells #[.int .i64 ((rd_T25 l0 x3_1).f0), .int .i64 ((rd_T25 l0 x3_1).f1), .int .i64 ((rd_T25 l0 x3_1).f2), .int .u64 ((rd_T25 l0 x3_1).f3), .int .u64 ((rd_T25 l0 x3_1).f4)] 25 (0, 0)) (by (with_reducible repeat (first | refine blk_drewN ?_ _ | refine blk_drew ?_ | refine blk_alloc ?_ _)); exact BK135.out) hb); have n1_ := Aside0.mk (below_step (by repeat (first | (with_reducible first | exact HB.out | apply below_alloc | apply pw_below_drewN | apply below_drew1 | refine below_set ?_ GE135.out) | exact HB.out)) hb); clear BK135; clear HB; have BK135 := n0_; have HB := n1_; clear n0_ n1_; (try clear hb); (try clear hb2); (try clear hk); (try clear hi)))
                                  go_roundg kj14
                                  case measure => have := HK1.out; have := HJ1.out; have := HK3.out; have := HJ14.out; omega
                                  case rel => exact ⟨(wrap64 (x3_1 + 1)), (by first | rfl | (simp; done) | (simp [*]; done)), H', ⟨by have := HK1.out; have := HJ1.out; have := HK3.out; have := HJ14.out; omega⟩, ⟨by repeat (first | (with_reducible first | exact HB.out | apply below_alloc | apply pw_below_drewN | apply below_drew1 | refine below_set ?_ GE135.out) | exact HB.out)⟩⟩
                                · rw [if_neg c36] at H
                                  have c36b0 : (t144 == t145) = false := beq_eq_false_iff_ne.mpr c36
                                  have c36b1 : (t144 != t145) = true := bne_iff_ne.mpr c36
                                  obtain rfl := Option.some.inj H
                                  have hcz42_0 : wc.cell? ⟨gb135, 0, none⟩ = some (.int .i64 ((rd_T25 l0 x3_1).f0)) := (blk_cell BK135.out 0).trans rfl
                                  have hcz42_1 : wc.cell? ⟨gb135, 1, none⟩ = some (.int .i64 ((rd_T25 l0 x3_1).f1)) := (blk_cell BK135.out 1).trans rfl
                                  have hcz42_2 : wc.cell? ⟨gb135, 2, none⟩ = some (.int .i64 ((rd_T25 l0 x3_1).f2)) := (blk_cell BK135.out 2).trans rfl
                                  have hcz42_3 : wc.cell? ⟨gb135, 3, none⟩ = some (.int .u64 ((rd_T25 l0 x3_1).f3)) := (blk_cell BK135.out 3).trans rfl
                                  have hcz42_4 : wc.cell? ⟨gb135, 4, none⟩ = some (.int .u64 ((rd_T25 l0 x3_1).f4)) := (blk_cell BK135.out 4).trans rfl
                                  have hfz42_0 := blk_frozen BK135.out 0
                                  have hfz42_1 := blk_frozen BK135.out 1
                                  have hfz42_2 := blk_frozen BK135.out 2
                                  have hfz42_3 := blk_frozen BK135.out 3
                                  have hfz42_4 := blk_frozen BK135.out 4
                                  go_wp2_with (first | (go_at_call 16; (with_reducible refine (gantrylaw1_bin.calls kj14 9 (wrap64 (2 + (wrap64 (Int.tmod (IntKind.u64.wrap ((rd_T25 l0 x3_1).f1)) 8)))) t136 ((rd_T25 l0 x3_1).f4) t143 _ A32.out).mono ?_); rintro e w43 ⟨rfl, hb⟩; have n0_ := Aside0.mk (blk_below (g := gb135) (o := .cells #[.int .i64 ((rd_T25 l0 x3_1).f0), .int .i64 ((rd_T25 l0 x3_1).f1), .int .i64 ((rd_T25 l0 x3_1).f2), .int .u64 ((rd_T25 l0 x3_1).f3), .int .u64 ((rd_T25 l0 x3_1).f4)] 25 (0, 0)) (by (with_reducible repeat (first | refine blk_drewN ?_ _ | refine blk_drew ?_ | refine blk_alloc ?_ _)); exact BK135.out) hb); have n1_ := Aside0.mk (below_step (by repeat (first | (with_reducible first | exact HB.out | apply below_alloc | apply pw_below_drewN | apply below_drew1 | refine below_set ?_ GE135.out) | exact HB.out)) hb); clear BK135; clear HB; have BK135 := n0_; have HB := n1_; clear n0_ n1_; (try clear hb); (try clear hb2); (try clear hk); (try clear hi); have hcz44_0 : w43.cell? ⟨gb135, 0, none⟩ = some (.int .i64 ((rd_T25 l0 x3_1).f0)) := (blk_cell BK135.out 0).trans rfl; have hcz44_1 : w43.cell? ⟨gb135, 1, none⟩ = some (.int .i64 ((rd_T25 l0 x3_1).f1)) := (blk_cell BK135.out 1).trans rfl; have hcz44_2 : w43.cell? ⟨gb135, 2, none⟩ = some (.int .i64 ((rd_T25 l0 x3_1).f2)) := (blk_cell BK135.out 2).trans rfl; have hcz44_3 : w43.cell? ⟨gb135, 3, none⟩ = some (.int .u64 ((rd_T25 l0 x3_1).f3)) := (blk_cell BK135.out 3).trans rfl; have hcz44_4 : w43.cell? ⟨gb135, 4, none⟩ = some (.int .u64 ((rd_T25 l0 x3_1).f4)) := (blk_cell BK135.out 4).trans rfl; have hfz44_0 := blk_frozen BK135.out 0; have hfz44_1 := blk_frozen BK135.out 1; have hfz44_2 := blk_frozen BK135.out 2; have hfz44_3 := blk_frozen BK135.out 3; have hfz44_4 := blk_frozen BK135.out 4) | (go_at_call 16; (with_reducible refine (gantrylaw1_bin.calls kj14 10 (wrap64 (2 + (wrap64 (Int.tmod (IntKind.u64.wrap ((rd_T25 l0 x3_1).f1)) 8)))) t136 ((rd_T25 l0 x3_1).f4) t144 _ A34.out).mono ?_); rintro e w45 ⟨rfl, hb⟩; have n0_ := Aside0.mk (blk_below (g := gb135) (o := .cells #[.int .i64 ((rd_T25 l0 x3_1).f0), .int .i64 ((rd_T25 l0 x3_1).f1), .int .i64 ((rd_T25 l0 x3_1).f2), .int .u64 ((rd_T25 l0 x3_1).f3), .int .u64 ((rd_T25 l0 x3_1).f4)] 25 (0, 0)) (by (with_reducible repeat (first | refine blk_drewN ?_ _ | refine blk_drew ?_ | refine blk_alloc ?_ _)); exact BK135.out) hb); have n1_ := Aside0.mk (below_step (by repeat (first | (with_reducible first | exact HB.out | apply below_alloc | apply pw_below_drewN | apply below_drew1 | refine below_set ?_ GE135.out) | exact HB.out)) hb); clear BK135; clear HB; have BK135 := n0_; have HB := n1_; clear n0_ n1_; (try clear hb); (try clear hb2); (try clear hk); (try clear hi)) | (go_at_call 16; (with_reducible refine (gantrylaw1_bin.calls kj14 10 (wrap64 (2 + (wrap64 (Int.tmod (IntKind.u64.wrap ((rd_T25 l0 x3_1).f1)) 8)))) t136 64 t145 _ A35.out).mono ?_); rintro e w46 ⟨rfl, hb⟩; have n0_ := Aside0.mk (blk_below (g := gb135) (o := .cells #[.int .i64 ((rd_T25 l0 x3_1).f0), .int .i64 ((rd_T25 l0 x3_1).f1), .int .i64 ((rd_T25 l0 x3_1).f2), .int .u64 ((rd_T25 l0 x3_1).f3), .int .u64 ((rd_T25 l0 x3_1).f4)] 25 (0, 0)) (by (with_reducible repeat (first | refine blk_drewN ?_ _ | refine blk_drew ?_ | refine blk_alloc ?_ _)); exact BK135.out) hb); have n1_ := Aside0.mk (below_step (by repeat (first | (with_reducible first | exact HB.out | apply below_alloc | apply pw_below_drewN | apply below_drew1 | refine below_set ?_ GE135.out) | exact HB.out)) hb); clear BK135; clear HB; have BK135 := n0_; have HB := n1_; clear n0_ n1_; (try clear hb); (try clear hb2); (try clear hk); (try clear hi)))
                                  go_ret
                                  exact ⟨by first | rfl | (simp [errW_none, errW_some] <;> rfl) | (simp [*, errW_none, errW_some] <;> rfl), by repeat (first | (with_reducible first | exact HB.out | apply below_alloc | apply pw_below_drewN | apply below_drew1 | refine below_set ?_ GE135.out) | exact HB.out)⟩
                              · rw [if_neg c33] at H
                                have c33b0 : (t143 == 0) = false := beq_eq_false_iff_ne.mpr c33
                                have c33b1 : (t143 != 0) = true := bne_iff_ne.mpr c33
                                obtain rfl := Option.some.inj H
                                have hcz47_0 : wc.cell? ⟨gb135, 0, none⟩ = some (.int .i64 ((rd_T25 l0 x3_1).f0)) := (blk_cell BK135.out 0).trans rfl
                                have hcz47_1 : wc.cell? ⟨gb135, 1, none⟩ = some (.int .i64 ((rd_T25 l0 x3_1).f1)) := (blk_cell BK135.out 1).trans rfl
                                have hcz47_2 : wc.cell? ⟨gb135, 2, none⟩ = some (.int .i64 ((rd_T25 l0 x3_1).f2)) := (blk_cell BK135.out 2).trans rfl
                                have hcz47_3 : wc.cell? ⟨gb135, 3, none⟩ = some (.int .u64 ((rd_T25 l0 x3_1).f3)) := (blk_cell BK135.out 3).trans rfl
                                have hcz47_4 : wc.cell? ⟨gb135, 4, none⟩ = some (.int .u64 ((rd_T25 l0 x3_1).f4)) := (blk_cell BK135.out 4).trans rfl
                                have hfz47_0 := blk_frozen BK135.out 0
                                have hfz47_1 := blk_frozen BK135.out 1
                                have hfz47_2 := blk_frozen BK135.out 2
                                have hfz47_3 := blk_frozen BK135.out 3
                                have hfz47_4 := blk_frozen BK135.out 4
                                go_wp2_with (first | (go_at_call 16; (with_reducible refine (gantrylaw1_bin.calls kj14 9 (wrap64 (2 + (wrap64 (Int.tmod (IntKind.u64.wrap ((rd_T25 l0 x3_1).f1)) 8)))) t136 ((rd_T25 l0 x3_1).f4) t143 _ A32.out).mono ?_); rintro e w48 ⟨rfl, hb⟩; have n0_ := Aside0.mk (blk_below (g := gb135) (o := .cells #[.int .i64 ((rd_T25 l0 x3_1).f0), .int .i64 ((rd_T25 l0 x3_1).f1), .int .i64 ((rd_T25 l0 x3_1).f2), .int .u64 ((rd_T25 l0 x3_1).f3), .int .u64 ((rd_T25 l0 x3_1).f4)] 25 (0, 0)) (by (with_reducible repeat (first | refine blk_drewN ?_ _ | refine blk_drew ?_ | refine blk_alloc ?_ _)); exact BK135.out) hb); have n1_ := Aside0.mk (below_step (by repeat (first | (with_reducible first | exact HB.out | apply below_alloc | apply pw_below_drewN | apply below_drew1 | refine below_set ?_ GE135.out) | exact HB.out)) hb); clear BK135; clear HB; have BK135 := n0_; have HB := n1_; clear n0_ n1_; (try clear hb); (try clear hb2); (try clear hk); (try clear hi)))
                                go_ret
                                exact ⟨by first | rfl | (simp [errW_none, errW_some] <;> rfl) | (simp [*, errW_none, errW_some] <;> rfl), by repeat (first | (with_reducible first | exact HB.out | apply below_alloc | apply pw_below_drewN | apply below_drew1 | refine below_set ?_ GE135.out) | exact HB.out)⟩
                            · rw [if_neg c31] at H
                              have c31b0 : decide (64 ≤ ((rd_T25 l0 x3_1).f4)) = false := decide_eq_false c31
                              clear c31
                              have H' := Aside0.mk H
                              clear H
                              have hcz49_0 : wc.cell? ⟨gb135, 0, none⟩ = some (.int .i64 ((rd_T25 l0 x3_1).f0)) := (blk_cell BK135.out 0).trans rfl
                              have hcz49_1 : wc.cell? ⟨gb135, 1, none⟩ = some (.int .i64 ((rd_T25 l0 x3_1).f1)) := (blk_cell BK135.out 1).trans rfl
                              have hcz49_2 : wc.cell? ⟨gb135, 2, none⟩ = some (.int .i64 ((rd_T25 l0 x3_1).f2)) := (blk_cell BK135.out 2).trans rfl
                              have hcz49_3 : wc.cell? ⟨gb135, 3, none⟩ = some (.int .u64 ((rd_T25 l0 x3_1).f3)) := (blk_cell BK135.out 3).trans rfl
                              have hcz49_4 : wc.cell? ⟨gb135, 4, none⟩ = some (.int .u64 ((rd_T25 l0 x3_1).f4)) := (blk_cell BK135.out 4).trans rfl
                              have hfz49_0 := blk_frozen BK135.out 0
                              have hfz49_1 := blk_frozen BK135.out 1
                              have hfz49_2 := blk_frozen BK135.out 2
                              have hfz49_3 := blk_frozen BK135.out 3
                              have hfz49_4 := blk_frozen BK135.out 4
                              go_wp2
                              go_roundg kj14
                              case measure => have := HK1.out; have := HJ1.out; have := HK3.out; have := HJ14.out; omega
                              case rel => exact ⟨(wrap64 (x3_1 + 1)), (by first | rfl | (simp; done) | (simp [*]; done)), H', ⟨by have := HK1.out; have := HJ1.out; have := HK3.out; have := HJ14.out; omega⟩, ⟨by repeat (first | (with_reducible first | exact HB.out | apply below_alloc | apply pw_below_drewN | apply below_drew1 | refine below_set ?_ GE135.out) | exact HB.out)⟩⟩
              · rw [if_neg c6] at H
                exact absurd H (by simp)
            · rw [if_neg c5] at H
              exact absurd H (by simp)
          · replace c4 := Bool.eq_false_iff.mpr c4
            subst c4
            have H1 : ((gantrylaw1_wakes.f kj1).bind fun t133 => (some t133)) = some r := by rw [if_neg (show ¬ (false = true) by decide)] at H; exact H
            clear H
            have H := H1
            clear H1
            replace H := Option.bind_eq_some_iff.mp H
            obtain ⟨t133, A500, H⟩ := H
            replace H : (some t133) = some r := H
            have A50 := Aside0.mk A500
            clear A500
            obtain rfl := Option.some.inj H
            go_wp2_with (first | ((with_reducible refine gate_callee (f := 18) rfl ?_); refine goesL_ (some 99) rfl rfl Try.func18 (by kernel_rfl) rfl #[] rfl (by (try simp only [List.map_toArray, List.map_cons, List.map_nil]); first | done | rfl | (simp only [List.length_drop, List.length_take]; rfl)) ?_; (with_reducible refine (gantrylaw1_wakes.calls kj1  t133 _ A50.out).mono ?_); rintro e w51 ⟨rfl, hb⟩; refine ⟨_, rfl, ?_⟩; have n0_ := Aside0.mk (below_step (by repeat (first | (with_reducible first | exact HB.out | apply below_alloc | apply pw_below_drewN | apply below_drew1) | exact HB.out)) hb); clear HB; have HB := n0_; clear n0_; (try clear hb); (try clear hb2); (try clear hk); (try clear hi)))
            go_ret
            exact ⟨by first | rfl | (simp [errW_none, errW_some] <;> rfl) | (simp [*, errW_none, errW_some] <;> rfl), by repeat (first | (with_reducible first | exact HB.out | apply below_alloc | apply pw_below_drewN | apply below_drew1) | exact HB.out)⟩

end Go.Proofs.Ytahepinbmcgbnaa.PA
