-- Printed by this session's program (wip/tools: the kit's printer, turned for this claim), out of the translation.
import Derived.Test.YtahepinbmcgbnaaPAx0
import Derived.Test.YtahepinbmcgbnaaPAx2
import Derived.Test.YtahepinbmcgbnaaPAx4
import Derived.Test.YtahepinbmcgbnaaPAx5
import Derived.Test.YtahepinbmcgbnaaPAx6
namespace Go.Proofs.Ytahepinbmcgbnaa.PA
open Go.RowKit Go.Proofs.YtahepinbmcgbnaaW.PrintWords Go.Proofs.YtahepinbmcgbnaaW.PrintLast Go.Proofs.YtahepinbmcgbnaaW.PrintMore
attribute [local go_sem] max2_int min2_int max_two min_two max_three min_three max_four min_four   -- for this text's walks alone
attribute [local go_sem] Fl.frombits Fl.tobits
set_option linter.unusedVariables false
set_option linter.unusedSimpArgs false

/-! ### gantrylaw1_WordLaws: function 4 -/
mutual
def gantrylaw1_WordLaws.l0 : Nat → List (S25) → Int → Option (Bool)
  | 0, _, _ => none
  | k + 1, x0, x3 => if x3 < (x0.length : Int) then (gantrylaw1_WordLaws.j1 k x0 x3 (decide (x3 < 200))) else (gantrylaw1_WordLaws.j1 k x0 x3 false)
def gantrylaw1_WordLaws.j1 : Nat → List (S25) → Int → Bool → Option (Bool)
  | 0, _, _, _ => none
  | k + 1, x0, x3, x21 => if x21 = true then (if 0 ≤ x3 then (if x3 < (x0.length : Int) then ((word_Canon.f k (wrap64 (2 + (wrap64 (Int.tmod (IntKind.u64.wrap ((rd_T25 x0 x3).f1)) 8)))) ((rd_T25 x0 x3).f3)).bind fun t154 => ((word_Canon.f k (wrap64 (2 + (wrap64 (Int.tmod (IntKind.u64.wrap ((rd_T25 x0 x3).f1)) 8)))) ((rd_T25 x0 x3).f4)).bind fun t155 => ((word_Canon.f k (wrap64 (2 + (wrap64 (Int.tmod (IntKind.u64.wrap ((rd_T25 x0 x3).f1)) 8)))) (IntKind.u64.wrap ((IntKind.u64.wrap ((IntKind.u64.wrap ((rd_T25 x0 x3).f0)) * ((rd_T25 x0 x3).f3))) + ((rd_T25 x0 x3).f4)))).bind fun t156 => ((gantrylaw1_bin.f k 1 (wrap64 (2 + (wrap64 (Int.tmod (IntKind.u64.wrap ((rd_T25 x0 x3).f1)) 8)))) t154 t155).bind fun t157 => ((gantrylaw1_bin.f k 1 (wrap64 (2 + (wrap64 (Int.tmod (IntKind.u64.wrap ((rd_T25 x0 x3).f1)) 8)))) t155 t154).bind fun t158 => (if t157 = t158 then ((gantrylaw1_bin.f k 3 (wrap64 (2 + (wrap64 (Int.tmod (IntKind.u64.wrap ((rd_T25 x0 x3).f1)) 8)))) t154 t155).bind fun t159 => ((gantrylaw1_bin.f k 3 (wrap64 (2 + (wrap64 (Int.tmod (IntKind.u64.wrap ((rd_T25 x0 x3).f1)) 8)))) t155 t154).bind fun t160 => (if t159 = t160 then ((gantrylaw1_bin.f k 1 (wrap64 (2 + (wrap64 (Int.tmod (IntKind.u64.wrap ((rd_T25 x0 x3).f1)) 8)))) t155 t156).bind fun t161 => ((gantrylaw1_bin.f k 3 (wrap64 (2 + (wrap64 (Int.tmod (IntKind.u64.wrap ((rd_T25 x0 x3).f1)) 8)))) t154 t161).bind fun t162 => ((gantrylaw1_bin.f k 3 (wrap64 (2 + (wrap64 (Int.tmod (IntKind.u64.wrap ((rd_T25 x0 x3).f1)) 8)))) t154 t156).bind fun t163 => ((gantrylaw1_bin.f k 1 (wrap64 (2 + (wrap64 (Int.tmod (IntKind.u64.wrap ((rd_T25 x0 x3).f1)) 8)))) t159 t163).bind fun t164 => (if t162 = t164 then ((gantrylaw1_bin.f k 1 (wrap64 (2 + (wrap64 (Int.tmod (IntKind.u64.wrap ((rd_T25 x0 x3).f1)) 8)))) t157 t156).bind fun t165 => ((gantrylaw1_bin.f k 1 (wrap64 (2 + (wrap64 (Int.tmod (IntKind.u64.wrap ((rd_T25 x0 x3).f1)) 8)))) t154 t161).bind fun t166 => (gantrylaw1_WordLaws.j2 k x0 x3 (wrap64 (2 + (wrap64 (Int.tmod (IntKind.u64.wrap ((rd_T25 x0 x3).f1)) 8)))) t154 t155 (t165 != t166)))) else (gantrylaw1_WordLaws.j2 k x0 x3 (wrap64 (2 + (wrap64 (Int.tmod (IntKind.u64.wrap ((rd_T25 x0 x3).f1)) 8)))) t154 t155 true)))))) else (gantrylaw1_WordLaws.j2 k x0 x3 (wrap64 (2 + (wrap64 (Int.tmod (IntKind.u64.wrap ((rd_T25 x0 x3).f1)) 8)))) t154 t155 true)))) else (gantrylaw1_WordLaws.j2 k x0 x3 (wrap64 (2 + (wrap64 (Int.tmod (IntKind.u64.wrap ((rd_T25 x0 x3).f1)) 8)))) t154 t155 true))))))) else (none)) else (none)) else ((gantrylaw1_wakes.f k).bind fun t151 => (some t151))
def gantrylaw1_WordLaws.j2 : Nat → List (S25) → Int → Int → Int → Int → Bool → Option (Bool)
  | 0, _, _, _, _, _, _ => none
  | k + 1, x0, x3, x5, x6, x7, x109 => if x109 = true then (some false) else ((word_Un.f k 1 x5 x7).bind fun bt167 => ((word_Un.f k 3 x5 x6).bind fun bt169 => ((gantrylaw1_bin.f k 2 x5 x6 x7).bind fun t171 => ((gantrylaw1_bin.f k 1 x5 x6 bt167.1).bind fun t172 => (if t171 = t172 then ((gantrylaw1_bin.f k 8 x5 x6 bt169.1).bind fun t173 => ((word_Canon.f k x5 18446744073709551615).bind fun t174 => (if t173 = t174 then ((gantrylaw1_bin.f k 6 x5 x6 bt169.1).bind fun t175 => (if t175 = 0 then ((gantrylaw1_bin.f k 6 x5 x6 x7).bind fun t176 => ((gantrylaw1_bin.f k 8 x5 x6 x7).bind fun t177 => ((gantrylaw1_bin.f k 7 x5 t176 t177).bind fun t178 => ((gantrylaw1_bin.f k 7 x5 x6 x7).bind fun t179 => (gantrylaw1_WordLaws.j3 k x0 x3 x5 x6 x7 (t178 != t179)))))) else (gantrylaw1_WordLaws.j3 k x0 x3 x5 x6 x7 true))) else (gantrylaw1_WordLaws.j3 k x0 x3 x5 x6 x7 true)))) else (gantrylaw1_WordLaws.j3 k x0 x3 x5 x6 x7 true))))))
def gantrylaw1_WordLaws.j3 : Nat → List (S25) → Int → Int → Int → Int → Bool → Option (Bool)
  | 0, _, _, _, _, _, _ => none
  | k + 1, x0, x3, x5, x6, x7, x163 => if x163 = true then (some false) else ((gantrylaw1_bin.f k 13 x5 x6 x7).bind fun t180 => ((gantrylaw1_bin.f k 15 x5 x7 x6).bind fun t181 => (if t180 = t181 then ((gantrylaw1_bin.f k 16 x5 x6 x7).bind fun t182 => (if (IntKind.u64.wrap (t180 + t182)) = 1 then ((gantrylaw1_bin.f k 11 x5 x6 x7).bind fun t183 => ((gantrylaw1_bin.f k 12 x5 x6 x7).bind fun t184 => (if (IntKind.u64.wrap (t183 + t184)) = 1 then ((gantrylaw1_bin.f k 14 x5 x6 x7).bind fun t185 => (gantrylaw1_WordLaws.j4 k x0 x3 x5 x6 x7 ((IntKind.u64.wrap (t180 + t183)) != t185))) else (gantrylaw1_WordLaws.j4 k x0 x3 x5 x6 x7 true)))) else (gantrylaw1_WordLaws.j4 k x0 x3 x5 x6 x7 true))) else (gantrylaw1_WordLaws.j4 k x0 x3 x5 x6 x7 true))))
def gantrylaw1_WordLaws.j4 : Nat → List (S25) → Int → Int → Int → Int → Bool → Option (Bool)
  | 0, _, _, _, _, _, _ => none
  | k + 1, x0, x3, x5, x6, x7, x207 => if x207 = true then (some false) else (if x7 = 0 then (gantrylaw1_WordLaws.l0 k x0 (wrap64 (x3 + 1))) else ((gantrylaw1_bin.f k 4 x5 x6 x7).bind fun t186 => ((gantrylaw1_bin.f k 3 x5 t186 x7).bind fun t187 => ((gantrylaw1_bin.f k 5 x5 x6 x7).bind fun t188 => ((gantrylaw1_bin.f k 1 x5 t187 t188).bind fun t189 => (if t189 = x6 then (gantrylaw1_WordLaws.l0 k x0 (wrap64 (x3 + 1))) else (some false)))))))
end
def gantrylaw1_WordLaws.f (k : Nat) (l0 : List (S25)) : Option (Bool) := gantrylaw1_WordLaws.l0 k l0 0
theorem gantrylaw1_WordLaws.mono_l : ∀ k, (∀ y0 y1, LeO (gantrylaw1_WordLaws.l0 k y0 y1) (gantrylaw1_WordLaws.l0 (k + 1) y0 y1)) ∧ (∀ y0 y1 y2, LeO (gantrylaw1_WordLaws.j1 k y0 y1 y2) (gantrylaw1_WordLaws.j1 (k + 1) y0 y1 y2)) ∧ (∀ y0 y1 y2 y3 y4 y5, LeO (gantrylaw1_WordLaws.j2 k y0 y1 y2 y3 y4 y5) (gantrylaw1_WordLaws.j2 (k + 1) y0 y1 y2 y3 y4 y5)) ∧ (∀ y0 y1 y2 y3 y4 y5, LeO (gantrylaw1_WordLaws.j3 k y0 y1 y2 y3 y4 y5) (gantrylaw1_WordLaws.j3 (k + 1) y0 y1 y2 y3 y4 y5)) ∧ (∀ y0 y1 y2 y3 y4 y5, LeO (gantrylaw1_WordLaws.j4 k y0 y1 y2 y3 y4 y5) (gantrylaw1_WordLaws.j4 (k + 1) y0 y1 y2 y3 y4 y5))
  | 0 => ⟨fun _ _ r h => by simp [gantrylaw1_WordLaws.l0] at h, fun _ _ _ r h => by simp [gantrylaw1_WordLaws.j1] at h, fun _ _ _ _ _ _ r h => by simp [gantrylaw1_WordLaws.j2] at h, fun _ _ _ _ _ _ r h => by simp [gantrylaw1_WordLaws.j3] at h, fun _ _ _ _ _ _ r h => by simp [gantrylaw1_WordLaws.j4] at h⟩
  | k + 1 => by
    obtain ⟨ih0, ih1, ih2, ih3, ih4⟩ := gantrylaw1_WordLaws.mono_l k
    refine ⟨?_, ?_, ?_, ?_, ?_⟩
    · intro y0 y1
      unfold gantrylaw1_WordLaws.l0
      repeat' first
      | (with_reducible exact ih0 _ _)
      | (with_reducible exact ih1 _ _ _)
      | (with_reducible exact ih2 _ _ _ _ _ _)
      | (with_reducible exact ih3 _ _ _ _ _ _)
      | (with_reducible exact ih4 _ _ _ _ _ _)
      | (with_reducible exact gantrylaw1_bin.mono _ _ _ _ _)
      | (with_reducible exact gantrylaw1_wakes.mono _)
      | (with_reducible exact word_Canon.mono _ _ _)
      | (with_reducible exact word_Un.mono _ _ _ _)
      | (with_reducible exact LeO.refl _)
      | (with_reducible exact LeO.none _)
      | (with_reducible refine LeO.ite ?_ ?_)
      | (with_reducible refine LeO.bind ?_ (fun _ => ?_))
      | exact ih0 _ _
      | exact ih1 _ _ _
      | exact ih2 _ _ _ _ _ _
      | exact ih3 _ _ _ _ _ _
      | exact ih4 _ _ _ _ _ _
      | exact gantrylaw1_bin.mono _ _ _ _ _
      | exact gantrylaw1_wakes.mono _
      | exact word_Canon.mono _ _ _
      | exact word_Un.mono _ _ _ _
      | exact LeO.none _
      | refine LeO.ite ?_ ?_
      | refine LeO.bind ?_ (fun _ => ?_)
    · intro y0 y1 y2
      unfold gantrylaw1_WordLaws.j1
      repeat' first
      | (with_reducible exact ih0 _ _)
      | (with_reducible exact ih1 _ _ _)
      | (with_reducible exact ih2 _ _ _ _ _ _)
      | (with_reducible exact ih3 _ _ _ _ _ _)
      | (with_reducible exact ih4 _ _ _ _ _ _)
      | (with_reducible exact gantrylaw1_bin.mono _ _ _ _ _)
      | (with_reducible exact gantrylaw1_wakes.mono _)
      | (with_reducible exact word_Canon.mono _ _ _)
      | (with_reducible exact word_Un.mono _ _ _ _)
      | (with_reducible exact LeO.refl _)
      | (with_reducible exact LeO.none _)
      | (with_reducible refine LeO.ite ?_ ?_)
      | (with_reducible refine LeO.bind ?_ (fun _ => ?_))
      | exact ih0 _ _
      | exact ih1 _ _ _
      | exact ih2 _ _ _ _ _ _
      | exact ih3 _ _ _ _ _ _
      | exact ih4 _ _ _ _ _ _
      | exact gantrylaw1_bin.mono _ _ _ _ _
      | exact gantrylaw1_wakes.mono _
      | exact word_Canon.mono _ _ _
      | exact word_Un.mono _ _ _ _
      | exact LeO.none _
      | refine LeO.ite ?_ ?_
      | refine LeO.bind ?_ (fun _ => ?_)
    · intro y0 y1 y2 y3 y4 y5
      unfold gantrylaw1_WordLaws.j2
      repeat' first
      | (with_reducible exact ih0 _ _)
      | (with_reducible exact ih1 _ _ _)
      | (with_reducible exact ih2 _ _ _ _ _ _)
      | (with_reducible exact ih3 _ _ _ _ _ _)
      | (with_reducible exact ih4 _ _ _ _ _ _)
      | (with_reducible exact gantrylaw1_bin.mono _ _ _ _ _)
      | (with_reducible exact gantrylaw1_wakes.mono _)
      | (with_reducible exact word_Canon.mono _ _ _)
      | (with_reducible exact word_Un.mono _ _ _ _)
      | (with_reducible exact LeO.refl _)
      | (with_reducible exact LeO.none _)
      | (with_reducible refine LeO.ite ?_ ?_)
      | (with_reducible refine LeO.bind ?_ (fun _ => ?_))
      | exact ih0 _ _
      | exact ih1 _ _ _
      | exact ih2 _ _ _ _ _ _
      | exact ih3 _ _ _ _ _ _
      | exact ih4 _ _ _ _ _ _
      | exact gantrylaw1_bin.mono _ _ _ _ _
      | exact gantrylaw1_wakes.mono _
      | exact word_Canon.mono _ _ _
      | exact word_Un.mono _ _ _ _
      | exact LeO.none _
      | refine LeO.ite ?_ ?_
      | refine LeO.bind ?_ (fun _ => ?_)
    · intro y0 y1 y2 y3 y4 y5
      unfold gantrylaw1_WordLaws.j3
      repeat' first
      | (with_reducible exact ih0 _ _)
      | (with_reducible exact ih1 _ _ _)
      | (with_reducible exact ih2 _ _ _ _ _ _)
      | (with_reducible exact ih3 _ _ _ _ _ _)
      | (with_reducible exact ih4 _ _ _ _ _ _)
      | (with_reducible exact gantrylaw1_bin.mono _ _ _ _ _)
      | (with_reducible exact gantrylaw1_wakes.mono _)
      | (with_reducible exact word_Canon.mono _ _ _)
      | (with_reducible exact word_Un.mono _ _ _ _)
      | (with_reducible exact LeO.refl _)
      | (with_reducible exact LeO.none _)
      | (with_reducible refine LeO.ite ?_ ?_)
      | (with_reducible refine LeO.bind ?_ (fun _ => ?_))
      | exact ih0 _ _
      | exact ih1 _ _ _
      | exact ih2 _ _ _ _ _ _
      | exact ih3 _ _ _ _ _ _
      | exact ih4 _ _ _ _ _ _
      | exact gantrylaw1_bin.mono _ _ _ _ _
      | exact gantrylaw1_wakes.mono _
      | exact word_Canon.mono _ _ _
      | exact word_Un.mono _ _ _ _
      | exact LeO.none _
      | refine LeO.ite ?_ ?_
      | refine LeO.bind ?_ (fun _ => ?_)
    · intro y0 y1 y2 y3 y4 y5
      unfold gantrylaw1_WordLaws.j4
      repeat' first
      | (with_reducible exact ih0 _ _)
      | (with_reducible exact ih1 _ _ _)
      | (with_reducible exact ih2 _ _ _ _ _ _)
      | (with_reducible exact ih3 _ _ _ _ _ _)
      | (with_reducible exact ih4 _ _ _ _ _ _)
      | (with_reducible exact gantrylaw1_bin.mono _ _ _ _ _)
      | (with_reducible exact gantrylaw1_wakes.mono _)
      | (with_reducible exact word_Canon.mono _ _ _)
      | (with_reducible exact word_Un.mono _ _ _ _)
      | (with_reducible exact LeO.refl _)
      | (with_reducible exact LeO.none _)
      | (with_reducible refine LeO.ite ?_ ?_)
      | (with_reducible refine LeO.bind ?_ (fun _ => ?_))
      | exact ih0 _ _
      | exact ih1 _ _ _
      | exact ih2 _ _ _ _ _ _
      | exact ih3 _ _ _ _ _ _
      | exact ih4 _ _ _ _ _ _
      | exact gantrylaw1_bin.mono _ _ _ _ _
      | exact gantrylaw1_wakes.mono _
      | exact word_Canon.mono _ _ _
      | exact word_Un.mono _ _ _ _
      | exact LeO.none _
      | refine LeO.ite ?_ ?_
      | refine LeO.bind ?_ (fun _ => ?_)
theorem gantrylaw1_WordLaws.mono : ∀ a0 k, LeO (gantrylaw1_WordLaws.f k a0) (gantrylaw1_WordLaws.f (k + 1) a0) := by
  intro a0 k
  obtain ⟨ih0, ih1, ih2, ih3, ih4⟩ := gantrylaw1_WordLaws.mono_l k
  unfold gantrylaw1_WordLaws.f
  repeat' first
      | (with_reducible exact ih0 _ _)
      | (with_reducible exact ih1 _ _ _)
      | (with_reducible exact ih2 _ _ _ _ _ _)
      | (with_reducible exact ih3 _ _ _ _ _ _)
      | (with_reducible exact ih4 _ _ _ _ _ _)
      | (with_reducible exact gantrylaw1_bin.mono _ _ _ _ _)
      | (with_reducible exact gantrylaw1_wakes.mono _)
      | (with_reducible exact word_Canon.mono _ _ _)
      | (with_reducible exact word_Un.mono _ _ _ _)
      | (with_reducible exact LeO.refl _)
      | (with_reducible exact LeO.none _)
      | (with_reducible refine LeO.ite ?_ ?_)
      | (with_reducible refine LeO.bind ?_ (fun _ => ?_))
      | exact ih0 _ _
      | exact ih1 _ _ _
      | exact ih2 _ _ _ _ _ _
      | exact ih3 _ _ _ _ _ _
      | exact ih4 _ _ _ _ _ _
      | exact gantrylaw1_bin.mono _ _ _ _ _
      | exact gantrylaw1_wakes.mono _
      | exact word_Canon.mono _ _ _
      | exact word_Un.mono _ _ _ _
      | exact LeO.none _
      | refine LeO.ite ?_ ?_
      | refine LeO.bind ?_ (fun _ => ?_)
set_option maxHeartbeats 8000000 in
set_option maxRecDepth 100000 in
theorem gantrylaw1_WordLaws.calls (k : Nat) (A0 : Option Addr) (c0 : Nat) (l0 : List (S25)) (r : Bool) (w : World) (hr0 : Kd.C k25 w A0 l0.length l0) (hc0 : l0.length ≤ c0) (h : gantrylaw1_WordLaws.f k l0 = some r) :
    Calls Try.prog 4 #[.slice A0 l0.length c0] w fun e w' => e = .returned (.bool r) ∧ Below w.heap.size w w' := by
  have hu25 := Try.underlying25
  have HR0 := Aside0.mk hr0
  have HC0 := Aside0.mk hc0
  clear hr0 hc0
  have HB := Aside0.mk (Below.refl w.heap.size w)
  have H : (gantrylaw1_WordLaws.l0 k l0 0) = some r := h
  clear h
  have H' := Aside0.mk H
  clear H
  go_enter Try.func4, Try.ntmps4
  go_wp2
  go_loopg [3] k (fun kq v3 w' => ∃ (x3_1 : Int), v3 = .int .i64 x3_1 ∧ Aside0 (gantrylaw1_WordLaws.l0 kq l0 x3_1 = some r) ∧ Aside0 (kq ≤ k) ∧ Aside0 (Below w.heap.size w w'))
  case atStart => exact ⟨(0), (by first | rfl | (simp; done) | (simp [*]; done)), H', ⟨Nat.le_refl _⟩, ⟨by repeat (first | (with_reducible first | exact HB.out | apply below_alloc | apply pw_below_drewN | apply below_drew1) | exact HB.out)⟩⟩
  case round =>
    clear H'
    obtain ⟨x3_1, rfl, HA, HK1, HB⟩ := hrel
    cases gk with
    | zero => exact absurd HA.out (by simp [gantrylaw1_WordLaws.l0])
    | succ k1 =>
      have H := HA.out
      clear HA
      simp only [gantrylaw1_WordLaws.l0] at H
      have HC2 := Aside0.mk H
      clear H
      go_upto_region 2 with (fail)
      go_cut [21] (fun v21 wc => ∃ (kq : Nat) (x21_1 : Bool), v21 = .bool x21_1 ∧ Aside0 (gantrylaw1_WordLaws.j1 kq l0 x3_1 x21_1 = some r) ∧ Aside0 (kq ≤ k1) ∧ Aside0 (Below w.heap.size w wc))
      case first =>
        have H := HC2.out
        clear HC2
        by_cases c3 : x3_1 < (l0.length : Int)
        · rw [if_pos c3] at H
          have c3b0 : decide (x3_1 < (l0.length : Int)) = true := decide_eq_true c3
          clear c3
          (first | rw [c3b0] | (simp only [i64_w, i32_w]; rw [c3b0]) | skip)
          as_aux_lemma =>
            have H' := Aside0.mk H
            clear H
            go_wp2
            go_meet
            case rel => exact ⟨_, (decide (x3_1 < 200)), (by first | rfl | (simp; done) | (simp [*]; done)), H', ⟨by have := HK1.out; first | omega | exact Nat.le_refl _⟩, ⟨by repeat (first | (with_reducible first | exact HB.out | apply below_alloc | apply pw_below_drewN | apply below_drew1) | exact HB.out)⟩⟩
        · rw [if_neg c3] at H
          have c3b0 : decide (x3_1 < (l0.length : Int)) = false := decide_eq_false c3
          clear c3
          (first | rw [c3b0] | (simp only [i64_w, i32_w]; rw [c3b0]) | skip)
          as_aux_lemma =>
            have H' := Aside0.mk H
            clear H
            go_wp2
            go_meet
            case rel => exact ⟨_, (false), (by first | rfl | (simp; done) | (simp [*]; done)), H', ⟨by have := HK1.out; first | omega | exact Nat.le_refl _⟩, ⟨by repeat (first | (with_reducible first | exact HB.out | apply below_alloc | apply pw_below_drewN | apply below_drew1) | exact HB.out)⟩⟩
      case rest =>
        clear HC2
        try clear p2
        try clear c3
        try clear c3b0
        obtain ⟨kq, x21_1, rfl, HA, HJ1, HB⟩ := hcut
        cases kq with
        | zero => exact absurd HA.out (by simp [gantrylaw1_WordLaws.j1])
        | succ kj1 =>
          have H := HA.out
          clear HA
          simp only [gantrylaw1_WordLaws.j1] at H
          by_cases c4 : x21_1 = true
          · subst c4
            have H1 : (if 0 ≤ x3_1 then (if x3_1 < (l0.length : Int) then ((word_Canon.f kj1 (wrap64 (2 + (wrap64 (Int.tmod (IntKind.u64.wrap ((rd_T25 l0 x3_1).f1)) 8)))) ((rd_T25 l0 x3_1).f3)).bind fun t154 => ((word_Canon.f kj1 (wrap64 (2 + (wrap64 (Int.tmod (IntKind.u64.wrap ((rd_T25 l0 x3_1).f1)) 8)))) ((rd_T25 l0 x3_1).f4)).bind fun t155 => ((word_Canon.f kj1 (wrap64 (2 + (wrap64 (Int.tmod (IntKind.u64.wrap ((rd_T25 l0 x3_1).f1)) 8)))) (IntKind.u64.wrap ((IntKind.u64.wrap ((IntKind.u64.wrap ((rd_T25 l0 x3_1).f0)) * ((rd_T25 l0 x3_1).f3))) + ((rd_T25 l0 x3_1).f4)))).bind fun t156 => ((gantrylaw1_bin.f kj1 1 (wrap64 (2 + (wrap64 (Int.tmod (IntKind.u64.wrap ((rd_T25 l0 x3_1).f1)) 8)))) t154 t155).bind fun t157 => ((gantrylaw1_bin.f kj1 1 (wrap64 (2 + (wrap64 (Int.tmod (IntKind.u64.wrap ((rd_T25 l0 x3_1).f1)) 8)))) t155 t154).bind fun t158 => (if t157 = t158 then ((gantrylaw1_bin.f kj1 3 (wrap64 (2 + (wrap64 (Int.tmod (IntKind.u64.wrap ((rd_T25 l0 x3_1).f1)) 8)))) t154 t155).bind fun t159 => ((gantrylaw1_bin.f kj1 3 (wrap64 (2 + (wrap64 (Int.tmod (IntKind.u64.wrap ((rd_T25 l0 x3_1).f1)) 8)))) t155 t154).bind fun t160 => (if t159 = t160 then ((gantrylaw1_bin.f kj1 1 (wrap64 (2 + (wrap64 (Int.tmod (IntKind.u64.wrap ((rd_T25 l0 x3_1).f1)) 8)))) t155 t156).bind fun t161 => ((gantrylaw1_bin.f kj1 3 (wrap64 (2 + (wrap64 (Int.tmod (IntKind.u64.wrap ((rd_T25 l0 x3_1).f1)) 8)))) t154 t161).bind fun t162 => ((gantrylaw1_bin.f kj1 3 (wrap64 (2 + (wrap64 (Int.tmod (IntKind.u64.wrap ((rd_T25 l0 x3_1).f1)) 8)))) t154 t156).bind fun t163 => ((gantrylaw1_bin.f kj1 1 (wrap64 (2 + (wrap64 (Int.tmod (IntKind.u64.wrap ((rd_T25 l0 x3_1).f1)) 8)))) t159 t163).bind fun t164 => (if t162 = t164 then ((gantrylaw1_bin.f kj1 1 (wrap64 (2 + (wrap64 (Int.tmod (IntKind.u64.wrap ((rd_T25 l0 x3_1).f1)) 8)))) t157 t156).bind fun t165 => ((gantrylaw1_bin.f kj1 1 (wrap64 (2 + (wrap64 (Int.tmod (IntKind.u64.wrap ((rd_T25 l0 x3_1).f1)) 8)))) t154 t161).bind fun t166 => (gantrylaw1_WordLaws.j2 kj1 l0 x3_1 (wrap64 (2 + (wrap64 (Int.tmod (IntKind.u64.wrap ((rd_T25 l0 x3_1).f1)) 8)))) t154 t155 (t165 != t166)))) else (gantrylaw1_WordLaws.j2 kj1 l0 x3_1 (wrap64 (2 + (wrap64 (Int.tmod (IntKind.u64.wrap ((rd_T25 l0 x3_1).f1)) 8)))) t154 t155 true)))))) else (gantrylaw1_WordLaws.j2 kj1 l0 x3_1 (wrap64 (2 + (wrap64 (Int.tmod (IntKind.u64.wrap ((rd_T25 l0 x3_1).f1)) 8)))) t154 t155 true)))) else (gantrylaw1_WordLaws.j2 kj1 l0 x3_1 (wrap64 (2 + (wrap64 (Int.tmod (IntKind.u64.wrap ((rd_T25 l0 x3_1).f1)) 8)))) t154 t155 true))))))) else (none)) else (none)) = some r := by rw [if_pos rfl] at H; exact H
            clear H
            have H := H1
            clear H1
            by_cases c5 : 0 ≤ x3_1
            · rw [if_pos c5] at H
              have c5b0 : decide (0 ≤ x3_1) = true := decide_eq_true c5
              clear c5
              by_cases c6 : x3_1 < (l0.length : Int)
              · rw [if_pos c6] at H
                have c6b0 : decide (x3_1 < (l0.length : Int)) = true := decide_eq_true c6
                clear c6
                replace H := Option.bind_eq_some_iff.mp H
                obtain ⟨t154, A70, H⟩ := H
                replace H : ((word_Canon.f kj1 (wrap64 (2 + (wrap64 (Int.tmod (IntKind.u64.wrap ((rd_T25 l0 x3_1).f1)) 8)))) ((rd_T25 l0 x3_1).f4)).bind fun t155 => ((word_Canon.f kj1 (wrap64 (2 + (wrap64 (Int.tmod (IntKind.u64.wrap ((rd_T25 l0 x3_1).f1)) 8)))) (IntKind.u64.wrap ((IntKind.u64.wrap ((IntKind.u64.wrap ((rd_T25 l0 x3_1).f0)) * ((rd_T25 l0 x3_1).f3))) + ((rd_T25 l0 x3_1).f4)))).bind fun t156 => ((gantrylaw1_bin.f kj1 1 (wrap64 (2 + (wrap64 (Int.tmod (IntKind.u64.wrap ((rd_T25 l0 x3_1).f1)) 8)))) t154 t155).bind fun t157 => ((gantrylaw1_bin.f kj1 1 (wrap64 (2 + (wrap64 (Int.tmod (IntKind.u64.wrap ((rd_T25 l0 x3_1).f1)) 8)))) t155 t154).bind fun t158 => (if t157 = t158 then ((gantrylaw1_bin.f kj1 3 (wrap64 (2 + (wrap64 (Int.tmod (IntKind.u64.wrap ((rd_T25 l0 x3_1).f1)) 8)))) t154 t155).bind fun t159 => ((gantrylaw1_bin.f kj1 3 (wrap64 (2 + (wrap64 (Int.tmod (IntKind.u64.wrap ((rd_T25 l0 x3_1).f1)) 8)))) t155 t154).bind fun t160 => (if t159 = t160 then ((gantrylaw1_bin.f kj1 1 (wrap64 (2 + (wrap64 (Int.tmod (IntKind.u64.wrap ((rd_T25 l0 x3_1).f1)) 8)))) t155 t156).bind fun t161 => ((gantrylaw1_bin.f kj1 3 (wrap64 (2 + (wrap64 (Int.tmod (IntKind.u64.wrap ((rd_T25 l0 x3_1).f1)) 8)))) t154 t161).bind fun t162 => ((gantrylaw1_bin.f kj1 3 (wrap64 (2 + (wrap64 (Int.tmod (IntKind.u64.wrap ((rd_T25 l0 x3_1).f1)) 8)))) t154 t156).bind fun t163 => ((gantrylaw1_bin.f kj1 1 (wrap64 (2 + (wrap64 (Int.tmod (IntKind.u64.wrap ((rd_T25 l0 x3_1).f1)) 8)))) t159 t163).bind fun t164 => (if t162 = t164 then ((gantrylaw1_bin.f kj1 1 (wrap64 (2 + (wrap64 (Int.tmod (IntKind.u64.wrap ((rd_T25 l0 x3_1).f1)) 8)))) t157 t156).bind fun t165 => ((gantrylaw1_bin.f kj1 1 (wrap64 (2 + (wrap64 (Int.tmod (IntKind.u64.wrap ((rd_T25 l0 x3_1).f1)) 8)))) t154 t161).bind fun t166 => (gantrylaw1_WordLaws.j2 kj1 l0 x3_1 (wrap64 (2 + (wrap64 (Int.tmod (IntKind.u64.wrap ((rd_T25 l0 x3_1).f1)) 8)))) t154 t155 (t165 != t166)))) else (gantrylaw1_WordLaws.j2 kj1 l0 x3_1 (wrap64 (2 + (wrap64 (Int.tmod (IntKind.u64.wrap ((rd_T25 l0 x3_1).f1)) 8)))) t154 t155 true)))))) else (gantrylaw1_WordLaws.j2 kj1 l0 x3_1 (wrap64 (2 + (wrap64 (Int.tmod (IntKind.u64.wrap ((rd_T25 l0 x3_1).f1)) 8)))) t154 t155 true)))) else (gantrylaw1_WordLaws.j2 kj1 l0 x3_1 (wrap64 (2 + (wrap64 (Int.tmod (IntKind.u64.wrap ((rd_T25 l0 x3_1).f1)) 8)))) t154 t155 true)))))) = some r := H
                have A7 := Aside0.mk A70
                clear A70
                replace H := Option.bind_eq_some_iff.mp H
                obtain ⟨t155, A80, H⟩ := H
                replace H : ((word_Canon.f kj1 (wrap64 (2 + (wrap64 (Int.tmod (IntKind.u64.wrap ((rd_T25 l0 x3_1).f1)) 8)))) (IntKind.u64.wrap ((IntKind.u64.wrap ((IntKind.u64.wrap ((rd_T25 l0 x3_1).f0)) * ((rd_T25 l0 x3_1).f3))) + ((rd_T25 l0 x3_1).f4)))).bind fun t156 => ((gantrylaw1_bin.f kj1 1 (wrap64 (2 + (wrap64 (Int.tmod (IntKind.u64.wrap ((rd_T25 l0 x3_1).f1)) 8)))) t154 t155).bind fun t157 => ((gantrylaw1_bin.f kj1 1 (wrap64 (2 + (wrap64 (Int.tmod (IntKind.u64.wrap ((rd_T25 l0 x3_1).f1)) 8)))) t155 t154).bind fun t158 => (if t157 = t158 then ((gantrylaw1_bin.f kj1 3 (wrap64 (2 + (wrap64 (Int.tmod (IntKind.u64.wrap ((rd_T25 l0 x3_1).f1)) 8)))) t154 t155).bind fun t159 => ((gantrylaw1_bin.f kj1 3 (wrap64 (2 + (wrap64 (Int.tmod (IntKind.u64.wrap ((rd_T25 l0 x3_1).f1)) 8)))) t155 t154).bind fun t160 => (if t159 = t160 then ((gantrylaw1_bin.f kj1 1 (wrap64 (2 + (wrap64 (Int.tmod (IntKind.u64.wrap ((rd_T25 l0 x3_1).f1)) 8)))) t155 t156).bind fun t161 => ((gantrylaw1_bin.f kj1 3 (wrap64 (2 + (wrap64 (Int.tmod (IntKind.u64.wrap ((rd_T25 l0 x3_1).f1)) 8)))) t154 t161).bind fun t162 => ((gantrylaw1_bin.f kj1 3 (wrap64 (2 + (wrap64 (Int.tmod (IntKind.u64.wrap ((rd_T25 l0 x3_1).f1)) 8)))) t154 t156).bind fun t163 => ((gantrylaw1_bin.f kj1 1 (wrap64 (2 + (wrap64 (Int.tmod (IntKind.u64.wrap ((rd_T25 l0 x3_1).f1)) 8)))) t159 t163).bind fun t164 => (if t162 = t164 then ((gantrylaw1_bin.f kj1 1 (wrap64 (2 + (wrap64 (Int.tmod (IntKind.u64.wrap ((rd_T25 l0 x3_1).f1)) 8)))) t157 t156).bind fun t165 => ((gantrylaw1_bin.f kj1 1 (wrap64 (2 + (wrap64 (Int.tmod (IntKind.u64.wrap ((rd_T25 l0 x3_1).f1)) 8)))) t154 t161).bind fun t166 => (gantrylaw1_WordLaws.j2 kj1 l0 x3_1 (wrap64 (2 + (wrap64 (Int.tmod (IntKind.u64.wrap ((rd_T25 l0 x3_1).f1)) 8)))) t154 t155 (t165 != t166)))) else (gantrylaw1_WordLaws.j2 kj1 l0 x3_1 (wrap64 (2 + (wrap64 (Int.tmod (IntKind.u64.wrap ((rd_T25 l0 x3_1).f1)) 8)))) t154 t155 true)))))) else (gantrylaw1_WordLaws.j2 kj1 l0 x3_1 (wrap64 (2 + (wrap64 (Int.tmod (IntKind.u64.wrap ((rd_T25 l0 x3_1).f1)) 8)))) t154 t155 true)))) else (gantrylaw1_WordLaws.j2 kj1 l0 x3_1 (wrap64 (2 + (wrap64 (Int.tmod (IntKind.u64.wrap ((rd_T25 l0 x3_1).f1)) 8)))) t154 t155 true))))) = some r := H
                have A8 := Aside0.mk A80
                clear A80
                replace H := Option.bind_eq_some_iff.mp H
                obtain ⟨t156, A90, H⟩ := H
                replace H : ((gantrylaw1_bin.f kj1 1 (wrap64 (2 + (wrap64 (Int.tmod (IntKind.u64.wrap ((rd_T25 l0 x3_1).f1)) 8)))) t154 t155).bind fun t157 => ((gantrylaw1_bin.f kj1 1 (wrap64 (2 + (wrap64 (Int.tmod (IntKind.u64.wrap ((rd_T25 l0 x3_1).f1)) 8)))) t155 t154).bind fun t158 => (if t157 = t158 then ((gantrylaw1_bin.f kj1 3 (wrap64 (2 + (wrap64 (Int.tmod (IntKind.u64.wrap ((rd_T25 l0 x3_1).f1)) 8)))) t154 t155).bind fun t159 => ((gantrylaw1_bin.f kj1 3 (wrap64 (2 + (wrap64 (Int.tmod (IntKind.u64.wrap ((rd_T25 l0 x3_1).f1)) 8)))) t155 t154).bind fun t160 => (if t159 = t160 then ((gantrylaw1_bin.f kj1 1 (wrap64 (2 + (wrap64 (Int.tmod (IntKind.u64.wrap ((rd_T25 l0 x3_1).f1)) 8)))) t155 t156).bind fun t161 => ((gantrylaw1_bin.f kj1 3 (wrap64 (2 + (wrap64 (Int.tmod (IntKind.u64.wrap ((rd_T25 l0 x3_1).f1)) 8)))) t154 t161).bind fun t162 => ((gantrylaw1_bin.f kj1 3 (wrap64 (2 + (wrap64 (Int.tmod (IntKind.u64.wrap ((rd_T25 l0 x3_1).f1)) 8)))) t154 t156).bind fun t163 => ((gantrylaw1_bin.f kj1 1 (wrap64 (2 + (wrap64 (Int.tmod (IntKind.u64.wrap ((rd_T25 l0 x3_1).f1)) 8)))) t159 t163).bind fun t164 => (if t162 = t164 then ((gantrylaw1_bin.f kj1 1 (wrap64 (2 + (wrap64 (Int.tmod (IntKind.u64.wrap ((rd_T25 l0 x3_1).f1)) 8)))) t157 t156).bind fun t165 => ((gantrylaw1_bin.f kj1 1 (wrap64 (2 + (wrap64 (Int.tmod (IntKind.u64.wrap ((rd_T25 l0 x3_1).f1)) 8)))) t154 t161).bind fun t166 => (gantrylaw1_WordLaws.j2 kj1 l0 x3_1 (wrap64 (2 + (wrap64 (Int.tmod (IntKind.u64.wrap ((rd_T25 l0 x3_1).f1)) 8)))) t154 t155 (t165 != t166)))) else (gantrylaw1_WordLaws.j2 kj1 l0 x3_1 (wrap64 (2 + (wrap64 (Int.tmod (IntKind.u64.wrap ((rd_T25 l0 x3_1).f1)) 8)))) t154 t155 true)))))) else (gantrylaw1_WordLaws.j2 kj1 l0 x3_1 (wrap64 (2 + (wrap64 (Int.tmod (IntKind.u64.wrap ((rd_T25 l0 x3_1).f1)) 8)))) t154 t155 true)))) else (gantrylaw1_WordLaws.j2 kj1 l0 x3_1 (wrap64 (2 + (wrap64 (Int.tmod (IntKind.u64.wrap ((rd_T25 l0 x3_1).f1)) 8)))) t154 t155 true)))) = some r := H
                have A9 := Aside0.mk A90
                clear A90
                have HC10 := Aside0.mk H
                clear H
                have p152 : 0 ≤ (x3_1 : Int) := of_decide_eq_true (by first | (with_reducible assumption) | assumption)
                have q152 : x3_1 < (l0.length : Int) := of_decide_eq_true (by first | (with_reducible assumption) | assumption)
                obtain ⟨ad152, e152, hx152_0, hx152_1, hx152_2, hx152_3, hx152_4⟩ := at_T25 HR0.out x3_1 p152 q152
                cases e152
                replace hx152_0 := (HB.out.cell (World.block_lt_of_cell? w _ hx152_0)).trans hx152_0
                replace hx152_1 := (HB.out.cell (World.block_lt_of_cell? w _ hx152_1)).trans hx152_1
                replace hx152_2 := (HB.out.cell (World.block_lt_of_cell? w _ hx152_2)).trans hx152_2
                replace hx152_3 := (HB.out.cell (World.block_lt_of_cell? w _ hx152_3)).trans hx152_3
                replace hx152_4 := (HB.out.cell (World.block_lt_of_cell? w _ hx152_4)).trans hx152_4
                replace p152 := eq_true p152
                replace q152 := eq_true q152
                go_upto_region 9 with (first | ((with_reducible refine gate_dst (N := 4) rfl ?_); refine box_event ?hg (N := 4) ?hd (cs := #[.int .i64 0, .int .i64 0, .int .i64 0, .int .u64 0, .int .u64 0]) (t := 25) ?hr ?_; (case hd => rfl); (case hg => rfl); (case hr => first | (go_simp; done) | (go_simp; rfl)); intro gb153 hg w11 hbox hb; have n0_ := Aside0.mk (below_step (by repeat (first | (with_reducible first | exact HB.out | apply below_alloc | apply pw_below_drewN | apply below_drew1) | exact HB.out)) hb); have n1_ := Aside0.mk (hbox); have n2_ := Aside0.mk ((by rw [hg]; exact (below_size (by repeat (first | (with_reducible first | exact HB.out | apply below_alloc | apply pw_below_drewN | apply below_drew1) | exact HB.out))) : w.heap.size ≤ gb153)); have n3_ := Aside0.mk ((by rw [hg]; exact (below_size (by repeat (first | (with_reducible first | exact HB.out | apply below_alloc | apply pw_below_drewN | apply below_drew1) | exact HB.out))) : w.heap.size ≤ gb153)); clear HB; have HB := n0_; have BK153 := n1_; have GW153 := n2_; have GE153 := n3_; clear n0_ n1_ n2_ n3_; clear hb hbox hg; have hcz12_0 : w11.cell? ⟨gb153, 0, none⟩ = some (.int .i64 0) := (blk_cell BK153.out 0).trans rfl; have hcz12_1 : w11.cell? ⟨gb153, 1, none⟩ = some (.int .i64 0) := (blk_cell BK153.out 1).trans rfl; have hcz12_2 : w11.cell? ⟨gb153, 2, none⟩ = some (.int .i64 0) := (blk_cell BK153.out 2).trans rfl; have hcz12_3 : w11.cell? ⟨gb153, 3, none⟩ = some (.int .u64 0) := (blk_cell BK153.out 3).trans rfl; have hcz12_4 : w11.cell? ⟨gb153, 4, none⟩ = some (.int .u64 0) := (blk_cell BK153.out 4).trans rfl; have hfz12_0 := blk_frozen BK153.out 0; have hfz12_1 := blk_frozen BK153.out 1; have hfz12_2 := blk_frozen BK153.out 2; have hfz12_3 := blk_frozen BK153.out 3; have hfz12_4 := blk_frozen BK153.out 4) | (go_at_call 15; (with_reducible refine (word_Canon.calls kj1 (wrap64 (2 + (wrap64 (Int.tmod (IntKind.u64.wrap ((rd_T25 l0 x3_1).f1)) 8)))) ((rd_T25 l0 x3_1).f3) t154 _ A7.out).mono ?_); rintro e w' ⟨rfl, ⟨nd, rfl⟩⟩) | (go_at_call 15; (with_reducible refine (word_Canon.calls kj1 (wrap64 (2 + (wrap64 (Int.tmod (IntKind.u64.wrap ((rd_T25 l0 x3_1).f1)) 8)))) ((rd_T25 l0 x3_1).f4) t155 _ A8.out).mono ?_); rintro e w' ⟨rfl, ⟨nd, rfl⟩⟩) | (go_at_call 15; (with_reducible refine (word_Canon.calls kj1 (wrap64 (2 + (wrap64 (Int.tmod (IntKind.u64.wrap ((rd_T25 l0 x3_1).f1)) 8)))) (IntKind.u64.wrap ((IntKind.u64.wrap ((IntKind.u64.wrap ((rd_T25 l0 x3_1).f0)) * ((rd_T25 l0 x3_1).f3))) + ((rd_T25 l0 x3_1).f4))) t156 _ A9.out).mono ?_); rintro e w' ⟨rfl, ⟨nd, rfl⟩⟩))
                (try simp only [Act.put, List.setIfInBounds_toArray, List.set_cons_zero, List.set_cons_succ])
                go_cut [109] (fun v109 wc => ∃ (kq : Nat) (x109_9 : Bool), v109 = .bool x109_9 ∧ Aside0 (gantrylaw1_WordLaws.j2 kq l0 x3_1 (wrap64 (2 + (wrap64 (Int.tmod (IntKind.u64.wrap ((rd_T25 l0 x3_1).f1)) 8)))) t154 t155 x109_9 = some r) ∧ Aside0 (kq ≤ kj1) ∧ Aside0 (wc.heap[gb153]? = some (.cells #[.int .i64 ((rd_T25 l0 x3_1).f0), .int .i64 ((rd_T25 l0 x3_1).f1), .int .i64 ((rd_T25 l0 x3_1).f2), .int .u64 ((rd_T25 l0 x3_1).f3), .int .u64 ((rd_T25 l0 x3_1).f4)] 25 (0, 0))) ∧ Aside0 (Below w.heap.size w wc))
                case first =>
                  have H := HC10.out
                  clear HC10
                  replace H := Option.bind_eq_some_iff.mp H
                  obtain ⟨t157, A130, H⟩ := H
                  replace H : ((gantrylaw1_bin.f kj1 1 (wrap64 (2 + (wrap64 (Int.tmod (IntKind.u64.wrap ((rd_T25 l0 x3_1).f1)) 8)))) t155 t154).bind fun t158 => (if t157 = t158 then ((gantrylaw1_bin.f kj1 3 (wrap64 (2 + (wrap64 (Int.tmod (IntKind.u64.wrap ((rd_T25 l0 x3_1).f1)) 8)))) t154 t155).bind fun t159 => ((gantrylaw1_bin.f kj1 3 (wrap64 (2 + (wrap64 (Int.tmod (IntKind.u64.wrap ((rd_T25 l0 x3_1).f1)) 8)))) t155 t154).bind fun t160 => (if t159 = t160 then ((gantrylaw1_bin.f kj1 1 (wrap64 (2 + (wrap64 (Int.tmod (IntKind.u64.wrap ((rd_T25 l0 x3_1).f1)) 8)))) t155 t156).bind fun t161 => ((gantrylaw1_bin.f kj1 3 (wrap64 (2 + (wrap64 (Int.tmod (IntKind.u64.wrap ((rd_T25 l0 x3_1).f1)) 8)))) t154 t161).bind fun t162 => ((gantrylaw1_bin.f kj1 3 (wrap64 (2 + (wrap64 (Int.tmod (IntKind.u64.wrap ((rd_T25 l0 x3_1).f1)) 8)))) t154 t156).bind fun t163 => ((gantrylaw1_bin.f kj1 1 (wrap64 (2 + (wrap64 (Int.tmod (IntKind.u64.wrap ((rd_T25 l0 x3_1).f1)) 8)))) t159 t163).bind fun t164 => (if t162 = t164 then ((gantrylaw1_bin.f kj1 1 (wrap64 (2 + (wrap64 (Int.tmod (IntKind.u64.wrap ((rd_T25 l0 x3_1).f1)) 8)))) t157 t156).bind fun t165 => ((gantrylaw1_bin.f kj1 1 (wrap64 (2 + (wrap64 (Int.tmod (IntKind.u64.wrap ((rd_T25 l0 x3_1).f1)) 8)))) t154 t161).bind fun t166 => (gantrylaw1_WordLaws.j2 kj1 l0 x3_1 (wrap64 (2 + (wrap64 (Int.tmod (IntKind.u64.wrap ((rd_T25 l0 x3_1).f1)) 8)))) t154 t155 (t165 != t166)))) else (gantrylaw1_WordLaws.j2 kj1 l0 x3_1 (wrap64 (2 + (wrap64 (Int.tmod (IntKind.u64.wrap ((rd_T25 l0 x3_1).f1)) 8)))) t154 t155 true)))))) else (gantrylaw1_WordLaws.j2 kj1 l0 x3_1 (wrap64 (2 + (wrap64 (Int.tmod (IntKind.u64.wrap ((rd_T25 l0 x3_1).f1)) 8)))) t154 t155 true)))) else (gantrylaw1_WordLaws.j2 kj1 l0 x3_1 (wrap64 (2 + (wrap64 (Int.tmod (IntKind.u64.wrap ((rd_T25 l0 x3_1).f1)) 8)))) t154 t155 true))) = some r := H
                  have A13 := Aside0.mk A130
                  clear A130
                  replace H := Option.bind_eq_some_iff.mp H
                  obtain ⟨t158, A140, H⟩ := H
                  replace H : (if t157 = t158 then ((gantrylaw1_bin.f kj1 3 (wrap64 (2 + (wrap64 (Int.tmod (IntKind.u64.wrap ((rd_T25 l0 x3_1).f1)) 8)))) t154 t155).bind fun t159 => ((gantrylaw1_bin.f kj1 3 (wrap64 (2 + (wrap64 (Int.tmod (IntKind.u64.wrap ((rd_T25 l0 x3_1).f1)) 8)))) t155 t154).bind fun t160 => (if t159 = t160 then ((gantrylaw1_bin.f kj1 1 (wrap64 (2 + (wrap64 (Int.tmod (IntKind.u64.wrap ((rd_T25 l0 x3_1).f1)) 8)))) t155 t156).bind fun t161 => ((gantrylaw1_bin.f kj1 3 (wrap64 (2 + (wrap64 (Int.tmod (IntKind.u64.wrap ((rd_T25 l0 x3_1).f1)) 8)))) t154 t161).bind fun t162 => ((gantrylaw1_bin.f kj1 3 (wrap64 (2 + (wrap64 (Int.tmod (IntKind.u64.wrap ((rd_T25 l0 x3_1).f1)) 8)))) t154 t156).bind fun t163 => ((gantrylaw1_bin.f kj1 1 (wrap64 (2 + (wrap64 (Int.tmod (IntKind.u64.wrap ((rd_T25 l0 x3_1).f1)) 8)))) t159 t163).bind fun t164 => (if t162 = t164 then ((gantrylaw1_bin.f kj1 1 (wrap64 (2 + (wrap64 (Int.tmod (IntKind.u64.wrap ((rd_T25 l0 x3_1).f1)) 8)))) t157 t156).bind fun t165 => ((gantrylaw1_bin.f kj1 1 (wrap64 (2 + (wrap64 (Int.tmod (IntKind.u64.wrap ((rd_T25 l0 x3_1).f1)) 8)))) t154 t161).bind fun t166 => (gantrylaw1_WordLaws.j2 kj1 l0 x3_1 (wrap64 (2 + (wrap64 (Int.tmod (IntKind.u64.wrap ((rd_T25 l0 x3_1).f1)) 8)))) t154 t155 (t165 != t166)))) else (gantrylaw1_WordLaws.j2 kj1 l0 x3_1 (wrap64 (2 + (wrap64 (Int.tmod (IntKind.u64.wrap ((rd_T25 l0 x3_1).f1)) 8)))) t154 t155 true)))))) else (gantrylaw1_WordLaws.j2 kj1 l0 x3_1 (wrap64 (2 + (wrap64 (Int.tmod (IntKind.u64.wrap ((rd_T25 l0 x3_1).f1)) 8)))) t154 t155 true)))) else (gantrylaw1_WordLaws.j2 kj1 l0 x3_1 (wrap64 (2 + (wrap64 (Int.tmod (IntKind.u64.wrap ((rd_T25 l0 x3_1).f1)) 8)))) t154 t155 true)) = some r := H
                  have A14 := Aside0.mk A140
                  clear A140
                  by_cases c15 : t157 = t158
                  · rw [if_pos c15] at H
                    have c15b0 : (t157 == t158) = true := beq_iff_eq.mpr c15
                    have c15b1 : (t157 != t158) = false := bne_eq_false_iff_eq.mpr c15
                    clear c15
                    (first | rw [c15b0] | (simp only [i64_w, i32_w]; rw [c15b0]) | skip)
                    replace H := Option.bind_eq_some_iff.mp H
                    obtain ⟨t159, A160, H⟩ := H
                    replace H : ((gantrylaw1_bin.f kj1 3 (wrap64 (2 + (wrap64 (Int.tmod (IntKind.u64.wrap ((rd_T25 l0 x3_1).f1)) 8)))) t155 t154).bind fun t160 => (if t159 = t160 then ((gantrylaw1_bin.f kj1 1 (wrap64 (2 + (wrap64 (Int.tmod (IntKind.u64.wrap ((rd_T25 l0 x3_1).f1)) 8)))) t155 t156).bind fun t161 => ((gantrylaw1_bin.f kj1 3 (wrap64 (2 + (wrap64 (Int.tmod (IntKind.u64.wrap ((rd_T25 l0 x3_1).f1)) 8)))) t154 t161).bind fun t162 => ((gantrylaw1_bin.f kj1 3 (wrap64 (2 + (wrap64 (Int.tmod (IntKind.u64.wrap ((rd_T25 l0 x3_1).f1)) 8)))) t154 t156).bind fun t163 => ((gantrylaw1_bin.f kj1 1 (wrap64 (2 + (wrap64 (Int.tmod (IntKind.u64.wrap ((rd_T25 l0 x3_1).f1)) 8)))) t159 t163).bind fun t164 => (if t162 = t164 then ((gantrylaw1_bin.f kj1 1 (wrap64 (2 + (wrap64 (Int.tmod (IntKind.u64.wrap ((rd_T25 l0 x3_1).f1)) 8)))) t157 t156).bind fun t165 => ((gantrylaw1_bin.f kj1 1 (wrap64 (2 + (wrap64 (Int.tmod (IntKind.u64.wrap ((rd_T25 l0 x3_1).f1)) 8)))) t154 t161).bind fun t166 => (gantrylaw1_WordLaws.j2 kj1 l0 x3_1 (wrap64 (2 + (wrap64 (Int.tmod (IntKind.u64.wrap ((rd_T25 l0 x3_1).f1)) 8)))) t154 t155 (t165 != t166)))) else (gantrylaw1_WordLaws.j2 kj1 l0 x3_1 (wrap64 (2 + (wrap64 (Int.tmod (IntKind.u64.wrap ((rd_T25 l0 x3_1).f1)) 8)))) t154 t155 true)))))) else (gantrylaw1_WordLaws.j2 kj1 l0 x3_1 (wrap64 (2 + (wrap64 (Int.tmod (IntKind.u64.wrap ((rd_T25 l0 x3_1).f1)) 8)))) t154 t155 true))) = some r := H
                    have A16 := Aside0.mk A160
                    clear A160
                    replace H := Option.bind_eq_some_iff.mp H
                    obtain ⟨t160, A170, H⟩ := H
                    replace H : (if t159 = t160 then ((gantrylaw1_bin.f kj1 1 (wrap64 (2 + (wrap64 (Int.tmod (IntKind.u64.wrap ((rd_T25 l0 x3_1).f1)) 8)))) t155 t156).bind fun t161 => ((gantrylaw1_bin.f kj1 3 (wrap64 (2 + (wrap64 (Int.tmod (IntKind.u64.wrap ((rd_T25 l0 x3_1).f1)) 8)))) t154 t161).bind fun t162 => ((gantrylaw1_bin.f kj1 3 (wrap64 (2 + (wrap64 (Int.tmod (IntKind.u64.wrap ((rd_T25 l0 x3_1).f1)) 8)))) t154 t156).bind fun t163 => ((gantrylaw1_bin.f kj1 1 (wrap64 (2 + (wrap64 (Int.tmod (IntKind.u64.wrap ((rd_T25 l0 x3_1).f1)) 8)))) t159 t163).bind fun t164 => (if t162 = t164 then ((gantrylaw1_bin.f kj1 1 (wrap64 (2 + (wrap64 (Int.tmod (IntKind.u64.wrap ((rd_T25 l0 x3_1).f1)) 8)))) t157 t156).bind fun t165 => ((gantrylaw1_bin.f kj1 1 (wrap64 (2 + (wrap64 (Int.tmod (IntKind.u64.wrap ((rd_T25 l0 x3_1).f1)) 8)))) t154 t161).bind fun t166 => (gantrylaw1_WordLaws.j2 kj1 l0 x3_1 (wrap64 (2 + (wrap64 (Int.tmod (IntKind.u64.wrap ((rd_T25 l0 x3_1).f1)) 8)))) t154 t155 (t165 != t166)))) else (gantrylaw1_WordLaws.j2 kj1 l0 x3_1 (wrap64 (2 + (wrap64 (Int.tmod (IntKind.u64.wrap ((rd_T25 l0 x3_1).f1)) 8)))) t154 t155 true)))))) else (gantrylaw1_WordLaws.j2 kj1 l0 x3_1 (wrap64 (2 + (wrap64 (Int.tmod (IntKind.u64.wrap ((rd_T25 l0 x3_1).f1)) 8)))) t154 t155 true)) = some r := H
                    have A17 := Aside0.mk A170
                    clear A170
                    by_cases c18 : t159 = t160
                    · rw [if_pos c18] at H
                      have c18b0 : (t159 == t160) = true := beq_iff_eq.mpr c18
                      have c18b1 : (t159 != t160) = false := bne_eq_false_iff_eq.mpr c18
                      clear c18
                      replace H := Option.bind_eq_some_iff.mp H
                      obtain ⟨t161, A190, H⟩ := H
                      replace H : ((gantrylaw1_bin.f kj1 3 (wrap64 (2 + (wrap64 (Int.tmod (IntKind.u64.wrap ((rd_T25 l0 x3_1).f1)) 8)))) t154 t161).bind fun t162 => ((gantrylaw1_bin.f kj1 3 (wrap64 (2 + (wrap64 (Int.tmod (IntKind.u64.wrap ((rd_T25 l0 x3_1).f1)) 8)))) t154 t156).bind fun t163 => ((gantrylaw1_bin.f kj1 1 (wrap64 (2 + (wrap64 (Int.tmod (IntKind.u64.wrap ((rd_T25 l0 x3_1).f1)) 8)))) t159 t163).bind fun t164 => (if t162 = t164 then ((gantrylaw1_bin.f kj1 1 (wrap64 (2 + (wrap64 (Int.tmod (IntKind.u64.wrap ((rd_T25 l0 x3_1).f1)) 8)))) t157 t156).bind fun t165 => ((gantrylaw1_bin.f kj1 1 (wrap64 (2 + (wrap64 (Int.tmod (IntKind.u64.wrap ((rd_T25 l0 x3_1).f1)) 8)))) t154 t161).bind fun t166 => (gantrylaw1_WordLaws.j2 kj1 l0 x3_1 (wrap64 (2 + (wrap64 (Int.tmod (IntKind.u64.wrap ((rd_T25 l0 x3_1).f1)) 8)))) t154 t155 (t165 != t166)))) else (gantrylaw1_WordLaws.j2 kj1 l0 x3_1 (wrap64 (2 + (wrap64 (Int.tmod (IntKind.u64.wrap ((rd_T25 l0 x3_1).f1)) 8)))) t154 t155 true))))) = some r := H
                      have A19 := Aside0.mk A190
                      clear A190
                      replace H := Option.bind_eq_some_iff.mp H
                      obtain ⟨t162, A200, H⟩ := H
                      replace H : ((gantrylaw1_bin.f kj1 3 (wrap64 (2 + (wrap64 (Int.tmod (IntKind.u64.wrap ((rd_T25 l0 x3_1).f1)) 8)))) t154 t156).bind fun t163 => ((gantrylaw1_bin.f kj1 1 (wrap64 (2 + (wrap64 (Int.tmod (IntKind.u64.wrap ((rd_T25 l0 x3_1).f1)) 8)))) t159 t163).bind fun t164 => (if t162 = t164 then ((gantrylaw1_bin.f kj1 1 (wrap64 (2 + (wrap64 (Int.tmod (IntKind.u64.wrap ((rd_T25 l0 x3_1).f1)) 8)))) t157 t156).bind fun t165 => ((gantrylaw1_bin.f kj1 1 (wrap64 (2 + (wrap64 (Int.tmod (IntKind.u64.wrap ((rd_T25 l0 x3_1).f1)) 8)))) t154 t161).bind fun t166 => (gantrylaw1_WordLaws.j2 kj1 l0 x3_1 (wrap64 (2 + (wrap64 (Int.tmod (IntKind.u64.wrap ((rd_T25 l0 x3_1).f1)) 8)))) t154 t155 (t165 != t166)))) else (gantrylaw1_WordLaws.j2 kj1 l0 x3_1 (wrap64 (2 + (wrap64 (Int.tmod (IntKind.u64.wrap ((rd_T25 l0 x3_1).f1)) 8)))) t154 t155 true)))) = some r := H
                      have A20 := Aside0.mk A200
                      clear A200
                      replace H := Option.bind_eq_some_iff.mp H
                      obtain ⟨t163, A210, H⟩ := H
                      replace H : ((gantrylaw1_bin.f kj1 1 (wrap64 (2 + (wrap64 (Int.tmod (IntKind.u64.wrap ((rd_T25 l0 x3_1).f1)) 8)))) t159 t163).bind fun t164 => (if t162 = t164 then ((gantrylaw1_bin.f kj1 1 (wrap64 (2 + (wrap64 (Int.tmod (IntKind.u64.wrap ((rd_T25 l0 x3_1).f1)) 8)))) t157 t156).bind fun t165 => ((gantrylaw1_bin.f kj1 1 (wrap64 (2 + (wrap64 (Int.tmod (IntKind.u64.wrap ((rd_T25 l0 x3_1).f1)) 8)))) t154 t161).bind fun t166 => (gantrylaw1_WordLaws.j2 kj1 l0 x3_1 (wrap64 (2 + (wrap64 (Int.tmod (IntKind.u64.wrap ((rd_T25 l0 x3_1).f1)) 8)))) t154 t155 (t165 != t166)))) else (gantrylaw1_WordLaws.j2 kj1 l0 x3_1 (wrap64 (2 + (wrap64 (Int.tmod (IntKind.u64.wrap ((rd_T25 l0 x3_1).f1)) 8)))) t154 t155 true))) = some r := H
                      have A21 := Aside0.mk A210
                      clear A210
                      replace H := Option.bind_eq_some_iff.mp H
                      obtain ⟨t164, A220, H⟩ := H
                      replace H : (if t162 = t164 then ((gantrylaw1_bin.f kj1 1 (wrap64 (2 + (wrap64 (Int.tmod (IntKind.u64.wrap ((rd_T25 l0 x3_1).f1)) 8)))) t157 t156).bind fun t165 => ((gantrylaw1_bin.f kj1 1 (wrap64 (2 + (wrap64 (Int.tmod (IntKind.u64.wrap ((rd_T25 l0 x3_1).f1)) 8)))) t154 t161).bind fun t166 => (gantrylaw1_WordLaws.j2 kj1 l0 x3_1 (wrap64 (2 + (wrap64 (Int.tmod (IntKind.u64.wrap ((rd_T25 l0 x3_1).f1)) 8)))) t154 t155 (t165 != t166)))) else (gantrylaw1_WordLaws.j2 kj1 l0 x3_1 (wrap64 (2 + (wrap64 (Int.tmod (IntKind.u64.wrap ((rd_T25 l0 x3_1).f1)) 8)))) t154 t155 true)) = some r := H
                      have A22 := Aside0.mk A220
                      clear A220
                      by_cases c23 : t162 = t164
                      · rw [if_pos c23] at H
                        have c23b0 : (t162 == t164) = true := beq_iff_eq.mpr c23
                        have c23b1 : (t162 != t164) = false := bne_eq_false_iff_eq.mpr c23
                        clear c23
                        replace H := Option.bind_eq_some_iff.mp H
                        obtain ⟨t165, A240, H⟩ := H
                        replace H : ((gantrylaw1_bin.f kj1 1 (wrap64 (2 + (wrap64 (Int.tmod (IntKind.u64.wrap ((rd_T25 l0 x3_1).f1)) 8)))) t154 t161).bind fun t166 => (gantrylaw1_WordLaws.j2 kj1 l0 x3_1 (wrap64 (2 + (wrap64 (Int.tmod (IntKind.u64.wrap ((rd_T25 l0 x3_1).f1)) 8)))) t154 t155 (t165 != t166))) = some r := H
                        have A24 := Aside0.mk A240
                        clear A240
                        replace H := Option.bind_eq_some_iff.mp H
                        obtain ⟨t166, A250, H⟩ := H
                        replace H : (gantrylaw1_WordLaws.j2 kj1 l0 x3_1 (wrap64 (2 + (wrap64 (Int.tmod (IntKind.u64.wrap ((rd_T25 l0 x3_1).f1)) 8)))) t154 t155 (t165 != t166)) = some r := H
                        have A25 := Aside0.mk A250
                        clear A250
                        as_aux_lemma =>
                          have H' := Aside0.mk H
                          clear H
                          go_wp2_with (first | (go_at_call 16; (with_reducible refine (gantrylaw1_bin.calls kj1 1 (wrap64 (2 + (wrap64 (Int.tmod (IntKind.u64.wrap ((rd_T25 l0 x3_1).f1)) 8)))) t154 t155 t157 _ A13.out).mono ?_); rintro e w26 ⟨rfl, hb⟩; have n0_ := Aside0.mk (blk_below (g := gb153) (o := .cells #[.int .i64 ((rd_T25 l0 x3_1).f0), .int .i64 ((rd_T25 l0 x3_1).f1), .int .i64 ((rd_T25 l0 x3_1).f2), .int .u64 ((rd_T25 l0 x3_1).f3), .int .u64 ((rd_T25 l0 x3_1).f4)] 25 (0, 0)) (by first | ((with_reducible repeat (first | refine blk_drewN ?_ _ | refine blk_drew ?_ | refine blk_alloc ?_ _)); refine blk_put (cs := #[.int .i64 ((rd_T25 l0 x3_1).f0), .int .i64 ((rd_T25 l0 x3_1).f1), .int .i64 ((rd_T25 l0 x3_1).f2), .int .u64 ((rd_T25 l0 x3_1).f3), .int .u64 0]) ?_ 4 _ rfl; (with_reducible repeat (first | refine blk_drewN ?_ _ | refine blk_drew ?_ | refine blk_alloc ?_ _)); refine blk_put (cs := #[.int .i64 ((rd_T25 l0 x3_1).f0), .int .i64 ((rd_T25 l0 x3_1).f1), .int .i64 ((rd_T25 l0 x3_1).f2), .int .u64 0, .int .u64 0]) ?_ 3 _ rfl; (with_reducible repeat (first | refine blk_drewN ?_ _ | refine blk_drew ?_ | refine blk_alloc ?_ _)); refine blk_put (cs := #[.int .i64 ((rd_T25 l0 x3_1).f0), .int .i64 ((rd_T25 l0 x3_1).f1), .int .i64 0, .int .u64 0, .int .u64 0]) ?_ 2 _ rfl; (with_reducible repeat (first | refine blk_drewN ?_ _ | refine blk_drew ?_ | refine blk_alloc ?_ _)); refine blk_put (cs := #[.int .i64 ((rd_T25 l0 x3_1).f0), .int .i64 0, .int .i64 0, .int .u64 0, .int .u64 0]) ?_ 1 _ rfl; (with_reducible repeat (first | refine blk_drewN ?_ _ | refine blk_drew ?_ | refine blk_alloc ?_ _)); refine blk_put (cs := #[.int .i64 0, .int .i64 0, .int .i64 0, .int .u64 0, .int .u64 0]) ?_ 0 _ rfl; (with_reducible repeat (first | refine blk_drewN ?_ _ | refine blk_drew ?_ | refine blk_alloc ?_ _)); exact BK153.out) | exact BK153.out | ((with_reducible repeat (first | refine blk_drewN ?_ _ | refine blk_drew ?_ | refine blk_alloc ?_ _)); exact BK153.out)) hb); have n1_ := Aside0.mk (below_step (by repeat (first | (with_reducible first | exact HB.out | apply below_alloc | apply pw_below_drewN | apply below_drew1 | refine below_set ?_ GE153.out) | exact HB.out)) hb); clear BK153; clear HB; have BK153 := n0_; have HB := n1_; clear n0_ n1_; (try clear hb); (try clear hb2); (try clear hk); (try clear hi)) | (go_at_call 16; (with_reducible refine (gantrylaw1_bin.calls kj1 1 (wrap64 (2 + (wrap64 (Int.tmod (IntKind.u64.wrap ((rd_T25 l0 x3_1).f1)) 8)))) t155 t154 t158 _ A14.out).mono ?_); rintro e w27 ⟨rfl, hb⟩; have n0_ := Aside0.mk (blk_below (g := gb153) (o := .cells #[.int .i64 ((rd_T25 l0 x3_1).f0), .int .i64 ((rd_T25 l0 x3_1).f1), .int .i64 ((rd_T25 l0 x3_1).f2), .int .u64 ((rd_T25 l0 x3_1).f3), .int .u64 ((rd_T25 l0 x3_1).f4)] 25 (0, 0)) (by (with_reducible repeat (first | refine blk_drewN ?_ _ | refine blk_drew ?_ | refine blk_alloc ?_ _)); exact BK153.out) hb); have n1_ := Aside0.mk (below_step (by repeat (first | (with_reducible first | exact HB.out | apply below_alloc | apply pw_below_drewN | apply below_drew1 | refine below_set ?_ GE153.out) | exact HB.out)) hb); clear BK153; clear HB; have BK153 := n0_; have HB := n1_; clear n0_ n1_; (try clear hb); (try clear hb2); (try clear hk); (try clear hi)) | (go_at_call 16; (with_reducible refine (gantrylaw1_bin.calls kj1 3 (wrap64 (2 + (wrap64 (Int.tmod (IntKind.u64.wrap ((rd_T25 l0 x3_1).f1)) 8)))) t154 t155 t159 _ A16.out).mono ?_); rintro e w28 ⟨rfl, hb⟩; have n0_ := Aside0.mk (blk_below (g := gb153) (o := .cells #[.int .i64 ((rd_T25 l0 x3_1).f0), .int .i64 ((rd_T25 l0 x3_1).f1), .int .i64 ((rd_T25 l0 x3_1).f2), .int .u64 ((rd_T25 l0 x3_1).f3), .int .u64 ((rd_T25 l0 x3_1).f4)] 25 (0, 0)) (by (with_reducible repeat (first | refine blk_drewN ?_ _ | refine blk_drew ?_ | refine blk_alloc ?_ _)); exact BK153.out) hb); have n1_ := Aside0.mk (below_step (by repeat (first | (with_reducible first | exact HB.out | apply below_alloc | apply pw_below_drewN | apply below_drew1 | refine below_set ?_ GE153.out) | exact HB.out)) hb); clear BK153; clear HB; have BK153 := n0_; have HB := n1_; clear n0_ n1_; (try clear hb); (try clear hb2); (try clear hk); (try clear hi)) | (go_at_call 16; (with_reducible refine (gantrylaw1_bin.calls kj1 3 (wrap64 (2 + (wrap64 (Int.tmod (IntKind.u64.wrap ((rd_T25 l0 x3_1).f1)) 8)))) t155 t154 t160 _ A17.out).mono ?_); rintro e w29 ⟨rfl, hb⟩; have n0_ := Aside0.mk (blk_below (g := gb153) (o := .cells #[.int .i64 ((rd_T25 l0 x3_1).f0), .int .i64 ((rd_T25 l0 x3_1).f1), .int .i64 ((rd_T25 l0 x3_1).f2), .int .u64 ((rd_T25 l0 x3_1).f3), .int .u64 ((rd_T25 l0 x3_1).f4)] 25 (0, 0)) (by (with_reducible repeat (first | refine blk_drewN ?_ _ | refine blk_drew ?_ | refine blk_alloc ?_ _)); exact BK153.out) hb); have n1_ := Aside0.mk (below_step (by repeat (first | (with_reducible first | exact HB.out | apply below_alloc | apply pw_below_drewN | apply below_drew1 | refine below_set ?_ GE153.out) | exact HB.out)) hb); clear BK153; clear HB; have BK153 := n0_; have HB := n1_; clear n0_ n1_; (try clear hb); (try clear hb2); (try clear hk); (try clear hi)) | (go_at_call 16; (with_reducible refine (gantrylaw1_bin.calls kj1 1 (wrap64 (2 + (wrap64 (Int.tmod (IntKind.u64.wrap ((rd_T25 l0 x3_1).f1)) 8)))) t155 t156 t161 _ A19.out).mono ?_); rintro e w30 ⟨rfl, hb⟩; have n0_ := Aside0.mk (blk_below (g := gb153) (o := .cells #[.int .i64 ((rd_T25 l0 x3_1).f0), .int .i64 ((rd_T25 l0 x3_1).f1), .int .i64 ((rd_T25 l0 x3_1).f2), .int .u64 ((rd_T25 l0 x3_1).f3), .int .u64 ((rd_T25 l0 x3_1).f4)] 25 (0, 0)) (by (with_reducible repeat (first | refine blk_drewN ?_ _ | refine blk_drew ?_ | refine blk_alloc ?_ _)); exact BK153.out) hb); have n1_ := Aside0.mk (below_step (by repeat (first | (with_reducible first | exact HB.out | apply below_alloc | apply pw_below_drewN | apply below_drew1 | refine below_set ?_ GE153.out) | exact HB.out)) hb); clear BK153; clear HB; have BK153 := n0_; have HB := n1_; clear n0_ n1_; (try clear hb); (try clear hb2); (try clear hk); (try clear hi)) | (go_at_call 16; (with_reducible refine (gantrylaw1_bin.calls kj1 3 (wrap64 (2 + (wrap64 (Int.tmod (IntKind.u64.wrap ((rd_T25 l0 x3_1).f1)) 8)))) t154 t161 t162 _ A20.out).mono ?_); rintro e w31 ⟨rfl, hb⟩; have n0_ := Aside0.mk (blk_below (g := gb153) (o := .cells #[.int .i64 ((rd_T25 l0 x3_1).f0), .int .i64 ((rd_T25 l0 x3_1).f1), .int .i64 ((rd_T25 l0 x3_1).f2), .int .u64 ((rd_T25 l0 x3_1).f3), .int .u64 ((rd_T25 l0 x3_1).f4)] 25 (0, 0)) (by (with_reducible repeat (first | refine blk_drewN ?_ _ | refine blk_drew ?_ | refine blk_alloc ?_ _)); exact BK153.out) hb); have n1_ := Aside0.mk (below_step (by repeat (first | (with_reducible first | exact HB.out | apply below_alloc | apply pw_below_drewN | apply below_drew1 | refine below_set ?_ GE153.out) | exact HB.out)) hb); clear BK153; clear HB; have BK153 := n0_; have HB := n1_; clear n0_ n1_; (try clear hb); (try clear hb2); (try clear hk); (try clear hi)) | (go_at_call 16; (with_reducible refine (gantrylaw1_bin.calls kj1 3 (wrap64 (2 + (wrap64 (Int.tmod (IntKind.u64.wrap ((rd_T25 l0 x3_1).f1)) 8)))) t154 t156 t163 _ A21.out).mono ?_); rintro e w32 ⟨rfl, hb⟩; have n0_ := Aside0.mk (blk_below (g := gb153) (o := .cells #[.int .i64 ((rd_T25 l0 x3_1).f0), .int .i64 ((rd_T25 l0 x3_1).f1), .int .i64 ((rd_T25 l0 x3_1).f2), .int .u64 ((rd_T25 l0 x3_1).f3), .int .u64 ((rd_T25 l0 x3_1).f4)] 25 (0, 0)) (by (with_reducible repeat (first | refine blk_drewN ?_ _ | refine blk_drew ?_ | refine blk_alloc ?_ _)); exact BK153.out) hb); have n1_ := Aside0.mk (below_step (by repeat (first | (with_reducible first | exact HB.out | apply below_alloc | apply pw_below_drewN | apply below_drew1 | refine below_set ?_ GE153.out) | exact HB.out)) hb); clear BK153; clear HB; have BK153 := n0_; have HB := n1_; clear n0_ n1_; (try clear hb); (try clear hb2); (try clear hk); (try clear hi)) | (go_at_call 16; (with_reducible refine (gantrylaw1_bin.calls kj1 1 (wrap64 (2 + (wrap64 (Int.tmod (IntKind.u64.wrap ((rd_T25 l0 x3_1).f1)) 8)))) t159 t163 t164 _ A22.out).mono ?_); rintro e w33 ⟨rfl, hb⟩; have n0_ := Aside0.mk (blk_below (g := gb153) (o := .cells #[.int .i64 ((rd_T25 l0 x3_1).f0), .int .i64 ((rd_T25 l0 x3_1).f1), .int .i64 ((rd_T25 l0 x3_1).f2), .int .u64 ((rd_T25 l0 x3_1).f3), .int .u64 ((rd_T25 l0 x3_1).f4)] 25 (0, 0)) (by (with_reducible repeat (first | refine blk_drewN ?_ _ | refine blk_drew ?_ | refine blk_alloc ?_ _)); exact BK153.out) hb); have n1_ := Aside0.mk (below_step (by repeat (first | (with_reducible first | exact HB.out | apply below_alloc | apply pw_below_drewN | apply below_drew1 | refine below_set ?_ GE153.out) | exact HB.out)) hb); clear BK153; clear HB; have BK153 := n0_; have HB := n1_; clear n0_ n1_; (try clear hb); (try clear hb2); (try clear hk); (try clear hi)) | (go_at_call 16; (with_reducible refine (gantrylaw1_bin.calls kj1 1 (wrap64 (2 + (wrap64 (Int.tmod (IntKind.u64.wrap ((rd_T25 l0 x3_1).f1)) 8)))) t157 t156 t165 _ A24.out).mono ?_); rintro e w34 ⟨rfl, hb⟩; have n0_ := Aside0.mk (blk_below (g := gb153) (o := .cells #[.int .i64 ((rd_T25 l0 x3_1).f0), .int .i64 ((rd_T25 l0 x3_1).f1), .int .i64 ((rd_T25 l0 x3_1).f2), .int .u64 ((rd_T25 l0 x3_1).f3), .int .u64 ((rd_T25 l0 x3_1).f4)] 25 (0, 0)) (by (with_reducible repeat (first | refine blk_drewN ?_ _ | refine blk_drew ?_ | refine blk_alloc ?_ _)); exact BK153.out) hb); have n1_ := Aside0.mk (below_step (by repeat (first | (with_reducible first | exact HB.out | apply below_alloc | apply pw_below_drewN | apply below_drew1 | refine below_set ?_ GE153.out) | exact HB.out)) hb); clear BK153; clear HB; have BK153 := n0_; have HB := n1_; clear n0_ n1_; (try clear hb); (try clear hb2); (try clear hk); (try clear hi)) | (go_at_call 16; (with_reducible refine (gantrylaw1_bin.calls kj1 1 (wrap64 (2 + (wrap64 (Int.tmod (IntKind.u64.wrap ((rd_T25 l0 x3_1).f1)) 8)))) t154 t161 t166 _ A25.out).mono ?_); rintro e w35 ⟨rfl, hb⟩; have n0_ := Aside0.mk (blk_below (g := gb153) (o := .cells #[.int .i64 ((rd_T25 l0 x3_1).f0), .int .i64 ((rd_T25 l0 x3_1).f1), .int .i64 ((rd_T25 l0 x3_1).f2), .int .u64 ((rd_T25 l0 x3_1).f3), .int .u64 ((rd_T25 l0 x3_1).f4)] 25 (0, 0)) (by (with_reducible repeat (first | refine blk_drewN ?_ _ | refine blk_drew ?_ | refine blk_alloc ?_ _)); exact BK153.out) hb); have n1_ := Aside0.mk (below_step (by repeat (first | (with_reducible first | exact HB.out | apply below_alloc | apply pw_below_drewN | apply below_drew1 | refine below_set ?_ GE153.out) | exact HB.out)) hb); clear BK153; clear HB; have BK153 := n0_; have HB := n1_; clear n0_ n1_; (try clear hb); (try clear hb2); (try clear hk); (try clear hi)))
                          go_meet
                          case rel => exact ⟨_, ((t165 != t166)), (by first | rfl | (simp; done) | (simp [*]; done)), H', ⟨by have := HK1.out; have := HJ1.out; first | omega | exact Nat.le_refl _⟩, ⟨by (with_reducible repeat (first | refine blk_drewN ?_ _ | refine blk_drew ?_ | refine blk_alloc ?_ _)); exact BK153.out⟩, ⟨by repeat (first | (with_reducible first | exact HB.out | apply below_alloc | apply pw_below_drewN | apply below_drew1 | refine below_set ?_ GE153.out) | exact HB.out)⟩⟩
                      · rw [if_neg c23] at H
                        have c23b0 : (t162 == t164) = false := beq_eq_false_iff_ne.mpr c23
                        have c23b1 : (t162 != t164) = true := bne_iff_ne.mpr c23
                        as_aux_lemma =>
                          have H' := Aside0.mk H
                          clear H
                          go_wp2_with (first | (go_at_call 16; (with_reducible refine (gantrylaw1_bin.calls kj1 1 (wrap64 (2 + (wrap64 (Int.tmod (IntKind.u64.wrap ((rd_T25 l0 x3_1).f1)) 8)))) t154 t155 t157 _ A13.out).mono ?_); rintro e w36 ⟨rfl, hb⟩; have n0_ := Aside0.mk (blk_below (g := gb153) (o := .cells #[.int .i64 ((rd_T25 l0 x3_1).f0), .int .i64 ((rd_T25 l0 x3_1).f1), .int .i64 ((rd_T25 l0 x3_1).f2), .int .u64 ((rd_T25 l0 x3_1).f3), .int .u64 ((rd_T25 l0 x3_1).f4)] 25 (0, 0)) (by first | ((with_reducible repeat (first | refine blk_drewN ?_ _ | refine blk_drew ?_ | refine blk_alloc ?_ _)); refine blk_put (cs := #[.int .i64 ((rd_T25 l0 x3_1).f0), .int .i64 ((rd_T25 l0 x3_1).f1), .int .i64 ((rd_T25 l0 x3_1).f2), .int .u64 ((rd_T25 l0 x3_1).f3), .int .u64 0]) ?_ 4 _ rfl; (with_reducible repeat (first | refine blk_drewN ?_ _ | refine blk_drew ?_ | refine blk_alloc ?_ _)); refine blk_put (cs := #[.int .i64 ((rd_T25 l0 x3_1).f0), .int .i64 ((rd_T25 l0 x3_1).f1), .int .i64 ((rd_T25 l0 x3_1).f2), .int .u64 0, .int .u64 0]) ?_ 3 _ rfl; (with_reducible repeat (first | refine blk_drewN ?_ _ | refine blk_drew ?_ | refine blk_alloc ?_ _)); refine blk_put (cs := #[.int .i64 ((rd_T25 l0 x3_1).f0), .int .i64 ((rd_T25 l0 x3_1).f1), .int .i64 0, .int .u64 0, .int .u64 0]) ?_ 2 _ rfl; (with_reducible repeat (first | refine blk_drewN ?_ _ | refine blk_drew ?_ | refine blk_alloc ?_ _)); refine blk_put (cs := #[.int .i64 ((rd_T25 l0 x3_1).f0), .int .i64 0, .int .i64 0, .int .u64 0, .int .u64 0]) ?_ 1 _ rfl; (with_reducible repeat (first | refine blk_drewN ?_ _ | refine blk_drew ?_ | refine blk_alloc ?_ _)); refine blk_put (cs := #[.int .i64 0, .int .i64 0, .int .i64 0, .int .u64 0, .int .u64 0]) ?_ 0 _ rfl; (with_reducible repeat (first | refine blk_drewN ?_ _ | refine blk_drew ?_ | refine blk_alloc ?_ _)); exact BK153.out) | exact BK153.out | ((with_reducible repeat (first | refine blk_drewN ?_ _ | refine blk_drew ?_ | refine blk_alloc ?_ _)); exact BK153.out)) hb); have n1_ := Aside0.mk (below_step (by repeat (first | (with_reducible first | exact HB.out | apply below_alloc | apply pw_below_drewN | apply below_drew1 | refine below_set ?_ GE153.out) | exact HB.out)) hb); clear BK153; clear HB; have BK153 := n0_; have HB := n1_; clear n0_ n1_; (try clear hb); (try clear hb2); (try clear hk); (try clear hi)) | (go_at_call 16; (with_reducible refine (gantrylaw1_bin.calls kj1 1 (wrap64 (2 + (wrap64 (Int.tmod (IntKind.u64.wrap ((rd_T25 l0 x3_1).f1)) 8)))) t155 t154 t158 _ A14.out).mono ?_); rintro e w37 ⟨rfl, hb⟩; have n0_ := Aside0.mk (blk_below (g := gb153) (o := .cells #[.int .i64 ((rd_T25 l0 x3_1).f0), .int .i64 ((rd_T25 l0 x3_1).f1), .int .i64 ((rd_T25 l0 x3_1).f2), .int .u64 ((rd_T25 l0 x3_1).f3), .int .u64 ((rd_T25 l0 x3_1).f4)] 25 (0, 0)) (by (with_reducible repeat (first | refine blk_drewN ?_ _ | refine blk_drew ?_ | refine blk_alloc ?_ _)); exact BK153.out) hb); have n1_ := Aside0.mk (below_step (by repeat (first | (with_reducible first | exact HB.out | apply below_alloc | apply pw_below_drewN | apply below_drew1 | refine below_set ?_ GE153.out) | exact HB.out)) hb); clear BK153; clear HB; have BK153 := n0_; have HB := n1_; clear n0_ n1_; (try clear hb); (try clear hb2); (try clear hk); (try clear hi)) | (go_at_call 16; (with_reducible refine (gantrylaw1_bin.calls kj1 3 (wrap64 (2 + (wrap64 (Int.tmod (IntKind.u64.wrap ((rd_T25 l0 x3_1).f1)) 8)))) t154 t155 t159 _ A16.out).mono ?_); rintro e w38 ⟨rfl, hb⟩; have n0_ := Aside0.mk (blk_below (g := gb153) (o := .cells #[.int .i64 ((rd_T25 l0 x3_1).f0), .int .i64 ((rd_T25 l0 x3_1).f1), .int .i64 ((rd_T25 l0 x3_1).f2), .int .u64 ((rd_T25 l0 x3_1).f3), .int .u64 ((rd_T25 l0 x3_1).f4)] 25 (0, 0)) (by (with_reducible repeat (first | refine blk_drewN ?_ _ | refine blk_drew ?_ | refine blk_alloc ?_ _)); exact BK153.out) hb); have n1_ := Aside0.mk (below_step (by repeat (first | (with_reducible first | exact HB.out | apply below_alloc | apply pw_below_drewN | apply below_drew1 | refine below_set ?_ GE153.out) | exact HB.out)) hb); clear BK153; clear HB; have BK153 := n0_; have HB := n1_; clear n0_ n1_; (try clear hb); (try clear hb2); (try clear hk); (try clear hi)) | (go_at_call 16; (with_reducible refine (gantrylaw1_bin.calls kj1 3 (wrap64 (2 + (wrap64 (Int.tmod (IntKind.u64.wrap ((rd_T25 l0 x3_1).f1)) 8)))) t155 t154 t160 _ A17.out).mono ?_); rintro e w39 ⟨rfl, hb⟩; have n0_ := Aside0.mk (blk_below (g := gb153) (o := .cells #[.int .i64 ((rd_T25 l0 x3_1).f0), .int .i64 ((rd_T25 l0 x3_1).f1), .int .i64 ((rd_T25 l0 x3_1).f2), .int .u64 ((rd_T25 l0 x3_1).f3), .int .u64 ((rd_T25 l0 x3_1).f4)] 25 (0, 0)) (by (with_reducible repeat (first | refine blk_drewN ?_ _ | refine blk_drew ?_ | refine blk_alloc ?_ _)); exact BK153.out) hb); have n1_ := Aside0.mk (below_step (by repeat (first | (with_reducible first | exact HB.out | apply below_alloc | apply pw_below_drewN | apply below_drew1 | refine below_set ?_ GE153.out) | exact HB.out)) hb); clear BK153; clear HB; have BK153 := n0_; have HB := n1_; clear n0_ n1_; (try clear hb); (try clear hb2); (try clear hk); (try clear hi)) | (go_at_call 16; (with_reducible refine (gantrylaw1_bin.calls kj1 1 (wrap64 (2 + (wrap64 (Int.tmod (IntKind.u64.wrap ((rd_T25 l0 x3_1).f1)) 8)))) t155 t156 t161 _ A19.out).mono ?_); rintro e w40 ⟨rfl, hb⟩; have n0_ := Aside0.mk (blk_below (g := gb153) (o := .cells #[.int .i64 ((rd_T25 l0 x3_1).f0), .int .i64 ((rd_T25 l0 x3_1).f1), .int .i64 ((rd_T25 l0 x3_1).f2), .int .u64 ((rd_T25 l0 x3_1).f3), .int .u64 ((rd_T25 l0 x3_1).f4)] 25 (0, 0)) (by (with_reducible repeat (first | refine blk_drewN ?_ _ | refine blk_drew ?_ | refine blk_alloc ?_ _)); exact BK153.out) hb); have n1_ := Aside0.mk (below_step (by repeat (first | (with_reducible first | exact HB.out | apply below_alloc | apply pw_below_drewN | apply below_drew1 | refine below_set ?_ GE153.out) | exact HB.out)) hb); clear BK153; clear HB; have BK153 := n0_; have HB := n1_; clear n0_ n1_; (try clear hb); (try clear hb2); (try clear hk); (try clear hi)) | (go_at_call 16; (with_reducible refine (gantrylaw1_bin.calls kj1 3 (wrap64 (2 + (wrap64 (Int.tmod (IntKind.u64.wrap ((rd_T25 l0 x3_1).f1)) 8)))) t154 t161 t162 _ A20.out).mono ?_); rintro e w41 ⟨rfl, hb⟩; have n0_ := Aside0.mk (blk_below (g := gb153) (o := .cells #[.int .i64 ((rd_T25 l0 x3_1).f0), .int .i64 ((rd_T25 l0 x3_1).f1), .int .i64 ((rd_T25 l0 x3_1).f2), .int .u64 ((rd_T25 l0 x3_1).f3), .int .u64 ((rd_T25 l0 x3_1).f4)] 25 (0, 0)) (by (with_reducible repeat (first | refine blk_drewN ?_ _ | refine blk_drew ?_ | refine blk_alloc ?_ _)); exact BK153.out) hb); have n1_ := Aside0.mk (below_step (by repeat (first | (with_reducible first | exact HB.out | apply below_alloc | apply pw_below_drewN | apply below_drew1 | refine below_set ?_ GE153.out) | exact HB.out)) hb); clear BK153; clear HB; have BK153 := n0_; have HB := n1_; clear n0_ n1_; (try clear hb); (try clear hb2); (try clear hk); (try clear hi)) | (go_at_call 16; (with_reducible refine (gantrylaw1_bin.calls kj1 3 (wrap64 (2 + (wrap64 (Int.tmod (IntKind.u64.wrap ((rd_T25 l0 x3_1).f1)) 8)))) t154 t156 t163 _ A21.out).mono ?_); rintro e w42 ⟨rfl, hb⟩; have n0_ := Aside0.mk (blk_below (g := gb153) (o := .cells #[.int .i64 ((rd_T25 l0 x3_1).f0), .int .i64 ((rd_T25 l0 x3_1).f1), .int .i64 ((rd_T25 l0 x3_1).f2), .int .u64 ((rd_T25 l0 x3_1).f3), .int .u64 ((rd_T25 l0 x3_1).f4)] 25 (0, 0)) (by (with_reducible repeat (first | refine blk_drewN ?_ _ | refine blk_drew ?_ | refine blk_alloc ?_ _)); exact BK153.out) hb); have n1_ := Aside0.mk (below_step (by repeat (first | (with_reducible first | exact HB.out | apply below_alloc | apply pw_below_drewN | apply below_drew1 | refine below_set ?_ GE153.out) | exact HB.out)) hb); clear BK153; clear HB; have BK153 := n0_; have HB := n1_; clear n0_ n1_; (try clear hb); (try clear hb2); (try clear hk); (try clear hi)) | (go_at_call 16; (with_reducible refine (gantrylaw1_bin.calls kj1 1 (wrap64 (2 + (wrap64 (Int.tmod (IntKind.u64.wrap ((rd_T25 l0 x3_1).f1)) 8)))) t159 t163 t164 _ A22.out).mono ?_); rintro e w43 ⟨rfl, hb⟩; have n0_ := Aside0.mk (blk_below (g := gb153) (o := .cells #[.int .i64 ((rd_T25 l0 x3_1).f0), .int .i64 ((rd_T25 l0 x3_1).f1), .int .i64 ((rd_T25 l0 x3_1).f2), .int .u64 ((rd_T25 l0 x3_1).f3), .int .u64 ((rd_T25 l0 x3_1).f4)] 25 (0, 0)) (by (with_reducible repeat (first | refine blk_drewN ?_ _ | refine blk_drew ?_ | refine blk_alloc ?_ _)); exact BK153.out) hb); have n1_ := Aside0.mk (below_step (by repeat (first | (with_reducible first | exact HB.out | apply below_alloc | apply pw_below_drewN | apply below_drew1 | refine below_set ?_ GE153.out) | exact HB.out)) hb); clear BK153; clear HB; have BK153 := n0_; have HB := n1_; clear n0_ n1_; (try clear hb); (try clear hb2); (try clear hk); (try clear hi)))
                          go_meet
                          case rel => exact ⟨_, (true), (by first | rfl | (simp; done) | (simp [*]; done)), H', ⟨by have := HK1.out; have := HJ1.out; first | omega | exact Nat.le_refl _⟩, ⟨by (with_reducible repeat (first | refine blk_drewN ?_ _ | refine blk_drew ?_ | refine blk_alloc ?_ _)); exact BK153.out⟩, ⟨by repeat (first | (with_reducible first | exact HB.out | apply below_alloc | apply pw_below_drewN | apply below_drew1 | refine below_set ?_ GE153.out) | exact HB.out)⟩⟩
                    · rw [if_neg c18] at H
                      have c18b0 : (t159 == t160) = false := beq_eq_false_iff_ne.mpr c18
                      have c18b1 : (t159 != t160) = true := bne_iff_ne.mpr c18
                      as_aux_lemma =>
                        have H' := Aside0.mk H
                        clear H
                        go_wp2_with (first | (go_at_call 16; (with_reducible refine (gantrylaw1_bin.calls kj1 1 (wrap64 (2 + (wrap64 (Int.tmod (IntKind.u64.wrap ((rd_T25 l0 x3_1).f1)) 8)))) t154 t155 t157 _ A13.out).mono ?_); rintro e w44 ⟨rfl, hb⟩; have n0_ := Aside0.mk (blk_below (g := gb153) (o := .cells #[.int .i64 ((rd_T25 l0 x3_1).f0), .int .i64 ((rd_T25 l0 x3_1).f1), .int .i64 ((rd_T25 l0 x3_1).f2), .int .u64 ((rd_T25 l0 x3_1).f3), .int .u64 ((rd_T25 l0 x3_1).f4)] 25 (0, 0)) (by first | ((with_reducible repeat (first | refine blk_drewN ?_ _ | refine blk_drew ?_ | refine blk_alloc ?_ _)); refine blk_put (cs := #[.int .i64 ((rd_T25 l0 x3_1).f0), .int .i64 ((rd_T25 l0 x3_1).f1), .int .i64 ((rd_T25 l0 x3_1).f2), .int .u64 ((rd_T25 l0 x3_1).f3), .int .u64 0]) ?_ 4 _ rfl; (with_reducible repeat (first | refine blk_drewN ?_ _ | refine blk_drew ?_ | refine blk_alloc ?_ _)); refine blk_put (cs := #[.int .i64 ((rd_T25 l0 x3_1).f0), .int .i64 ((rd_T25 l0 x3_1).f1), .int .i64 ((rd_T25 l0 x3_1).f2), .int .u64 0, .int .u64 0]) ?_ 3 _ rfl; (with_reducible repeat (first | refine blk_drewN ?_ _ | refine blk_drew ?_ | refine blk_alloc ?_ _)); refine blk_put (cs := #[.int .i64 ((rd_T25 l0 x3_1).f0), .int .i64 ((rd_T25 l0 x3_1).f1), .int .i64 0, .int .u64 0, .int .u64 0]) ?_ 2 _ rfl; (with_reducible repeat (first | refine blk_drewN ?_ _ | refine blk_drew ?_ | refine blk_alloc ?_ _)); refine blk_put (cs := #[.int .i64 ((rd_T25 l0 x3_1).f0), .int .i64 0, .int .i64 0, .int .u64 0, .int .u64 0]) ?_ 1 _ rfl; (with_reducible repeat (first | refine blk_drewN ?_ _ | refine blk_drew ?_ | refine blk_alloc ?_ _)); refine blk_put (cs := #[.int .i64 0, .int .i64 0, .int .i64 0, .int .u64 0, .int .u64 0]) ?_ 0 _ rfl; (with_reducible repeat (first | refine blk_drewN ?_ _ | refine blk_drew ?_ | refine blk_alloc ?_ _)); exact BK153.out) | exact BK153.out | ((with_reducible repeat (first | refine blk_drewN ?_ _ | refine blk_drew ?_ | refine blk_alloc ?_ _)); exact BK153.out)) hb); have n1_ := Aside0.mk (below_step (by repeat (first | (with_reducible first | exact HB.out | apply below_alloc | apply pw_below_drewN | apply below_drew1 | refine below_set ?_ GE153.out) | exact HB.out)) hb); clear BK153; clear HB; have BK153 := n0_; have HB := n1_; clear n0_ n1_; (try clear hb); (try clear hb2); (try clear hk); (try clear hi)) | (go_at_call 16; (with_reducible refine (gantrylaw1_bin.calls kj1 1 (wrap64 (2 + (wrap64 (Int.tmod (IntKind.u64.wrap ((rd_T25 l0 x3_1).f1)) 8)))) t155 t154 t158 _ A14.out).mono ?_); rintro e w45 ⟨rfl, hb⟩; have n0_ := Aside0.mk (blk_below (g := gb153) (o := .cells #[.int .i64 ((rd_T25 l0 x3_1).f0), .int .i64 ((rd_T25 l0 x3_1).f1), .int .i64 ((rd_T25 l0 x3_1).f2), .int .u64 ((rd_T25 l0 x3_1).f3), .int .u64 ((rd_T25 l0 x3_1).f4)] 25 (0, 0)) (by (with_reducible repeat (first | refine blk_drewN ?_ _ | refine blk_drew ?_ | refine blk_alloc ?_ _)); exact BK153.out) hb); have n1_ := Aside0.mk (below_step (by repeat (first | (with_reducible first | exact HB.out | apply below_alloc | apply pw_below_drewN | apply below_drew1 | refine below_set ?_ GE153.out) | exact HB.out)) hb); clear BK153; clear HB; have BK153 := n0_; have HB := n1_; clear n0_ n1_; (try clear hb); (try clear hb2); (try clear hk); (try clear hi)) | (go_at_call 16; (with_reducible refine (gantrylaw1_bin.calls kj1 3 (wrap64 (2 + (wrap64 (Int.tmod (IntKind.u64.wrap ((rd_T25 l0 x3_1).f1)) 8)))) t154 t155 t159 _ A16.out).mono ?_); rintro e w46 ⟨rfl, hb⟩; have n0_ := Aside0.mk (blk_below (g := gb153) (o := .cells #[.int .i64 ((rd_T25 l0 x3_1).f0), .int .i64 ((rd_T25 l0 x3_1).f1), .int .i64 ((rd_T25 l0 x3_1).f2), .int .u64 ((rd_T25 l0 x3_1).f3), .int .u64 ((rd_T25 l0 x3_1).f4)] 25 (0, 0)) (by (with_reducible repeat (first | refine blk_drewN ?_ _ | refine blk_drew ?_ | refine blk_alloc ?_ _)); exact BK153.out) hb); have n1_ := Aside0.mk (below_step (by repeat (first | (with_reducible first | exact HB.out | apply below_alloc | apply pw_below_drewN | apply below_drew1 | refine below_set ?_ GE153.out) | exact HB.out)) hb); clear BK153; clear HB; have BK153 := n0_; have HB := n1_; clear n0_ n1_; (try clear hb); (try clear hb2); (try clear hk); (try clear hi)) | (go_at_call 16; (with_reducible refine (gantrylaw1_bin.calls kj1 3 (wrap64 (2 + (wrap64 (Int.tmod (IntKind.u64.wrap ((rd_T25 l0 x3_1).f1)) 8)))) t155 t154 t160 _ A17.out).mono ?_); rintro e w47 ⟨rfl, hb⟩; have n0_ := Aside0.mk (blk_below (g := gb153) (o := .cells #[.int .i64 ((rd_T25 l0 x3_1).f0), .int .i64 ((rd_T25 l0 x3_1).f1), .int .i64 ((rd_T25 l0 x3_1).f2), .int .u64 ((rd_T25 l0 x3_1).f3), .int .u64 ((rd_T25 l0 x3_1).f4)] 25 (0, 0)) (by (with_reducible repeat (first | refine blk_drewN ?_ _ | refine blk_drew ?_ | refine blk_alloc ?_ _)); exact BK153.out) hb); have n1_ := Aside0.mk (below_step (by repeat (first | (with_reducible first | exact HB.out | apply below_alloc | apply pw_below_drewN | apply below_drew1 | refine below_set ?_ GE153.out) | exact HB.out)) hb); clear BK153; clear HB; have BK153 := n0_; have HB := n1_; clear n0_ n1_; (try clear hb); (try clear hb2); (try clear hk); (try clear hi)))
                        go_meet
                        case rel => exact ⟨_, (true), (by first | rfl | (simp; done) | (simp [*]; done)), H', ⟨by have := HK1.out; have := HJ1.out; first | omega | exact Nat.le_refl _⟩, ⟨by (with_reducible repeat (first | refine blk_drewN ?_ _ | refine blk_drew ?_ | refine blk_alloc ?_ _)); exact BK153.out⟩, ⟨by repeat (first | (with_reducible first | exact HB.out | apply below_alloc | apply pw_below_drewN | apply below_drew1 | refine below_set ?_ GE153.out) | exact HB.out)⟩⟩
                  · rw [if_neg c15] at H
                    have c15b0 : (t157 == t158) = false := beq_eq_false_iff_ne.mpr c15
                    have c15b1 : (t157 != t158) = true := bne_iff_ne.mpr c15
                    (first | rw [c15b0] | (simp only [i64_w, i32_w]; rw [c15b0]) | skip)
                    as_aux_lemma =>
                      have H' := Aside0.mk H
                      clear H
                      go_wp2_with (first | (go_at_call 16; (with_reducible refine (gantrylaw1_bin.calls kj1 1 (wrap64 (2 + (wrap64 (Int.tmod (IntKind.u64.wrap ((rd_T25 l0 x3_1).f1)) 8)))) t154 t155 t157 _ A13.out).mono ?_); rintro e w48 ⟨rfl, hb⟩; have n0_ := Aside0.mk (blk_below (g := gb153) (o := .cells #[.int .i64 ((rd_T25 l0 x3_1).f0), .int .i64 ((rd_T25 l0 x3_1).f1), .int .i64 ((rd_T25 l0 x3_1).f2), .int .u64 ((rd_T25 l0 x3_1).f3), .int .u64 ((rd_T25 l0 x3_1).f4)] 25 (0, 0)) (by first | ((with_reducible repeat (first | refine blk_drewN ?_ _ | refine blk_drew ?_ | refine blk_alloc ?_ _)); refine blk_put (cs := #[.int .i64 ((rd_T25 l0 x3_1).f0), .int .i64 ((rd_T25 l0 x3_1).f1), .int .i64 ((rd_T25 l0 x3_1).f2), .int .u64 ((rd_T25 l0 x3_1).f3), .int .u64 0]) ?_ 4 _ rfl; (with_reducible repeat (first | refine blk_drewN ?_ _ | refine blk_drew ?_ | refine blk_alloc ?_ _)); refine blk_put (cs := #[.int .i64 ((rd_T25 l0 x3_1).f0), .int .i64 ((rd_T25 l0 x3_1).f1), .int .i64 ((rd_T25 l0 x3_1).f2), .int .u64 0, .int .u64 0]) ?_ 3 _ rfl; (with_reducible repeat (first | refine blk_drewN ?_ _ | refine blk_drew ?_ | refine blk_alloc ?_ _)); refine blk_put (cs := #[.int .i64 ((rd_T25 l0 x3_1).f0), .int .i64 ((rd_T25 l0 x3_1).f1), .int .i64 0, .int .u64 0, .int .u64 0]) ?_ 2 _ rfl; (with_reducible repeat (first | refine blk_drewN ?_ _ | refine blk_drew ?_ | refine blk_alloc ?_ _)); refine blk_put (cs := #[.int .i64 ((rd_T25 l0 x3_1).f0), .int .i64 0, .int .i64 0, .int .u64 0, .int .u64 0]) ?_ 1 _ rfl; (with_reducible repeat (first | refine blk_drewN ?_ _ | refine blk_drew ?_ | refine blk_alloc ?_ _)); refine blk_put (cs := #[.int .i64 0, .int .i64 0, .int .i64 0, .int .u64 0, .int .u64 0]) ?_ 0 _ rfl; (with_reducible repeat (first | refine blk_drewN ?_ _ | refine blk_drew ?_ | refine blk_alloc ?_ _)); exact BK153.out) | exact BK153.out | ((with_reducible repeat (first | refine blk_drewN ?_ _ | refine blk_drew ?_ | refine blk_alloc ?_ _)); exact BK153.out)) hb); have n1_ := Aside0.mk (below_step (by repeat (first | (with_reducible first | exact HB.out | apply below_alloc | apply pw_below_drewN | apply below_drew1 | refine below_set ?_ GE153.out) | exact HB.out)) hb); clear BK153; clear HB; have BK153 := n0_; have HB := n1_; clear n0_ n1_; (try clear hb); (try clear hb2); (try clear hk); (try clear hi)) | (go_at_call 16; (with_reducible refine (gantrylaw1_bin.calls kj1 1 (wrap64 (2 + (wrap64 (Int.tmod (IntKind.u64.wrap ((rd_T25 l0 x3_1).f1)) 8)))) t155 t154 t158 _ A14.out).mono ?_); rintro e w49 ⟨rfl, hb⟩; have n0_ := Aside0.mk (blk_below (g := gb153) (o := .cells #[.int .i64 ((rd_T25 l0 x3_1).f0), .int .i64 ((rd_T25 l0 x3_1).f1), .int .i64 ((rd_T25 l0 x3_1).f2), .int .u64 ((rd_T25 l0 x3_1).f3), .int .u64 ((rd_T25 l0 x3_1).f4)] 25 (0, 0)) (by (with_reducible repeat (first | refine blk_drewN ?_ _ | refine blk_drew ?_ | refine blk_alloc ?_ _)); exact BK153.out) hb); have n1_ := Aside0.mk (below_step (by repeat (first | (with_reducible first | exact HB.out | apply below_alloc | apply pw_below_drewN | apply below_drew1 | refine below_set ?_ GE153.out) | exact HB.out)) hb); clear BK153; clear HB; have BK153 := n0_; have HB := n1_; clear n0_ n1_; (try clear hb); (try clear hb2); (try clear hk); (try clear hi)))
                      go_meet
                      case rel => exact ⟨_, (true), (by first | rfl | (simp; done) | (simp [*]; done)), H', ⟨by have := HK1.out; have := HJ1.out; first | omega | exact Nat.le_refl _⟩, ⟨by (with_reducible repeat (first | refine blk_drewN ?_ _ | refine blk_drew ?_ | refine blk_alloc ?_ _)); exact BK153.out⟩, ⟨by repeat (first | (with_reducible first | exact HB.out | apply below_alloc | apply pw_below_drewN | apply below_drew1 | refine below_set ?_ GE153.out) | exact HB.out)⟩⟩
                case rest =>
                  clear HC10
                  try clear c1
                  try clear p1
                  try clear q1
                  try clear hx1
                  try clear c2
                  try clear p2
                  try clear c3
                  try clear c3b0
                  try clear c4
                  try clear c5
                  try clear c5b0
                  try clear c6
                  try clear c6b0
                  try clear p6
                  try clear c15
                  try clear c15b0
                  try clear c15b1
                  try clear p15
                  try clear q15
                  try clear hx15
                  try clear c18
                  try clear c18b0
                  try clear c18b1
                  try clear c23
                  try clear c23b0
                  try clear c23b1
                  try clear hcz12_0
                  try clear hcz12_1
                  try clear hcz12_2
                  try clear hcz12_3
                  try clear hcz12_4
                  try clear hfz12_0
                  try clear hfz12_1
                  try clear hfz12_2
                  try clear hfz12_3
                  try clear hfz12_4
                  try clear hx152_0
                  try clear hx152_1
                  try clear hx152_2
                  try clear hx152_3
                  try clear hx152_4
                  try clear p152
                  try clear p2
                  try clear q152
                  obtain ⟨kq, x109_9, rfl, HA, HJ9, BK153, HB⟩ := hcut
                  cases kq with
                  | zero => exact absurd HA.out (by simp [gantrylaw1_WordLaws.j2])
                  | succ kj9 =>
                    have H := HA.out
                    clear HA
                    simp only [gantrylaw1_WordLaws.j2] at H
                    by_cases c50 : x109_9 = true
                    · subst c50
                      have H1 : (some false) = some r := by rw [if_pos rfl] at H; exact H
                      clear H
                      have H := H1
                      clear H1
                      as_aux_lemma =>
                        obtain rfl := Option.some.inj H
                        go_wp2
                        go_ret
                        exact ⟨by first | rfl | (simp [errW_none, errW_some] <;> rfl) | (simp [*, errW_none, errW_some] <;> rfl), by repeat (first | (with_reducible first | exact HB.out | apply below_alloc | apply pw_below_drewN | apply below_drew1 | refine below_set ?_ GE153.out) | exact HB.out)⟩
                    · replace c50 := Bool.eq_false_iff.mpr c50
                      subst c50
                      have H1 : ((word_Un.f kj9 1 (wrap64 (2 + (wrap64 (Int.tmod (IntKind.u64.wrap ((rd_T25 l0 x3_1).f1)) 8)))) t155).bind fun bt167 => ((word_Un.f kj9 3 (wrap64 (2 + (wrap64 (Int.tmod (IntKind.u64.wrap ((rd_T25 l0 x3_1).f1)) 8)))) t154).bind fun bt169 => ((gantrylaw1_bin.f kj9 2 (wrap64 (2 + (wrap64 (Int.tmod (IntKind.u64.wrap ((rd_T25 l0 x3_1).f1)) 8)))) t154 t155).bind fun t171 => ((gantrylaw1_bin.f kj9 1 (wrap64 (2 + (wrap64 (Int.tmod (IntKind.u64.wrap ((rd_T25 l0 x3_1).f1)) 8)))) t154 bt167.1).bind fun t172 => (if t171 = t172 then ((gantrylaw1_bin.f kj9 8 (wrap64 (2 + (wrap64 (Int.tmod (IntKind.u64.wrap ((rd_T25 l0 x3_1).f1)) 8)))) t154 bt169.1).bind fun t173 => ((word_Canon.f kj9 (wrap64 (2 + (wrap64 (Int.tmod (IntKind.u64.wrap ((rd_T25 l0 x3_1).f1)) 8)))) 18446744073709551615).bind fun t174 => (if t173 = t174 then ((gantrylaw1_bin.f kj9 6 (wrap64 (2 + (wrap64 (Int.tmod (IntKind.u64.wrap ((rd_T25 l0 x3_1).f1)) 8)))) t154 bt169.1).bind fun t175 => (if t175 = 0 then ((gantrylaw1_bin.f kj9 6 (wrap64 (2 + (wrap64 (Int.tmod (IntKind.u64.wrap ((rd_T25 l0 x3_1).f1)) 8)))) t154 t155).bind fun t176 => ((gantrylaw1_bin.f kj9 8 (wrap64 (2 + (wrap64 (Int.tmod (IntKind.u64.wrap ((rd_T25 l0 x3_1).f1)) 8)))) t154 t155).bind fun t177 => ((gantrylaw1_bin.f kj9 7 (wrap64 (2 + (wrap64 (Int.tmod (IntKind.u64.wrap ((rd_T25 l0 x3_1).f1)) 8)))) t176 t177).bind fun t178 => ((gantrylaw1_bin.f kj9 7 (wrap64 (2 + (wrap64 (Int.tmod (IntKind.u64.wrap ((rd_T25 l0 x3_1).f1)) 8)))) t154 t155).bind fun t179 => (gantrylaw1_WordLaws.j3 kj9 l0 x3_1 (wrap64 (2 + (wrap64 (Int.tmod (IntKind.u64.wrap ((rd_T25 l0 x3_1).f1)) 8)))) t154 t155 (t178 != t179)))))) else (gantrylaw1_WordLaws.j3 kj9 l0 x3_1 (wrap64 (2 + (wrap64 (Int.tmod (IntKind.u64.wrap ((rd_T25 l0 x3_1).f1)) 8)))) t154 t155 true))) else (gantrylaw1_WordLaws.j3 kj9 l0 x3_1 (wrap64 (2 + (wrap64 (Int.tmod (IntKind.u64.wrap ((rd_T25 l0 x3_1).f1)) 8)))) t154 t155 true)))) else (gantrylaw1_WordLaws.j3 kj9 l0 x3_1 (wrap64 (2 + (wrap64 (Int.tmod (IntKind.u64.wrap ((rd_T25 l0 x3_1).f1)) 8)))) t154 t155 true)))))) = some r := by rw [if_neg (show ¬ (false = true) by decide)] at H; exact H
                      clear H
                      have H := H1
                      clear H1
                      replace H := Option.bind_eq_some_iff.mp H
                      obtain ⟨⟨t167, t168⟩, A510, H⟩ := H
                      replace H : ((word_Un.f kj9 3 (wrap64 (2 + (wrap64 (Int.tmod (IntKind.u64.wrap ((rd_T25 l0 x3_1).f1)) 8)))) t154).bind fun bt169 => ((gantrylaw1_bin.f kj9 2 (wrap64 (2 + (wrap64 (Int.tmod (IntKind.u64.wrap ((rd_T25 l0 x3_1).f1)) 8)))) t154 t155).bind fun t171 => ((gantrylaw1_bin.f kj9 1 (wrap64 (2 + (wrap64 (Int.tmod (IntKind.u64.wrap ((rd_T25 l0 x3_1).f1)) 8)))) t154 t167).bind fun t172 => (if t171 = t172 then ((gantrylaw1_bin.f kj9 8 (wrap64 (2 + (wrap64 (Int.tmod (IntKind.u64.wrap ((rd_T25 l0 x3_1).f1)) 8)))) t154 bt169.1).bind fun t173 => ((word_Canon.f kj9 (wrap64 (2 + (wrap64 (Int.tmod (IntKind.u64.wrap ((rd_T25 l0 x3_1).f1)) 8)))) 18446744073709551615).bind fun t174 => (if t173 = t174 then ((gantrylaw1_bin.f kj9 6 (wrap64 (2 + (wrap64 (Int.tmod (IntKind.u64.wrap ((rd_T25 l0 x3_1).f1)) 8)))) t154 bt169.1).bind fun t175 => (if t175 = 0 then ((gantrylaw1_bin.f kj9 6 (wrap64 (2 + (wrap64 (Int.tmod (IntKind.u64.wrap ((rd_T25 l0 x3_1).f1)) 8)))) t154 t155).bind fun t176 => ((gantrylaw1_bin.f kj9 8 (wrap64 (2 + (wrap64 (Int.tmod (IntKind.u64.wrap ((rd_T25 l0 x3_1).f1)) 8)))) t154 t155).bind fun t177 => ((gantrylaw1_bin.f kj9 7 (wrap64 (2 + (wrap64 (Int.tmod (IntKind.u64.wrap ((rd_T25 l0 x3_1).f1)) 8)))) t176 t177).bind fun t178 => ((gantrylaw1_bin.f kj9 7 (wrap64 (2 + (wrap64 (Int.tmod (IntKind.u64.wrap ((rd_T25 l0 x3_1).f1)) 8)))) t154 t155).bind fun t179 => (gantrylaw1_WordLaws.j3 kj9 l0 x3_1 (wrap64 (2 + (wrap64 (Int.tmod (IntKind.u64.wrap ((rd_T25 l0 x3_1).f1)) 8)))) t154 t155 (t178 != t179)))))) else (gantrylaw1_WordLaws.j3 kj9 l0 x3_1 (wrap64 (2 + (wrap64 (Int.tmod (IntKind.u64.wrap ((rd_T25 l0 x3_1).f1)) 8)))) t154 t155 true))) else (gantrylaw1_WordLaws.j3 kj9 l0 x3_1 (wrap64 (2 + (wrap64 (Int.tmod (IntKind.u64.wrap ((rd_T25 l0 x3_1).f1)) 8)))) t154 t155 true)))) else (gantrylaw1_WordLaws.j3 kj9 l0 x3_1 (wrap64 (2 + (wrap64 (Int.tmod (IntKind.u64.wrap ((rd_T25 l0 x3_1).f1)) 8)))) t154 t155 true))))) = some r := H
                      have A51 := Aside0.mk A510
                      clear A510
                      replace H := Option.bind_eq_some_iff.mp H
                      obtain ⟨⟨t169, t170⟩, A520, H⟩ := H
                      replace H : ((gantrylaw1_bin.f kj9 2 (wrap64 (2 + (wrap64 (Int.tmod (IntKind.u64.wrap ((rd_T25 l0 x3_1).f1)) 8)))) t154 t155).bind fun t171 => ((gantrylaw1_bin.f kj9 1 (wrap64 (2 + (wrap64 (Int.tmod (IntKind.u64.wrap ((rd_T25 l0 x3_1).f1)) 8)))) t154 t167).bind fun t172 => (if t171 = t172 then ((gantrylaw1_bin.f kj9 8 (wrap64 (2 + (wrap64 (Int.tmod (IntKind.u64.wrap ((rd_T25 l0 x3_1).f1)) 8)))) t154 t169).bind fun t173 => ((word_Canon.f kj9 (wrap64 (2 + (wrap64 (Int.tmod (IntKind.u64.wrap ((rd_T25 l0 x3_1).f1)) 8)))) 18446744073709551615).bind fun t174 => (if t173 = t174 then ((gantrylaw1_bin.f kj9 6 (wrap64 (2 + (wrap64 (Int.tmod (IntKind.u64.wrap ((rd_T25 l0 x3_1).f1)) 8)))) t154 t169).bind fun t175 => (if t175 = 0 then ((gantrylaw1_bin.f kj9 6 (wrap64 (2 + (wrap64 (Int.tmod (IntKind.u64.wrap ((rd_T25 l0 x3_1).f1)) 8)))) t154 t155).bind fun t176 => ((gantrylaw1_bin.f kj9 8 (wrap64 (2 + (wrap64 (Int.tmod (IntKind.u64.wrap ((rd_T25 l0 x3_1).f1)) 8)))) t154 t155).bind fun t177 => ((gantrylaw1_bin.f kj9 7 (wrap64 (2 + (wrap64 (Int.tmod (IntKind.u64.wrap ((rd_T25 l0 x3_1).f1)) 8)))) t176 t177).bind fun t178 => ((gantrylaw1_bin.f kj9 7 (wrap64 (2 + (wrap64 (Int.tmod (IntKind.u64.wrap ((rd_T25 l0 x3_1).f1)) 8)))) t154 t155).bind fun t179 => (gantrylaw1_WordLaws.j3 kj9 l0 x3_1 (wrap64 (2 + (wrap64 (Int.tmod (IntKind.u64.wrap ((rd_T25 l0 x3_1).f1)) 8)))) t154 t155 (t178 != t179)))))) else (gantrylaw1_WordLaws.j3 kj9 l0 x3_1 (wrap64 (2 + (wrap64 (Int.tmod (IntKind.u64.wrap ((rd_T25 l0 x3_1).f1)) 8)))) t154 t155 true))) else (gantrylaw1_WordLaws.j3 kj9 l0 x3_1 (wrap64 (2 + (wrap64 (Int.tmod (IntKind.u64.wrap ((rd_T25 l0 x3_1).f1)) 8)))) t154 t155 true)))) else (gantrylaw1_WordLaws.j3 kj9 l0 x3_1 (wrap64 (2 + (wrap64 (Int.tmod (IntKind.u64.wrap ((rd_T25 l0 x3_1).f1)) 8)))) t154 t155 true)))) = some r := H
                      have A52 := Aside0.mk A520
                      clear A520
                      have HC53 := Aside0.mk H
                      clear H
                      go_upto_region 13 with (first | (go_at_call 19; (with_reducible refine (word_Un.calls kj9 1 (wrap64 (2 + (wrap64 (Int.tmod (IntKind.u64.wrap ((rd_T25 l0 x3_1).f1)) 8)))) t155 t167 t168 _ A51.out).mono ?_); rintro e w' ⟨rfl, ⟨nd, rfl⟩⟩) | (go_at_call 19; (with_reducible refine (word_Un.calls kj9 3 (wrap64 (2 + (wrap64 (Int.tmod (IntKind.u64.wrap ((rd_T25 l0 x3_1).f1)) 8)))) t154 t169 t170 _ A52.out).mono ?_); rintro e w' ⟨rfl, ⟨nd, rfl⟩⟩))
                      (try simp only [Act.put, List.setIfInBounds_toArray, List.set_cons_zero, List.set_cons_succ])
                      go_cut [163] (fun v163 wc => ∃ (kq : Nat) (x163_52 : Bool), v163 = .bool x163_52 ∧ Aside0 (gantrylaw1_WordLaws.j3 kq l0 x3_1 (wrap64 (2 + (wrap64 (Int.tmod (IntKind.u64.wrap ((rd_T25 l0 x3_1).f1)) 8)))) t154 t155 x163_52 = some r) ∧ Aside0 (kq ≤ kj9) ∧ Aside0 (wc.heap[gb153]? = some (.cells #[.int .i64 ((rd_T25 l0 x3_1).f0), .int .i64 ((rd_T25 l0 x3_1).f1), .int .i64 ((rd_T25 l0 x3_1).f2), .int .u64 ((rd_T25 l0 x3_1).f3), .int .u64 ((rd_T25 l0 x3_1).f4)] 25 (0, 0))) ∧ Aside0 (Below w.heap.size w wc))
                      case first =>
                        have H := HC53.out
                        clear HC53
                        replace H := Option.bind_eq_some_iff.mp H
                        obtain ⟨t171, A540, H⟩ := H
                        replace H : ((gantrylaw1_bin.f kj9 1 (wrap64 (2 + (wrap64 (Int.tmod (IntKind.u64.wrap ((rd_T25 l0 x3_1).f1)) 8)))) t154 t167).bind fun t172 => (if t171 = t172 then ((gantrylaw1_bin.f kj9 8 (wrap64 (2 + (wrap64 (Int.tmod (IntKind.u64.wrap ((rd_T25 l0 x3_1).f1)) 8)))) t154 t169).bind fun t173 => ((word_Canon.f kj9 (wrap64 (2 + (wrap64 (Int.tmod (IntKind.u64.wrap ((rd_T25 l0 x3_1).f1)) 8)))) 18446744073709551615).bind fun t174 => (if t173 = t174 then ((gantrylaw1_bin.f kj9 6 (wrap64 (2 + (wrap64 (Int.tmod (IntKind.u64.wrap ((rd_T25 l0 x3_1).f1)) 8)))) t154 t169).bind fun t175 => (if t175 = 0 then ((gantrylaw1_bin.f kj9 6 (wrap64 (2 + (wrap64 (Int.tmod (IntKind.u64.wrap ((rd_T25 l0 x3_1).f1)) 8)))) t154 t155).bind fun t176 => ((gantrylaw1_bin.f kj9 8 (wrap64 (2 + (wrap64 (Int.tmod (IntKind.u64.wrap ((rd_T25 l0 x3_1).f1)) 8)))) t154 t155).bind fun t177 => ((gantrylaw1_bin.f kj9 7 (wrap64 (2 + (wrap64 (Int.tmod (IntKind.u64.wrap ((rd_T25 l0 x3_1).f1)) 8)))) t176 t177).bind fun t178 => ((gantrylaw1_bin.f kj9 7 (wrap64 (2 + (wrap64 (Int.tmod (IntKind.u64.wrap ((rd_T25 l0 x3_1).f1)) 8)))) t154 t155).bind fun t179 => (gantrylaw1_WordLaws.j3 kj9 l0 x3_1 (wrap64 (2 + (wrap64 (Int.tmod (IntKind.u64.wrap ((rd_T25 l0 x3_1).f1)) 8)))) t154 t155 (t178 != t179)))))) else (gantrylaw1_WordLaws.j3 kj9 l0 x3_1 (wrap64 (2 + (wrap64 (Int.tmod (IntKind.u64.wrap ((rd_T25 l0 x3_1).f1)) 8)))) t154 t155 true))) else (gantrylaw1_WordLaws.j3 kj9 l0 x3_1 (wrap64 (2 + (wrap64 (Int.tmod (IntKind.u64.wrap ((rd_T25 l0 x3_1).f1)) 8)))) t154 t155 true)))) else (gantrylaw1_WordLaws.j3 kj9 l0 x3_1 (wrap64 (2 + (wrap64 (Int.tmod (IntKind.u64.wrap ((rd_T25 l0 x3_1).f1)) 8)))) t154 t155 true))) = some r := H
                        have A54 := Aside0.mk A540
                        clear A540
                        replace H := Option.bind_eq_some_iff.mp H
                        obtain ⟨t172, A550, H⟩ := H
                        replace H : (if t171 = t172 then ((gantrylaw1_bin.f kj9 8 (wrap64 (2 + (wrap64 (Int.tmod (IntKind.u64.wrap ((rd_T25 l0 x3_1).f1)) 8)))) t154 t169).bind fun t173 => ((word_Canon.f kj9 (wrap64 (2 + (wrap64 (Int.tmod (IntKind.u64.wrap ((rd_T25 l0 x3_1).f1)) 8)))) 18446744073709551615).bind fun t174 => (if t173 = t174 then ((gantrylaw1_bin.f kj9 6 (wrap64 (2 + (wrap64 (Int.tmod (IntKind.u64.wrap ((rd_T25 l0 x3_1).f1)) 8)))) t154 t169).bind fun t175 => (if t175 = 0 then ((gantrylaw1_bin.f kj9 6 (wrap64 (2 + (wrap64 (Int.tmod (IntKind.u64.wrap ((rd_T25 l0 x3_1).f1)) 8)))) t154 t155).bind fun t176 => ((gantrylaw1_bin.f kj9 8 (wrap64 (2 + (wrap64 (Int.tmod (IntKind.u64.wrap ((rd_T25 l0 x3_1).f1)) 8)))) t154 t155).bind fun t177 => ((gantrylaw1_bin.f kj9 7 (wrap64 (2 + (wrap64 (Int.tmod (IntKind.u64.wrap ((rd_T25 l0 x3_1).f1)) 8)))) t176 t177).bind fun t178 => ((gantrylaw1_bin.f kj9 7 (wrap64 (2 + (wrap64 (Int.tmod (IntKind.u64.wrap ((rd_T25 l0 x3_1).f1)) 8)))) t154 t155).bind fun t179 => (gantrylaw1_WordLaws.j3 kj9 l0 x3_1 (wrap64 (2 + (wrap64 (Int.tmod (IntKind.u64.wrap ((rd_T25 l0 x3_1).f1)) 8)))) t154 t155 (t178 != t179)))))) else (gantrylaw1_WordLaws.j3 kj9 l0 x3_1 (wrap64 (2 + (wrap64 (Int.tmod (IntKind.u64.wrap ((rd_T25 l0 x3_1).f1)) 8)))) t154 t155 true))) else (gantrylaw1_WordLaws.j3 kj9 l0 x3_1 (wrap64 (2 + (wrap64 (Int.tmod (IntKind.u64.wrap ((rd_T25 l0 x3_1).f1)) 8)))) t154 t155 true)))) else (gantrylaw1_WordLaws.j3 kj9 l0 x3_1 (wrap64 (2 + (wrap64 (Int.tmod (IntKind.u64.wrap ((rd_T25 l0 x3_1).f1)) 8)))) t154 t155 true)) = some r := H
                        have A55 := Aside0.mk A550
                        clear A550
                        by_cases c56 : t171 = t172
                        · rw [if_pos c56] at H
                          have c56b0 : (t171 == t172) = true := beq_iff_eq.mpr c56
                          have c56b1 : (t171 != t172) = false := bne_eq_false_iff_eq.mpr c56
                          clear c56
                          (first | rw [c56b0] | (simp only [i64_w, i32_w]; rw [c56b0]) | skip)
                          replace H := Option.bind_eq_some_iff.mp H
                          obtain ⟨t173, A570, H⟩ := H
                          replace H : ((word_Canon.f kj9 (wrap64 (2 + (wrap64 (Int.tmod (IntKind.u64.wrap ((rd_T25 l0 x3_1).f1)) 8)))) 18446744073709551615).bind fun t174 => (if t173 = t174 then ((gantrylaw1_bin.f kj9 6 (wrap64 (2 + (wrap64 (Int.tmod (IntKind.u64.wrap ((rd_T25 l0 x3_1).f1)) 8)))) t154 t169).bind fun t175 => (if t175 = 0 then ((gantrylaw1_bin.f kj9 6 (wrap64 (2 + (wrap64 (Int.tmod (IntKind.u64.wrap ((rd_T25 l0 x3_1).f1)) 8)))) t154 t155).bind fun t176 => ((gantrylaw1_bin.f kj9 8 (wrap64 (2 + (wrap64 (Int.tmod (IntKind.u64.wrap ((rd_T25 l0 x3_1).f1)) 8)))) t154 t155).bind fun t177 => ((gantrylaw1_bin.f kj9 7 (wrap64 (2 + (wrap64 (Int.tmod (IntKind.u64.wrap ((rd_T25 l0 x3_1).f1)) 8)))) t176 t177).bind fun t178 => ((gantrylaw1_bin.f kj9 7 (wrap64 (2 + (wrap64 (Int.tmod (IntKind.u64.wrap ((rd_T25 l0 x3_1).f1)) 8)))) t154 t155).bind fun t179 => (gantrylaw1_WordLaws.j3 kj9 l0 x3_1 (wrap64 (2 + (wrap64 (Int.tmod (IntKind.u64.wrap ((rd_T25 l0 x3_1).f1)) 8)))) t154 t155 (t178 != t179)))))) else (gantrylaw1_WordLaws.j3 kj9 l0 x3_1 (wrap64 (2 + (wrap64 (Int.tmod (IntKind.u64.wrap ((rd_T25 l0 x3_1).f1)) 8)))) t154 t155 true))) else (gantrylaw1_WordLaws.j3 kj9 l0 x3_1 (wrap64 (2 + (wrap64 (Int.tmod (IntKind.u64.wrap ((rd_T25 l0 x3_1).f1)) 8)))) t154 t155 true))) = some r := H
                          have A57 := Aside0.mk A570
                          clear A570
                          replace H := Option.bind_eq_some_iff.mp H
                          obtain ⟨t174, A580, H⟩ := H
                          replace H : (if t173 = t174 then ((gantrylaw1_bin.f kj9 6 (wrap64 (2 + (wrap64 (Int.tmod (IntKind.u64.wrap ((rd_T25 l0 x3_1).f1)) 8)))) t154 t169).bind fun t175 => (if t175 = 0 then ((gantrylaw1_bin.f kj9 6 (wrap64 (2 + (wrap64 (Int.tmod (IntKind.u64.wrap ((rd_T25 l0 x3_1).f1)) 8)))) t154 t155).bind fun t176 => ((gantrylaw1_bin.f kj9 8 (wrap64 (2 + (wrap64 (Int.tmod (IntKind.u64.wrap ((rd_T25 l0 x3_1).f1)) 8)))) t154 t155).bind fun t177 => ((gantrylaw1_bin.f kj9 7 (wrap64 (2 + (wrap64 (Int.tmod (IntKind.u64.wrap ((rd_T25 l0 x3_1).f1)) 8)))) t176 t177).bind fun t178 => ((gantrylaw1_bin.f kj9 7 (wrap64 (2 + (wrap64 (Int.tmod (IntKind.u64.wrap ((rd_T25 l0 x3_1).f1)) 8)))) t154 t155).bind fun t179 => (gantrylaw1_WordLaws.j3 kj9 l0 x3_1 (wrap64 (2 + (wrap64 (Int.tmod (IntKind.u64.wrap ((rd_T25 l0 x3_1).f1)) 8)))) t154 t155 (t178 != t179)))))) else (gantrylaw1_WordLaws.j3 kj9 l0 x3_1 (wrap64 (2 + (wrap64 (Int.tmod (IntKind.u64.wrap ((rd_T25 l0 x3_1).f1)) 8)))) t154 t155 true))) else (gantrylaw1_WordLaws.j3 kj9 l0 x3_1 (wrap64 (2 + (wrap64 (Int.tmod (IntKind.u64.wrap ((rd_T25 l0 x3_1).f1)) 8)))) t154 t155 true)) = some r := H
                          have A58 := Aside0.mk A580
                          clear A580
                          by_cases c59 : t173 = t174
                          · rw [if_pos c59] at H
                            have c59b0 : (t173 == t174) = true := beq_iff_eq.mpr c59
                            have c59b1 : (t173 != t174) = false := bne_eq_false_iff_eq.mpr c59
                            clear c59
                            replace H := Option.bind_eq_some_iff.mp H
                            obtain ⟨t175, A600, H⟩ := H
                            replace H : (if t175 = 0 then ((gantrylaw1_bin.f kj9 6 (wrap64 (2 + (wrap64 (Int.tmod (IntKind.u64.wrap ((rd_T25 l0 x3_1).f1)) 8)))) t154 t155).bind fun t176 => ((gantrylaw1_bin.f kj9 8 (wrap64 (2 + (wrap64 (Int.tmod (IntKind.u64.wrap ((rd_T25 l0 x3_1).f1)) 8)))) t154 t155).bind fun t177 => ((gantrylaw1_bin.f kj9 7 (wrap64 (2 + (wrap64 (Int.tmod (IntKind.u64.wrap ((rd_T25 l0 x3_1).f1)) 8)))) t176 t177).bind fun t178 => ((gantrylaw1_bin.f kj9 7 (wrap64 (2 + (wrap64 (Int.tmod (IntKind.u64.wrap ((rd_T25 l0 x3_1).f1)) 8)))) t154 t155).bind fun t179 => (gantrylaw1_WordLaws.j3 kj9 l0 x3_1 (wrap64 (2 + (wrap64 (Int.tmod (IntKind.u64.wrap ((rd_T25 l0 x3_1).f1)) 8)))) t154 t155 (t178 != t179)))))) else (gantrylaw1_WordLaws.j3 kj9 l0 x3_1 (wrap64 (2 + (wrap64 (Int.tmod (IntKind.u64.wrap ((rd_T25 l0 x3_1).f1)) 8)))) t154 t155 true)) = some r := H
                            have A60 := Aside0.mk A600
                            clear A600
                            by_cases c61 : t175 = 0
                            · rw [if_pos c61] at H
                              have c61b0 : (t175 == 0) = true := beq_iff_eq.mpr c61
                              have c61b1 : (t175 != 0) = false := bne_eq_false_iff_eq.mpr c61
                              clear c61
                              replace H := Option.bind_eq_some_iff.mp H
                              obtain ⟨t176, A620, H⟩ := H
                              replace H : ((gantrylaw1_bin.f kj9 8 (wrap64 (2 + (wrap64 (Int.tmod (IntKind.u64.wrap ((rd_T25 l0 x3_1).f1)) 8)))) t154 t155).bind fun t177 => ((gantrylaw1_bin.f kj9 7 (wrap64 (2 + (wrap64 (Int.tmod (IntKind.u64.wrap ((rd_T25 l0 x3_1).f1)) 8)))) t176 t177).bind fun t178 => ((gantrylaw1_bin.f kj9 7 (wrap64 (2 + (wrap64 (Int.tmod (IntKind.u64.wrap ((rd_T25 l0 x3_1).f1)) 8)))) t154 t155).bind fun t179 => (gantrylaw1_WordLaws.j3 kj9 l0 x3_1 (wrap64 (2 + (wrap64 (Int.tmod (IntKind.u64.wrap ((rd_T25 l0 x3_1).f1)) 8)))) t154 t155 (t178 != t179))))) = some r := H
                              have A62 := Aside0.mk A620
                              clear A620
                              replace H := Option.bind_eq_some_iff.mp H
                              obtain ⟨t177, A630, H⟩ := H
                              replace H : ((gantrylaw1_bin.f kj9 7 (wrap64 (2 + (wrap64 (Int.tmod (IntKind.u64.wrap ((rd_T25 l0 x3_1).f1)) 8)))) t176 t177).bind fun t178 => ((gantrylaw1_bin.f kj9 7 (wrap64 (2 + (wrap64 (Int.tmod (IntKind.u64.wrap ((rd_T25 l0 x3_1).f1)) 8)))) t154 t155).bind fun t179 => (gantrylaw1_WordLaws.j3 kj9 l0 x3_1 (wrap64 (2 + (wrap64 (Int.tmod (IntKind.u64.wrap ((rd_T25 l0 x3_1).f1)) 8)))) t154 t155 (t178 != t179)))) = some r := H
                              have A63 := Aside0.mk A630
                              clear A630
                              replace H := Option.bind_eq_some_iff.mp H
                              obtain ⟨t178, A640, H⟩ := H
                              replace H : ((gantrylaw1_bin.f kj9 7 (wrap64 (2 + (wrap64 (Int.tmod (IntKind.u64.wrap ((rd_T25 l0 x3_1).f1)) 8)))) t154 t155).bind fun t179 => (gantrylaw1_WordLaws.j3 kj9 l0 x3_1 (wrap64 (2 + (wrap64 (Int.tmod (IntKind.u64.wrap ((rd_T25 l0 x3_1).f1)) 8)))) t154 t155 (t178 != t179))) = some r := H
                              have A64 := Aside0.mk A640
                              clear A640
                              replace H := Option.bind_eq_some_iff.mp H
                              obtain ⟨t179, A650, H⟩ := H
                              replace H : (gantrylaw1_WordLaws.j3 kj9 l0 x3_1 (wrap64 (2 + (wrap64 (Int.tmod (IntKind.u64.wrap ((rd_T25 l0 x3_1).f1)) 8)))) t154 t155 (t178 != t179)) = some r := H
                              have A65 := Aside0.mk A650
                              clear A650
                              as_aux_lemma =>
                                have H' := Aside0.mk H
                                clear H
                                go_wp2_with (first | (go_at_call 16; (with_reducible refine (gantrylaw1_bin.calls kj9 2 (wrap64 (2 + (wrap64 (Int.tmod (IntKind.u64.wrap ((rd_T25 l0 x3_1).f1)) 8)))) t154 t155 t171 _ A54.out).mono ?_); rintro e w66 ⟨rfl, hb⟩; have n0_ := Aside0.mk (blk_below (g := gb153) (o := .cells #[.int .i64 ((rd_T25 l0 x3_1).f0), .int .i64 ((rd_T25 l0 x3_1).f1), .int .i64 ((rd_T25 l0 x3_1).f2), .int .u64 ((rd_T25 l0 x3_1).f3), .int .u64 ((rd_T25 l0 x3_1).f4)] 25 (0, 0)) (by (with_reducible repeat (first | refine blk_drewN ?_ _ | refine blk_drew ?_ | refine blk_alloc ?_ _)); exact BK153.out) hb); have n1_ := Aside0.mk (below_step (by repeat (first | (with_reducible first | exact HB.out | apply below_alloc | apply pw_below_drewN | apply below_drew1 | refine below_set ?_ GE153.out) | exact HB.out)) hb); clear BK153; clear HB; have BK153 := n0_; have HB := n1_; clear n0_ n1_; (try clear hb); (try clear hb2); (try clear hk); (try clear hi)) | (go_at_call 16; (with_reducible refine (gantrylaw1_bin.calls kj9 1 (wrap64 (2 + (wrap64 (Int.tmod (IntKind.u64.wrap ((rd_T25 l0 x3_1).f1)) 8)))) t154 t167 t172 _ A55.out).mono ?_); rintro e w67 ⟨rfl, hb⟩; have n0_ := Aside0.mk (blk_below (g := gb153) (o := .cells #[.int .i64 ((rd_T25 l0 x3_1).f0), .int .i64 ((rd_T25 l0 x3_1).f1), .int .i64 ((rd_T25 l0 x3_1).f2), .int .u64 ((rd_T25 l0 x3_1).f3), .int .u64 ((rd_T25 l0 x3_1).f4)] 25 (0, 0)) (by (with_reducible repeat (first | refine blk_drewN ?_ _ | refine blk_drew ?_ | refine blk_alloc ?_ _)); exact BK153.out) hb); have n1_ := Aside0.mk (below_step (by repeat (first | (with_reducible first | exact HB.out | apply below_alloc | apply pw_below_drewN | apply below_drew1 | refine below_set ?_ GE153.out) | exact HB.out)) hb); clear BK153; clear HB; have BK153 := n0_; have HB := n1_; clear n0_ n1_; (try clear hb); (try clear hb2); (try clear hk); (try clear hi)) | (go_at_call 16; (with_reducible refine (gantrylaw1_bin.calls kj9 8 (wrap64 (2 + (wrap64 (Int.tmod (IntKind.u64.wrap ((rd_T25 l0 x3_1).f1)) 8)))) t154 t169 t173 _ A57.out).mono ?_); rintro e w68 ⟨rfl, hb⟩; have n0_ := Aside0.mk (blk_below (g := gb153) (o := .cells #[.int .i64 ((rd_T25 l0 x3_1).f0), .int .i64 ((rd_T25 l0 x3_1).f1), .int .i64 ((rd_T25 l0 x3_1).f2), .int .u64 ((rd_T25 l0 x3_1).f3), .int .u64 ((rd_T25 l0 x3_1).f4)] 25 (0, 0)) (by (with_reducible repeat (first | refine blk_drewN ?_ _ | refine blk_drew ?_ | refine blk_alloc ?_ _)); exact BK153.out) hb); have n1_ := Aside0.mk (below_step (by repeat (first | (with_reducible first | exact HB.out | apply below_alloc | apply pw_below_drewN | apply below_drew1 | refine below_set ?_ GE153.out) | exact HB.out)) hb); clear BK153; clear HB; have BK153 := n0_; have HB := n1_; clear n0_ n1_; (try clear hb); (try clear hb2); (try clear hk); (try clear hi)) | (go_at_call 15; (with_reducible refine (word_Canon.calls kj9 (wrap64 (2 + (wrap64 (Int.tmod (IntKind.u64.wrap ((rd_T25 l0 x3_1).f1)) 8)))) 18446744073709551615 t174 _ A58.out).mono ?_); rintro e w' ⟨rfl, ⟨nd, rfl⟩⟩) | (go_at_call 16; (with_reducible refine (gantrylaw1_bin.calls kj9 6 (wrap64 (2 + (wrap64 (Int.tmod (IntKind.u64.wrap ((rd_T25 l0 x3_1).f1)) 8)))) t154 t169 t175 _ A60.out).mono ?_); rintro e w69 ⟨rfl, hb⟩; have n0_ := Aside0.mk (blk_below (g := gb153) (o := .cells #[.int .i64 ((rd_T25 l0 x3_1).f0), .int .i64 ((rd_T25 l0 x3_1).f1), .int .i64 ((rd_T25 l0 x3_1).f2), .int .u64 ((rd_T25 l0 x3_1).f3), .int .u64 ((rd_T25 l0 x3_1).f4)] 25 (0, 0)) (by (with_reducible repeat (first | refine blk_drewN ?_ _ | refine blk_drew ?_ | refine blk_alloc ?_ _)); exact BK153.out) hb); have n1_ := Aside0.mk (below_step (by repeat (first | (with_reducible first | exact HB.out | apply below_alloc | apply pw_below_drewN | apply below_drew1 | refine below_set ?_ GE153.out) | exact HB.out)) hb); clear BK153; clear HB; have BK153 := n0_; have HB := n1_; clear n0_ n1_; (try clear hb); (try clear hb2); (try clear hk); (try clear hi)) | (go_at_call 16; (with_reducible refine (gantrylaw1_bin.calls kj9 6 (wrap64 (2 + (wrap64 (Int.tmod (IntKind.u64.wrap ((rd_T25 l0 x3_1).f1)) 8)))) t154 t155 t176 _ A62.out).mono ?_); rintro e w70 ⟨rfl, hb⟩; have n0_ := Aside0.mk (blk_below (g := gb153) (o := .cells #[.int .i64 ((rd_T25 l0 x3_1).f0), .int .i64 ((rd_T25 l0 x3_1).f1), .int .i64 ((rd_T25 l0 x3_1).f2), .int .u64 ((rd_T25 l0 x3_1).f3), .int .u64 ((rd_T25 l0 x3_1).f4)] 25 (0, 0)) (by (with_reducible repeat (first | refine blk_drewN ?_ _ | refine blk_drew ?_ | refine blk_alloc ?_ _)); exact BK153.out) hb); have n1_ := Aside0.mk (below_step (by repeat (first | (with_reducible first | exact HB.out | apply below_alloc | apply pw_below_drewN | apply below_drew1 | refine below_set ?_ GE153.out) | exact HB.out)) hb); clear BK153; clear HB; have BK153 := n0_; have HB := n1_; clear n0_ n1_; (try clear hb); (try clear hb2); (try clear hk); (try clear hi)) | (go_at_call 16; (with_reducible refine (gantrylaw1_bin.calls kj9 8 (wrap64 (2 + (wrap64 (Int.tmod (IntKind.u64.wrap ((rd_T25 l0 x3_1).f1)) 8)))) t154 t155 t177 _ A63.out).mono ?_); rintro e w71 ⟨rfl, hb⟩; have n0_ := Aside0.mk (blk_below (g := gb153) (o := .cells #[.int .i64 ((rd_T25 l0 x3_1).f0), .int .i64 ((rd_T25 l0 x3_1).f1), .int .i64 ((rd_T25 l0 x3_1).f2), .int .u64 ((rd_T25 l0 x3_1).f3), .int .u64 ((rd_T25 l0 x3_1).f4)] 25 (0, 0)) (by (with_reducible repeat (first | refine blk_drewN ?_ _ | refine blk_drew ?_ | refine blk_alloc ?_ _)); exact BK153.out) hb); have n1_ := Aside0.mk (below_step (by repeat (first | (with_reducible first | exact HB.out | apply below_alloc | apply pw_below_drewN | apply below_drew1 | refine below_set ?_ GE153.out) | exact HB.out)) hb); clear BK153; clear HB; have BK153 := n0_; have HB := n1_; clear n0_ n1_; (try clear hb); (try clear hb2); (try clear hk); (try clear hi)) | (go_at_call 16; (with_reducible refine (gantrylaw1_bin.calls kj9 7 (wrap64 (2 + (wrap64 (Int.tmod (IntKind.u64.wrap ((rd_T25 l0 x3_1).f1)) 8)))) t176 t177 t178 _ A64.out).mono ?_); rintro e w72 ⟨rfl, hb⟩; have n0_ := Aside0.mk (blk_below (g := gb153) (o := .cells #[.int .i64 ((rd_T25 l0 x3_1).f0), .int .i64 ((rd_T25 l0 x3_1).f1), .int .i64 ((rd_T25 l0 x3_1).f2), .int .u64 ((rd_T25 l0 x3_1).f3), .int .u64 ((rd_T25 l0 x3_1).f4)] 25 (0, 0)) (by (with_reducible repeat (first | refine blk_drewN ?_ _ | refine blk_drew ?_ | refine blk_alloc ?_ _)); exact BK153.out) hb); have n1_ := Aside0.mk (below_step (by repeat (first | (with_reducible first | exact HB.out | apply below_alloc | apply pw_below_drewN | apply below_drew1 | refine below_set ?_ GE153.out) | exact HB.out)) hb); clear BK153; clear HB; have BK153 := n0_; have HB := n1_; clear n0_ n1_; (try clear hb); (try clear hb2); (try clear hk); (try clear hi)) | (go_at_call 16; (with_reducible refine (gantrylaw1_bin.calls kj9 7 (wrap64 (2 + (wrap64 (Int.tmod (IntKind.u64.wrap ((rd_T25 l0 x3_1).f1)) 8)))) t154 t155 t179 _ A65.out).mono ?_); rintro e w73 ⟨rfl, hb⟩; have n0_ := Aside0.mk (blk_below (g := gb153) (o := .cells #[.int .i64 ((rd_T25 l0 x3_1).f0), .int .i64 ((rd_T25 l0 x3_1).f1), .int .i64 ((rd_T25 l0 x3_1).f2), .int .u64 ((rd_T25 l0 x3_1).f3), .int .u64 ((rd_T25 l0 x3_1).f4)] 25 (0, 0)) (by (with_reducible repeat (first | refine blk_drewN ?_ _ | refine blk_drew ?_ | refine blk_alloc ?_ _)); exact BK153.out) hb); have n1_ := Aside0.mk (below_step (by repeat (first | (with_reducible first | exact HB.out | apply below_alloc | apply pw_below_drewN | apply below_drew1 | refine below_set ?_ GE153.out) | exact HB.out)) hb); clear BK153; clear HB; have BK153 := n0_; have HB := n1_; clear n0_ n1_; (try clear hb); (try clear hb2); (try clear hk); (try clear hi)))
                                go_meet
                                case rel => exact ⟨_, ((t178 != t179)), (by first | rfl | (simp; done) | (simp [*]; done)), H', ⟨by have := HK1.out; have := HJ1.out; have := HJ9.out; first | omega | exact Nat.le_refl _⟩, ⟨by (with_reducible repeat (first | refine blk_drewN ?_ _ | refine blk_drew ?_ | refine blk_alloc ?_ _)); exact BK153.out⟩, ⟨by repeat (first | (with_reducible first | exact HB.out | apply below_alloc | apply pw_below_drewN | apply below_drew1 | refine below_set ?_ GE153.out) | exact HB.out)⟩⟩
                            · rw [if_neg c61] at H
                              have c61b0 : (t175 == 0) = false := beq_eq_false_iff_ne.mpr c61
                              have c61b1 : (t175 != 0) = true := bne_iff_ne.mpr c61
                              as_aux_lemma =>
                                have H' := Aside0.mk H
                                clear H
                                go_wp2_with (first | (go_at_call 16; (with_reducible refine (gantrylaw1_bin.calls kj9 2 (wrap64 (2 + (wrap64 (Int.tmod (IntKind.u64.wrap ((rd_T25 l0 x3_1).f1)) 8)))) t154 t155 t171 _ A54.out).mono ?_); rintro e w74 ⟨rfl, hb⟩; have n0_ := Aside0.mk (blk_below (g := gb153) (o := .cells #[.int .i64 ((rd_T25 l0 x3_1).f0), .int .i64 ((rd_T25 l0 x3_1).f1), .int .i64 ((rd_T25 l0 x3_1).f2), .int .u64 ((rd_T25 l0 x3_1).f3), .int .u64 ((rd_T25 l0 x3_1).f4)] 25 (0, 0)) (by (with_reducible repeat (first | refine blk_drewN ?_ _ | refine blk_drew ?_ | refine blk_alloc ?_ _)); exact BK153.out) hb); have n1_ := Aside0.mk (below_step (by repeat (first | (with_reducible first | exact HB.out | apply below_alloc | apply pw_below_drewN | apply below_drew1 | refine below_set ?_ GE153.out) | exact HB.out)) hb); clear BK153; clear HB; have BK153 := n0_; have HB := n1_; clear n0_ n1_; (try clear hb); (try clear hb2); (try clear hk); (try clear hi)) | (go_at_call 16; (with_reducible refine (gantrylaw1_bin.calls kj9 1 (wrap64 (2 + (wrap64 (Int.tmod (IntKind.u64.wrap ((rd_T25 l0 x3_1).f1)) 8)))) t154 t167 t172 _ A55.out).mono ?_); rintro e w75 ⟨rfl, hb⟩; have n0_ := Aside0.mk (blk_below (g := gb153) (o := .cells #[.int .i64 ((rd_T25 l0 x3_1).f0), .int .i64 ((rd_T25 l0 x3_1).f1), .int .i64 ((rd_T25 l0 x3_1).f2), .int .u64 ((rd_T25 l0 x3_1).f3), .int .u64 ((rd_T25 l0 x3_1).f4)] 25 (0, 0)) (by (with_reducible repeat (first | refine blk_drewN ?_ _ | refine blk_drew ?_ | refine blk_alloc ?_ _)); exact BK153.out) hb); have n1_ := Aside0.mk (below_step (by repeat (first | (with_reducible first | exact HB.out | apply below_alloc | apply pw_below_drewN | apply below_drew1 | refine below_set ?_ GE153.out) | exact HB.out)) hb); clear BK153; clear HB; have BK153 := n0_; have HB := n1_; clear n0_ n1_; (try clear hb); (try clear hb2); (try clear hk); (try clear hi)) | (go_at_call 16; (with_reducible refine (gantrylaw1_bin.calls kj9 8 (wrap64 (2 + (wrap64 (Int.tmod (IntKind.u64.wrap ((rd_T25 l0 x3_1).f1)) 8)))) t154 t169 t173 _ A57.out).mono ?_); rintro e w76 ⟨rfl, hb⟩; have n0_ := Aside0.mk (blk_below (g := gb153) (o := .cells #[.int .i64 ((rd_T25 l0 x3_1).f0), .int .i64 ((rd_T25 l0 x3_1).f1), .int .i64 ((rd_T25 l0 x3_1).f2), .int .u64 ((rd_T25 l0 x3_1).f3), .int .u64 ((rd_T25 l0 x3_1).f4)] 25 (0, 0)) (by (with_reducible repeat (first | refine blk_drewN ?_ _ | refine blk_drew ?_ | refine blk_alloc ?_ _)); exact BK153.out) hb); have n1_ := Aside0.mk (below_step (by repeat (first | (with_reducible first | exact HB.out | apply below_alloc | apply pw_below_drewN | apply below_drew1 | refine below_set ?_ GE153.out) | exact HB.out)) hb); clear BK153; clear HB; have BK153 := n0_; have HB := n1_; clear n0_ n1_; (try clear hb); (try clear hb2); (try clear hk); (try clear hi)) | (go_at_call 15; (with_reducible refine (word_Canon.calls kj9 (wrap64 (2 + (wrap64 (Int.tmod (IntKind.u64.wrap ((rd_T25 l0 x3_1).f1)) 8)))) 18446744073709551615 t174 _ A58.out).mono ?_); rintro e w' ⟨rfl, ⟨nd, rfl⟩⟩) | (go_at_call 16; (with_reducible refine (gantrylaw1_bin.calls kj9 6 (wrap64 (2 + (wrap64 (Int.tmod (IntKind.u64.wrap ((rd_T25 l0 x3_1).f1)) 8)))) t154 t169 t175 _ A60.out).mono ?_); rintro e w77 ⟨rfl, hb⟩; have n0_ := Aside0.mk (blk_below (g := gb153) (o := .cells #[.int .i64 ((rd_T25 l0 x3_1).f0), .int .i64 ((rd_T25 l0 x3_1).f1), .int .i64 ((rd_T25 l0 x3_1).f2), .int .u64 ((rd_T25 l0 x3_1).f3), .int .u64 ((rd_T25 l0 x3_1).f4)] 25 (0, 0)) (by (with_reducible repeat (first | refine blk_drewN ?_ _ | refine blk_drew ?_ | refine blk_alloc ?_ _)); exact BK153.out) hb); have n1_ := Aside0.mk (below_step (by repeat (first | (with_reducible first | exact HB.out | apply below_alloc | apply pw_below_drewN | apply below_drew1 | refine below_set ?_ GE153.out) | exact HB.out)) hb); clear BK153; clear HB; have BK153 := n0_; have HB := n1_; clear n0_ n1_; (try clear hb); (try clear hb2); (try clear hk); (try clear hi)))
                                go_meet
                                case rel => exact ⟨_, (true), (by first | rfl | (simp; done) | (simp [*]; done)), H', ⟨by have := HK1.out; have := HJ1.out; have := HJ9.out; first | omega | exact Nat.le_refl _⟩, ⟨by (with_reducible repeat (first | refine blk_drewN ?_ _ | refine blk_drew ?_ | refine blk_alloc ?_ _)); exact BK153.out⟩, ⟨by repeat (first | (with_reducible first | exact HB.out | apply below_alloc | apply pw_below_drewN | apply below_drew1 | refine below_set ?_ GE153.out) | exact HB.out)⟩⟩
                          · rw [if_neg c59] at H
                            have c59b0 : (t173 == t174) = false := beq_eq_false_iff_ne.mpr c59
                            have c59b1 : (t173 != t174) = true := bne_iff_ne.mpr c59
                            as_aux_lemma =>
                              have H' := Aside0.mk H
                              clear H
                              go_wp2_with (first | (go_at_call 16; (with_reducible refine (gantrylaw1_bin.calls kj9 2 (wrap64 (2 + (wrap64 (Int.tmod (IntKind.u64.wrap ((rd_T25 l0 x3_1).f1)) 8)))) t154 t155 t171 _ A54.out).mono ?_); rintro e w78 ⟨rfl, hb⟩; have n0_ := Aside0.mk (blk_below (g := gb153) (o := .cells #[.int .i64 ((rd_T25 l0 x3_1).f0), .int .i64 ((rd_T25 l0 x3_1).f1), .int .i64 ((rd_T25 l0 x3_1).f2), .int .u64 ((rd_T25 l0 x3_1).f3), .int .u64 ((rd_T25 l0 x3_1).f4)] 25 (0, 0)) (by (with_reducible repeat (first | refine blk_drewN ?_ _ | refine blk_drew ?_ | refine blk_alloc ?_ _)); exact BK153.out) hb); have n1_ := Aside0.mk (below_step (by repeat (first | (with_reducible first | exact HB.out | apply below_alloc | apply pw_below_drewN | apply below_drew1 | refine below_set ?_ GE153.out) | exact HB.out)) hb); clear BK153; clear HB; have BK153 := n0_; have HB := n1_; clear n0_ n1_; (try clear hb); (try clear hb2); (try clear hk); (try clear hi)) | (go_at_call 16; (with_reducible refine (gantrylaw1_bin.calls kj9 1 (wrap64 (2 + (wrap64 (Int.tmod (IntKind.u64.wrap ((rd_T25 l0 x3_1).f1)) 8)))) t154 t167 t172 _ A55.out).mono ?_); rintro e w79 ⟨rfl, hb⟩; have n0_ := Aside0.mk (blk_below (g := gb153) (o := .cells #[.int .i64 ((rd_T25 l0 x3_1).f0), .int .i64 ((rd_T25 l0 x3_1).f1), .int .i64 ((rd_T25 l0 x3_1).f2), .int .u64 ((rd_T25 l0 x3_1).f3), .int .u64 ((rd_T25 l0 x3_1).f4)] 25 (0, 0)) (by (with_reducible repeat (first | refine blk_drewN ?_ _ | refine blk_drew ?_ | refine blk_alloc ?_ _)); exact BK153.out) hb); have n1_ := Aside0.mk (below_step (by repeat (first | (with_reducible first | exact HB.out | apply below_alloc | apply pw_below_drewN | apply below_drew1 | refine below_set ?_ GE153.out) | exact HB.out)) hb); clear BK153; clear HB; have BK153 := n0_; have HB := n1_; clear n0_ n1_; (try clear hb); (try clear hb2); (try clear hk); (try clear hi)) | (go_at_call 16; (with_reducible refine (gantrylaw1_bin.calls kj9 8 (wrap64 (2 + (wrap64 (Int.tmod (IntKind.u64.wrap ((rd_T25 l0 x3_1).f1)) 8)))) t154 t169 t173 _ A57.out).mono ?_); rintro e w80 ⟨rfl, hb⟩; have n0_ := Aside0.mk (blk_below (g := gb153) (o := .cells #[.int .i64 ((rd_T25 l0 x3_1).f0), .int .i64 ((rd_T25 l0 x3_1).f1), .int .i64 ((rd_T25 l0 x3_1).f2), .int .u64 ((rd_T25 l0 x3_1).f3), .int .u64 ((rd_T25 l0 x3_1).f4)] 25 (0, 0)) (by (with_reducible repeat (first | refine blk_drewN ?_ _ | refine blk_drew ?_ | refine blk_alloc ?_ _)); exact BK153.out) hb); have n1_ := Aside0.mk (below_step (by repeat (first | (with_reducible first | exact HB.out | apply below_alloc | apply pw_below_drewN | apply below_drew1 | refine below_set ?_ GE153.out) | exact HB.out)) hb); clear BK153; clear HB; have BK153 := n0_; have HB := n1_; clear n0_ n1_; (try clear hb); (try clear hb2); (try clear hk); (try clear hi)) | (go_at_call 15; (with_reducible refine (word_Canon.calls kj9 (wrap64 (2 + (wrap64 (Int.tmod (IntKind.u64.wrap ((rd_T25 l0 x3_1).f1)) 8)))) 18446744073709551615 t174 _ A58.out).mono ?_); rintro e w' ⟨rfl, ⟨nd, rfl⟩⟩))
                              go_meet
                              case rel => exact ⟨_, (true), (by first | rfl | (simp; done) | (simp [*]; done)), H', ⟨by have := HK1.out; have := HJ1.out; have := HJ9.out; first | omega | exact Nat.le_refl _⟩, ⟨by (with_reducible repeat (first | refine blk_drewN ?_ _ | refine blk_drew ?_ | refine blk_alloc ?_ _)); exact BK153.out⟩, ⟨by repeat (first | (with_reducible first | exact HB.out | apply below_alloc | apply pw_below_drewN | apply below_drew1 | refine below_set ?_ GE153.out) | exact HB.out)⟩⟩
                        · rw [if_neg c56] at H
                          have c56b0 : (t171 == t172) = false := beq_eq_false_iff_ne.mpr c56
                          have c56b1 : (t171 != t172) = true := bne_iff_ne.mpr c56
                          (first | rw [c56b0] | (simp only [i64_w, i32_w]; rw [c56b0]) | skip)
                          as_aux_lemma =>
                            have H' := Aside0.mk H
                            clear H
                            go_wp2_with (first | (go_at_call 16; (with_reducible refine (gantrylaw1_bin.calls kj9 2 (wrap64 (2 + (wrap64 (Int.tmod (IntKind.u64.wrap ((rd_T25 l0 x3_1).f1)) 8)))) t154 t155 t171 _ A54.out).mono ?_); rintro e w81 ⟨rfl, hb⟩; have n0_ := Aside0.mk (blk_below (g := gb153) (o := .cells #[.int .i64 ((rd_T25 l0 x3_1).f0), .int .i64 ((rd_T25 l0 x3_1).f1), .int .i64 ((rd_T25 l0 x3_1).f2), .int .u64 ((rd_T25 l0 x3_1).f3), .int .u64 ((rd_T25 l0 x3_1).f4)] 25 (0, 0)) (by (with_reducible repeat (first | refine blk_drewN ?_ _ | refine blk_drew ?_ | refine blk_alloc ?_ _)); exact BK153.out) hb); have n1_ := Aside0.mk (below_step (by repeat (first | (with_reducible first | exact HB.out | apply below_alloc | apply pw_below_drewN | apply below_drew1 | refine below_set ?_ GE153.out) | exact HB.out)) hb); clear BK153; clear HB; have BK153 := n0_; have HB := n1_; clear n0_ n1_; (try clear hb); (try clear hb2); (try clear hk); (try clear hi)) | (go_at_call 16; (with_reducible refine (gantrylaw1_bin.calls kj9 1 (wrap64 (2 + (wrap64 (Int.tmod (IntKind.u64.wrap ((rd_T25 l0 x3_1).f1)) 8)))) t154 t167 t172 _ A55.out).mono ?_); rintro e w82 ⟨rfl, hb⟩; have n0_ := Aside0.mk (blk_below (g := gb153) (o := .cells #[.int .i64 ((rd_T25 l0 x3_1).f0), .int .i64 ((rd_T25 l0 x3_1).f1), .int .i64 ((rd_T25 l0 x3_1).f2), .int .u64 ((rd_T25 l0 x3_1).f3), .int .u64 ((rd_T25 l0 x3_1).f4)] 25 (0, 0)) (by (with_reducible repeat (first | refine blk_drewN ?_ _ | refine blk_drew ?_ | refine blk_alloc ?_ _)); exact BK153.out) hb); have n1_ := Aside0.mk (below_step (by repeat (first | (with_reducible first | exact HB.out | apply below_alloc | apply pw_below_drewN | apply below_drew1 | refine below_set ?_ GE153.out) | exact HB.out)) hb); clear BK153; clear HB; have BK153 := n0_; have HB := n1_; clear n0_ n1_; (try clear hb); (try clear hb2); (try clear hk); (try clear hi)))
                            go_meet
                            case rel => exact ⟨_, (true), (by first | rfl | (simp; done) | (simp [*]; done)), H', ⟨by have := HK1.out; have := HJ1.out; have := HJ9.out; first | omega | exact Nat.le_refl _⟩, ⟨by (with_reducible repeat (first | refine blk_drewN ?_ _ | refine blk_drew ?_ | refine blk_alloc ?_ _)); exact BK153.out⟩, ⟨by repeat (first | (with_reducible first | exact HB.out | apply below_alloc | apply pw_below_drewN | apply below_drew1 | refine below_set ?_ GE153.out) | exact HB.out)⟩⟩
                      case rest =>
                        clear HC53
                        try clear c1
                        try clear p1
                        try clear q1
                        try clear hx1
                        try clear c2
                        try clear p2
                        try clear c3
                        try clear c3b0
                        try clear c4
                        try clear c5
                        try clear c5b0
                        try clear c6
                        try clear c6b0
                        try clear p6
                        try clear c15
                        try clear c15b0
                        try clear c15b1
                        try clear p15
                        try clear q15
                        try clear hx15
                        try clear c18
                        try clear c18b0
                        try clear c18b1
                        try clear c23
                        try clear c23b0
                        try clear c23b1
                        try clear c50
                        try clear c56
                        try clear c56b0
                        try clear c56b1
                        try clear c59
                        try clear c59b0
                        try clear c59b1
                        try clear c61
                        try clear c61b0
                        try clear c61b1
                        try clear p64
                        try clear hcz12_0
                        try clear hcz12_1
                        try clear hcz12_2
                        try clear hcz12_3
                        try clear hcz12_4
                        try clear hfz12_0
                        try clear hfz12_1
                        try clear hfz12_2
                        try clear hfz12_3
                        try clear hfz12_4
                        try clear hx152_0
                        try clear hx152_1
                        try clear hx152_2
                        try clear hx152_3
                        try clear hx152_4
                        try clear p1
                        try clear p15
                        try clear p152
                        try clear p2
                        try clear p6
                        try clear q1
                        try clear q15
                        try clear q152
                        obtain ⟨kq, x163_52, rfl, HA, HJ52, BK153, HB⟩ := hcut
                        cases kq with
                        | zero => exact absurd HA.out (by simp [gantrylaw1_WordLaws.j3])
                        | succ kj52 =>
                          have H := HA.out
                          clear HA
                          simp only [gantrylaw1_WordLaws.j3] at H
                          by_cases c83 : x163_52 = true
                          · subst c83
                            have H1 : (some false) = some r := by rw [if_pos rfl] at H; exact H
                            clear H
                            have H := H1
                            clear H1
                            as_aux_lemma =>
                              obtain rfl := Option.some.inj H
                              go_wp2
                              go_ret
                              exact ⟨by first | rfl | (simp [errW_none, errW_some] <;> rfl) | (simp [*, errW_none, errW_some] <;> rfl), by repeat (first | (with_reducible first | exact HB.out | apply below_alloc | apply pw_below_drewN | apply below_drew1 | refine below_set ?_ GE153.out) | exact HB.out)⟩
                          · replace c83 := Bool.eq_false_iff.mpr c83
                            subst c83
                            have H1 : ((gantrylaw1_bin.f kj52 13 (wrap64 (2 + (wrap64 (Int.tmod (IntKind.u64.wrap ((rd_T25 l0 x3_1).f1)) 8)))) t154 t155).bind fun t180 => ((gantrylaw1_bin.f kj52 15 (wrap64 (2 + (wrap64 (Int.tmod (IntKind.u64.wrap ((rd_T25 l0 x3_1).f1)) 8)))) t155 t154).bind fun t181 => (if t180 = t181 then ((gantrylaw1_bin.f kj52 16 (wrap64 (2 + (wrap64 (Int.tmod (IntKind.u64.wrap ((rd_T25 l0 x3_1).f1)) 8)))) t154 t155).bind fun t182 => (if (IntKind.u64.wrap (t180 + t182)) = 1 then ((gantrylaw1_bin.f kj52 11 (wrap64 (2 + (wrap64 (Int.tmod (IntKind.u64.wrap ((rd_T25 l0 x3_1).f1)) 8)))) t154 t155).bind fun t183 => ((gantrylaw1_bin.f kj52 12 (wrap64 (2 + (wrap64 (Int.tmod (IntKind.u64.wrap ((rd_T25 l0 x3_1).f1)) 8)))) t154 t155).bind fun t184 => (if (IntKind.u64.wrap (t183 + t184)) = 1 then ((gantrylaw1_bin.f kj52 14 (wrap64 (2 + (wrap64 (Int.tmod (IntKind.u64.wrap ((rd_T25 l0 x3_1).f1)) 8)))) t154 t155).bind fun t185 => (gantrylaw1_WordLaws.j4 kj52 l0 x3_1 (wrap64 (2 + (wrap64 (Int.tmod (IntKind.u64.wrap ((rd_T25 l0 x3_1).f1)) 8)))) t154 t155 ((IntKind.u64.wrap (t180 + t183)) != t185))) else (gantrylaw1_WordLaws.j4 kj52 l0 x3_1 (wrap64 (2 + (wrap64 (Int.tmod (IntKind.u64.wrap ((rd_T25 l0 x3_1).f1)) 8)))) t154 t155 true)))) else (gantrylaw1_WordLaws.j4 kj52 l0 x3_1 (wrap64 (2 + (wrap64 (Int.tmod (IntKind.u64.wrap ((rd_T25 l0 x3_1).f1)) 8)))) t154 t155 true))) else (gantrylaw1_WordLaws.j4 kj52 l0 x3_1 (wrap64 (2 + (wrap64 (Int.tmod (IntKind.u64.wrap ((rd_T25 l0 x3_1).f1)) 8)))) t154 t155 true)))) = some r := by rw [if_neg (show ¬ (false = true) by decide)] at H; exact H
                            clear H
                            have H := H1
                            clear H1
                            replace H := Option.bind_eq_some_iff.mp H
                            obtain ⟨t180, A840, H⟩ := H
                            replace H : ((gantrylaw1_bin.f kj52 15 (wrap64 (2 + (wrap64 (Int.tmod (IntKind.u64.wrap ((rd_T25 l0 x3_1).f1)) 8)))) t155 t154).bind fun t181 => (if t180 = t181 then ((gantrylaw1_bin.f kj52 16 (wrap64 (2 + (wrap64 (Int.tmod (IntKind.u64.wrap ((rd_T25 l0 x3_1).f1)) 8)))) t154 t155).bind fun t182 => (if (IntKind.u64.wrap (t180 + t182)) = 1 then ((gantrylaw1_bin.f kj52 11 (wrap64 (2 + (wrap64 (Int.tmod (IntKind.u64.wrap ((rd_T25 l0 x3_1).f1)) 8)))) t154 t155).bind fun t183 => ((gantrylaw1_bin.f kj52 12 (wrap64 (2 + (wrap64 (Int.tmod (IntKind.u64.wrap ((rd_T25 l0 x3_1).f1)) 8)))) t154 t155).bind fun t184 => (if (IntKind.u64.wrap (t183 + t184)) = 1 then ((gantrylaw1_bin.f kj52 14 (wrap64 (2 + (wrap64 (Int.tmod (IntKind.u64.wrap ((rd_T25 l0 x3_1).f1)) 8)))) t154 t155).bind fun t185 => (gantrylaw1_WordLaws.j4 kj52 l0 x3_1 (wrap64 (2 + (wrap64 (Int.tmod (IntKind.u64.wrap ((rd_T25 l0 x3_1).f1)) 8)))) t154 t155 ((IntKind.u64.wrap (t180 + t183)) != t185))) else (gantrylaw1_WordLaws.j4 kj52 l0 x3_1 (wrap64 (2 + (wrap64 (Int.tmod (IntKind.u64.wrap ((rd_T25 l0 x3_1).f1)) 8)))) t154 t155 true)))) else (gantrylaw1_WordLaws.j4 kj52 l0 x3_1 (wrap64 (2 + (wrap64 (Int.tmod (IntKind.u64.wrap ((rd_T25 l0 x3_1).f1)) 8)))) t154 t155 true))) else (gantrylaw1_WordLaws.j4 kj52 l0 x3_1 (wrap64 (2 + (wrap64 (Int.tmod (IntKind.u64.wrap ((rd_T25 l0 x3_1).f1)) 8)))) t154 t155 true))) = some r := H
                            have A84 := Aside0.mk A840
                            clear A840
                            have HC85 := Aside0.mk H
                            clear H
                            go_upto_region 16 with (first | (go_at_call 16; (with_reducible refine (gantrylaw1_bin.calls kj52 13 (wrap64 (2 + (wrap64 (Int.tmod (IntKind.u64.wrap ((rd_T25 l0 x3_1).f1)) 8)))) t154 t155 t180 _ A84.out).mono ?_); rintro e w86 ⟨rfl, hb⟩; have n0_ := Aside0.mk (blk_below (g := gb153) (o := .cells #[.int .i64 ((rd_T25 l0 x3_1).f0), .int .i64 ((rd_T25 l0 x3_1).f1), .int .i64 ((rd_T25 l0 x3_1).f2), .int .u64 ((rd_T25 l0 x3_1).f3), .int .u64 ((rd_T25 l0 x3_1).f4)] 25 (0, 0)) (by (with_reducible repeat (first | refine blk_drewN ?_ _ | refine blk_drew ?_ | refine blk_alloc ?_ _)); exact BK153.out) hb); have n1_ := Aside0.mk (below_step (by repeat (first | (with_reducible first | exact HB.out | apply below_alloc | apply pw_below_drewN | apply below_drew1 | refine below_set ?_ GE153.out) | exact HB.out)) hb); clear BK153; clear HB; have BK153 := n0_; have HB := n1_; clear n0_ n1_; (try clear hb); (try clear hb2); (try clear hk); (try clear hi)))
                            (try simp only [Act.put, List.setIfInBounds_toArray, List.set_cons_zero, List.set_cons_succ])
                            go_cut [207] (fun v207 wc => ∃ (kq : Nat) (x207_84 : Bool), v207 = .bool x207_84 ∧ Aside0 (gantrylaw1_WordLaws.j4 kq l0 x3_1 (wrap64 (2 + (wrap64 (Int.tmod (IntKind.u64.wrap ((rd_T25 l0 x3_1).f1)) 8)))) t154 t155 x207_84 = some r) ∧ Aside0 (kq ≤ kj52) ∧ Aside0 (wc.heap[gb153]? = some (.cells #[.int .i64 ((rd_T25 l0 x3_1).f0), .int .i64 ((rd_T25 l0 x3_1).f1), .int .i64 ((rd_T25 l0 x3_1).f2), .int .u64 ((rd_T25 l0 x3_1).f3), .int .u64 ((rd_T25 l0 x3_1).f4)] 25 (0, 0))) ∧ Aside0 (Below w.heap.size w wc))
                            case first =>
                              have H := HC85.out
                              clear HC85
                              replace H := Option.bind_eq_some_iff.mp H
                              obtain ⟨t181, A870, H⟩ := H
                              replace H : (if t180 = t181 then ((gantrylaw1_bin.f kj52 16 (wrap64 (2 + (wrap64 (Int.tmod (IntKind.u64.wrap ((rd_T25 l0 x3_1).f1)) 8)))) t154 t155).bind fun t182 => (if (IntKind.u64.wrap (t180 + t182)) = 1 then ((gantrylaw1_bin.f kj52 11 (wrap64 (2 + (wrap64 (Int.tmod (IntKind.u64.wrap ((rd_T25 l0 x3_1).f1)) 8)))) t154 t155).bind fun t183 => ((gantrylaw1_bin.f kj52 12 (wrap64 (2 + (wrap64 (Int.tmod (IntKind.u64.wrap ((rd_T25 l0 x3_1).f1)) 8)))) t154 t155).bind fun t184 => (if (IntKind.u64.wrap (t183 + t184)) = 1 then ((gantrylaw1_bin.f kj52 14 (wrap64 (2 + (wrap64 (Int.tmod (IntKind.u64.wrap ((rd_T25 l0 x3_1).f1)) 8)))) t154 t155).bind fun t185 => (gantrylaw1_WordLaws.j4 kj52 l0 x3_1 (wrap64 (2 + (wrap64 (Int.tmod (IntKind.u64.wrap ((rd_T25 l0 x3_1).f1)) 8)))) t154 t155 ((IntKind.u64.wrap (t180 + t183)) != t185))) else (gantrylaw1_WordLaws.j4 kj52 l0 x3_1 (wrap64 (2 + (wrap64 (Int.tmod (IntKind.u64.wrap ((rd_T25 l0 x3_1).f1)) 8)))) t154 t155 true)))) else (gantrylaw1_WordLaws.j4 kj52 l0 x3_1 (wrap64 (2 + (wrap64 (Int.tmod (IntKind.u64.wrap ((rd_T25 l0 x3_1).f1)) 8)))) t154 t155 true))) else (gantrylaw1_WordLaws.j4 kj52 l0 x3_1 (wrap64 (2 + (wrap64 (Int.tmod (IntKind.u64.wrap ((rd_T25 l0 x3_1).f1)) 8)))) t154 t155 true)) = some r := H
                              have A87 := Aside0.mk A870
                              clear A870
                              by_cases c88 : t180 = t181
                              · rw [if_pos c88] at H
                                have c88b0 : (t180 == t181) = true := beq_iff_eq.mpr c88
                                have c88b1 : (t180 != t181) = false := bne_eq_false_iff_eq.mpr c88
                                clear c88
                                (first | rw [c88b0] | (simp only [i64_w, i32_w]; rw [c88b0]) | skip)
                                replace H := Option.bind_eq_some_iff.mp H
                                obtain ⟨t182, A890, H⟩ := H
                                replace H : (if (IntKind.u64.wrap (t180 + t182)) = 1 then ((gantrylaw1_bin.f kj52 11 (wrap64 (2 + (wrap64 (Int.tmod (IntKind.u64.wrap ((rd_T25 l0 x3_1).f1)) 8)))) t154 t155).bind fun t183 => ((gantrylaw1_bin.f kj52 12 (wrap64 (2 + (wrap64 (Int.tmod (IntKind.u64.wrap ((rd_T25 l0 x3_1).f1)) 8)))) t154 t155).bind fun t184 => (if (IntKind.u64.wrap (t183 + t184)) = 1 then ((gantrylaw1_bin.f kj52 14 (wrap64 (2 + (wrap64 (Int.tmod (IntKind.u64.wrap ((rd_T25 l0 x3_1).f1)) 8)))) t154 t155).bind fun t185 => (gantrylaw1_WordLaws.j4 kj52 l0 x3_1 (wrap64 (2 + (wrap64 (Int.tmod (IntKind.u64.wrap ((rd_T25 l0 x3_1).f1)) 8)))) t154 t155 ((IntKind.u64.wrap (t180 + t183)) != t185))) else (gantrylaw1_WordLaws.j4 kj52 l0 x3_1 (wrap64 (2 + (wrap64 (Int.tmod (IntKind.u64.wrap ((rd_T25 l0 x3_1).f1)) 8)))) t154 t155 true)))) else (gantrylaw1_WordLaws.j4 kj52 l0 x3_1 (wrap64 (2 + (wrap64 (Int.tmod (IntKind.u64.wrap ((rd_T25 l0 x3_1).f1)) 8)))) t154 t155 true)) = some r := H
                                have A89 := Aside0.mk A890
                                clear A890
                                by_cases c90 : (IntKind.u64.wrap (t180 + t182)) = 1
                                · rw [if_pos c90] at H
                                  have c90b0 : ((IntKind.u64.wrap (t180 + t182)) == 1) = true := beq_iff_eq.mpr c90
                                  have c90b1 : ((IntKind.u64.wrap (t180 + t182)) != 1) = false := bne_eq_false_iff_eq.mpr c90
                                  clear c90
                                  replace H := Option.bind_eq_some_iff.mp H
                                  obtain ⟨t183, A910, H⟩ := H
                                  replace H : ((gantrylaw1_bin.f kj52 12 (wrap64 (2 + (wrap64 (Int.tmod (IntKind.u64.wrap ((rd_T25 l0 x3_1).f1)) 8)))) t154 t155).bind fun t184 => (if (IntKind.u64.wrap (t183 + t184)) = 1 then ((gantrylaw1_bin.f kj52 14 (wrap64 (2 + (wrap64 (Int.tmod (IntKind.u64.wrap ((rd_T25 l0 x3_1).f1)) 8)))) t154 t155).bind fun t185 => (gantrylaw1_WordLaws.j4 kj52 l0 x3_1 (wrap64 (2 + (wrap64 (Int.tmod (IntKind.u64.wrap ((rd_T25 l0 x3_1).f1)) 8)))) t154 t155 ((IntKind.u64.wrap (t180 + t183)) != t185))) else (gantrylaw1_WordLaws.j4 kj52 l0 x3_1 (wrap64 (2 + (wrap64 (Int.tmod (IntKind.u64.wrap ((rd_T25 l0 x3_1).f1)) 8)))) t154 t155 true))) = some r := H
                                  have A91 := Aside0.mk A910
                                  clear A910
                                  replace H := Option.bind_eq_some_iff.mp H
                                  obtain ⟨t184, A920, H⟩ := H
                                  replace H : (if (IntKind.u64.wrap (t183 + t184)) = 1 then ((gantrylaw1_bin.f kj52 14 (wrap64 (2 + (wrap64 (Int.tmod (IntKind.u64.wrap ((rd_T25 l0 x3_1).f1)) 8)))) t154 t155).bind fun t185 => (gantrylaw1_WordLaws.j4 kj52 l0 x3_1 (wrap64 (2 + (wrap64 (Int.tmod (IntKind.u64.wrap ((rd_T25 l0 x3_1).f1)) 8)))) t154 t155 ((IntKind.u64.wrap (t180 + t183)) != t185))) else (gantrylaw1_WordLaws.j4 kj52 l0 x3_1 (wrap64 (2 + (wrap64 (Int.tmod (IntKind.u64.wrap ((rd_T25 l0 x3_1).f1)) 8)))) t154 t155 true)) = some r := H
                                  have A92 := Aside0.mk A920
                                  clear A920
                                  by_cases c93 : (IntKind.u64.wrap (t183 + t184)) = 1
                                  · rw [if_pos c93] at H
                                    have c93b0 : ((IntKind.u64.wrap (t183 + t184)) == 1) = true := beq_iff_eq.mpr c93
                                    have c93b1 : ((IntKind.u64.wrap (t183 + t184)) != 1) = false := bne_eq_false_iff_eq.mpr c93
                                    clear c93
                                    replace H := Option.bind_eq_some_iff.mp H
                                    obtain ⟨t185, A940, H⟩ := H
                                    replace H : (gantrylaw1_WordLaws.j4 kj52 l0 x3_1 (wrap64 (2 + (wrap64 (Int.tmod (IntKind.u64.wrap ((rd_T25 l0 x3_1).f1)) 8)))) t154 t155 ((IntKind.u64.wrap (t180 + t183)) != t185)) = some r := H
                                    have A94 := Aside0.mk A940
                                    clear A940
                                    as_aux_lemma =>
                                      have H' := Aside0.mk H
                                      clear H
                                      go_wp2_with (first | (go_at_call 16; (with_reducible refine (gantrylaw1_bin.calls kj52 15 (wrap64 (2 + (wrap64 (Int.tmod (IntKind.u64.wrap ((rd_T25 l0 x3_1).f1)) 8)))) t155 t154 t181 _ A87.out).mono ?_); rintro e w95 ⟨rfl, hb⟩; have n0_ := Aside0.mk (blk_below (g := gb153) (o := .cells #[.int .i64 ((rd_T25 l0 x3_1).f0), .int .i64 ((rd_T25 l0 x3_1).f1), .int .i64 ((rd_T25 l0 x3_1).f2), .int .u64 ((rd_T25 l0 x3_1).f3), .int .u64 ((rd_T25 l0 x3_1).f4)] 25 (0, 0)) (by (with_reducible repeat (first | refine blk_drewN ?_ _ | refine blk_drew ?_ | refine blk_alloc ?_ _)); exact BK153.out) hb); have n1_ := Aside0.mk (below_step (by repeat (first | (with_reducible first | exact HB.out | apply below_alloc | apply pw_below_drewN | apply below_drew1 | refine below_set ?_ GE153.out) | exact HB.out)) hb); clear BK153; clear HB; have BK153 := n0_; have HB := n1_; clear n0_ n1_; (try clear hb); (try clear hb2); (try clear hk); (try clear hi)) | (go_at_call 16; (with_reducible refine (gantrylaw1_bin.calls kj52 16 (wrap64 (2 + (wrap64 (Int.tmod (IntKind.u64.wrap ((rd_T25 l0 x3_1).f1)) 8)))) t154 t155 t182 _ A89.out).mono ?_); rintro e w96 ⟨rfl, hb⟩; have n0_ := Aside0.mk (blk_below (g := gb153) (o := .cells #[.int .i64 ((rd_T25 l0 x3_1).f0), .int .i64 ((rd_T25 l0 x3_1).f1), .int .i64 ((rd_T25 l0 x3_1).f2), .int .u64 ((rd_T25 l0 x3_1).f3), .int .u64 ((rd_T25 l0 x3_1).f4)] 25 (0, 0)) (by (with_reducible repeat (first | refine blk_drewN ?_ _ | refine blk_drew ?_ | refine blk_alloc ?_ _)); exact BK153.out) hb); have n1_ := Aside0.mk (below_step (by repeat (first | (with_reducible first | exact HB.out | apply below_alloc | apply pw_below_drewN | apply below_drew1 | refine below_set ?_ GE153.out) | exact HB.out)) hb); clear BK153; clear HB; have BK153 := n0_; have HB := n1_; clear n0_ n1_; (try clear hb); (try clear hb2); (try clear hk); (try clear hi)) | (go_at_call 16; (with_reducible refine (gantrylaw1_bin.calls kj52 11 (wrap64 (2 + (wrap64 (Int.tmod (IntKind.u64.wrap ((rd_T25 l0 x3_1).f1)) 8)))) t154 t155 t183 _ A91.out).mono ?_); rintro e w97 ⟨rfl, hb⟩; have n0_ := Aside0.mk (blk_below (g := gb153) (o := .cells #[.int .i64 ((rd_T25 l0 x3_1).f0), .int .i64 ((rd_T25 l0 x3_1).f1), .int .i64 ((rd_T25 l0 x3_1).f2), .int .u64 ((rd_T25 l0 x3_1).f3), .int .u64 ((rd_T25 l0 x3_1).f4)] 25 (0, 0)) (by (with_reducible repeat (first | refine blk_drewN ?_ _ | refine blk_drew ?_ | refine blk_alloc ?_ _)); exact BK153.out) hb); have n1_ := Aside0.mk (below_step (by repeat (first | (with_reducible first | exact HB.out | apply below_alloc | apply pw_below_drewN | apply below_drew1 | refine below_set ?_ GE153.out) | exact HB.out)) hb); clear BK153; clear HB; have BK153 := n0_; have HB := n1_; clear n0_ n1_; (try clear hb); (try clear hb2); (try clear hk); (try clear hi)) | (go_at_call 16; (with_reducible refine (gantrylaw1_bin.calls kj52 12 (wrap64 (2 + (wrap64 (Int.tmod (IntKind.u64.wrap ((rd_T25 l0 x3_1).f1)) 8)))) t154 t155 t184 _ A92.out).mono ?_); rintro e w98 ⟨rfl, hb⟩; have n0_ := Aside0.mk (blk_below (g := gb153) (o := .cells #[.int .i64 ((rd_T25 l0 x3_1).f0), .int .i64 ((rd_T25 l0 x3_1).f1), .int .i64 ((rd_T25 l0 x3_1).f2), .int .u64 ((rd_T25 l0 x3_1).f3), .int .u64 ((rd_T25 l0 x3_1).f4)] 25 (0, 0)) (by (with_reducible repeat (first | refine blk_drewN ?_ _ | refine blk_drew ?_ | refine blk_alloc ?_ _)); exact BK153.out) hb); have n1_ := Aside0.mk (below_step (by repeat (first | (with_reducible first | exact HB.out | apply below_alloc | apply pw_below_drewN | apply below_drew1 | refine below_set ?_ GE153.out) | exact HB.out)) hb); clear BK153; clear HB; have BK153 := n0_; have HB := n1_; clear n0_ n1_; (try clear hb); (try clear hb2); (try clear hk); (try clear hi)) | (go_at_call 16; (with_reducible refine (gantrylaw1_bin.calls kj52 14 (wrap64 (2 + (wrap64 (Int.tmod (IntKind.u64.wrap ((rd_T25 l0 x3_1).f1)) 8)))) t154 t155 t185 _ A94.out).mono ?_); rintro e w99 ⟨rfl, hb⟩; have n0_ := Aside0.mk (blk_below (g := gb153) (o := .cells #[.int .i64 ((rd_T25 l0 x3_1).f0), .int .i64 ((rd_T25 l0 x3_1).f1), .int .i64 ((rd_T25 l0 x3_1).f2), .int .u64 ((rd_T25 l0 x3_1).f3), .int .u64 ((rd_T25 l0 x3_1).f4)] 25 (0, 0)) (by (with_reducible repeat (first | refine blk_drewN ?_ _ | refine blk_drew ?_ | refine blk_alloc ?_ _)); exact BK153.out) hb); have n1_ := Aside0.mk (below_step (by repeat (first | (with_reducible first | exact HB.out | apply below_alloc | apply pw_below_drewN | apply below_drew1 | refine below_set ?_ GE153.out) | exact HB.out)) hb); clear BK153; clear HB; have BK153 := n0_; have HB := n1_; clear n0_ n1_; (try clear hb); (try clear hb2); (try clear hk); (try clear hi)))
                                      go_meet
                                      case rel => exact ⟨_, (((IntKind.u64.wrap (t180 + t183)) != t185)), (by first | rfl | (simp; done) | (simp [*]; done)), H', ⟨by have := HK1.out; have := HJ1.out; have := HJ9.out; have := HJ52.out; first | omega | exact Nat.le_refl _⟩, ⟨by (with_reducible repeat (first | refine blk_drewN ?_ _ | refine blk_drew ?_ | refine blk_alloc ?_ _)); exact BK153.out⟩, ⟨by repeat (first | (with_reducible first | exact HB.out | apply below_alloc | apply pw_below_drewN | apply below_drew1 | refine below_set ?_ GE153.out) | exact HB.out)⟩⟩
                                  · rw [if_neg c93] at H
                                    have c93b0 : ((IntKind.u64.wrap (t183 + t184)) == 1) = false := beq_eq_false_iff_ne.mpr c93
                                    have c93b1 : ((IntKind.u64.wrap (t183 + t184)) != 1) = true := bne_iff_ne.mpr c93
                                    as_aux_lemma =>
                                      have H' := Aside0.mk H
                                      clear H
                                      go_wp2_with (first | (go_at_call 16; (with_reducible refine (gantrylaw1_bin.calls kj52 15 (wrap64 (2 + (wrap64 (Int.tmod (IntKind.u64.wrap ((rd_T25 l0 x3_1).f1)) 8)))) t155 t154 t181 _ A87.out).mono ?_); rintro e w100 ⟨rfl, hb⟩; have n0_ := Aside0.mk (blk_below (g := gb153) (o := .cells #[.int .i64 ((rd_T25 l0 x3_1).f0), .int .i64 ((rd_T25 l0 x3_1).f1), .int .i64 ((rd_T25 l0 x3_1).f2), .int .u64 ((rd_T25 l0 x3_1).f3), .int .u64 ((rd_T25 l0 x3_1).f4)] 25 (0, 0)) (by (with_reducible repeat (first | refine blk_drewN ?_ _ | refine blk_drew ?_ | refine blk_alloc ?_ _)); exact BK153.out) hb); have n1_ := Aside0.mk (below_step (by repeat (first | (with_reducible first | exact HB.out | apply below_alloc | apply pw_below_drewN | apply below_drew1 | refine below_set ?_ GE153.out) | exact HB.out)) hb); clear BK153; clear HB; have BK153 := n0_; have HB := n1_; clear n0_ n1_; (try clear hb); (try clear hb2); (try clear hk); (try clear hi)) | (go_at_call 16; (with_reducible refine (gantrylaw1_bin.calls kj52 16 (wrap64 (2 + (wrap64 (Int.tmod (IntKind.u64.wrap ((rd_T25 l0 x3_1).f1)) 8)))) t154 t155 t182 _ A89.out).mono ?_); rintro e w101 ⟨rfl, hb⟩; have n0_ := Aside0.mk (blk_below (g := gb153) (o := .cells #[.int .i64 ((rd_T25 l0 x3_1).f0), .int .i64 ((rd_T25 l0 x3_1).f1), .int .i64 ((rd_T25 l0 x3_1).f2), .int .u64 ((rd_T25 l0 x3_1).f3), .int .u64 ((rd_T25 l0 x3_1).f4)] 25 (0, 0)) (by (with_reducible repeat (first | refine blk_drewN ?_ _ | refine blk_drew ?_ | refine blk_alloc ?_ _)); exact BK153.out) hb); have n1_ := Aside0.mk (below_step (by repeat (first | (with_reducible first | exact HB.out | apply below_alloc | apply pw_below_drewN | apply below_drew1 | refine below_set ?_ GE153.out) | exact HB.out)) hb); clear BK153; clear HB; have BK153 := n0_; have HB := n1_; clear n0_ n1_; (try clear hb); (try clear hb2); (try clear hk); (try clear hi)) | (go_at_call 16; (with_reducible refine (gantrylaw1_bin.calls kj52 11 (wrap64 (2 + (wrap64 (Int.tmod (IntKind.u64.wrap ((rd_T25 l0 x3_1).f1)) 8)))) t154 t155 t183 _ A91.out).mono ?_); rintro e w102 ⟨rfl, hb⟩; have n0_ := Aside0.mk (blk_below (g := gb153) (o := .cells #[.int .i64 ((rd_T25 l0 x3_1).f0), .int .i64 ((rd_T25 l0 x3_1).f1), .int .i64 ((rd_T25 l0 x3_1).f2), .int .u64 ((rd_T25 l0 x3_1).f3), .int .u64 ((rd_T25 l0 x3_1).f4)] 25 (0, 0)) (by (with_reducible repeat (first | refine blk_drewN ?_ _ | refine blk_drew ?_ | refine blk_alloc ?_ _)); exact BK153.out) hb); have n1_ := Aside0.mk (below_step (by repeat (first | (with_reducible first | exact HB.out | apply below_alloc | apply pw_below_drewN | apply below_drew1 | refine below_set ?_ GE153.out) | exact HB.out)) hb); clear BK153; clear HB; have BK153 := n0_; have HB := n1_; clear n0_ n1_; (try clear hb); (try clear hb2); (try clear hk); (try clear hi)) | (go_at_call 16; (with_reducible refine (gantrylaw1_bin.calls kj52 12 (wrap64 (2 + (wrap64 (Int.tmod (IntKind.u64.wrap ((rd_T25 l0 x3_1).f1)) 8)))) t154 t155 t184 _ A92.out).mono ?_); rintro e w103 ⟨rfl, hb⟩; have n0_ := Aside0.mk (blk_below (g := gb153) (o := .cells #[.int .i64 ((rd_T25 l0 x3_1).f0), .int .i64 ((rd_T25 l0 x3_1).f1), .int .i64 ((rd_T25 l0 x3_1).f2), .int .u64 ((rd_T25 l0 x3_1).f3), .int .u64 ((rd_T25 l0 x3_1).f4)] 25 (0, 0)) (by (with_reducible repeat (first | refine blk_drewN ?_ _ | refine blk_drew ?_ | refine blk_alloc ?_ _)); exact BK153.out) hb); have n1_ := Aside0.mk (below_step (by repeat (first | (with_reducible first | exact HB.out | apply below_alloc | apply pw_below_drewN | apply below_drew1 | refine below_set ?_ GE153.out) | exact HB.out)) hb); clear BK153; clear HB; have BK153 := n0_; have HB := n1_; clear n0_ n1_; (try clear hb); (try clear hb2); (try clear hk); (try clear hi)))
                                      go_meet
                                      case rel => exact ⟨_, (true), (by first | rfl | (simp; done) | (simp [*]; done)), H', ⟨by have := HK1.out; have := HJ1.out; have := HJ9.out; have := HJ52.out; first | omega | exact Nat.le_refl _⟩, ⟨by (with_reducible repeat (first | refine blk_drewN ?_ _ | refine blk_drew ?_ | refine blk_alloc ?_ _)); exact BK153.out⟩, ⟨by repeat (first | (with_reducible first | exact HB.out | apply below_alloc | apply pw_below_drewN | apply below_drew1 | refine below_set ?_ GE153.out) | exact HB.out)⟩⟩
                                · rw [if_neg c90] at H
                                  have c90b0 : ((IntKind.u64.wrap (t180 + t182)) == 1) = false := beq_eq_false_iff_ne.mpr c90
                                  have c90b1 : ((IntKind.u64.wrap (t180 + t182)) != 1) = true := bne_iff_ne.mpr c90
                                  as_aux_lemma =>
                                    have H' := Aside0.mk H
                                    clear H
                                    go_wp2_with (first | (go_at_call 16; (with_reducible refine (gantrylaw1_bin.calls kj52 15 (wrap64 (2 + (wrap64 (Int.tmod (IntKind.u64.wrap ((rd_T25 l0 x3_1).f1)) 8)))) t155 t154 t181 _ A87.out).mono ?_); rintro e w104 ⟨rfl, hb⟩; have n0_ := Aside0.mk (blk_below (g := gb153) (o := .cells #[.int .i64 ((rd_T25 l0 x3_1).f0), .int .i64 ((rd_T25 l0 x3_1).f1), .int .i64 ((rd_T25 l0 x3_1).f2), .int .u64 ((rd_T25 l0 x3_1).f3), .int .u64 ((rd_T25 l0 x3_1).f4)] 25 (0, 0)) (by (with_reducible repeat (first | refine blk_drewN ?_ _ | refine blk_drew ?_ | refine blk_alloc ?_ _)); exact BK153.out) hb); have n1_ := Aside0.mk (below_step (by repeat (first | (with_reducible first | exact HB.out | apply below_alloc | apply pw_below_drewN | apply below_drew1 | refine below_set ?_ GE153.out) | exact HB.out)) hb); clear BK153; clear HB; have BK153 := n0_; have HB := n1_; clear n0_ n1_; (try clear hb); (try clear hb2); (try clear hk); (try clear hi)) | (go_at_call 16; (with_reducible refine (gantrylaw1_bin.calls kj52 16 (wrap64 (2 + (wrap64 (Int.tmod (IntKind.u64.wrap ((rd_T25 l0 x3_1).f1)) 8)))) t154 t155 t182 _ A89.out).mono ?_); rintro e w105 ⟨rfl, hb⟩; have n0_ := Aside0.mk (blk_below (g := gb153) (o := .cells #[.int .i64 ((rd_T25 l0 x3_1).f0), .int .i64 ((rd_T25 l0 x3_1).f1), .int .i64 ((rd_T25 l0 x3_1).f2), .int .u64 ((rd_T25 l0 x3_1).f3), .int .u64 ((rd_T25 l0 x3_1).f4)] 25 (0, 0)) (by (with_reducible repeat (first | refine blk_drewN ?_ _ | refine blk_drew ?_ | refine blk_alloc ?_ _)); exact BK153.out) hb); have n1_ := Aside0.mk (below_step (by repeat (first | (with_reducible first | exact HB.out | apply below_alloc | apply pw_below_drewN | apply below_drew1 | refine below_set ?_ GE153.out) | exact HB.out)) hb); clear BK153; clear HB; have BK153 := n0_; have HB := n1_; clear n0_ n1_; (try clear hb); (try clear hb2); (try clear hk); (try clear hi)))
                                    go_meet
                                    case rel => exact ⟨_, (true), (by first | rfl | (simp; done) | (simp [*]; done)), H', ⟨by have := HK1.out; have := HJ1.out; have := HJ9.out; have := HJ52.out; first | omega | exact Nat.le_refl _⟩, ⟨by (with_reducible repeat (first | refine blk_drewN ?_ _ | refine blk_drew ?_ | refine blk_alloc ?_ _)); exact BK153.out⟩, ⟨by repeat (first | (with_reducible first | exact HB.out | apply below_alloc | apply pw_below_drewN | apply below_drew1 | refine below_set ?_ GE153.out) | exact HB.out)⟩⟩
                              · rw [if_neg c88] at H
                                have c88b0 : (t180 == t181) = false := beq_eq_false_iff_ne.mpr c88
                                have c88b1 : (t180 != t181) = true := bne_iff_ne.mpr c88
                                (first | rw [c88b0] | (simp only [i64_w, i32_w]; rw [c88b0]) | skip)
                                as_aux_lemma =>
                                  have H' := Aside0.mk H
                                  clear H
                                  go_wp2_with (first | (go_at_call 16; (with_reducible refine (gantrylaw1_bin.calls kj52 15 (wrap64 (2 + (wrap64 (Int.tmod (IntKind.u64.wrap ((rd_T25 l0 x3_1).f1)) 8)))) t155 t154 t181 _ A87.out).mono ?_); rintro e w106 ⟨rfl, hb⟩; have n0_ := Aside0.mk (blk_below (g := gb153) (o := .cells #[.int .i64 ((rd_T25 l0 x3_1).f0), .int .i64 ((rd_T25 l0 x3_1).f1), .int .i64 ((rd_T25 l0 x3_1).f2), .int .u64 ((rd_T25 l0 x3_1).f3), .int .u64 ((rd_T25 l0 x3_1).f4)] 25 (0, 0)) (by (with_reducible repeat (first | refine blk_drewN ?_ _ | refine blk_drew ?_ | refine blk_alloc ?_ _)); exact BK153.out) hb); have n1_ := Aside0.mk (below_step (by repeat (first | (with_reducible first | exact HB.out | apply below_alloc | apply pw_below_drewN | apply below_drew1 | refine below_set ?_ GE153.out) | exact HB.out)) hb); clear BK153; clear HB; have BK153 := n0_; have HB := n1_; clear n0_ n1_; (try clear hb); (try clear hb2); (try clear hk); (try clear hi)))
                                  go_meet
                                  case rel => exact ⟨_, (true), (by first | rfl | (simp; done) | (simp [*]; done)), H', ⟨by have := HK1.out; have := HJ1.out; have := HJ9.out; have := HJ52.out; first | omega | exact Nat.le_refl _⟩, ⟨by (with_reducible repeat (first | refine blk_drewN ?_ _ | refine blk_drew ?_ | refine blk_alloc ?_ _)); exact BK153.out⟩, ⟨by repeat (first | (with_reducible first | exact HB.out | apply below_alloc | apply pw_below_drewN | apply below_drew1 | refine below_set ?_ GE153.out) | exact HB.out)⟩⟩
                            case rest =>
                              clear HC85
                              try clear c1
                              try clear p1
                              try clear q1
                              try clear hx1
                              try clear c2
                              try clear p2
                              try clear c3
                              try clear c3b0
                              try clear c4
                              try clear c5
                              try clear c5b0
                              try clear c6
                              try clear c6b0
                              try clear p6
                              try clear c8
                              try clear c9
                              try clear c15
                              try clear c15b0
                              try clear c15b1
                              try clear p15
                              try clear q15
                              try clear hx15
                              try clear c18
                              try clear c18b0
                              try clear c18b1
                              try clear c23
                              try clear c23b0
                              try clear c23b1
                              try clear c50
                              try clear c56
                              try clear c56b0
                              try clear c56b1
                              try clear c59
                              try clear c59b0
                              try clear c59b1
                              try clear c61
                              try clear c61b0
                              try clear c61b1
                              try clear p64
                              try clear c83
                              try clear c88
                              try clear c88b0
                              try clear c88b1
                              try clear c90
                              try clear c90b0
                              try clear c90b1
                              try clear c93
                              try clear c93b0
                              try clear c93b1
                              try clear hcz12_0
                              try clear hcz12_1
                              try clear hcz12_2
                              try clear hcz12_3
                              try clear hcz12_4
                              try clear hfz12_0
                              try clear hfz12_1
                              try clear hfz12_2
                              try clear hfz12_3
                              try clear hfz12_4
                              try clear hx152_0
                              try clear hx152_1
                              try clear hx152_2
                              try clear hx152_3
                              try clear hx152_4
                              try clear p1
                              try clear p15
                              try clear p152
                              try clear p2
                              try clear p6
                              try clear p64
                              try clear q1
                              try clear q15
                              try clear q152
                              obtain ⟨kq, x207_84, rfl, HA, HJ84, BK153, HB⟩ := hcut
                              cases kq with
                              | zero => exact absurd HA.out (by simp [gantrylaw1_WordLaws.j4])
                              | succ kj84 =>
                                have H := HA.out
                                clear HA
                                simp only [gantrylaw1_WordLaws.j4] at H
                                by_cases c107 : x207_84 = true
                                · subst c107
                                  have H1 : (some false) = some r := by rw [if_pos rfl] at H; exact H
                                  clear H
                                  have H := H1
                                  clear H1
                                  as_aux_lemma =>
                                    obtain rfl := Option.some.inj H
                                    go_wp2
                                    go_ret
                                    exact ⟨by first | rfl | (simp [errW_none, errW_some] <;> rfl) | (simp [*, errW_none, errW_some] <;> rfl), by repeat (first | (with_reducible first | exact HB.out | apply below_alloc | apply pw_below_drewN | apply below_drew1 | refine below_set ?_ GE153.out) | exact HB.out)⟩
                                · replace c107 := Bool.eq_false_iff.mpr c107
                                  subst c107
                                  have H1 : (if t155 = 0 then (gantrylaw1_WordLaws.l0 kj84 l0 (wrap64 (x3_1 + 1))) else ((gantrylaw1_bin.f kj84 4 (wrap64 (2 + (wrap64 (Int.tmod (IntKind.u64.wrap ((rd_T25 l0 x3_1).f1)) 8)))) t154 t155).bind fun t186 => ((gantrylaw1_bin.f kj84 3 (wrap64 (2 + (wrap64 (Int.tmod (IntKind.u64.wrap ((rd_T25 l0 x3_1).f1)) 8)))) t186 t155).bind fun t187 => ((gantrylaw1_bin.f kj84 5 (wrap64 (2 + (wrap64 (Int.tmod (IntKind.u64.wrap ((rd_T25 l0 x3_1).f1)) 8)))) t154 t155).bind fun t188 => ((gantrylaw1_bin.f kj84 1 (wrap64 (2 + (wrap64 (Int.tmod (IntKind.u64.wrap ((rd_T25 l0 x3_1).f1)) 8)))) t187 t188).bind fun t189 => (if t189 = t154 then (gantrylaw1_WordLaws.l0 kj84 l0 (wrap64 (x3_1 + 1))) else (some false))))))) = some r := by rw [if_neg (show ¬ (false = true) by decide)] at H; exact H
                                  clear H
                                  have H := H1
                                  clear H1
                                  by_cases c108 : t155 = 0
                                  · rw [if_pos c108] at H
                                    have c108b0 : (t155 == 0) = true := beq_iff_eq.mpr c108
                                    have c108b1 : (t155 != 0) = false := bne_eq_false_iff_eq.mpr c108
                                    clear c108
                                    as_aux_lemma =>
                                      have H' := Aside0.mk H
                                      clear H
                                      go_wp2
                                      go_roundg kj84
                                      case measure => have := HK1.out; have := HJ1.out; have := HJ9.out; have := HJ52.out; have := HJ84.out; omega
                                      case rel => exact ⟨(wrap64 (x3_1 + 1)), (by first | rfl | (simp; done) | (simp [*]; done)), H', ⟨by have := HK1.out; have := HJ1.out; have := HJ9.out; have := HJ52.out; have := HJ84.out; omega⟩, ⟨by repeat (first | (with_reducible first | exact HB.out | apply below_alloc | apply pw_below_drewN | apply below_drew1 | refine below_set ?_ GE153.out) | exact HB.out)⟩⟩
                                  · rw [if_neg c108] at H
                                    have c108b0 : (t155 == 0) = false := beq_eq_false_iff_ne.mpr c108
                                    have c108b1 : (t155 != 0) = true := bne_iff_ne.mpr c108
                                    replace H := Option.bind_eq_some_iff.mp H
                                    obtain ⟨t186, A1090, H⟩ := H
                                    replace H : ((gantrylaw1_bin.f kj84 3 (wrap64 (2 + (wrap64 (Int.tmod (IntKind.u64.wrap ((rd_T25 l0 x3_1).f1)) 8)))) t186 t155).bind fun t187 => ((gantrylaw1_bin.f kj84 5 (wrap64 (2 + (wrap64 (Int.tmod (IntKind.u64.wrap ((rd_T25 l0 x3_1).f1)) 8)))) t154 t155).bind fun t188 => ((gantrylaw1_bin.f kj84 1 (wrap64 (2 + (wrap64 (Int.tmod (IntKind.u64.wrap ((rd_T25 l0 x3_1).f1)) 8)))) t187 t188).bind fun t189 => (if t189 = t154 then (gantrylaw1_WordLaws.l0 kj84 l0 (wrap64 (x3_1 + 1))) else (some false))))) = some r := H
                                    have A109 := Aside0.mk A1090
                                    clear A1090
                                    replace H := Option.bind_eq_some_iff.mp H
                                    obtain ⟨t187, A1100, H⟩ := H
                                    replace H : ((gantrylaw1_bin.f kj84 5 (wrap64 (2 + (wrap64 (Int.tmod (IntKind.u64.wrap ((rd_T25 l0 x3_1).f1)) 8)))) t154 t155).bind fun t188 => ((gantrylaw1_bin.f kj84 1 (wrap64 (2 + (wrap64 (Int.tmod (IntKind.u64.wrap ((rd_T25 l0 x3_1).f1)) 8)))) t187 t188).bind fun t189 => (if t189 = t154 then (gantrylaw1_WordLaws.l0 kj84 l0 (wrap64 (x3_1 + 1))) else (some false)))) = some r := H
                                    have A110 := Aside0.mk A1100
                                    clear A1100
                                    replace H := Option.bind_eq_some_iff.mp H
                                    obtain ⟨t188, A1110, H⟩ := H
                                    replace H : ((gantrylaw1_bin.f kj84 1 (wrap64 (2 + (wrap64 (Int.tmod (IntKind.u64.wrap ((rd_T25 l0 x3_1).f1)) 8)))) t187 t188).bind fun t189 => (if t189 = t154 then (gantrylaw1_WordLaws.l0 kj84 l0 (wrap64 (x3_1 + 1))) else (some false))) = some r := H
                                    have A111 := Aside0.mk A1110
                                    clear A1110
                                    replace H := Option.bind_eq_some_iff.mp H
                                    obtain ⟨t189, A1120, H⟩ := H
                                    replace H : (if t189 = t154 then (gantrylaw1_WordLaws.l0 kj84 l0 (wrap64 (x3_1 + 1))) else (some false)) = some r := H
                                    have A112 := Aside0.mk A1120
                                    clear A1120
                                    by_cases c113 : t189 = t154
                                    · rw [if_pos c113] at H
                                      have c113b0 : (t189 == t154) = true := beq_iff_eq.mpr c113
                                      have c113b1 : (t189 != t154) = false := bne_eq_false_iff_eq.mpr c113
                                      clear c113
                                      as_aux_lemma =>
                                        have H' := Aside0.mk H
                                        clear H
                                        go_wp2_with (first | (go_at_call 16; (with_reducible refine (gantrylaw1_bin.calls kj84 4 (wrap64 (2 + (wrap64 (Int.tmod (IntKind.u64.wrap ((rd_T25 l0 x3_1).f1)) 8)))) t154 t155 t186 _ A109.out).mono ?_); rintro e w114 ⟨rfl, hb⟩; have n0_ := Aside0.mk (blk_below (g := gb153) (o := .cells #[.int .i64 ((rd_T25 l0 x3_1).f0), .int .i64 ((rd_T25 l0 x3_1).f1), .int .i64 ((rd_T25 l0 x3_1).f2), .int .u64 ((rd_T25 l0 x3_1).f3), .int .u64 ((rd_T25 l0 x3_1).f4)] 25 (0, 0)) (by (with_reducible repeat (first | refine blk_drewN ?_ _ | refine blk_drew ?_ | refine blk_alloc ?_ _)); exact BK153.out) hb); have n1_ := Aside0.mk (below_step (by repeat (first | (with_reducible first | exact HB.out | apply below_alloc | apply pw_below_drewN | apply below_drew1 | refine below_set ?_ GE153.out) | exact HB.out)) hb); clear BK153; clear HB; have BK153 := n0_; have HB := n1_; clear n0_ n1_; (try clear hb); (try clear hb2); (try clear hk); (try clear hi)) | (go_at_call 16; (with_reducible refine (gantrylaw1_bin.calls kj84 3 (wrap64 (2 + (wrap64 (Int.tmod (IntKind.u64.wrap ((rd_T25 l0 x3_1).f1)) 8)))) t186 t155 t187 _ A110.out).mono ?_); rintro e w115 ⟨rfl, hb⟩; have n0_ := Aside0.mk (blk_below (g := gb153) (o := .cells #[.int .i64 ((rd_T25 l0 x3_1).f0), .int .i64 ((rd_T25 l0 x3_1).f1), .int .i64 ((rd_T25 l0 x3_1).f2), .int .u64 ((rd_T25 l0 x3_1).f3), .int .u64 ((rd_T25 l0 x3_1).f4)] 25 (0, 0)) (by (with_reducible repeat (first | refine blk_drewN ?_ _ | refine blk_drew ?_ | refine blk_alloc ?_ _)); exact BK153.out) hb); have n1_ := Aside0.mk (below_step (by repeat (first | (with_reducible first | exact HB.out | apply below_alloc | apply pw_below_drewN | apply below_drew1 | refine below_set ?_ GE153.out) | exact HB.out)) hb); clear BK153; clear HB; have BK153 := n0_; have HB := n1_; clear n0_ n1_; (try clear hb); (try clear hb2); (try clear hk); (try clear hi)) | (go_at_call 16; (with_reducible refine (gantrylaw1_bin.calls kj84 5 (wrap64 (2 + (wrap64 (Int.tmod (IntKind.u64.wrap ((rd_T25 l0 x3_1).f1)) 8)))) t154 t155 t188 _ A111.out).mono ?_); rintro e w116 ⟨rfl, hb⟩; have n0_ := Aside0.mk (blk_below (g := gb153) (o := .cells #[.int .i64 ((rd_T25 l0 x3_1).f0), .int .i64 ((rd_T25 l0 x3_1).f1), .int .i64 ((rd_T25 l0 x3_1).f2), .int .u64 ((rd_T25 l0 x3_1).f3), .int .u64 ((rd_T25 l0 x3_1).f4)] 25 (0, 0)) (by (with_reducible repeat (first | refine blk_drewN ?_ _ | refine blk_drew ?_ | refine blk_alloc ?_ _)); exact BK153.out) hb); have n1_ := Aside0.mk (below_step (by repeat (first | (with_reducible first | exact HB.out | apply below_alloc | apply pw_below_drewN | apply below_drew1 | refine below_set ?_ GE153.out) | exact HB.out)) hb); clear BK153; clear HB; have BK153 := n0_; have HB := n1_; clear n0_ n1_; (try clear hb); (try clear hb2); (try clear hk); (try clear hi)) | (go_at_call 16; (with_reducible refine (gantrylaw1_bin.calls kj84 1 (wrap64 (2 + (wrap64 (Int.tmod (IntKind.u64.wrap ((rd_T25 l0 x3_1).f1)) 8)))) t187 t188 t189 _ A112.out).mono ?_); rintro e w117 ⟨rfl, hb⟩; have n0_ := Aside0.mk (blk_below (g := gb153) (o := .cells #[.int .i64 ((rd_T25 l0 x3_1).f0), .int .i64 ((rd_T25 l0 x3_1).f1), .int .i64 ((rd_T25 l0 x3_1).f2), .int .u64 ((rd_T25 l0 x3_1).f3), .int .u64 ((rd_T25 l0 x3_1).f4)] 25 (0, 0)) (by (with_reducible repeat (first | refine blk_drewN ?_ _ | refine blk_drew ?_ | refine blk_alloc ?_ _)); exact BK153.out) hb); have n1_ := Aside0.mk (below_step (by repeat (first | (with_reducible first | exact HB.out | apply below_alloc | apply pw_below_drewN | apply below_drew1 | refine below_set ?_ GE153.out) | exact HB.out)) hb); clear BK153; clear HB; have BK153 := n0_; have HB := n1_; clear n0_ n1_; (try clear hb); (try clear hb2); (try clear hk); (try clear hi)))
                                        go_roundg kj84
                                        case measure => have := HK1.out; have := HJ1.out; have := HJ9.out; have := HJ52.out; have := HJ84.out; omega
                                        case rel => exact ⟨(wrap64 (x3_1 + 1)), (by first | rfl | (simp; done) | (simp [*]; done)), H', ⟨by have := HK1.out; have := HJ1.out; have := HJ9.out; have := HJ52.out; have := HJ84.out; omega⟩, ⟨by repeat (first | (with_reducible first | exact HB.out | apply below_alloc | apply pw_below_drewN | apply below_drew1 | refine below_set ?_ GE153.out) | exact HB.out)⟩⟩
                                    · rw [if_neg c113] at H
                                      have c113b0 : (t189 == t154) = false := beq_eq_false_iff_ne.mpr c113
                                      have c113b1 : (t189 != t154) = true := bne_iff_ne.mpr c113
                                      as_aux_lemma =>
                                        obtain rfl := Option.some.inj H
                                        go_wp2_with (first | (go_at_call 16; (with_reducible refine (gantrylaw1_bin.calls kj84 4 (wrap64 (2 + (wrap64 (Int.tmod (IntKind.u64.wrap ((rd_T25 l0 x3_1).f1)) 8)))) t154 t155 t186 _ A109.out).mono ?_); rintro e w118 ⟨rfl, hb⟩; have n0_ := Aside0.mk (blk_below (g := gb153) (o := .cells #[.int .i64 ((rd_T25 l0 x3_1).f0), .int .i64 ((rd_T25 l0 x3_1).f1), .int .i64 ((rd_T25 l0 x3_1).f2), .int .u64 ((rd_T25 l0 x3_1).f3), .int .u64 ((rd_T25 l0 x3_1).f4)] 25 (0, 0)) (by (with_reducible repeat (first | refine blk_drewN ?_ _ | refine blk_drew ?_ | refine blk_alloc ?_ _)); exact BK153.out) hb); have n1_ := Aside0.mk (below_step (by repeat (first | (with_reducible first | exact HB.out | apply below_alloc | apply pw_below_drewN | apply below_drew1 | refine below_set ?_ GE153.out) | exact HB.out)) hb); clear BK153; clear HB; have BK153 := n0_; have HB := n1_; clear n0_ n1_; (try clear hb); (try clear hb2); (try clear hk); (try clear hi)) | (go_at_call 16; (with_reducible refine (gantrylaw1_bin.calls kj84 3 (wrap64 (2 + (wrap64 (Int.tmod (IntKind.u64.wrap ((rd_T25 l0 x3_1).f1)) 8)))) t186 t155 t187 _ A110.out).mono ?_); rintro e w119 ⟨rfl, hb⟩; have n0_ := Aside0.mk (blk_below (g := gb153) (o := .cells #[.int .i64 ((rd_T25 l0 x3_1).f0), .int .i64 ((rd_T25 l0 x3_1).f1), .int .i64 ((rd_T25 l0 x3_1).f2), .int .u64 ((rd_T25 l0 x3_1).f3), .int .u64 ((rd_T25 l0 x3_1).f4)] 25 (0, 0)) (by (with_reducible repeat (first | refine blk_drewN ?_ _ | refine blk_drew ?_ | refine blk_alloc ?_ _)); exact BK153.out) hb); have n1_ := Aside0.mk (below_step (by repeat (first | (with_reducible first | exact HB.out | apply below_alloc | apply pw_below_drewN | apply below_drew1 | refine below_set ?_ GE153.out) | exact HB.out)) hb); clear BK153; clear HB; have BK153 := n0_; have HB := n1_; clear n0_ n1_; (try clear hb); (try clear hb2); (try clear hk); (try clear hi)) | (go_at_call 16; (with_reducible refine (gantrylaw1_bin.calls kj84 5 (wrap64 (2 + (wrap64 (Int.tmod (IntKind.u64.wrap ((rd_T25 l0 x3_1).f1)) 8)))) t154 t155 t188 _ A111.out).mono ?_); rintro e w120 ⟨rfl, hb⟩; have n0_ := Aside0.mk (blk_below (g := gb153) (o := .cells #[.int .i64 ((rd_T25 l0 x3_1).f0), .int .i64 ((rd_T25 l0 x3_1).f1), .int .i64 ((rd_T25 l0 x3_1).f2), .int .u64 ((rd_T25 l0 x3_1).f3), .int .u64 ((rd_T25 l0 x3_1).f4)] 25 (0, 0)) (by (with_reducible repeat (first | refine blk_drewN ?_ _ | refine blk_drew ?_ | refine blk_alloc ?_ _)); exact BK153.out) hb); have n1_ := Aside0.mk (below_step (by repeat (first | (with_reducible first | exact HB.out | apply below_alloc | apply pw_below_drewN | apply below_drew1 | refine below_set ?_ GE153.out) | exact HB.out)) hb); clear BK153; clear HB; have BK153 := n0_; have HB := n1_; clear n0_ n1_; (try clear hb); (try clear hb2); (try clear hk); (try clear hi)) | (go_at_call 16; (with_reducible refine (gantrylaw1_bin.calls kj84 1 (wrap64 (2 + (wrap64 (Int.tmod (IntKind.u64.wrap ((rd_T25 l0 x3_1).f1)) 8)))) t187 t188 t189 _ A112.out).mono ?_); rintro e w121 ⟨rfl, hb⟩; have n0_ := Aside0.mk (blk_below (g := gb153) (o := .cells #[.int .i64 ((rd_T25 l0 x3_1).f0), .int .i64 ((rd_T25 l0 x3_1).f1), .int .i64 ((rd_T25 l0 x3_1).f2), .int .u64 ((rd_T25 l0 x3_1).f3), .int .u64 ((rd_T25 l0 x3_1).f4)] 25 (0, 0)) (by (with_reducible repeat (first | refine blk_drewN ?_ _ | refine blk_drew ?_ | refine blk_alloc ?_ _)); exact BK153.out) hb); have n1_ := Aside0.mk (below_step (by repeat (first | (with_reducible first | exact HB.out | apply below_alloc | apply pw_below_drewN | apply below_drew1 | refine below_set ?_ GE153.out) | exact HB.out)) hb); clear BK153; clear HB; have BK153 := n0_; have HB := n1_; clear n0_ n1_; (try clear hb); (try clear hb2); (try clear hk); (try clear hi)))
                                        go_ret
                                        exact ⟨by first | rfl | (simp [errW_none, errW_some] <;> rfl) | (simp [*, errW_none, errW_some] <;> rfl), by repeat (first | (with_reducible first | exact HB.out | apply below_alloc | apply pw_below_drewN | apply below_drew1 | refine below_set ?_ GE153.out) | exact HB.out)⟩
              · rw [if_neg c6] at H
                exact absurd H (by simp)
            · rw [if_neg c5] at H
              exact absurd H (by simp)
          · replace c4 := Bool.eq_false_iff.mpr c4
            subst c4
            have H1 : ((gantrylaw1_wakes.f kj1).bind fun t151 => (some t151)) = some r := by rw [if_neg (show ¬ (false = true) by decide)] at H; exact H
            clear H
            have H := H1
            clear H1
            replace H := Option.bind_eq_some_iff.mp H
            obtain ⟨t151, A1220, H⟩ := H
            replace H : (some t151) = some r := H
            have A122 := Aside0.mk A1220
            clear A1220
            as_aux_lemma =>
              obtain rfl := Option.some.inj H
              go_wp2_with (first | (go_at_call 18; (with_reducible refine (gantrylaw1_wakes.calls kj1  t151 _ A122.out).mono ?_); rintro e w123 ⟨rfl, hb⟩; have n0_ := Aside0.mk (below_step (by repeat (first | (with_reducible first | exact HB.out | apply below_alloc | apply pw_below_drewN | apply below_drew1) | exact HB.out)) hb); clear HB; have HB := n0_; clear n0_; (try clear hb); (try clear hb2); (try clear hk); (try clear hi)))
              go_ret
              exact ⟨by first | rfl | (simp [errW_none, errW_some] <;> rfl) | (simp [*, errW_none, errW_some] <;> rfl), by repeat (first | (with_reducible first | exact HB.out | apply below_alloc | apply pw_below_drewN | apply below_drew1) | exact HB.out)⟩

end Go.Proofs.Ytahepinbmcgbnaa.PA
