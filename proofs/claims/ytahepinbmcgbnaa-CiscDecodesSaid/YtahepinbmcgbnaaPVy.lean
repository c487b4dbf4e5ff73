/- Several texts in one: PVx0 PVx1 PVx2. No condition. -/
import Derived.Test.YtahepinbmcgbnaaProg
import Derived.Below
import Derived.Deep.Draws
import Derived.Deep.AppendLies
import Derived.Maps.AppendAt
import Derived.OwnWalk
import Derived.Laws.BytesArg
import Derived.Laws.MakeOwn
import Derived.Laws.OwnMore
import Derived.Deep.OwnRows
import Derived.Tactics
import Derived.Lib.ConvBytes
import Derived.Laws.Slices
import Derived.WalkKit
import Derived.KernelRfl
import Derived.RowKit3
import Derived.Deep.LoopGhost
import Derived.Deep.QuietTactic
import Derived.BigQuiet
import Derived.WideLaws
import Derived.Deep.DeepCutAuto
import Derived.Deep.CutBlock
import Derived.Deep.RegionHeld3
import Derived.Laws.Rows
import Derived.Lib.AppendStr
import Derived.ArgAppend
import Derived.Laws.IdiomCopy
import Derived.OrdersHeld
import Derived.Laws.BitsLemmas
import Derived.RowKit
import Derived.Test.YtahepinbmcgbnaaFl
import Derived.WalkLawsBesides
import Derived.Test.YtahepinbmcgbnaaVMore
section
-- Printed by this session's program (wip/tools: the kit's printer, turned for this claim), out of the translation.
namespace Go.Proofs.Ytahepinbmcgbnaa.PV
open Go.RowKit Go.Proofs.YtahepinbmcgbnaaW.PrintWords Go.Proofs.YtahepinbmcgbnaaW.PrintLast Go.Proofs.YtahepinbmcgbnaaW.PrintMore
attribute [local go_sem] max2_int min2_int max_two min_two max_three min_three max_four min_four   -- for this text's walks alone
attribute [local go_sem] Fl.frombits Fl.tobits
set_option linter.unusedVariables false
set_option linter.unusedSimpArgs false



def errW : Option Int → Value
 | none => .nilIface
 | some c => .iface 0 (.int .i64 c)
theorem errW_none : errW none = .nilIface := rfl
theorem errW_some (c : Int) : errW (some c) = .iface 0 (.int .i64 c) := rfl

-- the values' own types

end Go.Proofs.Ytahepinbmcgbnaa.PV
end
section
-- Printed by this session's program (wip/tools: the kit's printer, turned for this claim), out of the translation.
namespace Go.Proofs.Ytahepinbmcgbnaa.PV
open Go.RowKit Go.Proofs.YtahepinbmcgbnaaW.PrintWords Go.Proofs.YtahepinbmcgbnaaW.PrintLast Go.Proofs.YtahepinbmcgbnaaW.PrintMore
attribute [local go_sem] max2_int min2_int max_two min_two max_three min_three max_four min_four   -- for this text's walks alone
attribute [local go_sem] Fl.frombits Fl.tobits
set_option linter.unusedVariables false
set_option linter.unusedSimpArgs false

-- in place: function 53

-- in place: function 54

/-! ### word_truth: function 95 -/
def word_truth.f (a0 : Bool) : Option (Int) := if a0 = true then (some 1) else (some 0)
set_option maxHeartbeats 8000000 in
set_option maxRecDepth 100000 in
theorem word_truth.calls (a0 : Bool) (r : Int) (w : World) (h : word_truth.f a0 = some r) :
  Calls Try.prog 95 #[.bool a0] w fun e w' => e = .returned (.int .u64 r) ∧ Drawn0 w w' := by
 have H : (if a0 = true then (some 1) else (some 0)) = some r := h
 clear h
 by_cases c2 : a0 = true
 ·subst c2
  have H1 : (some 1) = some r := by rw [if_pos rfl] at H; exact H
  clear H
  have H := H1
  clear H1
  obtain rfl := Option.some.inj H
  go_enter Try.func95, Try.ntmps95
  go_wp2
  go_ret
  exact ⟨by first | rfl | (simp; done) | (simp [*]; done), by repeat (first | exact Drawn0.refl _ | apply Drawn0.step)⟩
 ·replace c2 := Bool.eq_false_iff.mpr c2
  subst c2
  have H1 : (some 0) = some r := by rw [if_neg (show ¬ (false = true) by decide)] at H; exact H
  clear H
  have H := H1
  clear H1
  obtain rfl := Option.some.inj H
  go_enter Try.func95, Try.ntmps95
  go_wp2
  go_ret
  exact ⟨by first | rfl | (simp; done) | (simp [*]; done), by repeat (first | exact Drawn0.refl _ | apply Drawn0.step)⟩

/-! ### word_order_says: function 57 -/
def word_order_says.f (a0_0 : Bool) (a0_1 : Bool) (a1 : Int) : Option (Int) := if a1 = 11 then ((word_truth.f a0_1).bind fun t102 => (some t102)) else (if a1 = 13 then ((word_truth.f a0_0).bind fun t103 => (some t103)) else (if a1 = 14 then (if a0_0 = true then ((word_truth.f true).bind fun t104 => (some t104)) else ((word_truth.f a0_1).bind fun t105 => (some t105))) else (if a1 = 15 then (if a0_0 = true then ((word_truth.f false).bind fun t106 => (some t106)) else ((word_truth.f (!a0_1)).bind fun t107 => (some t107))) else (if a1 = 16 then ((word_truth.f (!a0_0)).bind fun t108 => (some t108)) else ((word_truth.f (!a0_1)).bind fun t109 => (some t109))))))
set_option maxHeartbeats 8000000 in
set_option maxRecDepth 100000 in
theorem word_order_says.calls (a0_0 : Bool) (a0_1 : Bool) (a1 : Int) (r : Int) (w : World) (h : word_order_says.f a0_0 a0_1 a1 = some r) :
  Calls Try.prog 57 #[.agg #[.bool a0_0, .bool a0_1], .int .i64 a1] w fun e w' => e = .returned (.int .u64 r) ∧ Below w.heap.size w w' := by
 have hu68 := Try.underlying68
 have HB := Aside0.mk (Below.refl w.heap.size w)
 have H : (if a1 = 11 then ((word_truth.f a0_1).bind fun t102 => (some t102)) else (if a1 = 13 then ((word_truth.f a0_0).bind fun t103 => (some t103)) else (if a1 = 14 then (if a0_0 = true then ((word_truth.f true).bind fun t104 => (some t104)) else ((word_truth.f a0_1).bind fun t105 => (some t105))) else (if a1 = 15 then (if a0_0 = true then ((word_truth.f false).bind fun t106 => (some t106)) else ((word_truth.f (!a0_1)).bind fun t107 => (some t107))) else (if a1 = 16 then ((word_truth.f (!a0_0)).bind fun t108 => (some t108)) else ((word_truth.f (!a0_1)).bind fun t109 => (some t109))))))) = some r := h
 clear h
 by_cases c3 : a1 = 11
 ·rw [if_pos c3] at H
  have c3b0 : (a1 == 11) = true := beq_iff_eq.mpr c3
  have c3b1 : (a1 != 11) = false := bne_eq_false_iff_eq.mpr c3
  clear c3
  replace H := Option.bind_eq_some_iff.mp H
  obtain ⟨t102, A40, H⟩ := H
  replace H : (some t102) = some r := H
  have A4 := Aside0.mk A40
  clear A40
  obtain rfl := Option.some.inj H
  go_enter Try.func57, Try.ntmps57
  go_wp2_with (first | ((with_reducible refine gate_dst (N := 2) rfl ?_); refine box_event ?hg (N := 2) ?hd (cs := #[.bool a0_0, .bool a0_1]) (t := 68) ?hr ?_; (case hd => rfl); (case hg => rfl); (case hr => first | (go_simp; done) | (go_simp; rfl)); intro gb101 hg w5 hbox hb; have n0_ := Aside0.mk (below_step (by repeat (first | (with_reducible first | exact HB.out | apply below_alloc | apply pw_below_drewN | apply below_drew1) | exact HB.out)) hb); have n1_ := Aside0.mk (hbox); have n2_ := Aside0.mk ((by rw [hg]; exact (below_size (by repeat (first | (with_reducible first | exact HB.out | apply below_alloc | apply pw_below_drewN | apply below_drew1) | exact HB.out))) : w.heap.size ≤ gb101)); have n3_ := Aside0.mk ((by rw [hg]; exact (below_size (by repeat (first | (with_reducible first | exact HB.out | apply below_alloc | apply pw_below_drewN | apply below_drew1) | exact HB.out))) : w.heap.size ≤ gb101)); clear HB; have HB := n0_; have BK101 := n1_; have GW101 := n2_; have GE101 := n3_; clear n0_ n1_ n2_ n3_; clear hb hbox hg; have hcz6_0 : w5.cell? ⟨gb101, 0, none⟩ = some (.bool a0_0) := (blk_cell BK101.out 0).trans rfl; have hcz6_1 : w5.cell? ⟨gb101, 1, none⟩ = some (.bool a0_1) := (blk_cell BK101.out 1).trans rfl; have hfz6_0 := blk_frozen BK101.out 0; have hfz6_1 := blk_frozen BK101.out 1) | ((with_reducible refine gate_callee (f := 95) rfl ?_); refine goesL_ (some 10) rfl rfl Try.func95 (by kernel_rfl) rfl #[.bool a0_1] rfl (by (try simp only [List.map_toArray, List.map_cons, List.map_nil]); first | done | rfl | (simp only [List.length_drop, List.length_take]; rfl)) ?_; (with_reducible refine (word_truth.calls a0_1 t102 _ A4.out).mono ?_); rintro e w' ⟨rfl, ⟨nd, rfl⟩⟩; refine ⟨_, rfl, ?_⟩))
  go_ret
  exact ⟨by first | rfl | (simp [errW_none, errW_some] <;> rfl) | (simp [*, errW_none, errW_some] <;> rfl), by repeat (first | (with_reducible first | exact HB.out | apply below_alloc | apply pw_below_drewN | apply below_drew1 | refine below_set ?_ GE101.out) | exact HB.out)⟩
 ·rw [if_neg c3] at H
  have c3b0 : (a1 == 11) = false := beq_eq_false_iff_ne.mpr c3
  have c3b1 : (a1 != 11) = true := bne_iff_ne.mpr c3
  by_cases c7 : a1 = 13
  ·rw [if_pos c7] at H
   have c7b0 : (a1 == 13) = true := beq_iff_eq.mpr c7
   have c7b1 : (a1 != 13) = false := bne_eq_false_iff_eq.mpr c7
   clear c7
   replace H := Option.bind_eq_some_iff.mp H
   obtain ⟨t103, A80, H⟩ := H
   replace H : (some t103) = some r := H
   have A8 := Aside0.mk A80
   clear A80
   obtain rfl := Option.some.inj H
   go_enter Try.func57, Try.ntmps57
   go_wp2_with (first | ((with_reducible refine gate_dst (N := 2) rfl ?_); refine box_event ?hg (N := 2) ?hd (cs := #[.bool a0_0, .bool a0_1]) (t := 68) ?hr ?_; (case hd => rfl); (case hg => rfl); (case hr => first | (go_simp; done) | (go_simp; rfl)); intro gb101 hg w9 hbox hb; have n0_ := Aside0.mk (below_step (by repeat (first | (with_reducible first | exact HB.out | apply below_alloc | apply pw_below_drewN | apply below_drew1) | exact HB.out)) hb); have n1_ := Aside0.mk (hbox); have n2_ := Aside0.mk ((by rw [hg]; exact (below_size (by repeat (first | (with_reducible first | exact HB.out | apply below_alloc | apply pw_below_drewN | apply below_drew1) | exact HB.out))) : w.heap.size ≤ gb101)); have n3_ := Aside0.mk ((by rw [hg]; exact (below_size (by repeat (first | (with_reducible first | exact HB.out | apply below_alloc | apply pw_below_drewN | apply below_drew1) | exact HB.out))) : w.heap.size ≤ gb101)); clear HB; have HB := n0_; have BK101 := n1_; have GW101 := n2_; have GE101 := n3_; clear n0_ n1_ n2_ n3_; clear hb hbox hg; have hcz10_0 : w9.cell? ⟨gb101, 0, none⟩ = some (.bool a0_0) := (blk_cell BK101.out 0).trans rfl; have hcz10_1 : w9.cell? ⟨gb101, 1, none⟩ = some (.bool a0_1) := (blk_cell BK101.out 1).trans rfl; have hfz10_0 := blk_frozen BK101.out 0; have hfz10_1 := blk_frozen BK101.out 1) | ((with_reducible refine gate_callee (f := 95) rfl ?_); refine goesL_ (some 15) rfl rfl Try.func95 (by kernel_rfl) rfl #[.bool a0_0] rfl (by (try simp only [List.map_toArray, List.map_cons, List.map_nil]); first | done | rfl | (simp only [List.length_drop, List.length_take]; rfl)) ?_; (with_reducible refine (word_truth.calls a0_0 t103 _ A8.out).mono ?_); rintro e w' ⟨rfl, ⟨nd, rfl⟩⟩; refine ⟨_, rfl, ?_⟩))
   go_ret
   exact ⟨by first | rfl | (simp [errW_none, errW_some] <;> rfl) | (simp [*, errW_none, errW_some] <;> rfl), by repeat (first | (with_reducible first | exact HB.out | apply below_alloc | apply pw_below_drewN | apply below_drew1 | refine below_set ?_ GE101.out) | exact HB.out)⟩
  ·rw [if_neg c7] at H
   have c7b0 : (a1 == 13) = false := beq_eq_false_iff_ne.mpr c7
   have c7b1 : (a1 != 13) = true := bne_iff_ne.mpr c7
   by_cases c11 : a1 = 14
   ·rw [if_pos c11] at H
    have c11b0 : (a1 == 14) = true := beq_iff_eq.mpr c11
    have c11b1 : (a1 != 14) = false := bne_eq_false_iff_eq.mpr c11
    clear c11
    by_cases c12 : a0_0 = true
    ·subst c12
     have H1 : ((word_truth.f true).bind fun t104 => (some t104)) = some r := by rw [if_pos rfl] at H; exact H
     clear H
     have H := H1
     clear H1
     replace H := Option.bind_eq_some_iff.mp H
     obtain ⟨t104, A130, H⟩ := H
     replace H : (some t104) = some r := H
     have A13 := Aside0.mk A130
     clear A130
     obtain rfl := Option.some.inj H
     go_enter Try.func57, Try.ntmps57
     go_wp2_with (first | ((with_reducible refine gate_dst (N := 2) rfl ?_); refine box_event ?hg (N := 2) ?hd (cs := #[.bool true, .bool a0_1]) (t := 68) ?hr ?_; (case hd => rfl); (case hg => rfl); (case hr => first | (go_simp; done) | (go_simp; rfl)); intro gb101 hg w14 hbox hb; have n0_ := Aside0.mk (below_step (by repeat (first | (with_reducible first | exact HB.out | apply below_alloc | apply pw_below_drewN | apply below_drew1) | exact HB.out)) hb); have n1_ := Aside0.mk (hbox); have n2_ := Aside0.mk ((by rw [hg]; exact (below_size (by repeat (first | (with_reducible first | exact HB.out | apply below_alloc | apply pw_below_drewN | apply below_drew1) | exact HB.out))) : w.heap.size ≤ gb101)); have n3_ := Aside0.mk ((by rw [hg]; exact (below_size (by repeat (first | (with_reducible first | exact HB.out | apply below_alloc | apply pw_below_drewN | apply below_drew1) | exact HB.out))) : w.heap.size ≤ gb101)); clear HB; have HB := n0_; have BK101 := n1_; have GW101 := n2_; have GE101 := n3_; clear n0_ n1_ n2_ n3_; clear hb hbox hg; have hcz15_0 : w14.cell? ⟨gb101, 0, none⟩ = some (.bool true) := (blk_cell BK101.out 0).trans rfl; have hcz15_1 : w14.cell? ⟨gb101, 1, none⟩ = some (.bool a0_1) := (blk_cell BK101.out 1).trans rfl; have hfz15_0 := blk_frozen BK101.out 0; have hfz15_1 := blk_frozen BK101.out 1) | ((with_reducible refine gate_callee (f := 95) rfl ?_); refine goesL_ (some 24) rfl rfl Try.func95 (by kernel_rfl) rfl #[.bool true] rfl (by (try simp only [List.map_toArray, List.map_cons, List.map_nil]); first | done | rfl | (simp only [List.length_drop, List.length_take]; rfl)) ?_; (with_reducible refine (word_truth.calls true t104 _ A13.out).mono ?_); rintro e w' ⟨rfl, ⟨nd, rfl⟩⟩; refine ⟨_, rfl, ?_⟩))
     go_ret
     exact ⟨by first | rfl | (simp [errW_none, errW_some] <;> rfl) | (simp [*, errW_none, errW_some] <;> rfl), by repeat (first | (with_reducible first | exact HB.out | apply below_alloc | apply pw_below_drewN | apply below_drew1 | refine below_set ?_ GE101.out) | exact HB.out)⟩
    ·replace c12 := Bool.eq_false_iff.mpr c12
     subst c12
     have H1 : ((word_truth.f a0_1).bind fun t105 => (some t105)) = some r := by rw [if_neg (show ¬ (false = true) by decide)] at H; exact H
     clear H
     have H := H1
     clear H1
     replace H := Option.bind_eq_some_iff.mp H
     obtain ⟨t105, A160, H⟩ := H
     replace H : (some t105) = some r := H
     have A16 := Aside0.mk A160
     clear A160
     obtain rfl := Option.some.inj H
     go_enter Try.func57, Try.ntmps57
     go_wp2_with (first | ((with_reducible refine gate_dst (N := 2) rfl ?_); refine box_event ?hg (N := 2) ?hd (cs := #[.bool false, .bool a0_1]) (t := 68) ?hr ?_; (case hd => rfl); (case hg => rfl); (case hr => first | (go_simp; done) | (go_simp; rfl)); intro gb101 hg w17 hbox hb; have n0_ := Aside0.mk (below_step (by repeat (first | (with_reducible first | exact HB.out | apply below_alloc | apply pw_below_drewN | apply below_drew1) | exact HB.out)) hb); have n1_ := Aside0.mk (hbox); have n2_ := Aside0.mk ((by rw [hg]; exact (below_size (by repeat (first | (with_reducible first | exact HB.out | apply below_alloc | apply pw_below_drewN | apply below_drew1) | exact HB.out))) : w.heap.size ≤ gb101)); have n3_ := Aside0.mk ((by rw [hg]; exact (below_size (by repeat (first | (with_reducible first | exact HB.out | apply below_alloc | apply pw_below_drewN | apply below_drew1) | exact HB.out))) : w.heap.size ≤ gb101)); clear HB; have HB := n0_; have BK101 := n1_; have GW101 := n2_; have GE101 := n3_; clear n0_ n1_ n2_ n3_; clear hb hbox hg; have hcz18_0 : w17.cell? ⟨gb101, 0, none⟩ = some (.bool false) := (blk_cell BK101.out 0).trans rfl; have hcz18_1 : w17.cell? ⟨gb101, 1, none⟩ = some (.bool a0_1) := (blk_cell BK101.out 1).trans rfl; have hfz18_0 := blk_frozen BK101.out 0; have hfz18_1 := blk_frozen BK101.out 1) | ((with_reducible refine gate_callee (f := 95) rfl ?_); refine goesL_ (some 24) rfl rfl Try.func95 (by kernel_rfl) rfl #[.bool a0_1] rfl (by (try simp only [List.map_toArray, List.map_cons, List.map_nil]); first | done | rfl | (simp only [List.length_drop, List.length_take]; rfl)) ?_; (with_reducible refine (word_truth.calls a0_1 t105 _ A16.out).mono ?_); rintro e w' ⟨rfl, ⟨nd, rfl⟩⟩; refine ⟨_, rfl, ?_⟩))
     go_ret
     exact ⟨by first | rfl | (simp [errW_none, errW_some] <;> rfl) | (simp [*, errW_none, errW_some] <;> rfl), by repeat (first | (with_reducible first | exact HB.out | apply below_alloc | apply pw_below_drewN | apply below_drew1 | refine below_set ?_ GE101.out) | exact HB.out)⟩
   ·rw [if_neg c11] at H
    have c11b0 : (a1 == 14) = false := beq_eq_false_iff_ne.mpr c11
    have c11b1 : (a1 != 14) = true := bne_iff_ne.mpr c11
    by_cases c19 : a1 = 15
    ·rw [if_pos c19] at H
     have c19b0 : (a1 == 15) = true := beq_iff_eq.mpr c19
     have c19b1 : (a1 != 15) = false := bne_eq_false_iff_eq.mpr c19
     clear c19
     by_cases c20 : a0_0 = true
     ·subst c20
      have H1 : ((word_truth.f false).bind fun t106 => (some t106)) = some r := by rw [if_pos rfl] at H; exact H
      clear H
      have H := H1
      clear H1
      replace H := Option.bind_eq_some_iff.mp H
      obtain ⟨t106, A210, H⟩ := H
      replace H : (some t106) = some r := H
      have A21 := Aside0.mk A210
      clear A210
      obtain rfl := Option.some.inj H
      go_enter Try.func57, Try.ntmps57
      go_wp2_with (first | ((with_reducible refine gate_dst (N := 2) rfl ?_); refine box_event ?hg (N := 2) ?hd (cs := #[.bool true, .bool a0_1]) (t := 68) ?hr ?_; (case hd => rfl); (case hg => rfl); (case hr => first | (go_simp; done) | (go_simp; rfl)); intro gb101 hg w22 hbox hb; have n0_ := Aside0.mk (below_step (by repeat (first | (with_reducible first | exact HB.out | apply below_alloc | apply pw_below_drewN | apply below_drew1) | exact HB.out)) hb); have n1_ := Aside0.mk (hbox); have n2_ := Aside0.mk ((by rw [hg]; exact (below_size (by repeat (first | (with_reducible first | exact HB.out | apply below_alloc | apply pw_below_drewN | apply below_drew1) | exact HB.out))) : w.heap.size ≤ gb101)); have n3_ := Aside0.mk ((by rw [hg]; exact (below_size (by repeat (first | (with_reducible first | exact HB.out | apply below_alloc | apply pw_below_drewN | apply below_drew1) | exact HB.out))) : w.heap.size ≤ gb101)); clear HB; have HB := n0_; have BK101 := n1_; have GW101 := n2_; have GE101 := n3_; clear n0_ n1_ n2_ n3_; clear hb hbox hg; have hcz23_0 : w22.cell? ⟨gb101, 0, none⟩ = some (.bool true) := (blk_cell BK101.out 0).trans rfl; have hcz23_1 : w22.cell? ⟨gb101, 1, none⟩ = some (.bool a0_1) := (blk_cell BK101.out 1).trans rfl; have hfz23_0 := blk_frozen BK101.out 0; have hfz23_1 := blk_frozen BK101.out 1) | ((with_reducible refine gate_callee (f := 95) rfl ?_); refine goesL_ (some 35) rfl rfl Try.func95 (by kernel_rfl) rfl #[.bool false] rfl (by (try simp only [List.map_toArray, List.map_cons, List.map_nil]); first | done | rfl | (simp only [List.length_drop, List.length_take]; rfl)) ?_; (with_reducible refine (word_truth.calls false t106 _ A21.out).mono ?_); rintro e w' ⟨rfl, ⟨nd, rfl⟩⟩; refine ⟨_, rfl, ?_⟩))
      go_ret
      exact ⟨by first | rfl | (simp [errW_none, errW_some] <;> rfl) | (simp [*, errW_none, errW_some] <;> rfl), by repeat (first | (with_reducible first | exact HB.out | apply below_alloc | apply pw_below_drewN | apply below_drew1 | refine below_set ?_ GE101.out) | exact HB.out)⟩
     ·replace c20 := Bool.eq_false_iff.mpr c20
      subst c20
      have H1 : ((word_truth.f (!a0_1)).bind fun t107 => (some t107)) = some r := by rw [if_neg (show ¬ (false = true) by decide)] at H; exact H
      clear H
      have H := H1
      clear H1
      replace H := Option.bind_eq_some_iff.mp H
      obtain ⟨t107, A240, H⟩ := H
      replace H : (some t107) = some r := H
      have A24 := Aside0.mk A240
      clear A240
      obtain rfl := Option.some.inj H
      go_enter Try.func57, Try.ntmps57
      go_wp2_with (first | ((with_reducible refine gate_dst (N := 2) rfl ?_); refine box_event ?hg (N := 2) ?hd (cs := #[.bool false, .bool a0_1]) (t := 68) ?hr ?_; (case hd => rfl); (case hg => rfl); (case hr => first | (go_simp; done) | (go_simp; rfl)); intro gb101 hg w25 hbox hb; have n0_ := Aside0.mk (below_step (by repeat (first | (with_reducible first | exact HB.out | apply below_alloc | apply pw_below_drewN | apply below_drew1) | exact HB.out)) hb); have n1_ := Aside0.mk (hbox); have n2_ := Aside0.mk ((by rw [hg]; exact (below_size (by repeat (first | (with_reducible first | exact HB.out | apply below_alloc | apply pw_below_drewN | apply below_drew1) | exact HB.out))) : w.heap.size ≤ gb101)); have n3_ := Aside0.mk ((by rw [hg]; exact (below_size (by repeat (first | (with_reducible first | exact HB.out | apply below_alloc | apply pw_below_drewN | apply below_drew1) | exact HB.out))) : w.heap.size ≤ gb101)); clear HB; have HB := n0_; have BK101 := n1_; have GW101 := n2_; have GE101 := n3_; clear n0_ n1_ n2_ n3_; clear hb hbox hg; have hcz26_0 : w25.cell? ⟨gb101, 0, none⟩ = some (.bool false) := (blk_cell BK101.out 0).trans rfl; have hcz26_1 : w25.cell? ⟨gb101, 1, none⟩ = some (.bool a0_1) := (blk_cell BK101.out 1).trans rfl; have hfz26_0 := blk_frozen BK101.out 0; have hfz26_1 := blk_frozen BK101.out 1) | ((with_reducible refine gate_callee (f := 95) rfl ?_); refine goesL_ (some 35) rfl rfl Try.func95 (by kernel_rfl) rfl #[.bool (!a0_1)] rfl (by (try simp only [List.map_toArray, List.map_cons, List.map_nil]); first | done | rfl | (simp only [List.length_drop, List.length_take]; rfl)) ?_; (with_reducible refine (word_truth.calls (!a0_1) t107 _ A24.out).mono ?_); rintro e w' ⟨rfl, ⟨nd, rfl⟩⟩; refine ⟨_, rfl, ?_⟩))
      go_ret
      exact ⟨by first | rfl | (simp [errW_none, errW_some] <;> rfl) | (simp [*, errW_none, errW_some] <;> rfl), by repeat (first | (with_reducible first | exact HB.out | apply below_alloc | apply pw_below_drewN | apply below_drew1 | refine below_set ?_ GE101.out) | exact HB.out)⟩
    ·rw [if_neg c19] at H
     have c19b0 : (a1 == 15) = false := beq_eq_false_iff_ne.mpr c19
     have c19b1 : (a1 != 15) = true := bne_iff_ne.mpr c19
     by_cases c27 : a1 = 16
     ·rw [if_pos c27] at H
      have c27b0 : (a1 == 16) = true := beq_iff_eq.mpr c27
      have c27b1 : (a1 != 16) = false := bne_eq_false_iff_eq.mpr c27
      clear c27
      replace H := Option.bind_eq_some_iff.mp H
      obtain ⟨t108, A280, H⟩ := H
      replace H : (some t108) = some r := H
      have A28 := Aside0.mk A280
      clear A280
      obtain rfl := Option.some.inj H
      go_enter Try.func57, Try.ntmps57
      go_wp2_with (first | ((with_reducible refine gate_dst (N := 2) rfl ?_); refine box_event ?hg (N := 2) ?hd (cs := #[.bool a0_0, .bool a0_1]) (t := 68) ?hr ?_; (case hd => rfl); (case hg => rfl); (case hr => first | (go_simp; done) | (go_simp; rfl)); intro gb101 hg w29 hbox hb; have n0_ := Aside0.mk (below_step (by repeat (first | (with_reducible first | exact HB.out | apply below_alloc | apply pw_below_drewN | apply below_drew1) | exact HB.out)) hb); have n1_ := Aside0.mk (hbox); have n2_ := Aside0.mk ((by rw [hg]; exact (below_size (by repeat (first | (with_reducible first | exact HB.out | apply below_alloc | apply pw_below_drewN | apply below_drew1) | exact HB.out))) : w.heap.size ≤ gb101)); have n3_ := Aside0.mk ((by rw [hg]; exact (below_size (by repeat (first | (with_reducible first | exact HB.out | apply below_alloc | apply pw_below_drewN | apply below_drew1) | exact HB.out))) : w.heap.size ≤ gb101)); clear HB; have HB := n0_; have BK101 := n1_; have GW101 := n2_; have GE101 := n3_; clear n0_ n1_ n2_ n3_; clear hb hbox hg; have hcz30_0 : w29.cell? ⟨gb101, 0, none⟩ = some (.bool a0_0) := (blk_cell BK101.out 0).trans rfl; have hcz30_1 : w29.cell? ⟨gb101, 1, none⟩ = some (.bool a0_1) := (blk_cell BK101.out 1).trans rfl; have hfz30_0 := blk_frozen BK101.out 0; have hfz30_1 := blk_frozen BK101.out 1) | ((with_reducible refine gate_callee (f := 95) rfl ?_); refine goesL_ (some 41) rfl rfl Try.func95 (by kernel_rfl) rfl #[.bool (!a0_0)] rfl (by (try simp only [List.map_toArray, List.map_cons, List.map_nil]); first | done | rfl | (simp only [List.length_drop, List.length_take]; rfl)) ?_; (with_reducible refine (word_truth.calls (!a0_0) t108 _ A28.out).mono ?_); rintro e w' ⟨rfl, ⟨nd, rfl⟩⟩; refine ⟨_, rfl, ?_⟩))
      go_ret
      exact ⟨by first | rfl | (simp [errW_none, errW_some] <;> rfl) | (simp [*, errW_none, errW_some] <;> rfl), by repeat (first | (with_reducible first | exact HB.out | apply below_alloc | apply pw_below_drewN | apply below_drew1 | refine below_set ?_ GE101.out) | exact HB.out)⟩
     ·rw [if_neg c27] at H
      have c27b0 : (a1 == 16) = false := beq_eq_false_iff_ne.mpr c27
      have c27b1 : (a1 != 16) = true := bne_iff_ne.mpr c27
      replace H := Option.bind_eq_some_iff.mp H
      obtain ⟨t109, A310, H⟩ := H
      replace H : (some t109) = some r := H
      have A31 := Aside0.mk A310
      clear A310
      obtain rfl := Option.some.inj H
      go_enter Try.func57, Try.ntmps57
      go_wp2_with (first | ((with_reducible refine gate_dst (N := 2) rfl ?_); refine box_event ?hg (N := 2) ?hd (cs := #[.bool a0_0, .bool a0_1]) (t := 68) ?hr ?_; (case hd => rfl); (case hg => rfl); (case hr => first | (go_simp; done) | (go_simp; rfl)); intro gb101 hg w32 hbox hb; have n0_ := Aside0.mk (below_step (by repeat (first | (with_reducible first | exact HB.out | apply below_alloc | apply pw_below_drewN | apply below_drew1) | exact HB.out)) hb); have n1_ := Aside0.mk (hbox); have n2_ := Aside0.mk ((by rw [hg]; exact (below_size (by repeat (first | (with_reducible first | exact HB.out | apply below_alloc | apply pw_below_drewN | apply below_drew1) | exact HB.out))) : w.heap.size ≤ gb101)); have n3_ := Aside0.mk ((by rw [hg]; exact (below_size (by repeat (first | (with_reducible first | exact HB.out | apply below_alloc | apply pw_below_drewN | apply below_drew1) | exact HB.out))) : w.heap.size ≤ gb101)); clear HB; have HB := n0_; have BK101 := n1_; have GW101 := n2_; have GE101 := n3_; clear n0_ n1_ n2_ n3_; clear hb hbox hg; have hcz33_0 : w32.cell? ⟨gb101, 0, none⟩ = some (.bool a0_0) := (blk_cell BK101.out 0).trans rfl; have hcz33_1 : w32.cell? ⟨gb101, 1, none⟩ = some (.bool a0_1) := (blk_cell BK101.out 1).trans rfl; have hfz33_0 := blk_frozen BK101.out 0; have hfz33_1 := blk_frozen BK101.out 1) | ((with_reducible refine gate_callee (f := 95) rfl ?_); refine goesL_ (some 45) rfl rfl Try.func95 (by kernel_rfl) rfl #[.bool (!a0_1)] rfl (by (try simp only [List.map_toArray, List.map_cons, List.map_nil]); first | done | rfl | (simp only [List.length_drop, List.length_take]; rfl)) ?_; (with_reducible refine (word_truth.calls (!a0_1) t109 _ A31.out).mono ?_); rintro e w' ⟨rfl, ⟨nd, rfl⟩⟩; refine ⟨_, rfl, ?_⟩))
      go_ret
      exact ⟨by first | rfl | (simp [errW_none, errW_some] <;> rfl) | (simp [*, errW_none, errW_some] <;> rfl), by repeat (first | (with_reducible first | exact HB.out | apply below_alloc | apply pw_below_drewN | apply below_drew1 | refine below_set ?_ GE101.out) | exact HB.out)⟩

/-! ### math_IsNaN: function 94 -/
def math_IsNaN.f (a0 : Nat) : Option (Bool) := some (FloatKind.f64.format.order a0 a0 != some .eq)
set_option maxHeartbeats 8000000 in
set_option maxRecDepth 100000 in
theorem math_IsNaN.calls (a0 : Nat) (r : Bool) (w : World) (h : math_IsNaN.f a0 = some r) :
  Calls Try.prog 94 #[.float .f64 a0] w fun e w' => e = .returned (.bool r) ∧ Drawn0 w w' := by
 have H : (some (FloatKind.f64.format.order a0 a0 != some .eq)) = some r := h
 clear h
 obtain rfl := Option.some.inj H
 go_enter Try.func94, Try.ntmps94
 go_wp2
 go_ret
 exact ⟨by first | rfl | (simp; done) | (simp [*]; done), by repeat (first | exact Drawn0.refl _ | apply Drawn0.step)⟩

end Go.Proofs.Ytahepinbmcgbnaa.PV
end
section
-- Printed by this session's program (wip/tools: the kit's printer, turned for this claim), out of the translation.
namespace Go.Proofs.Ytahepinbmcgbnaa.PV
open Go.RowKit Go.Proofs.YtahepinbmcgbnaaW.PrintWords Go.Proofs.YtahepinbmcgbnaaW.PrintLast Go.Proofs.YtahepinbmcgbnaaW.PrintMore
attribute [local go_sem] max2_int min2_int max_two min_two max_three min_three max_four min_four   -- for this text's walks alone
attribute [local go_sem] Fl.frombits Fl.tobits
set_option linter.unusedVariables false
set_option linter.unusedSimpArgs false

/-! ### word_floats: function 56 -/
def word_floats.f (a0 a1 a2 : Int) : Option Int := some (Fl.progF a0 a1.toNat a2.toNat)
theorem word_order_says.f_eq (l s : Bool) (op : Int) : word_order_says.f l s op = some (Fl.saysF l s op) := by
 unfold word_order_says.f Fl.saysF word_truth.f Fl.tr
 by_cases h1 : op = 11
 ·subst h1; cases l <;> cases s <;> rfl
 rw [if_neg h1, if_neg h1]
 by_cases h2 : op = 13
 ·subst h2; cases l <;> cases s <;> rfl
 rw [if_neg h2, if_neg h2]
 by_cases h3 : op = 14
 ·subst h3; cases l <;> cases s <;> rfl
 rw [if_neg h3, if_neg h3]
 by_cases h4 : op = 15
 ·subst h4; cases l <;> cases s <;> rfl
 rw [if_neg h4, if_neg h4]
 by_cases h5 : op = 16
 ·subst h5; cases l <;> cases s <;> rfl
 rw [if_neg h5, if_neg h5]
 cases l <;> cases s <;> rfl
set_option maxHeartbeats 8000000 in
set_option maxRecDepth 100000 in
theorem word_floats.calls (a0 a1 a2 : Int) (r : Int) (w : World) (h : word_floats.f a0 a1 a2 = some r) :
  Calls Try.prog 56 #[.int .i64 a0, .int .u64 a1, .int .u64 a2] w fun e w' => e = .returned (.int .u64 r) ∧ Below w.heap.size w w' := by
 obtain rfl : Fl.progF a0 a1.toNat a2.toNat = r := Option.some.inj h
 clear h
 have hfb := Fl.frombits
 have htb := Fl.tobits
 have hcv : ∀ (b : Nat) (w : World), (convert 63 63 (.float .f64 b)).run Try.prog w = .ok (.float .f64 b) w := fun b w => run_convert_float_float (P := Try.prog) w 63 63 .f64 .f64 b b (by kernel_rfl) Try.underlying63 rfl
 unfold Fl.progF Fl.ord
 have hu68 := Try.underlying68
 by_cases hc : a0 ≥ 11
 ·have hcb : decide (11 ≤ a0) = true := decide_eq_true hc
  rw [if_pos hc]
  clear hc
  obtain ⟨p, hp⟩ : ∃ p : Bool, p = (FloatKind.f64.format.order a1.toNat a1.toNat != some .eq) := ⟨_, rfl⟩
  obtain ⟨q, hq⟩ : ∃ q : Bool, q = (FloatKind.f64.format.order a2.toNat a2.toNat != some .eq) := ⟨_, rfl⟩
  rw [← hp, ← hq]
  cases p with
  | true =>
   simp only [Bool.true_or, if_true]
   have hp' := hp.symm
   clear hp hq
   go_enter Try.func56, Try.ntmps56
   go_wp2_with (first | (go_at_call 94; refine (Fl.isNaN_calls _ _).mono ?_; rintro e w' ⟨rfl, rfl⟩) | (go_at_call 95; refine (Fl.truth95 _ _).mono ?_; rintro e w' ⟨rfl, rfl⟩))
   go_ret
   exact ⟨rfl, Below.refl _ _⟩
  | false =>
   cases q with
   | true =>
    simp only [Bool.false_or, if_true]
    have hp' := hp.symm
    have hq' := hq.symm
    clear hp hq
    go_enter Try.func56, Try.ntmps56
    go_wp2_with (first | (go_at_call 94; refine (Fl.isNaN_calls _ _).mono ?_; rintro e w' ⟨rfl, rfl⟩) | (go_at_call 95; refine (Fl.truth95 _ _).mono ?_; rintro e w' ⟨rfl, rfl⟩))
    go_ret
    exact ⟨rfl, Below.refl _ _⟩
   | false =>
    simp only [Bool.false_or, Bool.false_eq_true, if_false]
    have hp' := hp.symm
    have hq' := hq.symm
    clear hp hq
    go_enter Try.func56, Try.ntmps56
    go_wp2_with (first | (go_at_call 94; refine (Fl.isNaN_calls _ _).mono ?_; rintro e w' ⟨rfl, rfl⟩) | (go_at_call 57; refine (word_order_says.calls _ _ _ _ _ (word_order_says.f_eq _ _ _)).mono ?_; rintro e w' ⟨rfl, hb⟩))
    go_ret
    exact ⟨rfl, hb⟩
 ·have hcb : decide (11 ≤ a0) = false := decide_eq_false hc
  rw [if_neg hc]
  clear hc
  by_cases h2 : a0 = 2
  ·subst h2
   simp only [if_true, Int.reduceEq, if_false]
   obtain ⟨k1, V1, hr1, hc1⟩ := Fl.run_ar .add (.inl rfl) 63 a1.toNat a2.toNat
   clear hc1
   obtain ⟨k, V, hr, hc⟩ := Fl.run_ar .sub (.inr (.inl rfl)) 63 a1.toNat a2.toNat
   have hc' := hc (w.drewN k1)
   clear hc
   obtain ⟨p, hp⟩ : ∃ p : Bool, p = (FloatKind.f64.format.order (V (w.drewN k1)) (V (w.drewN k1)) != some .eq) := ⟨_, rfl⟩
   cases p with
   | true =>
    have hp' := hp.symm
    rw [Fl.clean_yes hp'] at hc'
    rw [← hc']
    clear hp hc'
    go_enter Try.func56, Try.ntmps56
    go_wp2_with (first | (go_at_call 94; refine (Fl.isNaN_calls _ _).mono ?_; rintro e w' ⟨rfl, rfl⟩))
    go_ret
    exact ⟨rfl, by first | exact pw_below_drewN (pw_below_drewN (Below.refl _ _) k1) k | exact pw_below_drewN (Below.refl _ _) _⟩
   | false =>
    have hp' := hp.symm
    rw [Fl.clean_no hp'] at hc'
    rw [← hc']
    clear hp hc'
    go_enter Try.func56, Try.ntmps56
    go_wp2_with (first | (go_at_call 94; refine (Fl.isNaN_calls _ _).mono ?_; rintro e w' ⟨rfl, rfl⟩))
    go_ret
    exact ⟨rfl, by first | exact pw_below_drewN (pw_below_drewN (Below.refl _ _) k1) k | exact pw_below_drewN (Below.refl _ _) _⟩
  have b2 : (a0 == 2) = false := beq_eq_false_iff_ne.mpr h2
  by_cases h3 : a0 = 3
  ·subst h3
   simp only [if_true, Int.reduceEq, if_false]
   obtain ⟨k1, V1, hr1, hc1⟩ := Fl.run_ar .add (.inl rfl) 63 a1.toNat a2.toNat
   clear hc1
   obtain ⟨k, V, hr, hc⟩ := Fl.run_ar .mul (.inr (.inr (.inl rfl))) 63 a1.toNat a2.toNat
   have hc' := hc (w.drewN k1)
   clear hc
   obtain ⟨p, hp⟩ : ∃ p : Bool, p = (FloatKind.f64.format.order (V (w.drewN k1)) (V (w.drewN k1)) != some .eq) := ⟨_, rfl⟩
   cases p with
   | true =>
    have hp' := hp.symm
    rw [Fl.clean_yes hp'] at hc'
    rw [← hc']
    clear hp hc'
    go_enter Try.func56, Try.ntmps56
    go_wp2_with (first | (go_at_call 94; refine (Fl.isNaN_calls _ _).mono ?_; rintro e w' ⟨rfl, rfl⟩))
    go_ret
    exact ⟨rfl, by first | exact pw_below_drewN (pw_below_drewN (Below.refl _ _) k1) k | exact pw_below_drewN (Below.refl _ _) _⟩
   | false =>
    have hp' := hp.symm
    rw [Fl.clean_no hp'] at hc'
    rw [← hc']
    clear hp hc'
    go_enter Try.func56, Try.ntmps56
    go_wp2_with (first | (go_at_call 94; refine (Fl.isNaN_calls _ _).mono ?_; rintro e w' ⟨rfl, rfl⟩))
    go_ret
    exact ⟨rfl, by first | exact pw_below_drewN (pw_below_drewN (Below.refl _ _) k1) k | exact pw_below_drewN (Below.refl _ _) _⟩
  have b3 : (a0 == 3) = false := beq_eq_false_iff_ne.mpr h3
  by_cases h4 : a0 = 4
  ·subst h4
   simp only [if_true, Int.reduceEq, if_false]
   obtain ⟨k1, V1, hr1, hc1⟩ := Fl.run_ar .add (.inl rfl) 63 a1.toNat a2.toNat
   clear hc1
   obtain ⟨k, V, hr, hc⟩ := Fl.run_ar .quo (.inr (.inr (.inr rfl))) 63 a1.toNat a2.toNat
   have hc' := hc (w.drewN k1)
   clear hc
   obtain ⟨p, hp⟩ : ∃ p : Bool, p = (FloatKind.f64.format.order (V (w.drewN k1)) (V (w.drewN k1)) != some .eq) := ⟨_, rfl⟩
   cases p with
   | true =>
    have hp' := hp.symm
    rw [Fl.clean_yes hp'] at hc'
    rw [← hc']
    clear hp hc'
    go_enter Try.func56, Try.ntmps56
    go_wp2_with (first | (go_at_call 94; refine (Fl.isNaN_calls _ _).mono ?_; rintro e w' ⟨rfl, rfl⟩))
    go_ret
    exact ⟨rfl, by first | exact pw_below_drewN (pw_below_drewN (Below.refl _ _) k1) k | exact pw_below_drewN (Below.refl _ _) _⟩
   | false =>
    have hp' := hp.symm
    rw [Fl.clean_no hp'] at hc'
    rw [← hc']
    clear hp hc'
    go_enter Try.func56, Try.ntmps56
    go_wp2_with (first | (go_at_call 94; refine (Fl.isNaN_calls _ _).mono ?_; rintro e w' ⟨rfl, rfl⟩))
    go_ret
    exact ⟨rfl, by first | exact pw_below_drewN (pw_below_drewN (Below.refl _ _) k1) k | exact pw_below_drewN (Below.refl _ _) _⟩
  have b4 : (a0 == 4) = false := beq_eq_false_iff_ne.mpr h4
  simp only [h2, h3, h4, if_false]
  clear h2 h3 h4
  obtain ⟨k, V, hr, hc⟩ := Fl.run_ar .add (.inl rfl) 63 a1.toNat a2.toNat
  have hc' := hc w
  clear hc
  obtain ⟨p, hp⟩ : ∃ p : Bool, p = (FloatKind.f64.format.order (V w) (V w) != some .eq) := ⟨_, rfl⟩
  cases p with
  | true =>
   have hp' := hp.symm
   rw [Fl.clean_yes hp'] at hc'
   rw [← hc']
   clear hp hc'
   go_enter Try.func56, Try.ntmps56
   go_wp2_with (first | (go_at_call 94; refine (Fl.isNaN_calls _ _).mono ?_; rintro e w' ⟨rfl, rfl⟩))
   go_ret
   exact ⟨rfl, by first | exact pw_below_drewN (Below.refl _ _) k | exact pw_below_drewN (Below.refl _ _) _⟩
  | false =>
   have hp' := hp.symm
   rw [Fl.clean_no hp'] at hc'
   rw [← hc']
   clear hp hc'
   go_enter Try.func56, Try.ntmps56
   go_wp2_with (first | (go_at_call 94; refine (Fl.isNaN_calls _ _).mono ?_; rintro e w' ⟨rfl, rfl⟩))
   go_ret
   exact ⟨rfl, by first | exact pw_below_drewN (Below.refl _ _) k | exact pw_below_drewN (Below.refl _ _) _⟩


end Go.Proofs.Ytahepinbmcgbnaa.PV
end
