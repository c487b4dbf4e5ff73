/- Contract of package gantryref3's Decode. No condition. -/
import Derived.Test.YtahepinbmcgbnaaRu
import Derived.Test.YtahepinbmcgbnaaRl
set_option linter.unusedVariables false
set_option linter.unusedSimpArgs false
namespace Go.Proofs.Ytahepinbmcgbnaa.Ri
open Go.RowKit Go.Proofs.Ytahepinbmcgbnaa.PA Go.Proofs.YtahepinbmcgbnaaW.PrintWords Go.Proofs.Ytahepinbmcgbnaa.Wd
theorem first2' (w : World) (o1 o4 : Obj) (n : Nat) : ((w.alloc o1).drewN n |>.alloc o4).heap[w.heap.size]? = some o1 := blk_alloc (blk_drewN (blk_new w o1) _) _
theorem last2 (w : World) (o1 o4 : Obj) (n : Nat) : ((w.alloc o1).drewN n |>.alloc o4).heap[w.heap.size + 1]? = some o4 := by
  have h := blk_new ((w.alloc o1).drewN n) o4
  simpa using h
/-- Op, A, B, C, K, Sub, Imm, the fault. -/
def rdecE (o a b c k s i : Int) : Int × Int × Int × Int × Int × Int × Int × Int :=
  if rmayF o a b c k s 0 i 0 = true then (o, a, b, c, k, s, i, 0) else (0, 0, 0, 0, 0, 0, 0, 30)
/-- Decode. -/
def rdecF (b0 b1 b2 b3 b4 b5 b6 b7 : Int) : Int × Int × Int × Int × Int × Int × Int × Int :=
  if b0 = 4 ∨ b0 = 7 ∨ b0 = 8 then
    if wrap64 (wrap32 (v4 b4 b5 b6 b7)) < 0 then (0, 0, 0, 0, 0, 0, 0, 30) else if 65536 ≤ wrap64 (wrap32 (v4 b4 b5 b6 b7)) then (0, 0, 0, 0, 0, 0, 0, 30)
    else rdecE b0 b1 b2 b3 ((wrap64 (wrap32 (v4 b4 b5 b6 b7))).tmod 256) (wrap64 ((wrap64 (wrap32 (v4 b4 b5 b6 b7))).tdiv 256)) 0
  else if b0 = 11 ∨ b0 = 13 then rdecE b0 b1 b2 0 b3 0 (wrap64 (wrap32 (v4 b4 b5 b6 b7)))
  else rdecE b0 b1 b2 b3 0 0 (wrap64 (wrap32 (v4 b4 b5 b6 b7)))
/-- What Decode returns. -/
def rdecV (d : Int × Int × Int × Int × Int × Int × Int × Int) : Value :=
  .tuple #[.agg #[.int .i64 d.1, .int .i64 d.2.1, .int .i64 d.2.2.1, .int .i64 d.2.2.2.1, .int .i64 d.2.2.2.2.1, .int .i64 d.2.2.2.2.2.1, .int .i64 0, .int .i64 d.2.2.2.2.2.2.1, .int .i64 0], .int .i64 d.2.2.2.2.2.2.2]
set_option maxHeartbeats 8000000 in
set_option maxRecDepth 100000 in
theorem rdec_short (p : Option Addr) (len cap : Nat) (w : World) (hlen : len < 8) :
    Calls Try.prog 41 #[.slice p len cap] w fun e w' => e = .returned (rdecV (0, 0, 0, 0, 0, 0, 0, 31)) ∧ Below w.heap.size w w' := by
  have hu46 := Try.underlying46
  have hl : decide ((len : Int) < 8) = true := decide_eq_true (by omega)
  go_enter Try.func41, Try.ntmps41
  go_wp2
  refine bodyPost_ret ?_ rfl ⟨rfl, by repeat (first | exact Below.refl _ _ | refine below_alloc ?_ _)⟩
  simp [results, Try.results41, go_sem, rdecV]
set_option maxHeartbeats 8000000 in
set_option maxRecDepth 100000 in
theorem rdec_ok (g f : Nat) (sp : Option Nat) (len cap : Nat) (w : World) (b0 b1 b2 b3 b4 b5 b6 b7 : Int) (hlen : 8 ≤ len) (hcap : len ≤ cap)
    (c0 : w.cell? ⟨g, f, sp⟩ = some (.int .u8 b0))
    (c1 : w.cell? ⟨g, f + 1, none⟩ = some (.int .u8 b1))
    (c2 : w.cell? ⟨g, f + 2, none⟩ = some (.int .u8 b2))
    (c3 : w.cell? ⟨g, f + 3, none⟩ = some (.int .u8 b3))
    (c4 : w.cell? ⟨g, f + 4, none⟩ = some (.int .u8 b4))
    (c5 : w.cell? ⟨g, f + 5, none⟩ = some (.int .u8 b5))
    (c6 : w.cell? ⟨g, f + 6, none⟩ = some (.int .u8 b6))
    (c7 : w.cell? ⟨g, f + 7, none⟩ = some (.int .u8 b7))
    (hg : g < w.heap.size) (h0 : 0 ≤ b0 ∧ b0 ≤ 255) (h1 : 0 ≤ b1 ∧ b1 ≤ 255) (h2 : 0 ≤ b2 ∧ b2 ≤ 255) (h3 : 0 ≤ b3 ∧ b3 ≤ 255) (h4 : 0 ≤ b4 ∧ b4 ≤ 255) (h5 : 0 ≤ b5 ∧ b5 ≤ 255) (h6 : 0 ≤ b6 ∧ b6 ≤ 255) (h7 : 0 ≤ b7 ∧ b7 ≤ 255) :
    Calls Try.prog 41 #[.slice (some ⟨g, f, sp⟩) len cap] w fun e w' => e = .returned (rdecV (rdecF b0 b1 b2 b3 b4 b5 b6 b7)) ∧ Below w.heap.size w w' := by
  have hu46 := Try.underlying46
  have hu42 := Try.underlying42
  unfold rdecF rdecE v4
  have hg1 : g < w.heap.size + 1 := by omega
  have hg2 : g < w.heap.size + 1 + 1 := by omega
  have hl : decide ((len : Int) < 8) = false := decide_eq_false (by omega)
  have i0 : (0 : Int) < (len : Int) := by omega
  have n0 : 0 < len := by omega
  have i1 : (1 : Int) < (len : Int) := by omega
  have n1 : 1 < len := by omega
  have i2 : (2 : Int) < (len : Int) := by omega
  have n2 : 2 < len := by omega
  have i3 : (3 : Int) < (len : Int) := by omega
  have n3 : 3 < len := by omega
  have i4 : (4 : Int) < (len : Int) := by omega
  have n4 : 4 < len := by omega
  have i5 : (5 : Int) < (len : Int) := by omega
  have n5 : 5 < len := by omega
  have i6 : (6 : Int) < (len : Int) := by omega
  have n6 : 6 < len := by omega
  have i7 : (7 : Int) < (len : Int) := by omega
  have n7 : 7 < len := by omega
  by_cases k1 : b0 = 4 ∨ b0 = 7 ∨ b0 = 8
  · rcases k1 with rfl | rfl | rfl
    all_goals
      simp only [if_true, Int.reduceEq, if_false, or_true, true_or, or_false, false_or]
      split
      · rename_i t1
        have u1 := decide_eq_true t1
        clear t1
        go_enter Try.func41, Try.ntmps41
        go_wp2
        go_quiet (fail)
        go_wp2
        go_region
        go_wp2
        exact bodyPost_ret (results_ct rfl _ _ w.heap.size 46 _ (0, 0) _ rfl (blk_alloc (row9_put (blk_drewN (blk_new w _) _)) _) Try.underlying46 rfl (by kernel_rfl)) rfl ⟨rfl, below_alloc (row9_below (pw_below_drewN (below_alloc (Below.refl _ _) _) _)) _⟩
      · rename_i t1
        have u1 := decide_eq_false t1
        clear t1
        split
        · rename_i t2
          have u2 := decide_eq_true t2
          clear t2
          go_enter Try.func41, Try.ntmps41
          go_wp2
          go_quiet (fail)
          go_wp2
          go_region
          go_wp2
          exact bodyPost_ret (results_ct rfl _ _ w.heap.size 46 _ (0, 0) _ rfl (blk_alloc (row9_put (blk_drewN (blk_new w _) _)) _) Try.underlying46 rfl (by kernel_rfl)) rfl ⟨rfl, below_alloc (row9_below (pw_below_drewN (below_alloc (Below.refl _ _) _) _)) _⟩
        · rename_i t2
          have u2 := decide_eq_false t2
          clear t2
          split <;> rename_i hm <;> (try simp only [Bool.not_eq_true] at hm)
          all_goals
            go_enter Try.func41, Try.ntmps41
            go_wp2
            go_quiet (fail)
            go_wp2
            go_region
            go_wp2_with (first | (go_at_call 33; (with_reducible refine (rmay_calls _ _ _ _ _ _ _ _ _ _).mono ?_); rintro e w1 ⟨rfl, hB⟩; (simp only [hm]); have B1 := Aside0.mk (blk_below (g := w.heap.size) (first2' _ _ _ _) hB); have B3 := Aside0.mk (blk_below (g := w.heap.size + 1) (last2 _ _ _ _) hB); have B2 := Aside0.mk (bel_trans (w := w) (by repeat (first | exact Below.refl _ _ | refine below_alloc ?_ _ | refine below_drew1 ?_ | refine pw_below_drewN ?_ _)) hB); have hz1 := blk_lt B1.out; have hz3 := blk_lt B3.out; have C0 := cell9_0 B1.out; have F0 := blk_frozen B1.out 0; have D0 := cell9_0 B3.out; have C1 := cell9_1 B1.out; have F1 := blk_frozen B1.out 1; have D1 := cell9_1 B3.out; have C2 := cell9_2 B1.out; have F2 := blk_frozen B1.out 2; have D2 := cell9_2 B3.out; have C3 := cell9_3 B1.out; have F3 := blk_frozen B1.out 3; have D3 := cell9_3 B3.out; have C4 := cell9_4 B1.out; have F4 := blk_frozen B1.out 4; have D4 := cell9_4 B3.out; have C5 := cell9_5 B1.out; have F5 := blk_frozen B1.out 5; have D5 := cell9_5 B3.out; have C6 := cell9_6 B1.out; have F6 := blk_frozen B1.out 6; have D6 := cell9_6 B3.out; have C7 := cell9_7 B1.out; have F7 := blk_frozen B1.out 7; have D7 := cell9_7 B3.out; have C8 := cell9_8 B1.out; have F8 := blk_frozen B1.out 8; have D8 := cell9_8 B3.out; clear hB))
            exact bodyPost_ret (results_ct rfl _ _ w.heap.size 46 _ (0, 0) _ rfl (row9_put B1.out) Try.underlying46 rfl (by kernel_rfl)) rfl ⟨rfl, row9_below B2.out⟩
  by_cases k2 : b0 = 11 ∨ b0 = 13
  · rcases k2 with rfl | rfl
    all_goals
      simp only [if_true, Int.reduceEq, if_false, or_true, true_or, or_false, false_or]
      split <;> rename_i hm <;> (try simp only [Bool.not_eq_true] at hm)
    all_goals
      go_enter Try.func41, Try.ntmps41
      go_wp2
      go_quiet (fail)
      go_wp2
      go_region
      go_wp2_with (first | (go_at_call 33; (with_reducible refine (rmay_calls _ _ _ _ _ _ _ _ _ _).mono ?_); rintro e w1 ⟨rfl, hB⟩; (simp only [hm]); have B1 := Aside0.mk (blk_below (g := w.heap.size) (first2' _ _ _ _) hB); have B3 := Aside0.mk (blk_below (g := w.heap.size + 1) (last2 _ _ _ _) hB); have B2 := Aside0.mk (bel_trans (w := w) (by repeat (first | exact Below.refl _ _ | refine below_alloc ?_ _ | refine below_drew1 ?_ | refine pw_below_drewN ?_ _)) hB); have hz1 := blk_lt B1.out; have hz3 := blk_lt B3.out; have C0 := cell9_0 B1.out; have F0 := blk_frozen B1.out 0; have D0 := cell9_0 B3.out; have C1 := cell9_1 B1.out; have F1 := blk_frozen B1.out 1; have D1 := cell9_1 B3.out; have C2 := cell9_2 B1.out; have F2 := blk_frozen B1.out 2; have D2 := cell9_2 B3.out; have C3 := cell9_3 B1.out; have F3 := blk_frozen B1.out 3; have D3 := cell9_3 B3.out; have C4 := cell9_4 B1.out; have F4 := blk_frozen B1.out 4; have D4 := cell9_4 B3.out; have C5 := cell9_5 B1.out; have F5 := blk_frozen B1.out 5; have D5 := cell9_5 B3.out; have C6 := cell9_6 B1.out; have F6 := blk_frozen B1.out 6; have D6 := cell9_6 B3.out; have C7 := cell9_7 B1.out; have F7 := blk_frozen B1.out 7; have D7 := cell9_7 B3.out; have C8 := cell9_8 B1.out; have F8 := blk_frozen B1.out 8; have D8 := cell9_8 B3.out; clear hB))
      exact bodyPost_ret (results_ct rfl _ _ w.heap.size 46 _ (0, 0) _ rfl (row9_put B1.out) Try.underlying46 rfl (by kernel_rfl)) rfl ⟨rfl, row9_below B2.out⟩
  · have b4' : (b0 == 4) = false := beq_eq_false_iff_ne.mpr (by omega)
    have b7' : (b0 == 7) = false := beq_eq_false_iff_ne.mpr (by omega)
    have b8' : (b0 == 8) = false := beq_eq_false_iff_ne.mpr (by omega)
    have b11' : (b0 == 11) = false := beq_eq_false_iff_ne.mpr (by omega)
    have b13' : (b0 == 13) = false := beq_eq_false_iff_ne.mpr (by omega)
    rw [if_neg k1, if_neg k2]
    clear k1 k2
    split <;> rename_i hm <;> (try simp only [Bool.not_eq_true] at hm)
    all_goals
      go_enter Try.func41, Try.ntmps41
      go_wp2
      go_quiet (fail)
      go_wp2
      go_region
      go_wp2_with (first | (go_at_call 33; (with_reducible refine (rmay_calls _ _ _ _ _ _ _ _ _ _).mono ?_); rintro e w1 ⟨rfl, hB⟩; (simp only [hm]); have B1 := Aside0.mk (blk_below (g := w.heap.size) (first2' _ _ _ _) hB); have B3 := Aside0.mk (blk_below (g := w.heap.size + 1) (last2 _ _ _ _) hB); have B2 := Aside0.mk (bel_trans (w := w) (by repeat (first | exact Below.refl _ _ | refine below_alloc ?_ _ | refine below_drew1 ?_ | refine pw_below_drewN ?_ _)) hB); have hz1 := blk_lt B1.out; have hz3 := blk_lt B3.out; have C0 := cell9_0 B1.out; have F0 := blk_frozen B1.out 0; have D0 := cell9_0 B3.out; have C1 := cell9_1 B1.out; have F1 := blk_frozen B1.out 1; have D1 := cell9_1 B3.out; have C2 := cell9_2 B1.out; have F2 := blk_frozen B1.out 2; have D2 := cell9_2 B3.out; have C3 := cell9_3 B1.out; have F3 := blk_frozen B1.out 3; have D3 := cell9_3 B3.out; have C4 := cell9_4 B1.out; have F4 := blk_frozen B1.out 4; have D4 := cell9_4 B3.out; have C5 := cell9_5 B1.out; have F5 := blk_frozen B1.out 5; have D5 := cell9_5 B3.out; have C6 := cell9_6 B1.out; have F6 := blk_frozen B1.out 6; have D6 := cell9_6 B3.out; have C7 := cell9_7 B1.out; have F7 := blk_frozen B1.out 7; have D7 := cell9_7 B3.out; have C8 := cell9_8 B1.out; have F8 := blk_frozen B1.out 8; have D8 := cell9_8 B3.out; clear hB))
      exact bodyPost_ret (results_ct rfl _ _ w.heap.size 46 _ (0, 0) _ rfl (row9_put B1.out) Try.underlying46 rfl (by kernel_rfl)) rfl ⟨rfl, row9_below B2.out⟩
end Go.Proofs.Ytahepinbmcgbnaa.Ri
