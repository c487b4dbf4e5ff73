/- Contracts of package risc's functions: Decode. No condition. -/
import Derived.Test.YtahepinbmcgbnaaRk
import Derived.BigRegion
set_option linter.unusedVariables false
set_option linter.unusedSimpArgs false
namespace Go.Proofs.Ytahepinbmcgbnaa.Ri
open Go.RowKit Go.Proofs.Ytahepinbmcgbnaa.PA Go.Proofs.YtahepinbmcgbnaaW.PrintWords Go.Proofs.Ytahepinbmcgbnaa.Wd

/-- Four bytes read as one number. -/
def v4 (b4 b5 b6 b7 : Int) : Int := bits BinOp.or IntKind.u32 (bits BinOp.or IntKind.u32 (bits BinOp.or IntKind.u32 b4 (b5 * 256)) (b6 * 65536)) (b7 * 16777216)
/-- An instruction's fields as a tuple: Op, A, B, C, K, Sub, Imm (Scale and Label are 0), the count read, the fault. -/
def decF (b0 b1 b2 b3 b4 b5 b6 b7 : Int) : Int × Int × Int × Int × Int × Int × Int × Int × Int :=
  if (knownF b0).2.2.2.2.2 = true then
    if (mayF b0 b1 b2 (if (knownF b0).2.2.2.1 = 2 then 0 else b3) (if (knownF b0).2.2.2.2.1 = 4 then wrap64 ((v4 b4 b5 b6 b7).tmod 256) else if (knownF b0).2.2.2.1 = 2 then b3 else 0) (if (knownF b0).2.2.2.2.1 = 4 then ((v4 b4 b5 b6 b7).tdiv 256 % 4294967296) else 0) 0 (if (knownF b0).2.2.2.2.1 = 4 then 0 else wrap64 (wrap32 (v4 b4 b5 b6 b7))) 0).2.2.2.2.2 = true then
      (b0, b1, b2, (if (knownF b0).2.2.2.1 = 2 then 0 else b3), (if (knownF b0).2.2.2.2.1 = 4 then wrap64 ((v4 b4 b5 b6 b7).tmod 256) else if (knownF b0).2.2.2.1 = 2 then b3 else 0), (if (knownF b0).2.2.2.2.1 = 4 then ((v4 b4 b5 b6 b7).tdiv 256 % 4294967296) else 0), (if (knownF b0).2.2.2.2.1 = 4 then 0 else wrap64 (wrap32 (v4 b4 b5 b6 b7))), 8, 0)
    else (0, 0, 0, 0, 0, 0, 0, 0, 30)
  else (0, 0, 0, 0, 0, 0, 0, 0, 30)
/-- What Decode returns. -/
def decV (d : Int × Int × Int × Int × Int × Int × Int × Int × Int) : Value :=
  .tuple #[.agg #[.int .i64 d.1, .int .i64 d.2.1, .int .i64 d.2.2.1, .int .i64 d.2.2.2.1, .int .i64 d.2.2.2.2.1, .int .i64 d.2.2.2.2.2.1, .int .i64 0, .int .i64 d.2.2.2.2.2.2.1, .int .i64 0], .int .i64 d.2.2.2.2.2.2.2.1, .int .i64 d.2.2.2.2.2.2.2.2]
theorem first4 (w : World) (o1 o2 o3 o4 : Obj) (n : Nat) : ((((w.alloc o1).alloc o2).alloc o3).drewN n |>.alloc o4).heap[w.heap.size]? = some o1 :=
  blk_alloc (blk_drewN (blk_alloc (blk_alloc (blk_new w o1) _) _) _) _
theorem last4 (w : World) (o1 o2 o3 o4 : Obj) (n : Nat) : ((((w.alloc o1).alloc o2).alloc o3).drewN n |>.alloc o4).heap[w.heap.size + 1 + 1 + 1]? = some o4 := by
  have h := blk_new (((w.alloc o1).alloc o2).alloc o3 |>.drewN n) o4
  simpa using h
theorem row9_put {w : World} {g : Nat} {a b c d e f1 g1 h1 i1 : Int} (h : w.heap[g]? = some (.cells #[.int .i64 0, .int .i64 0, .int .i64 0, .int .i64 0, .int .i64 0, .int .i64 0, .int .i64 0, .int .i64 0, .int .i64 0] 46 (0, 0))) :
    ((((((((((w.setCell ⟨g, 0, none⟩ (.int .i64 a)).setCell ⟨g, 1, none⟩ (.int .i64 b)).setCell ⟨g, 2, none⟩ (.int .i64 c)).setCell ⟨g, 3, none⟩ (.int .i64 d)).setCell ⟨g, 4, none⟩ (.int .i64 e)).setCell ⟨g, 5, none⟩ (.int .i64 f1)).setCell ⟨g, 6, none⟩ (.int .i64 g1)).setCell ⟨g, 7, none⟩ (.int .i64 h1)).setCell ⟨g, 8, none⟩ (.int .i64 i1))).heap[g]? = some (.cells #[.int .i64 a, .int .i64 b, .int .i64 c, .int .i64 d, .int .i64 e, .int .i64 f1, .int .i64 g1, .int .i64 h1, .int .i64 i1] 46 (0, 0)) := by
  have H := (blk_set (blk_set (blk_set (blk_set (blk_set (blk_set (blk_set (blk_set (blk_set h 0 (Value.int .i64 a)) 1 (Value.int .i64 b)) 2 (Value.int .i64 c)) 3 (Value.int .i64 d)) 4 (Value.int .i64 e)) 5 (Value.int .i64 f1)) 6 (Value.int .i64 g1)) 7 (Value.int .i64 h1)) 8 (Value.int .i64 i1))
  simp only [List.setIfInBounds_toArray, List.set_cons_zero, List.set_cons_succ] at H
  exact H
theorem row9_below {w w1 : World} {a b c d e f1 g1 h1 i1 : Value} (h : Below w.heap.size w w1) : Below w.heap.size w ((((((((((w1.setCell ⟨w.heap.size, 0, none⟩ a).setCell ⟨w.heap.size, 1, none⟩ b).setCell ⟨w.heap.size, 2, none⟩ c).setCell ⟨w.heap.size, 3, none⟩ d).setCell ⟨w.heap.size, 4, none⟩ e).setCell ⟨w.heap.size, 5, none⟩ f1).setCell ⟨w.heap.size, 6, none⟩ g1).setCell ⟨w.heap.size, 7, none⟩ h1).setCell ⟨w.heap.size, 8, none⟩ i1)) :=
  (((((((((h.setCell (Nat.le_refl _) _).setCell (Nat.le_refl _) _).setCell (Nat.le_refl _) _).setCell (Nat.le_refl _) _).setCell (Nat.le_refl _) _).setCell (Nat.le_refl _) _).setCell (Nat.le_refl _) _).setCell (Nat.le_refl _) _).setCell (Nat.le_refl _) _)
set_option maxHeartbeats 8000000 in
set_option maxRecDepth 100000 in
theorem dec_short (p : Option Addr) (len cap : Nat) (w : World) (hlen : len < 8) :
    Calls Try.prog 40 #[.slice p len cap] w fun e w' => e = .returned (decV (0, 0, 0, 0, 0, 0, 0, 0, 31)) ∧ Below w.heap.size w w' := by
  have hu46 := Try.underlying46
  have hl : decide ((len : Int) < 8) = true := decide_eq_true (by omega)
  go_enter Try.func40, Try.ntmps40
  go_wp2
  refine bodyPost_ret ?_ rfl ⟨rfl, by repeat (first | exact Below.refl _ _ | refine below_alloc ?_ _)⟩
  simp [results, Try.results40, go_sem, decV]
set_option maxHeartbeats 8000000 in
set_option maxRecDepth 100000 in
theorem dec_ok (g f : Nat) (sp : Option Nat) (len cap : Nat) (w : World) (b0 b1 b2 b3 b4 b5 b6 b7 : Int) (hlen : 8 ≤ len) (hcap : len ≤ cap)
    (c0 : w.cell? ⟨g, f, sp⟩ = some (.int .u8 b0)) (c1 : w.cell? ⟨g, f + 1, none⟩ = some (.int .u8 b1)) (c2 : w.cell? ⟨g, f + 2, none⟩ = some (.int .u8 b2)) (c3 : w.cell? ⟨g, f + 3, none⟩ = some (.int .u8 b3))
    (c4 : w.cell? ⟨g, f + 4, none⟩ = some (.int .u8 b4)) (c5 : w.cell? ⟨g, f + 5, none⟩ = some (.int .u8 b5)) (c6 : w.cell? ⟨g, f + 6, none⟩ = some (.int .u8 b6)) (c7 : w.cell? ⟨g, f + 7, none⟩ = some (.int .u8 b7))
    (hg : g < w.heap.size)
    (h0 : 0 ≤ b0 ∧ b0 ≤ 255) (h1 : 0 ≤ b1 ∧ b1 ≤ 255) (h2 : 0 ≤ b2 ∧ b2 ≤ 255) (h3 : 0 ≤ b3 ∧ b3 ≤ 255) (h4 : 0 ≤ b4 ∧ b4 ≤ 255) (h5 : 0 ≤ b5 ∧ b5 ≤ 255) (h6 : 0 ≤ b6 ∧ b6 ≤ 255) (h7 : 0 ≤ b7 ∧ b7 ≤ 255) :
    Calls Try.prog 40 #[.slice (some ⟨g, f, sp⟩) len cap] w fun e w' => e = .returned (decV (decF b0 b1 b2 b3 b4 b5 b6 b7)) ∧ Below w.heap.size w w' := by
  have hu46 := Try.underlying46
  have hu77 := Try.underlying77
  have hu42 := Try.underlying42
  have K := known_calls b0
  unfold decF v4
  generalize knownF b0 = r at K ⊢
  obtain ⟨ra, rb, rc, rt, rn, ok⟩ := r
  simp only at K ⊢
  have hg1 : g < w.heap.size + 1 := by omega
  have hg2 : g < w.heap.size + 1 + 1 := by omega
  have hg3 : g < w.heap.size + 1 + 1 + 1 := by omega
  have hl : decide ((len : Int) < 8) = false := decide_eq_false (by omega)
  have i0 : (0 : Int) < (len : Int) := by omega
  have n0 : 0 < len := by omega
  have i1 : (1 : Int) < (len : Int) := by omega
  have n1 : 1 < len := by omega
  have i2 : (2 : Int) < (len : Int) := by omega
  have n2 : 2 < len := by omega
  have i3 : (3 : Int) < (len : Int) := by omega
  have n3 : 3 < len := by omega
  have i4 : (4 : Int) < (len : Int) := by omega
  have n4 : 4 < len := by omega
  have i5 : (5 : Int) < (len : Int) := by omega
  have n5 : 5 < len := by omega
  have i6 : (6 : Int) < (len : Int) := by omega
  have n6 : 6 < len := by omega
  have i7 : (7 : Int) < (len : Int) := by omega
  have n7 : 7 < len := by omega
  cases ok with
  | false =>
    simp only [Bool.false_eq_true, if_false]
    go_enter Try.func40, Try.ntmps40
    go_wp2_with (first | (go_at_call 77; (with_reducible refine (K _).mono ?_); rintro e w1 ⟨rfl, rfl⟩))
    refine bodyPost_ret ?_ rfl ⟨rfl, by repeat (first | exact Below.refl _ _ | refine below_alloc ?_ _)⟩
    simp [results, Try.results40, go_sem, decV]
  | true =>
    simp only [if_true]
    obtain ⟨q1, hq1⟩ : ∃ q, (rt == 2) = q := ⟨_, rfl⟩
    obtain ⟨q2, hq2⟩ : ∃ q, (rn == 4) = q := ⟨_, rfl⟩
    have e1 : ∀ x y : Int, (if rt = 2 then x else y) = if q1 = true then x else y := by intro x y; rw [← hq1]; simp
    have e2 : ∀ x y : Int, (if rn = 4 then x else y) = if q2 = true then x else y := by intro x y; rw [← hq2]; simp
    simp only [e1, e2]
    clear e1 e2
    cases q1 <;> cases q2
    all_goals
      simp only [Bool.false_eq_true, if_false, if_true]
      split <;> rename_i hm <;> (try simp only [Bool.not_eq_true] at hm)
    all_goals
      go_enter Try.func40, Try.ntmps40
      go_wp2_with (first | (go_at_call 77; (with_reducible refine (K _).mono ?_); rintro e w1 ⟨rfl, rfl⟩))
      go_quiet (fail)
      go_wp2
      go_region
      go_wp2_with (first | (go_at_call 71; (with_reducible refine (may_calls _ _ _ _ _ _ _ _ _ _).mono ?_); rintro e w1 ⟨rfl, hB⟩; (simp only [hm]); have B1 := Aside0.mk (blk_below (g := w.heap.size) (first4 _ _ _ _ _ _) hB); have B3 := Aside0.mk (blk_below (g := w.heap.size + 1 + 1 + 1) (last4 _ _ _ _ _ _) hB); have B2 := Aside0.mk (bel_trans (w := w) (by repeat (first | exact Below.refl _ _ | refine below_alloc ?_ _ | refine below_drew1 ?_ | refine pw_below_drewN ?_ _)) hB); have hz1 := blk_lt B1.out; have hz3 := blk_lt B3.out; have C0 := cell9_0 B1.out; have F0 := blk_frozen B1.out 0; have D0 := cell9_0 B3.out; have C1 := cell9_1 B1.out; have F1 := blk_frozen B1.out 1; have D1 := cell9_1 B3.out; have C2 := cell9_2 B1.out; have F2 := blk_frozen B1.out 2; have D2 := cell9_2 B3.out; have C3 := cell9_3 B1.out; have F3 := blk_frozen B1.out 3; have D3 := cell9_3 B3.out; have C4 := cell9_4 B1.out; have F4 := blk_frozen B1.out 4; have D4 := cell9_4 B3.out; have C5 := cell9_5 B1.out; have F5 := blk_frozen B1.out 5; have D5 := cell9_5 B3.out; have C6 := cell9_6 B1.out; have F6 := blk_frozen B1.out 6; have D6 := cell9_6 B3.out; have C7 := cell9_7 B1.out; have F7 := blk_frozen B1.out 7; have D7 := cell9_7 B3.out; have C8 := cell9_8 B1.out; have F8 := blk_frozen B1.out 8; have D8 := cell9_8 B3.out; clear hB))
      exact bodyPost_ret (results_ctt rfl _ _ w.heap.size 46 _ (0, 0) _ rfl (blk_alloc (row9_put B1.out) _) Try.underlying46 rfl (by kernel_rfl)) rfl ⟨rfl, below_alloc (row9_below B2.out) _⟩
end Go.Proofs.Ytahepinbmcgbnaa.Ri
