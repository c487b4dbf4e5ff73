/- Contracts of package risc's functions: Encode. No condition. -/
import Derived.Test.YtahepinbmcgbnaaRj
set_option linter.unusedVariables false
set_option linter.unusedSimpArgs false
namespace Go.Proofs.Ytahepinbmcgbnaa.Ri
open Go.RowKit Go.Proofs.Ytahepinbmcgbnaa.PA Go.Proofs.YtahepinbmcgbnaaW.PrintWords Go.Proofs.Ytahepinbmcgbnaa.Wd

theorem cell9_0 {w : World} {g : Nat} {o a b c k s z i l : Int} (h : w.heap[g]? = some (.cells #[.int .i64 o, .int .i64 a, .int .i64 b, .int .i64 c, .int .i64 k, .int .i64 s, .int .i64 z, .int .i64 i, .int .i64 l] 46 (0, 0))) : w.cell? ⟨g, 0, none⟩ = some (.int .i64 o) := (blk_cell h 0).trans rfl
theorem cell9_1 {w : World} {g : Nat} {o a b c k s z i l : Int} (h : w.heap[g]? = some (.cells #[.int .i64 o, .int .i64 a, .int .i64 b, .int .i64 c, .int .i64 k, .int .i64 s, .int .i64 z, .int .i64 i, .int .i64 l] 46 (0, 0))) : w.cell? ⟨g, 1, none⟩ = some (.int .i64 a) := (blk_cell h 1).trans rfl
theorem cell9_2 {w : World} {g : Nat} {o a b c k s z i l : Int} (h : w.heap[g]? = some (.cells #[.int .i64 o, .int .i64 a, .int .i64 b, .int .i64 c, .int .i64 k, .int .i64 s, .int .i64 z, .int .i64 i, .int .i64 l] 46 (0, 0))) : w.cell? ⟨g, 2, none⟩ = some (.int .i64 b) := (blk_cell h 2).trans rfl
theorem cell9_3 {w : World} {g : Nat} {o a b c k s z i l : Int} (h : w.heap[g]? = some (.cells #[.int .i64 o, .int .i64 a, .int .i64 b, .int .i64 c, .int .i64 k, .int .i64 s, .int .i64 z, .int .i64 i, .int .i64 l] 46 (0, 0))) : w.cell? ⟨g, 3, none⟩ = some (.int .i64 c) := (blk_cell h 3).trans rfl
theorem cell9_4 {w : World} {g : Nat} {o a b c k s z i l : Int} (h : w.heap[g]? = some (.cells #[.int .i64 o, .int .i64 a, .int .i64 b, .int .i64 c, .int .i64 k, .int .i64 s, .int .i64 z, .int .i64 i, .int .i64 l] 46 (0, 0))) : w.cell? ⟨g, 4, none⟩ = some (.int .i64 k) := (blk_cell h 4).trans rfl
theorem cell9_5 {w : World} {g : Nat} {o a b c k s z i l : Int} (h : w.heap[g]? = some (.cells #[.int .i64 o, .int .i64 a, .int .i64 b, .int .i64 c, .int .i64 k, .int .i64 s, .int .i64 z, .int .i64 i, .int .i64 l] 46 (0, 0))) : w.cell? ⟨g, 5, none⟩ = some (.int .i64 s) := (blk_cell h 5).trans rfl
theorem cell9_6 {w : World} {g : Nat} {o a b c k s z i l : Int} (h : w.heap[g]? = some (.cells #[.int .i64 o, .int .i64 a, .int .i64 b, .int .i64 c, .int .i64 k, .int .i64 s, .int .i64 z, .int .i64 i, .int .i64 l] 46 (0, 0))) : w.cell? ⟨g, 6, none⟩ = some (.int .i64 z) := (blk_cell h 6).trans rfl
theorem cell9_7 {w : World} {g : Nat} {o a b c k s z i l : Int} (h : w.heap[g]? = some (.cells #[.int .i64 o, .int .i64 a, .int .i64 b, .int .i64 c, .int .i64 k, .int .i64 s, .int .i64 z, .int .i64 i, .int .i64 l] 46 (0, 0))) : w.cell? ⟨g, 7, none⟩ = some (.int .i64 i) := (blk_cell h 7).trans rfl
theorem cell9_8 {w : World} {g : Nat} {o a b c k s z i l : Int} (h : w.heap[g]? = some (.cells #[.int .i64 o, .int .i64 a, .int .i64 b, .int .i64 c, .int .i64 k, .int .i64 s, .int .i64 z, .int .i64 i, .int .i64 l] 46 (0, 0))) : w.cell? ⟨g, 8, none⟩ = some (.int .i64 l) := (blk_cell h 8).trans rfl
/-- A new row of bytes. -/
theorem R_bytes (W : World) (base : Nat) (hb : base ≤ W.heap.size) (xs : List Int) (hm : xs.length ≤ 9223372036854775807) :
    Kd.R (Kd.int .u8) 5 (W.alloc (.cells (encs (Value.int .u8) xs).toArray 5)) base (fun _ => True) (.slice (some ⟨W.heap.size, 0, none⟩) xs.length xs.length) xs := by
  refine ⟨fun _ _ => trivial, encs (Value.int .u8) xs, ?_, (Kd.reps_scalar xs).imp_ (fun _ _ h => h)⟩
  have hl : (encs (Value.int .u8) xs).length = xs.length * 1 := (Kd.reps_scalar (enc := Value.int .u8) xs).1
  have h2 := World.ownsRow_lit (base := base) (e := 5) (size := 1) W (encs (Value.int .u8) xs).toArray xs.length hb (by simpa [maxLen] using hm) (by simpa using hl)
  show World.ownsRow _ base 5 1 _ _ _
  simpa using h2
theorem R_bytes' {W : World} {base : Nat} {xs : List Int} {cs : Array Value} {v : Value} (hb : base ≤ W.heap.size) (hm : xs.length ≤ 9223372036854775807) (hcs : cs = (encs (Value.int .u8) xs).toArray) (hv : v = .slice (some ⟨W.heap.size, 0, none⟩) xs.length xs.length) :
    Kd.R (Kd.int .u8) 5 (W.alloc (.cells cs 5)) base (fun _ => True) v xs := by
  subst hcs hv
  exact R_bytes W base hb xs hm
/-- The eight bytes. -/
def eight (o a b t n : Int) : List Int := [o % 256, a % 256, b % 256, t % 256, n % 256, n % 4294967296 / 256 % 256, n % 4294967296 / 65536 % 256, n % 4294967296 / 16777216]
/-- Encode: an instruction's bytes. -/
def encF (o a b c k s z i l : Int) : List Int × Int :=
  if (mayF o a b c k s z i l).2.2.2.2.2 = true then
    (eight o a b (if (mayF o a b c k s z i l).2.2.2.1 = 2 then k else c) (if (mayF o a b c k s z i l).2.2.2.2.1 = 4 then wrap64 (k + wrap64 (256 * s)) else i), 0)
  else ([], 30)
set_option maxHeartbeats 8000000 in
set_option maxRecDepth 100000 in
theorem enc_calls (o a b c k s z i l : Int) (w : World) : Calls Try.prog 32 #[.agg #[.int .i64 o, .int .i64 a, .int .i64 b, .int .i64 c, .int .i64 k, .int .i64 s, .int .i64 z, .int .i64 i, .int .i64 l]] w fun e w' => ∃ v0_ : Value, e = .returned (.tuple #[v0_, .int .i64 (encF o a b c k s z i l).2]) ∧ Kd.R (Kd.int .u8) 5 w' w.heap.size (fun _ => True) v0_ (encF o a b c k s z i l).1 ∧ Below w.heap.size w w' := by
  have hu46 := Try.underlying46
  have hu77 := Try.underlying77
  have M := may_calls o a b c k s z i l
  unfold encF
  generalize mayF o a b c k s z i l = m at M ⊢
  obtain ⟨ra, rb, rc, rt, rn, ok⟩ := m
  simp only at M ⊢
  cases ok with
  | false =>
    simp only [Bool.false_eq_true, if_false]
    go_enter Try.func32, Try.ntmps32
    go_wp2_with (first | (go_at_call 71; (with_reducible refine (M _).mono ?_); rintro e w1 ⟨rfl, hB⟩; have B0 := Aside0.mk (blk_below (g := w.heap.size) (blk_new w _) hB); have hz := blk_lt B0.out; have C0 := cell9_0 B0.out; have C1 := cell9_1 B0.out; have C2 := cell9_2 B0.out; have C3 := cell9_3 B0.out; have C4 := cell9_4 B0.out; have C5 := cell9_5 B0.out; have C7 := cell9_7 B0.out; have B2 := Aside0.mk (bel_trans (w := w) (by repeat (first | exact Below.refl _ _ | refine below_alloc ?_ _ | refine below_drew1 ?_)) hB); clear hB))
    go_ret2
    exact ⟨_, rfl, Kd.R_nil _ _ _ _ _, below_alloc B2.out _⟩
  | true =>
    simp only [if_true]
    obtain ⟨q1, hq1⟩ : ∃ q, (rt == 2) = q := ⟨_, rfl⟩
    obtain ⟨q2, hq2⟩ : ∃ q, (rn == 4) = q := ⟨_, rfl⟩
    have e1 : (if rt = 2 then k else c) = if q1 = true then k else c := by rw [← hq1]; simp
    have e2 : (if rn = 4 then wrap64 (k + wrap64 (256 * s)) else i) = if q2 = true then wrap64 (k + wrap64 (256 * s)) else i := by rw [← hq2]; simp
    rw [e1, e2]
    clear e1 e2
    cases q1 <;> cases q2
    all_goals
      simp only [Bool.false_eq_true, if_false, if_true]
      go_enter Try.func32, Try.ntmps32
      go_wp2_with (first | (go_at_call 71; (with_reducible refine (M _).mono ?_); rintro e w1 ⟨rfl, hB⟩; have B0 := Aside0.mk (blk_below (g := w.heap.size) (blk_new w _) hB); have hz := blk_lt B0.out; have C0 := cell9_0 B0.out; have C1 := cell9_1 B0.out; have C2 := cell9_2 B0.out; have C3 := cell9_3 B0.out; have C4 := cell9_4 B0.out; have C5 := cell9_5 B0.out; have C7 := cell9_7 B0.out; have B2 := Aside0.mk (bel_trans (w := w) (by repeat (first | exact Below.refl _ _ | refine below_alloc ?_ _ | refine below_drew1 ?_)) hB); clear hB))
      go_quiet (fail)
      go_wp2
      go_ret2
      refine ⟨_, rfl, ?_, below_alloc (pw_below_drewN (below_alloc B2.out _) _) _⟩
      have hle := B2.out.size
      refine R_bytes' ?_ ?_ rfl (by simp [eight])
      · simp; omega
      · simp [eight]
end Go.Proofs.Ytahepinbmcgbnaa.Ri
