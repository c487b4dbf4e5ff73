/- risc.Decode and gantryref3.Decode over a row of bytes. No condition. -/
import Derived.Test.YtahepinbmcgbnaaRv
set_option linter.unusedVariables false
set_option linter.unusedSimpArgs false
namespace Go.Proofs.Ytahepinbmcgbnaa.Ri
open Go.RowKit Go.Proofs.Ytahepinbmcgbnaa.PA Go.Proofs.YtahepinbmcgbnaaW.PrintWords Go.Proofs.Ytahepinbmcgbnaa.Wd
theorem cell_lt' {w : World} {a : Addr} {v : Value} (h : w.cell? a = some v) : a.block < w.heap.size := by
  rcases Nat.lt_or_ge a.block w.heap.size with h1 | h1
  · exact h1
  · have : w.heap[a.block]? = none := Array.getElem?_eq_none h1
    simp [World.cell?, this] at h
def byts (l : List Int) : Bool := l.all fun x => decide (0 ≤ x) && decide (x ≤ 255)
theorem byts_at {l : List Int} (h : byts l = true) (j : Nat) (hj : j < l.length) : 0 ≤ rd l (j : Int) ∧ rd l (j : Int) ≤ 255 := by
  have hm : rd l (j : Int) ∈ l := by
    unfold rd
    simp [List.getD_eq_getElem?_getD, List.getElem?_eq_getElem hj]
  have := List.all_eq_true.1 h _ hm
  simpa using this
theorem row_at {w : World} {A : Option Addr} {l : List Int} (h : Kd.C (Kd.int .u8) w A l.length l) (hl : 0 < l.length) : ∃ ad, A = some ad ∧ ∀ j : Nat, j < l.length → w.cell? (ad.add j) = some (.int .u8 (rd l (j : Int))) := by
  obtain ⟨ad, e, hc⟩ := h.2.2 hl
  refine ⟨ad, e, fun j hj => ?_⟩
  obtain ⟨c, _, hr, hcell⟩ := hc j _ (List.getElem?_eq_getElem hj)
  have h1 : c = [.int .u8 l[j]] := hr
  have h2 := hcell 0 (.int .u8 l[j]) (by rw [h1]; rfl)
  have h3 : rd l (j : Int) = l[j] := by simp [rd, List.getD_eq_getElem?_getD, List.getElem?_eq_getElem hj]
  rw [h3]
  have h4 : j * (Kd.int IntKind.u8).sz + 0 = j := by show j * 1 + 0 = j; omega
  rw [h4] at h2
  exact h2
def dec11 (d : Int × Int × Int × Int × Int × Int × Int × Int × Int) : Int × Int × Int × Int × Int × Int × Int × Int × Int × Int × Int :=
  (d.1, d.2.1, d.2.2.1, d.2.2.2.1, d.2.2.2.2.1, d.2.2.2.2.2.1, 0, d.2.2.2.2.2.2.1, 0, d.2.2.2.2.2.2.2.1, d.2.2.2.2.2.2.2.2)
/-- Decode of a row of bytes. -/
def decL (l : List Int) : Int × Int × Int × Int × Int × Int × Int × Int × Int × Int × Int :=
  if l.length < 8 then dec11 (0, 0, 0, 0, 0, 0, 0, 0, 31) else dec11 (decF (rd l 0) (rd l 1) (rd l 2) (rd l 3) (rd l 4) (rd l 5) (rd l 6) (rd l 7))
def rdec10 (d : Int × Int × Int × Int × Int × Int × Int × Int) : Int × Int × Int × Int × Int × Int × Int × Int × Int × Int :=
  (d.1, d.2.1, d.2.2.1, d.2.2.2.1, d.2.2.2.2.1, d.2.2.2.2.2.1, 0, d.2.2.2.2.2.2.1, 0, d.2.2.2.2.2.2.2)
/-- The document's Decode of a row of bytes. -/
def rdecL (l : List Int) : Int × Int × Int × Int × Int × Int × Int × Int × Int × Int :=
  if l.length < 8 then rdec10 (0, 0, 0, 0, 0, 0, 0, 31) else rdec10 (rdecF (rd l 0) (rd l 1) (rd l 2) (rd l 3) (rd l 4) (rd l 5) (rd l 6) (rd l 7))
theorem decL_calls (A0 : Option Addr) (c0 : Nat) (l0 : List Int) (w : World) (hr0 : Kd.C (Kd.int .u8) w A0 l0.length l0) (hc0 : l0.length ≤ c0) (hb : byts l0 = true) :
    Calls Try.prog 40 #[.slice A0 l0.length c0] w fun e w' => e = .returned (.tuple #[.agg #[.int .i64 (decL l0).1, .int .i64 (decL l0).2.1, .int .i64 (decL l0).2.2.1, .int .i64 (decL l0).2.2.2.1, .int .i64 (decL l0).2.2.2.2.1, .int .i64 (decL l0).2.2.2.2.2.1, .int .i64 (decL l0).2.2.2.2.2.2.1, .int .i64 (decL l0).2.2.2.2.2.2.2.1, .int .i64 (decL l0).2.2.2.2.2.2.2.2.1], .int .i64 (decL l0).2.2.2.2.2.2.2.2.2.1, .int .i64 (decL l0).2.2.2.2.2.2.2.2.2.2]) ∧ Below w.heap.size w w' := by
  by_cases h8 : l0.length < 8
  · have H := dec_short A0 l0.length c0 w h8
    unfold decL
    rw [if_pos h8]
    exact H
  · obtain ⟨ad, rfl, hc⟩ := row_at hr0 (by omega)
    obtain ⟨g, f, sp⟩ := ad
    have H := dec_ok g f sp l0.length c0 w (rd l0 0) (rd l0 1) (rd l0 2) (rd l0 3) (rd l0 4) (rd l0 5) (rd l0 6) (rd l0 7) (by omega) hc0 (hc 0 (by omega)) (hc 1 (by omega)) (hc 2 (by omega)) (hc 3 (by omega)) (hc 4 (by omega)) (hc 5 (by omega)) (hc 6 (by omega)) (hc 7 (by omega))
      (cell_lt' (hc 0 (by omega))) (byts_at hb 0 (by omega)) (byts_at hb 1 (by omega)) (byts_at hb 2 (by omega)) (byts_at hb 3 (by omega)) (byts_at hb 4 (by omega)) (byts_at hb 5 (by omega)) (byts_at hb 6 (by omega)) (byts_at hb 7 (by omega))
    unfold decL
    rw [if_neg h8]
    exact H
theorem rdecL_calls (A0 : Option Addr) (c0 : Nat) (l0 : List Int) (w : World) (hr0 : Kd.C (Kd.int .u8) w A0 l0.length l0) (hc0 : l0.length ≤ c0) (hb : byts l0 = true) :
    Calls Try.prog 41 #[.slice A0 l0.length c0] w fun e w' => e = .returned (.tuple #[.agg #[.int .i64 (rdecL l0).1, .int .i64 (rdecL l0).2.1, .int .i64 (rdecL l0).2.2.1, .int .i64 (rdecL l0).2.2.2.1, .int .i64 (rdecL l0).2.2.2.2.1, .int .i64 (rdecL l0).2.2.2.2.2.1, .int .i64 (rdecL l0).2.2.2.2.2.2.1, .int .i64 (rdecL l0).2.2.2.2.2.2.2.1, .int .i64 (rdecL l0).2.2.2.2.2.2.2.2.1], .int .i64 (rdecL l0).2.2.2.2.2.2.2.2.2]) ∧ Below w.heap.size w w' := by
  by_cases h8 : l0.length < 8
  · have H := rdec_short A0 l0.length c0 w h8
    unfold rdecL
    rw [if_pos h8]
    exact H
  · obtain ⟨ad, rfl, hc⟩ := row_at hr0 (by omega)
    obtain ⟨g, f, sp⟩ := ad
    have H := rdec_ok g f sp l0.length c0 w (rd l0 0) (rd l0 1) (rd l0 2) (rd l0 3) (rd l0 4) (rd l0 5) (rd l0 6) (rd l0 7) (by omega) hc0 (hc 0 (by omega)) (hc 1 (by omega)) (hc 2 (by omega)) (hc 3 (by omega)) (hc 4 (by omega)) (hc 5 (by omega)) (hc 6 (by omega)) (hc 7 (by omega))
      (cell_lt' (hc 0 (by omega))) (byts_at hb 0 (by omega)) (byts_at hb 1 (by omega)) (byts_at hb 2 (by omega)) (byts_at hb 3 (by omega)) (byts_at hb 4 (by omega)) (byts_at hb 5 (by omega)) (byts_at hb 6 (by omega)) (byts_at hb 7 (by omega))
    unfold rdecL
    rw [if_neg h8]
    exact H
end Go.Proofs.Ytahepinbmcgbnaa.Ri
