/- How arguments are opened: out of the data that is read, the values of the printed functions' kinds, with their ranges. No condition. -/
import Derived.Test.YtahepinbmcgbnaaPGy
import Derived.Deep.Slices
import Derived.ChangeArms
import Derived.KernelRfl
set_option linter.unusedVariables false
namespace Go.Proofs.Ytahepinbmcgbnaa.PG
open Go.RowKit Go.Proofs.YtahepinbmcgbnaaW.PrintWords Go.ChangeShapes Go.WideShapes

def inK (k : IntKind) (n : Int) : Prop := k.min ≤ n ∧ n ≤ k.max
def Opens {α : Type} (P : Program) (t : TypeId) (d : Kd α) (wf : α → Prop) : Prop := ∀ {H : Type} {enc : TypeId × Value → H} {w : World} {spare : Nat → Bool} {fuel : Nat} {cs : List Value} {x : DataW H × List MemPlace}, DataW.trod enc P w 0 spare true fuel t cs = some x → ∃ a, d.K w a cs ∧ wf a
theorem op_int {P : Program} {t : TypeId} (k : IntKind) (ht : P.underlying t = some (.int k)) : Opens P t (Kd.int k) (inK k) := by
 intro H enc w spare fuel cs x h
 obtain ⟨n, rfl, _, hw⟩ := DataW.trod_int ht h
 exact ⟨n, rfl, by simpa [Lit.wf, inK] using hw⟩
theorem op_bool {P : Program} {t : TypeId} (ht : P.underlying t = some .bool) : Opens P t Kd.bool (fun _ => True) := by
 intro H enc w spare fuel cs x h
 obtain ⟨b, rfl, _⟩ := DataW.trod_bool ht h
 exact ⟨b, rfl, trivial⟩
theorem op_slice {P : Program} {t e : TypeId} {α : Type} {d : Kd α} {wf : α → Prop} {n : Nat} (ht : P.underlying t = some (.slice e)) (hn : P.cellsOf e = n) (hd : d.sz = n) (he : Opens P e d wf) : Opens P t (Kd.slice e d) (fun l => l.length ≤ maxLen ∧ ∀ x ∈ l, wf x) := by
 intro H enc w spare fuel cs x h
 rcases Deep.open_slice ht h with ⟨rfl, _⟩ | ⟨a, len, cap, m, fu, D, Pl, rfl, _, hl, hm, hmm, hxe, hx⟩
 ·exact ⟨[], ⟨none, 0, rfl, Nat.le_refl _, ⟨rfl, by simp, fun h => absurd h (Nat.lt_irrefl _)⟩⟩, by simp [maxLen], by simp⟩
 ·have hlm : len ≤ m := by rw [hmm]; split <;> omega
  have : ∀ i, i < len → ∃ y, ∃ cs', w.cells? 0 (a.add (i * P.cellsOf e)) (P.cellsOf e) = some cs' ∧ d.K w y cs' ∧ wf y := by
   intro i hi
   obtain ⟨cs', h1, h2⟩ := hx i (by omega)
   obtain ⟨y, hy, hw⟩ := he h2
   exact ⟨y, cs', h1, hy, hw⟩
  obtain ⟨l, hll, hlx⟩ : ∃ l : List α, l.length = len ∧ ∀ i y, l[i]? = some y → ∃ cs', w.cells? 0 (a.add (i * P.cellsOf e)) (P.cellsOf e) = some cs' ∧ d.K w y cs' ∧ wf y := by
   clear hx h hl hm hmm hlm hxe
   induction len with
   | zero => exact ⟨[], rfl, by simp⟩
   | succ len ih =>
    obtain ⟨l, hll, hlx⟩ := ih (fun i hi => this i (by omega))
    obtain ⟨y, hy⟩ := this len (by omega)
    refine ⟨l ++ [y], by simp [hll], fun i z hz => ?_⟩
    rcases Nat.lt_or_ge i l.length with hi | hi
    ·rw [List.getElem?_append_left hi] at hz; exact hlx i z hz
    ·rw [List.getElem?_append_right hi] at hz
     obtain ⟨h1, rfl⟩ : i - l.length = 0 ∧ y = z := by
      cases hq : i - l.length with
      | zero => rw [hq] at hz; simpa using hz
      | succ q => rw [hq] at hz; simp at hz
     have : i = len := by omega
     subst this
     exact hy
  subst hll
  refine ⟨l, ⟨some a, cap, rfl, hl, ⟨rfl, by simp only [maxLen] at hm; omega, fun _ => ⟨a, rfl, fun j p hj => ?_⟩⟩⟩, by omega, fun y hy => ?_⟩
  ·obtain ⟨cs', h1, hk, _⟩ := hlx j p hj
   obtain ⟨_, hlen, hcell⟩ := World.cells?_some h1
   refine ⟨cs', by rw [hlen, hn, hd], hk, fun i u hu => ?_⟩
   rw [hd, ← hn]
   have hi : i < P.cellsOf e := by rw [← hlen]; exact (List.getElem?_eq_some_iff.1 hu).1
   have := hcell i hi
   rw [Deep.add_add] at this
   rw [this]
   exact hu
  ·obtain ⟨j, hj, rfl⟩ := List.mem_iff_getElem.1 hy
   obtain ⟨_, _, _, hw⟩ := hlx j _ (List.getElem?_eq_getElem hj)
   exact hw
theorem pair_at {α β : Type} {a : Kd α} {b : Kd β} {w : World} {x : α} {y : β} {cs : List Value} {o s : Nat} (h0 : a.K w x ((cs.drop o).take s)) (h1 : b.K w y (cs.drop (o + s))) : (Kd.pair a b).K w (x, y) (cs.drop o) :=
 ⟨_, _, by rw [← List.drop_drop]; exact (List.take_append_drop s _).symm, h0, h1⟩
theorem last_at {α : Type} {a : Kd α} {w : World} {x : α} {cs : List Value} {o s n : Nat} (h0 : a.K w x ((cs.drop o).take s)) (hl : cs.length = n) (hn : n = o + s := by rfl) : a.K w x (cs.drop o) := by
 rwa [List.take_of_length_le (by simp; omega)] at h0
theorem zero_at {α : Type} {a : Kd α} {w : World} {x : α} {cs : List Value} (h : a.K w x (cs.drop 0)) : a.K w x cs := h

def wfT42 : (List Int) → Prop := fun l => l.length ≤ maxLen ∧ ∀ x ∈ l, (inK .u8) x
theorem op_T42 : Opens Try.prog 42 (Kd.slice 5 (Kd.int .u8)) wfT42 := op_slice Try.underlying42 (by kernel_rfl) rfl (op_int .u8 Try.underlying5)
def wfT52 : (List (List Int)) → Prop := fun l => l.length ≤ maxLen ∧ ∀ x ∈ l, wfT42 x
theorem op_T52 : Opens Try.prog 52 (Kd.slice 42 (Kd.slice 5 (Kd.int .u8))) wfT52 := op_slice Try.underlying52 (by kernel_rfl) rfl op_T42
end Go.Proofs.Ytahepinbmcgbnaa.PG
