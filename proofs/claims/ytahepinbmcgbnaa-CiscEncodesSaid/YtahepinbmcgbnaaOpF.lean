/- How arguments are opened: out of the data that is read, the values of the printed functions' kinds, with their ranges. No condition. -/
import Derived.Test.YtahepinbmcgbnaaPFx0
import Derived.Deep.Slices
import Derived.ChangeArms
import Derived.KernelRfl
set_option linter.unusedVariables false
namespace Go.Proofs.Ytahepinbmcgbnaa.PF
open Go.RowKit Go.Proofs.YtahepinbmcgbnaaW.PrintWords Go.ChangeShapes Go.WideShapes

/-- A number of its kind. -/
def inK (k : IntKind) (n : Int) : Prop := k.min ≤ n ∧ n ≤ k.max
/-- Whatever is read at type t has a value of kind d. -/
def Opens {α : Type} (P : Program) (t : TypeId) (d : Kd α) (wf : α → Prop) : Prop := ∀ {H : Type} {enc : TypeId × Value → H} {w : World} {spare : Nat → Bool} {fuel : Nat} {cs : List Value} {x : DataW H × List MemPlace}, DataW.trod enc P w 0 spare true fuel t cs = some x → ∃ a, d.K w a cs ∧ wf a
theorem op_int {P : Program} {t : TypeId} (k : IntKind) (ht : P.underlying t = some (.int k)) : Opens P t (Kd.int k) (inK k) := by
  intro H enc w spare fuel cs x h
  obtain ⟨n, rfl, _, hw⟩ := DataW.trod_int ht h
  exact ⟨n, rfl, by simpa [Lit.wf, inK] using hw⟩
theorem op_bool {P : Program} {t : TypeId} (ht : P.underlying t = some .bool) : Opens P t Kd.bool (fun _ => True) := by
  intro H enc w spare fuel cs x h
  obtain ⟨b, rfl, _⟩ := DataW.trod_bool ht h
  exact ⟨b, rfl, trivial⟩
theorem op_slice {P : Program} {t e : TypeId} {α : Type} {d : Kd α} {wf : α → Prop} {n : Nat} (ht : P.underlying t = some (.slice e)) (hn : P.cellsOf e = n) (hd : d.sz = n) (he : Opens P e d wf) : Opens P t (Kd.slice e d) (fun l => l.length ≤ maxLen ∧ ∀ x ∈ l, wf x) := by
  intro H enc w spare fuel cs x h
  rcases Deep.open_slice ht h with ⟨rfl, _⟩ | ⟨a, len, cap, m, fu, D, Pl, rfl, _, hl, hm, hmm, hxe, hx⟩
  · exact ⟨[], ⟨none, 0, rfl, Nat.le_refl _, ⟨rfl, by simp, fun h => absurd h (Nat.lt_irrefl _)⟩⟩, by simp [maxLen], by simp⟩
  · have hlm : len ≤ m := by rw [hmm]; split <;> omega
    have : ∀ i, i < len → ∃ y, ∃ cs', w.cells? 0 (a.add (i * P.cellsOf e)) (P.cellsOf e) = some cs' ∧ d.K w y cs' ∧ wf y := by
      intro i hi
      obtain ⟨cs', h1, h2⟩ := hx i (by omega)
      obtain ⟨y, hy, hw⟩ := he h2
      exact ⟨y, cs', h1, hy, hw⟩
    obtain ⟨l, hll, hlx⟩ : ∃ l : List α, l.length = len ∧ ∀ i y, l[i]? = some y → ∃ cs', w.cells? 0 (a.add (i * P.cellsOf e)) (P.cellsOf e) = some cs' ∧ d.K w y cs' ∧ wf y := by
      clear hx h hl hm hmm hlm hxe
      induction len with
      | zero => exact ⟨[], rfl, by simp⟩
      | succ len ih =>
        obtain ⟨l, hll, hlx⟩ := ih (fun i hi => this i (by omega))
        obtain ⟨y, hy⟩ := this len (by omega)
        refine ⟨l ++ [y], by simp [hll], fun i z hz => ?_⟩
        rcases Nat.lt_or_ge i l.length with hi | hi
        · rw [List.getElem?_append_left hi] at hz; exact hlx i z hz
        · rw [List.getElem?_append_right hi] at hz
          obtain ⟨h1, rfl⟩ : i - l.length = 0 ∧ y = z := by
            cases hq : i - l.length with
            | zero => rw [hq] at hz; simpa using hz
            | succ q => rw [hq] at hz; simp at hz
          have : i = len := by omega
          subst this
          exact hy
    subst hll
    refine ⟨l, ⟨some a, cap, rfl, hl, ⟨rfl, by simp only [maxLen] at hm; omega, fun _ => ⟨a, rfl, fun j p hj => ?_⟩⟩⟩, by omega, fun y hy => ?_⟩
    · obtain ⟨cs', h1, hk, _⟩ := hlx j p hj
      obtain ⟨_, hlen, hcell⟩ := World.cells?_some h1
      refine ⟨cs', by rw [hlen, hn, hd], hk, fun i u hu => ?_⟩
      rw [hd, ← hn]
      have hi : i < P.cellsOf e := by rw [← hlen]; exact (List.getElem?_eq_some_iff.1 hu).1
      have := hcell i hi
      rw [Deep.add_add] at this
      rw [this]
      exact hu
    · obtain ⟨j, hj, rfl⟩ := List.mem_iff_getElem.1 hy
      obtain ⟨_, _, _, hw⟩ := hlx j _ (List.getElem?_eq_getElem hj)
      exact hw
theorem pair_at {α β : Type} {a : Kd α} {b : Kd β} {w : World} {x : α} {y : β} {cs : List Value} {o s : Nat} (h0 : a.K w x ((cs.drop o).take s)) (h1 : b.K w y (cs.drop (o + s))) : (Kd.pair a b).K w (x, y) (cs.drop o) :=
  ⟨_, _, by rw [← List.drop_drop]; exact (List.take_append_drop s _).symm, h0, h1⟩
theorem last_at {α : Type} {a : Kd α} {w : World} {x : α} {cs : List Value} {o s n : Nat} (h0 : a.K w x ((cs.drop o).take s)) (hl : cs.length = n) (hn : n = o + s := by rfl) : a.K w x (cs.drop o) := by
  rwa [List.take_of_length_le (by simp; omega)] at h0
theorem zero_at {α : Type} {a : Kd α} {w : World} {x : α} {cs : List Value} (h : a.K w x (cs.drop 0)) : a.K w x cs := h

def wfT46 : S46 → Prop := fun x => (inK .i64) x.f0 ∧ (inK .i64) x.f1 ∧ (inK .i64) x.f2 ∧ (inK .i64) x.f3 ∧ (inK .i64) x.f4 ∧ (inK .i64) x.f5 ∧ (inK .i64) x.f6 ∧ (inK .i64) x.f7 ∧ (inK .i64) x.f8
theorem op_T46 : Opens Try.prog 46 k46 wfT46 := by
  intro H enc w spare fuel cs x h
  obtain ⟨xs, n, _, _, hl, hx, hf⟩ := DataW.trod_struct Try.underlying46 h
  have hl' : cs.length = 9 := hl.trans (by kernel_rfl)
  have hx' : xs.length = 9 := hx
  have e0 := hf 0 _ rfl
  rw [List.getElem?_eq_getElem (show 0 < xs.length by omega)] at e0
  replace e0 : DataW.trod enc Try.prog w 0 spare true n 3 ((cs.drop 0).take (Try.prog.cellsOf 3)) = some _ := e0
  rw [show Try.prog.cellsOf 3 = 1 by kernel_rfl] at e0
  obtain ⟨a0, k0_, w0⟩ := (op_int .i64 Try.underlying3) e0
  have e1 := hf 1 _ rfl
  rw [List.getElem?_eq_getElem (show 1 < xs.length by omega)] at e1
  replace e1 : DataW.trod enc Try.prog w 0 spare true n 3 ((cs.drop 1).take (Try.prog.cellsOf 3)) = some _ := e1
  rw [show Try.prog.cellsOf 3 = 1 by kernel_rfl] at e1
  obtain ⟨a1, k1_, w1⟩ := (op_int .i64 Try.underlying3) e1
  have e2 := hf 2 _ rfl
  rw [List.getElem?_eq_getElem (show 2 < xs.length by omega)] at e2
  replace e2 : DataW.trod enc Try.prog w 0 spare true n 3 ((cs.drop 2).take (Try.prog.cellsOf 3)) = some _ := e2
  rw [show Try.prog.cellsOf 3 = 1 by kernel_rfl] at e2
  obtain ⟨a2, k2_, w2⟩ := (op_int .i64 Try.underlying3) e2
  have e3 := hf 3 _ rfl
  rw [List.getElem?_eq_getElem (show 3 < xs.length by omega)] at e3
  replace e3 : DataW.trod enc Try.prog w 0 spare true n 3 ((cs.drop 3).take (Try.prog.cellsOf 3)) = some _ := e3
  rw [show Try.prog.cellsOf 3 = 1 by kernel_rfl] at e3
  obtain ⟨a3, k3_, w3⟩ := (op_int .i64 Try.underlying3) e3
  have e4 := hf 4 _ rfl
  rw [List.getElem?_eq_getElem (show 4 < xs.length by omega)] at e4
  replace e4 : DataW.trod enc Try.prog w 0 spare true n 3 ((cs.drop 4).take (Try.prog.cellsOf 3)) = some _ := e4
  rw [show Try.prog.cellsOf 3 = 1 by kernel_rfl] at e4
  obtain ⟨a4, k4_, w4⟩ := (op_int .i64 Try.underlying3) e4
  have e5 := hf 5 _ rfl
  rw [List.getElem?_eq_getElem (show 5 < xs.length by omega)] at e5
  replace e5 : DataW.trod enc Try.prog w 0 spare true n 3 ((cs.drop 5).take (Try.prog.cellsOf 3)) = some _ := e5
  rw [show Try.prog.cellsOf 3 = 1 by kernel_rfl] at e5
  obtain ⟨a5, k5_, w5⟩ := (op_int .i64 Try.underlying3) e5
  have e6 := hf 6 _ rfl
  rw [List.getElem?_eq_getElem (show 6 < xs.length by omega)] at e6
  replace e6 : DataW.trod enc Try.prog w 0 spare true n 3 ((cs.drop 6).take (Try.prog.cellsOf 3)) = some _ := e6
  rw [show Try.prog.cellsOf 3 = 1 by kernel_rfl] at e6
  obtain ⟨a6, k6_, w6⟩ := (op_int .i64 Try.underlying3) e6
  have e7 := hf 7 _ rfl
  rw [List.getElem?_eq_getElem (show 7 < xs.length by omega)] at e7
  replace e7 : DataW.trod enc Try.prog w 0 spare true n 2 ((cs.drop 7).take (Try.prog.cellsOf 2)) = some _ := e7
  rw [show Try.prog.cellsOf 2 = 1 by kernel_rfl] at e7
  obtain ⟨a7, k7_, w7⟩ := (op_int .i64 Try.underlying2) e7
  have e8 := hf 8 _ rfl
  rw [List.getElem?_eq_getElem (show 8 < xs.length by omega)] at e8
  replace e8 : DataW.trod enc Try.prog w 0 spare true n 3 ((cs.drop 8).take (Try.prog.cellsOf 3)) = some _ := e8
  rw [show Try.prog.cellsOf 3 = 1 by kernel_rfl] at e8
  obtain ⟨a8, k8_, w8⟩ := (op_int .i64 Try.underlying3) e8
  exact ⟨⟨a0, a1, a2, a3, a4, a5, a6, a7, a8⟩, zero_at (pair_at k0_ (pair_at k1_ (pair_at k2_ (pair_at k3_ (pair_at k4_ (pair_at k5_ (pair_at k6_ (pair_at k7_ (last_at k8_ hl'))))))))), ⟨w0, w1, w2, w3, w4, w5, w6, w7, w8⟩⟩
def wfT41 : (List S46) → Prop := fun l => l.length ≤ maxLen ∧ ∀ x ∈ l, wfT46 x
theorem op_T41 : Opens Try.prog 41 (Kd.slice 46 k46) wfT41 := op_slice Try.underlying41 (by kernel_rfl) rfl op_T46
end Go.Proofs.Ytahepinbmcgbnaa.PF
