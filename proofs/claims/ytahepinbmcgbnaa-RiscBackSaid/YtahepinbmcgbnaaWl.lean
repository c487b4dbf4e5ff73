/- What the closed forms of package word obey. No condition. -/
import Derived.Test.YtahepinbmcgbnaaPAx0
import Derived.Test.YtahepinbmcgbnaaPAx1
import Derived.Test.YtahepinbmcgbnaaPAx3
import Derived.Test.YtahepinbmcgbnaaPAx4
import Derived.Test.YtahepinbmcgbnaaWd
import Derived.Test.YtahepinbmcgbnaaOp
set_option linter.unusedVariables false
set_option linter.unusedSimpArgs false
namespace Go.Proofs.Ytahepinbmcgbnaa.Wd
open Go.RowKit Go.Proofs.Ytahepinbmcgbnaa.PA Go.Proofs.YtahepinbmcgbnaaW.PrintWords Go.Proofs.YtahepinbmcgbnaaW.PrintMore

theorem whole_kinds {k : Int} (hk : 2 ≤ k ∧ k ≤ 9) : k = 2 ∨ k = 3 ∨ k = 4 ∨ k = 5 ∨ k = 6 ∨ k = 7 ∨ k = 8 ∨ k = 9 := by omega
theorem is_u64 {y : Int} (h : 0 ≤ y ∧ y ≤ 18446744073709551615) : is 9 y = true := by
  unfold is cn Wi
  simp
  omega
theorem is_cn {k x : Int} (h : is k x = true) : cn k x = x := by
  unfold is at h
  simp only [Bool.and_eq_true, beq_iff_eq] at h
  exact h.2
theorem is_mk {k x : Int} (hk : 1 ≤ k ∧ k ≤ 11) (h : cn k x = x) : is k x = true := by
  unfold is
  have : 0 < Wi k := by
    rcases kinds k with rfl | rfl | rfl | rfl | rfl | rfl | rfl | rfl | rfl | rfl | rfl | h <;> first | decide | omega
  simp [this, h]
theorem cn_congr {k x y : Int} (h : x % 18446744073709551616 = y % 18446744073709551616) : cn k x = cn k y := by
  rw [← cn_wrap k x, ← cn_wrap k y, IntKind.wrap_u64, IntKind.wrap_u64, h]
theorem cn_idem {k : Int} (x : Int) : cn k (cn k x) = cn k x := by
  rcases kinds k with rfl | rfl | rfl | rfl | rfl | rfl | rfl | rfl | rfl | rfl | rfl | h
  all_goals first | (simp [cn]; omega) | (simp [cn]; done)
theorem is_cn_self {k : Int} (hk : 2 ≤ k ∧ k ≤ 9) (x : Int) : is k (cn k x) = true := is_mk (by omega) (cn_idem x)
theorem cn_range (k x : Int) : 0 ≤ cn k x ∧ cn k x ≤ 18446744073709551615 := by
  unfold cn
  split
  · omega
  split
  · omega
  split
  · omega
  split
  · omega
  split
  · omega
  split
  · omega
  split
  · omega
  split
  · omega
  · omega
theorem is_range {k x : Int} (hk : 2 ≤ k ∧ k ≤ 9) (h : is k x = true) : 0 ≤ x ∧ x ≤ 18446744073709551615 := by
  rw [← is_cn h]; exact cn_range k x
theorem cn_zero (k : Int) : cn k 0 = 0 := by
  unfold cn
  split
  · rfl
  split
  · rfl
  split
  · rfl
  split
  · rfl
  split
  · rfl
  split
  · rfl
  split
  · rfl
  split <;> rfl

/-- How many words a whole kind has. -/
def md (k : Int) : Int := if k = 2 ∨ k = 6 then 256 else if k = 3 ∨ k = 7 then 65536 else if k = 4 ∨ k = 8 then 4294967296 else 18446744073709551616
theorem cn_md {k : Int} (hk : 2 ≤ k ∧ k ≤ 9) (x : Int) : cn k x % md k = x % md k := by
  rcases whole_kinds hk with rfl | rfl | rfl | rfl | rfl | rfl | rfl | rfl <;> (simp [cn, md]; try omega)
theorem md_cn {k : Int} (hk : 2 ≤ k ∧ k ≤ 9) {x y : Int} (h : x % md k = y % md k) : cn k x = cn k y := by
  rcases whole_kinds hk with rfl | rfl | rfl | rfl | rfl | rfl | rfl | rfl <;> (simp [md] at h; simp [cn]; try omega)
theorem cn_add {k : Int} (hk : 2 ≤ k ∧ k ≤ 9) (x y : Int) : cn k (cn k x + y) = cn k (x + y) := md_cn hk (by rw [Int.add_emod, cn_md hk, ← Int.add_emod])
theorem cn_mul {k : Int} (hk : 2 ≤ k ∧ k ≤ 9) (x y : Int) : cn k (cn k x * y) = cn k (x * y) := md_cn hk (by rw [Int.mul_emod, cn_md hk, ← Int.mul_emod])
theorem cn_add' {k : Int} (hk : 2 ≤ k ∧ k ≤ 9) (x y : Int) : cn k (x + cn k y) = cn k (x + y) := by rw [Int.add_comm, cn_add hk, Int.add_comm]
theorem cn_mul' {k : Int} (hk : 2 ≤ k ∧ k ≤ 9) (x y : Int) : cn k (x * cn k y) = cn k (x * y) := by rw [Int.mul_comm, cn_mul hk, Int.mul_comm]
theorem cn_val {k : Int} (hk : 2 ≤ k ∧ k ≤ 9) (x : Int) : cn k (if sg k then wrap64 x else x) = cn k x := by
  split
  · exact cn_congr (by unfold wrap64; omega)
  · rfl

theorem wh_of {k : Int} (hk : 2 ≤ k ∧ k ≤ 9) : wh k = true := by unfold wh; simp [hk.1, hk.2]
theorem has_of {op k : Int} (hk : 2 ≤ k ∧ k ≤ 9) (hop : 1 ≤ op ∧ op ≤ 16) : has op k = true := by unfold has; simp [hop.1, hop.2, wh_of hk]
theorem bn_int (op k x y : Int) (hk : 2 ≤ k ∧ k ≤ 9) (hop : 1 ≤ op ∧ op ≤ 10) (hx : is k x = true) (hy : is (second op k) y = true) (hz : ¬ ((op = 4 ∨ op = 5) ∧ y = 0)) : bn op k x y = (cn k (rk op (sg k) x y), 0) := by
  unfold bn
  rw [has_of hk (by omega), hx, hy]
  simp only [Bool.true_eq_false, if_false, or_self]
  rw [if_neg (by omega), if_neg hz, if_neg (by omega)]
theorem bn_cmp (op k x y : Int) (hk : 2 ≤ k ∧ k ≤ 9) (hop : 11 ≤ op ∧ op ≤ 16) (hx : is k x = true) (hy : is k y = true) : bn op k x y = (Fl.saysF (less k x y) (x == y) op, 0) := by
  unfold bn
  rw [has_of hk (by omega), hx, show second op k = k by unfold second; rw [if_neg (by omega)], hy]
  simp only [Bool.true_eq_false, if_false, or_self]
  rw [if_neg (by omega), if_neg (by omega), if_pos (by omega)]

theorem canon_ev (a x : Int) : Ev (fun k => word_Canon.f k a x) (cn a x) := ⟨4, fun k hk => by obtain ⟨n, rfl⟩ : ∃ n, k = n + 4 := ⟨k - 4, by omega⟩; exact Canon_eq n a x⟩
theorem width_ev (a : Int) : Ev (fun k => word_Width.f k a) (Wi a) := ⟨4, fun k hk => by obtain ⟨n, rfl⟩ : ∃ n, k = n + 4 := ⟨k - 4, by omega⟩; exact Width_eq n a⟩
theorem is_ev (a x : Int) : Ev (fun k => word_Is.f k a x) (is a x) := ⟨4, fun k hk => by obtain ⟨n, rfl⟩ : ∃ n, k = n + 4 := ⟨k - 4, by omega⟩; exact Is_eq n a x⟩
theorem Bin_ev (op a x y : Int) (hx : 0 ≤ x) (hy : 0 ≤ y) (hy2 : y ≤ 18446744073709551615) : Ev (fun k => word_Bin.f k op a x y) (bn op a x y) := ⟨9, fun k hk => by obtain ⟨n, rfl⟩ : ∃ n, k = n + 9 := ⟨k - 9, by omega⟩; exact Bin_eq n op a x y hx hy hy2⟩
theorem bin_ev (op a x y : Int) (hx : 0 ≤ x) (hy : 0 ≤ y) (hy2 : y ≤ 18446744073709551615) : Ev (fun k => gantrylaw1_bin.f k op a x y) (bn op a x y).1 := by
  unfold gantrylaw1_bin.f
  exact Ev.bind (Bin_ev op a x y hx hy hy2) (Ev.now _)
theorem wakes_ev : Ev (fun k => gantrylaw1_wakes.f k) true := by
  unfold gantrylaw1_wakes.f
  refine Ev.bind (Bin_ev 1 6 200 100 (by decide) (by decide) (by decide)) ?_
  have e : bn 1 6 200 100 = (44, 0) := by
    rw [bn_int 1 6 200 100 (by decide) (by decide) (by decide +kernel) (by decide +kernel) (by decide)]
    rfl
  rw [e]
  refine Ev.bind (Ev.now 0) ?_
  refine Ev.congr (fun k => if_pos rfl) ?_
  refine Ev.congr (fun k => if_pos rfl) ?_
  exact Ev.bind (width_ev 3) (Ev.now _)

/-- The kind that a law makes of any number. -/
theorem kind_of (n : Int) (h : inK .i64 n) : 2 ≤ wrap64 (2 + wrap64 (Int.tmod (IntKind.u64.wrap n) 8)) ∧ wrap64 (2 + wrap64 (Int.tmod (IntKind.u64.wrap n) 8)) ≤ 9 := by
  rw [IntKind.wrap_u64, Int.tmod_eq_emod_of_nonneg (by omega)]
  unfold wrap64
  omega
theorem rd_mem (l : List S25) (i : Int) (h0 : 0 ≤ i) (h : i < l.length) : rd_T25 l i ∈ l := by
  unfold rd_T25
  rw [List.getD_eq_getElem?_getD, List.getElem?_eq_getElem (by omega)]
  exact List.getElem_mem _
end Go.Proofs.Ytahepinbmcgbnaa.Wd
