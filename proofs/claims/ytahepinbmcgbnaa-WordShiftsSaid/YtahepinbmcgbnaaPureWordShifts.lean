/- The plain law behind 'WordShifts'. No condition. -/
import Derived.Test.YtahepinbmcgbnaaPAx5
import Derived.Test.YtahepinbmcgbnaaOp
import Derived.Test.YtahepinbmcgbnaaWl
set_option linter.unusedVariables false
set_option linter.unusedSimpArgs false
namespace Go.Proofs.Ytahepinbmcgbnaa.Pure
open Go.RowKit Go.Proofs.Ytahepinbmcgbnaa.PA Go.Proofs.YtahepinbmcgbnaaW.PrintWords Go.Proofs.YtahepinbmcgbnaaW.PrintMore Go.Proofs.Ytahepinbmcgbnaa.Wd

/-- The number that a word stands for. -/
def val (k x : Int) : Int := if sg k then wrap64 x else x
theorem shl_bn (k x y : Int) (hk : 2 ≤ k ∧ k ≤ 9) (hx : is k x = true) (hy : 0 ≤ y ∧ y ≤ 18446744073709551615) : bn 9 k x y = (cn k (x * 2 ^ y.toNat), 0) := by
  have hs : is (second 9 k) y = true := by rw [show second 9 k = 9 from rfl]; exact is_u64 hy
  rw [bn_int 9 k x y hk (by omega) hx hs (by omega)]
  rw [show rk 9 (sg k) x y = shl .u64 x y from rfl]
  unfold shl
  rw [cn_wrap]
  rcases Nat.le_total y.toNat 64 with h | h
  · rw [show IntKind.u64.bits = 64 from rfl, Nat.min_eq_left h]
  · rw [show IntKind.u64.bits = 64 from rfl, Nat.min_eq_right h]
    congr 1
    refine cn_congr ?_
    rw [show y.toNat = 64 + (y.toNat - 64) by omega, Int.pow_add, ← Int.mul_assoc]
    have e : (2 : Int) ^ 64 = 18446744073709551616 := by decide
    rw [e]
    rw [Int.mul_assoc, Int.mul_comm 18446744073709551616, ← Int.mul_assoc, Int.mul_emod_left, Int.mul_emod_left]
theorem shr_bn (k x y : Int) (hk : 2 ≤ k ∧ k ≤ 9) (hx : is k x = true) (hy : 0 ≤ y ∧ y ≤ 18446744073709551615) : bn 10 k x y = (cn k (val k x / 2 ^ min y.toNat 64), 0) := by
  have hs : is (second 10 k) y = true := by rw [show second 10 k = 9 from rfl]; exact is_u64 hy
  rw [bn_int 10 k x y hk (by omega) hx hs (by omega)]
  unfold rk val
  cases hsg : sg k with
  | true => rfl
  | false => rfl
theorem div_64 (v : Int) (n : Nat) (h : -9223372036854775808 ≤ v ∧ v < 18446744073709551616) : v / 2 ^ min n 64 = v / 2 ^ n := by
  rcases Nat.le_total n 64 with hn | hn
  · rw [Nat.min_eq_left hn]
  · rw [Nat.min_eq_right hn]
    have e : (2 : Int) ^ 64 = 18446744073709551616 := by decide
    have e2 : (18446744073709551616 : Int) ≤ 2 ^ n := by
      rw [← e]
      exact_mod_cast Nat.pow_le_pow_right (by omega : 0 < 2) hn
    rw [e]
    rcases Int.lt_or_le v 0 with h0 | h0
    · rw [show v / 18446744073709551616 = -1 by omega]
      refine (Int.ediv_eq_neg_one_of_neg_of_le h0 ?_).symm
      omega
    · rw [show v / 18446744073709551616 = 0 by omega]
      exact (Int.ediv_eq_zero_of_lt h0 (by omega)).symm
/-- Divided, a number stays within its kind. -/
theorem div_in (v lo hi : Int) (n : Nat) (h : lo ≤ v ∧ v ≤ hi) (hlo : lo ≤ 0) (hhi : 0 ≤ hi) : lo ≤ v / 2 ^ n ∧ v / 2 ^ n ≤ hi := by
  have hp : (0 : Int) < 2 ^ n := Int.pow_pos (by decide)
  constructor
  · refine Int.le_ediv_of_mul_le hp ?_
    have h1 := Int.mul_le_mul_of_nonneg_left (show (1 : Int) ≤ 2 ^ n by omega) (show 0 ≤ -lo by omega)
    rw [Int.neg_mul, Int.neg_mul] at h1
    omega
  · refine Int.ediv_le_of_le_mul hp ?_
    have : hi * 1 ≤ hi * 2 ^ n := Int.mul_le_mul_of_nonneg_left (by omega) hhi
    omega
theorem val_cn (k v : Int) (hk : 2 ≤ k ∧ k ≤ 9) (x : Int) (hx : is k x = true) (n : Nat) : val k (cn k (val k x / 2 ^ n)) = val k x / 2 ^ n := by
  have hx' : cn k x = x := is_cn hx
  generalize hv : val k x = u
  have key : ∀ lo hi : Int, lo ≤ u → u ≤ hi → lo ≤ 0 → 0 ≤ hi → lo ≤ u / 2 ^ n ∧ u / 2 ^ n ≤ hi := fun lo hi h1 h2 h3 h4 => div_in u lo hi n ⟨h1, h2⟩ h3 h4
  rw [← hx'] at hv
  have : k = 2 ∨ k = 3 ∨ k = 4 ∨ k = 5 ∨ k = 6 ∨ k = 7 ∨ k = 8 ∨ k = 9 := by omega
  rcases this with rfl | rfl | rfl | rfl | rfl | rfl | rfl | rfl <;> simp [val, cn, sg, wrap64] at hv ⊢
  · have := key (-128) 127 (by omega) (by omega) (by omega) (by omega); omega
  · have := key (-32768) 32767 (by omega) (by omega) (by omega) (by omega); omega
  · have := key (-2147483648) 2147483647 (by omega) (by omega) (by omega) (by omega); omega
  · have := key (-9223372036854775808) 9223372036854775807 (by omega) (by omega) (by omega) (by omega); omega
  · have := key 0 255 (by omega) (by omega) (by omega) (by omega); omega
  · have := key 0 65535 (by omega) (by omega) (by omega) (by omega); omega
  · have := key 0 4294967295 (by omega) (by omega) (by omega) (by omega); omega
  · have := key 0 18446744073709551615 (by omega) (by omega) (by omega) (by omega); omega
theorem val_range (k x : Int) (hk : 2 ≤ k ∧ k ≤ 9) (hx : is k x = true) : -9223372036854775808 ≤ val k x ∧ val k x < 18446744073709551616 := by
  have hx' := is_range hk hx
  unfold val
  split
  · unfold wrap64; omega
  · omega

/-- n times by one, and once by n. -/
theorem rounds_ev (l : List S25) (i kk x n a b : Int) (f0 f1 f2 f3 f4 : Int) (hk : 2 ≤ kk ∧ kk ≤ 9) (hx : is kk x = true) (hn : 0 ≤ n ∧ n < 70) (hf : 0 ≤ f4 ∧ f4 ≤ 18446744073709551615)
    (next : Ev (fun k => gantrylaw1_WordShifts.l0 k l (wrap64 (i + 1))) true) :
    ∀ (d : Nat) (j : Nat), (j : Int) + d = n → Ev (fun k => gantrylaw1_WordShifts.l1 k l i kk x n (cn kk (x * 2 ^ j)) (cn kk (val kk x / 2 ^ j)) j f0 f1 f2 f3 f4) true := by
  intro d
  have hv := val_range kk x hk hx
  induction d with
  | zero =>
    intro j hj
    have hjn : (j : Int) = n := by omega
    refine Ev.step (fun k => by simp only [gantrylaw1_WordShifts.l1]; rw [if_neg (show ¬ (j : Int) < n by omega)]) ?_
    refine Ev.bind (bin_ev 9 kk x n (is_range hk hx).1 hn.1 (by omega)) ?_
    have e1 : (bn 9 kk x n).1 = cn kk (x * 2 ^ j) := by rw [shl_bn kk x n hk hx (by omega)]; rw [show n.toNat = j by omega]
    refine Ev.congr (fun k => if_pos e1) ?_
    refine Ev.bind (bin_ev 10 kk x n (is_range hk hx).1 hn.1 (by omega)) ?_
    have e2 : (bn 10 kk x n).1 = cn kk (val kk x / 2 ^ j) := by rw [shr_bn kk x n hk hx (by omega)]; rw [show n.toNat = j by omega, div_64 _ _ hv]
    refine Ev.congr (fun k => if_pos e2) ?_
    refine Ev.bind (is_ev kk _) ?_
    refine Ev.congr (fun k => if_pos (is_cn_self hk _)) ?_
    refine Ev.bind (is_ev kk _) ?_
    rw [is_cn_self hk]
    refine Ev.step (fun k => by simp only [gantrylaw1_WordShifts.j3]; rw [if_neg (by decide)]) ?_
    by_cases h64 : f4 ≥ 64
    · refine Ev.congr (fun k => if_pos h64) ?_
      refine Ev.bind (bin_ev 9 kk x f4 (is_range hk hx).1 hf.1 hf.2) ?_
      have e3 : (bn 9 kk x f4).1 = 0 := by
        rw [shl_bn kk x f4 hk hx hf]
        rw [show f4.toNat = 64 + (f4.toNat - 64) by omega, Int.pow_add, ← Int.mul_assoc]
        rw [show (2 : Int) ^ 64 = 18446744073709551616 by decide]
        show cn kk _ = 0
        rw [← cn_zero kk]
        refine cn_congr ?_
        rw [Int.mul_assoc, Int.mul_comm 18446744073709551616, ← Int.mul_assoc, Int.mul_emod_left]
        rfl
      refine Ev.congr (fun k => if_pos e3) ?_
      refine Ev.bind (bin_ev 10 kk x f4 (is_range hk hx).1 hf.1 hf.2) ?_
      refine Ev.bind (bin_ev 10 kk x 64 (is_range hk hx).1 (by decide) (by decide)) ?_
      have e4 : (bn 10 kk x f4).1 = (bn 10 kk x 64).1 := by
        rw [shr_bn kk x f4 hk hx hf, shr_bn kk x 64 hk hx (by decide)]
        rw [Nat.min_eq_right (by omega), Nat.min_eq_right (by decide)]
      refine Ev.congr (fun k => if_pos e4) ?_
      exact next
    · refine Ev.congr (fun k => if_neg h64) ?_
      exact next
  | succ d ih =>
    intro j hj
    refine Ev.step (fun k => by simp only [gantrylaw1_WordShifts.l1]; rw [if_pos (show (j : Int) < n by omega)]) ?_
    refine Ev.bind (bin_ev 9 kk _ 1 (is_range hk (is_cn_self hk _)).1 (by decide) (by decide)) ?_
    refine Ev.bind (bin_ev 10 kk _ 1 (is_range hk (is_cn_self hk _)).1 (by decide) (by decide)) ?_
    have e1 : (bn 9 kk (cn kk (x * 2 ^ j)) 1).1 = cn kk (x * 2 ^ (j + 1)) := by
      rw [shl_bn kk _ 1 hk (is_cn_self hk _) (by decide)]
      show cn kk (cn kk (x * 2 ^ j) * 2 ^ 1) = _
      rw [cn_mul hk, Int.pow_succ, Int.mul_assoc]
      rfl
    have e2 : (bn 10 kk (cn kk (val kk x / 2 ^ j)) 1).1 = cn kk (val kk x / 2 ^ (j + 1)) := by
      rw [shr_bn kk _ 1 hk (is_cn_self hk _) (by decide)]
      show cn kk (val kk (cn kk (val kk x / 2 ^ j)) / 2 ^ 1) = _
      rw [val_cn kk 0 hk x hx, Int.ediv_ediv_of_nonneg (Int.le_of_lt (Int.pow_pos (by decide))), show (2 : Int) ^ (j + 1) = 2 ^ j * 2 ^ 1 from Int.pow_add ..]
    rw [e1, e2, show IntKind.u64.wrap ((j : Int) + 1) = ((j + 1 : Nat) : Int) by rw [IntKind.wrap_u64]; omega]
    exact ih (j + 1) (by omega)

theorem WordShifts (l : List (S25)) (hl : wfT22 l) : ∃ k, gantrylaw1_WordShifts.f k l = some true := by
  obtain ⟨hlen, hall⟩ := hl
  unfold gantrylaw1_WordShifts.f
  suffices H : ∀ (d : Nat) (i : Int), 0 ≤ i → i + d = l.length → Ev (fun k => gantrylaw1_WordShifts.l0 k l i) true from (H l.length 0 (by omega) (by omega)).rounds
  intro d
  have hend : ∀ i, Ev (fun k => gantrylaw1_WordShifts.j1 k l i false) true := by
    intro i
    refine Ev.step (fun k => by simp only [gantrylaw1_WordShifts.j1]; rw [if_neg (by decide)]) ?_
    exact Ev.bind wakes_ev (Ev.now _)
  unfold maxLen at hlen
  induction d with
  | zero =>
    intro i h0 hi
    refine Ev.step (fun k => by simp only [gantrylaw1_WordShifts.l0]; rw [if_neg (by omega)]) ?_
    exact hend i
  | succ d ih =>
    intro i h0 hi
    refine Ev.step (fun k => by simp only [gantrylaw1_WordShifts.l0]; rw [if_pos (by omega)]) ?_
    by_cases h2 : i < 200
    · rw [decide_eq_true h2]
      refine Ev.step (fun k => by simp only [gantrylaw1_WordShifts.j1]; rw [if_pos trivial, if_pos h0, if_pos (by omega)]) ?_
      obtain ⟨w0, w1, w2, w3, w4⟩ := hall (rd_T25 l i) (rd_mem l i h0 (by omega))
      generalize rd_T25 l i = p at *
      have hk := kind_of p.f1 w1
      generalize wrap64 (2 + wrap64 (Int.tmod (IntKind.u64.wrap p.f1) 8)) = kk at *
      have hf4 : 0 ≤ p.f4 ∧ p.f4 ≤ 18446744073709551615 := w4
      refine Ev.bind (canon_ev kk p.f3) ?_
      have hx := is_cn_self hk p.f3
      have hn : 0 ≤ Int.tmod p.f4 70 ∧ Int.tmod p.f4 70 < 70 := by rw [Int.tmod_eq_emod_of_nonneg hf4.1]; omega
      have := rounds_ev l i kk (cn kk p.f3) (Int.tmod p.f4 70) 0 0 p.f0 p.f1 p.f2 p.f3 p.f4 hk hx hn hf4 (by rw [show wrap64 (i + 1) = i + 1 by unfold wrap64; omega]; exact ih (i + 1) (by omega) (by omega)) (Int.tmod p.f4 70).toNat 0 (by omega)
      have e1 : cn kk (cn kk p.f3 * 2 ^ 0) = cn kk p.f3 := by rw [Int.pow_zero, Int.mul_one]; exact is_cn hx
      have e2 : cn kk (val kk (cn kk p.f3) / 2 ^ 0) = cn kk p.f3 := by rw [Int.pow_zero, Int.ediv_one]; exact (cn_val hk (cn kk p.f3)).trans (is_cn hx)
      rw [e1, e2] at this
      exact this
    · rw [decide_eq_false h2]
      exact hend i

end Go.Proofs.Ytahepinbmcgbnaa.Pure
