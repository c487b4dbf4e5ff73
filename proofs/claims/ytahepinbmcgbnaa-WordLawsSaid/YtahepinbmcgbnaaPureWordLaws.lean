/- The plain law behind 'WordLaws'. No condition. -/
import Derived.Test.YtahepinbmcgbnaaPAx7
import Derived.Test.YtahepinbmcgbnaaOp
import Derived.Test.YtahepinbmcgbnaaWb
set_option linter.unusedVariables false
set_option linter.unusedSimpArgs false
namespace Go.Proofs.Ytahepinbmcgbnaa.Pure
open Go.RowKit Go.Proofs.Ytahepinbmcgbnaa.PA Go.Proofs.YtahepinbmcgbnaaW.PrintWords Go.Proofs.YtahepinbmcgbnaaW.PrintMore Go.Proofs.Ytahepinbmcgbnaa.Wd

theorem sec (k op : Int) (h : ¬ (op = 9 ∨ op = 10)) : second op k = k := by unfold second; rw [if_neg h]
section
variable {k : Int} (hk : 2 ≤ k ∧ k ≤ 9) {x y w : Int}
include hk
theorem b_add (hx : is k x = true) (hy : is k y = true) : (bn 1 k x y).1 = cn k (x + y) := by rw [bn_int 1 k x y hk (by decide) hx (by rw [sec k 1 (by decide)]; exact hy) (by omega)]; rfl
theorem b_sub (hx : is k x = true) (hy : is k y = true) : (bn 2 k x y).1 = cn k (x - y) := by rw [bn_int 2 k x y hk (by decide) hx (by rw [sec k 2 (by decide)]; exact hy) (by omega)]; rfl
theorem b_mul (hx : is k x = true) (hy : is k y = true) : (bn 3 k x y).1 = cn k (x * y) := by rw [bn_int 3 k x y hk (by decide) hx (by rw [sec k 3 (by decide)]; exact hy) (by omega)]; rfl
theorem b_div (hx : is k x = true) (hy : is k y = true) (h0 : y ≠ 0) : (bn 4 k x y).1 = cn k (rk 4 (sg k) x y) := by rw [bn_int 4 k x y hk (by decide) hx (by rw [sec k 4 (by decide)]; exact hy) (by omega)]
theorem b_rem (hx : is k x = true) (hy : is k y = true) (h0 : y ≠ 0) : (bn 5 k x y).1 = cn k (rk 5 (sg k) x y) := by rw [bn_int 5 k x y hk (by decide) hx (by rw [sec k 5 (by decide)]; exact hy) (by omega)]
theorem b_and (hx : is k x = true) (hy : is k y = true) : (bn 6 k x y).1 = ((x.toNat &&& y.toNat : Nat) : Int) := by rw [bn_int 6 k x y hk (by decide) hx (by rw [sec k 6 (by decide)]; exact hy) (by omega)]; exact cn_and hk hx hy
theorem b_or (hx : is k x = true) (hy : is k y = true) : (bn 7 k x y).1 = ((x.toNat ||| y.toNat : Nat) : Int) := by rw [bn_int 7 k x y hk (by decide) hx (by rw [sec k 7 (by decide)]; exact hy) (by omega)]; exact cn_or hk hx hy
theorem b_xor (hx : is k x = true) (hy : is k y = true) : (bn 8 k x y).1 = ((x.toNat ^^^ y.toNat : Nat) : Int) := by rw [bn_int 8 k x y hk (by decide) hx (by rw [sec k 8 (by decide)]; exact hy) (by omega)]; exact cn_xor hk hx hy
theorem is_add : is k (cn k w) = true := is_cn_self hk w
theorem b_and_is (hx : is k x = true) (hy : is k y = true) : is k ((x.toNat &&& y.toNat : Nat) : Int) = true := is_mk (by omega) ((fits_iff hk _).1 (fits_and (fits_is hk hx).1 (fits_is hk hy).1))
theorem b_xor_is (hx : is k x = true) (hy : is k y = true) : is k ((x.toNat ^^^ y.toNat : Nat) : Int) = true := is_mk (by omega) ((fits_iff hk _).1 (fits_xor (fits_is hk hx).1 (fits_is hk hy).1))
theorem u_neg (hy : is k y = true) : (un 1 k y).1 = cn k (-y) := by unfold un; rw [show hasU 1 k = true by simp [hasU, wh_of hk], hy]; simp only [Bool.true_eq_false, if_false]; rw [if_neg (by decide), if_neg (by omega), if_pos trivial]
theorem u_com (hx : is k x = true) : (un 3 k x).1 = cn k (Go.bits .xor .u64 18446744073709551615 x) := by unfold un; rw [show hasU 3 k = true by simp [hasU, wh_of hk], hx]; simp only [Bool.true_eq_false, if_false]; rw [if_neg (by decide), if_neg (by omega), if_neg (by decide)]

/-- Quotient times divisor, and the rest, is the number. -/
theorem div_rem (hx : is k x = true) (hy : is k y = true) (h0 : y ≠ 0) : cn k (cn k (cn k (rk 4 (sg k) x y) * y) + cn k (rk 5 (sg k) x y)) = x := by
  rw [cn_mul hk, cn_add hk, cn_add' hk]
  have rx := is_range hk hx
  have ry := is_range hk hy
  refine Eq.trans ?_ (is_cn hx)
  unfold rk
  simp only [Int.reduceEq, if_false, if_true]
  cases hs : sg k with
  | false =>
    simp only [Bool.false_eq_true, if_false]
    congr 1
    rw [Int.mul_comm]
    exact Int.mul_tdiv_add_tmod x y
  | true =>
    simp only [if_true]
    by_cases hm : y = 18446744073709551615
    · rw [if_pos hm, if_pos hm]
      refine cn_congr ?_
      subst hm
      omega
    · rw [if_neg hm, if_neg hm]
      refine cn_congr ?_
      have e1 := Int.mul_tdiv_add_tmod (wrap64 x) (wrap64 y)
      have e2 : (wrap64 (Int.tdiv (wrap64 x) (wrap64 y)) * y + Int.tmod (wrap64 x) (wrap64 y)) % 18446744073709551616 = (Int.tdiv (wrap64 x) (wrap64 y) * wrap64 y + Int.tmod (wrap64 x) (wrap64 y)) % 18446744073709551616 := by
        rw [Int.add_emod, Int.mul_emod, show wrap64 (Int.tdiv (wrap64 x) (wrap64 y)) % 18446744073709551616 = Int.tdiv (wrap64 x) (wrap64 y) % 18446744073709551616 by unfold wrap64; omega, show y % 18446744073709551616 = wrap64 y % 18446744073709551616 by unfold wrap64; omega, ← Int.mul_emod, ← Int.add_emod]
      rw [e2, Int.mul_comm, e1]
      unfold wrap64
      omega

/-- Comparisons, by the order. -/
theorem b_cmp (op : Int) (hop : 11 ≤ op ∧ op ≤ 16) (hx : is k x = true) (hy : is k y = true) : (bn op k x y).1 = Fl.saysF (less k x y) (x == y) op := by rw [bn_cmp op k x y hk hop hx hy]
theorem less_tri (hx : is k x = true) (hy : is k y = true) : less k x y = (!less k y x && !(y == x)) := by
  have rx := is_range hk hx
  have ry := is_range hk hy
  unfold less
  cases sg k with
  | true =>
    simp only [if_true]
    have : (wrap64 x < wrap64 y) ↔ (¬ wrap64 y < wrap64 x ∧ y ≠ x) := by unfold wrap64; omega
    rw [Bool.eq_iff_iff]
    simp [this]
  | false =>
    simp only [Bool.false_eq_true, if_false]
    have : (x < y) ↔ (¬ y < x ∧ y ≠ x) := by omega
    rw [Bool.eq_iff_iff]
    simp [this]
end

theorem tr_vals (b : Bool) : Fl.tr b = if b then 1 else 0 := rfl
theorem says_facts (a s b : Bool) (h : b = (!a && !s)) : Fl.saysF b s 13 = Fl.saysF a s 15 ∧ Fl.saysF b s 13 + Fl.saysF b s 16 = 1 ∧ Fl.saysF b s 11 + Fl.saysF b s 12 = 1 ∧ Fl.saysF b s 13 + Fl.saysF b s 11 = Fl.saysF b s 14 := by
  subst h
  cases a <;> cases s <;> decide

theorem WordLaws (l : List (S25)) (hl : wfT22 l) : ∃ k, gantrylaw1_WordLaws.f k l = some true := by
  obtain ⟨hlen, hall⟩ := hl
  unfold gantrylaw1_WordLaws.f
  suffices H : ∀ (d : Nat) (i : Int), 0 ≤ i → i + d = l.length → Ev (fun k => gantrylaw1_WordLaws.l0 k l i) true from (H l.length 0 (by omega) (by omega)).rounds
  intro d
  have hend : ∀ i, Ev (fun k => gantrylaw1_WordLaws.j1 k l i false) true := by
    intro i
    refine Ev.step (fun k => by simp only [gantrylaw1_WordLaws.j1]; rw [if_neg (by decide)]) ?_
    exact Ev.bind wakes_ev (Ev.now _)
  unfold maxLen at hlen
  induction d with
  | zero =>
    intro i h0 hi
    refine Ev.step (fun k => by simp only [gantrylaw1_WordLaws.l0]; rw [if_neg (by omega)]) ?_
    exact hend i
  | succ d ih =>
    intro i h0 hi
    have next : Ev (fun k => gantrylaw1_WordLaws.l0 k l (wrap64 (i + 1))) true := by rw [show wrap64 (i + 1) = i + 1 by unfold wrap64; omega]; exact ih (i + 1) (by omega) (by omega)
    refine Ev.step (fun k => by simp only [gantrylaw1_WordLaws.l0]; rw [if_pos (by omega)]) ?_
    by_cases h2 : i < 200
    · rw [decide_eq_true h2]
      refine Ev.step (fun k => by simp only [gantrylaw1_WordLaws.j1]; rw [if_pos trivial, if_pos h0, if_pos (by omega)]) ?_
      obtain ⟨w0, w1, w2, w3, w4⟩ := hall (rd_T25 l i) (rd_mem l i h0 (by omega))
      generalize rd_T25 l i = p at *
      have hk := kind_of p.f1 w1
      generalize wrap64 (2 + wrap64 (Int.tmod (IntKind.u64.wrap p.f1) 8)) = kk at *
      refine Ev.bind (canon_ev kk p.f3) ?_
      refine Ev.bind (canon_ev kk p.f4) ?_
      refine Ev.bind (canon_ev kk _) ?_
      have hx := is_cn_self hk p.f3
      have hy := is_cn_self hk p.f4
      have hw := is_cn_self hk (IntKind.u64.wrap (IntKind.u64.wrap (IntKind.u64.wrap p.f0 * p.f3) + p.f4))
      generalize cn kk p.f3 = x at *
      generalize cn kk p.f4 = y at *
      generalize cn kk (IntKind.u64.wrap (IntKind.u64.wrap (IntKind.u64.wrap p.f0 * p.f3) + p.f4)) = w at *
      have rx := is_range hk hx
      have ry := is_range hk hy
      have rw_ := is_range hk hw
      have bev : ∀ (op a b : Int), is kk a = true → is kk b = true → Ev (fun k => gantrylaw1_bin.f k op kk a b) (bn op kk a b).1 := fun op a b ha hb => bin_ev op kk a b (is_range hk ha).1 (is_range hk hb).1 (is_range hk hb).2
      refine Ev.bind (bev 1 x y hx hy) ?_
      refine Ev.bind (bev 1 y x hy hx) ?_
      refine Ev.congr (fun k => if_pos (by rw [b_add hk hx hy, b_add hk hy hx, Int.add_comm])) ?_
      refine Ev.bind (bev 3 x y hx hy) ?_
      refine Ev.bind (bev 3 y x hy hx) ?_
      refine Ev.congr (fun k => if_pos (by rw [b_mul hk hx hy, b_mul hk hy hx, Int.mul_comm])) ?_
      refine Ev.bind (bev 1 y w hy hw) ?_
      rw [b_add hk hy hw, b_mul hk hx hy, b_add hk hx hy]
      refine Ev.bind (bev 3 x _ hx (is_add hk)) ?_
      refine Ev.bind (bev 3 x w hx hw) ?_
      rw [b_mul hk hx hw]
      refine Ev.bind (bev 1 _ _ (is_add hk) (is_add hk)) ?_
      refine Ev.congr (fun k => if_pos (by rw [b_mul hk hx (is_add hk), b_add hk (is_add hk) (is_add hk), cn_mul' hk, cn_add hk, cn_add' hk, Int.mul_add])) ?_
      refine Ev.bind (bev 1 _ w (is_add hk) hw) ?_
      refine Ev.bind (bev 1 x _ hx (is_add hk)) ?_
      have e1 : ((bn 1 kk (cn kk (x + y)) w).1 != (bn 1 kk x (cn kk (y + w))).1) = false := by
        rw [b_add hk (is_add hk) hw, b_add hk hx (is_add hk), cn_add hk, cn_add' hk, Int.add_assoc]
        simp
      rw [e1]
      -- bits
      refine Ev.step (fun k => by simp only [gantrylaw1_WordLaws.j2]; rw [if_neg (by decide)]) ?_
      refine Ev.bind (un_ev 1 kk y) ?_
      refine Ev.bind (un_ev 3 kk x) ?_
      refine Ev.bind (bev 2 x y hx hy) ?_
      rw [u_neg hk hy, u_com hk hx]
      refine Ev.bind (bev 1 x _ hx (is_add hk)) ?_
      refine Ev.congr (fun k => if_pos (by rw [b_sub hk hx hy, b_add hk hx (is_add hk), cn_add' hk, Int.sub_eq_add_neg])) ?_
      have hc := com_val hk hx
      have hcb := com_bits hk hx
      have hcis : is kk (cn kk (Go.bits .xor .u64 18446744073709551615 x)) = true := is_add hk
      rw [hc.1] at hcis ⊢
      generalize hcc : cn kk 18446744073709551615 - x = c at *
      refine Ev.bind (bev 8 x c hx hcis) ?_
      refine Ev.bind (canon_ev kk _) ?_
      refine Ev.congr (fun k => if_pos (by rw [b_xor hk hx hcis]; exact hcb.1)) ?_
      refine Ev.bind (bev 6 x c hx hcis) ?_
      refine Ev.congr (fun k => if_pos (by rw [b_and hk hx hcis, hcb.2]; rfl)) ?_
      refine Ev.bind (bev 6 x y hx hy) ?_
      refine Ev.bind (bev 8 x y hx hy) ?_
      rw [b_and hk hx hy, b_xor hk hx hy]
      refine Ev.bind (bev 7 _ _ (b_and_is hk hx hy) (b_xor_is hk hx hy)) ?_
      refine Ev.bind (bev 7 x y hx hy) ?_
      have e2 : ((bn 7 kk ((x.toNat &&& y.toNat : Nat) : Int) ((x.toNat ^^^ y.toNat : Nat) : Int)).1 != (bn 7 kk x y).1) = false := by
        rw [b_or hk (b_and_is hk hx hy) (b_xor_is hk hx hy), b_or hk hx hy]
        simp only [Int.toNat_natCast, and_or_xor]
        simp
      rw [e2]
      -- the order
      refine Ev.step (fun k => by simp only [gantrylaw1_WordLaws.j3]; rw [if_neg (by decide)]) ?_
      have ht := less_tri hk hx hy
      have hsym : (y == x) = (x == y) := by rw [Bool.eq_iff_iff]; simp only [beq_iff_eq]; exact eq_comm
      rw [hsym] at ht
      obtain ⟨f1, f2, f3, f4⟩ := says_facts (less kk y x) (x == y) (less kk x y) ht
      refine Ev.bind (bev 13 x y hx hy) ?_
      refine Ev.bind (bev 15 y x hy hx) ?_
      rw [b_cmp hk 13 (by decide) hx hy, b_cmp hk 15 (by decide) hy hx, hsym]
      refine Ev.congr (fun k => if_pos f1) ?_
      refine Ev.bind (bev 16 x y hx hy) ?_
      rw [b_cmp hk 16 (by decide) hx hy]
      refine Ev.congr (fun k => if_pos (by rw [f2]; rfl)) ?_
      refine Ev.bind (bev 11 x y hx hy) ?_
      refine Ev.bind (bev 12 x y hx hy) ?_
      rw [b_cmp hk 11 (by decide) hx hy, b_cmp hk 12 (by decide) hx hy]
      refine Ev.congr (fun k => if_pos (by rw [f3]; rfl)) ?_
      refine Ev.bind (bev 14 x y hx hy) ?_
      rw [b_cmp hk 14 (by decide) hx hy, f4]
      have e3 : (IntKind.u64.wrap (Fl.saysF (less kk x y) (x == y) 14) != Fl.saysF (less kk x y) (x == y) 14) = false := by
        cases less kk x y <;> cases (x == y) <;> decide
      rw [e3]
      -- quotient and rest
      refine Ev.step (fun k => by simp only [gantrylaw1_WordLaws.j4]; rw [if_neg (by decide)]) ?_
      by_cases hz : y = 0
      · refine Ev.congr (fun k => if_pos hz) ?_
        exact next
      · refine Ev.congr (fun k => if_neg hz) ?_
        refine Ev.bind (bev 4 x y hx hy) ?_
        rw [b_div hk hx hy hz]
        refine Ev.bind (bev 3 _ y (is_add hk) hy) ?_
        refine Ev.bind (bev 5 x y hx hy) ?_
        rw [b_rem hk hx hy hz, b_mul hk (is_add hk) hy]
        refine Ev.bind (bev 1 _ _ (is_add hk) (is_add hk)) ?_
        refine Ev.congr (fun k => if_pos (by rw [b_add hk (is_add hk) (is_add hk)]; exact div_rem hk hx hy hz)) ?_
        exact next
    · rw [decide_eq_false h2]
      exact hend i

end Go.Proofs.Ytahepinbmcgbnaa.Pure
