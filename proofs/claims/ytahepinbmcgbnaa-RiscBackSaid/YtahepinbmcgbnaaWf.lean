/- The reference's Bin and Conv are package word's. No condition. -/
import Derived.Test.YtahepinbmcgbnaaPAx0
import Derived.Test.YtahepinbmcgbnaaPAx11
import Derived.Test.YtahepinbmcgbnaaPAx12
import Derived.Test.YtahepinbmcgbnaaPAx13
import Derived.Test.YtahepinbmcgbnaaPAx14
import Derived.Test.YtahepinbmcgbnaaWe
import Derived.Test.YtahepinbmcgbnaaPureWordFloats
set_option linter.unusedVariables false
set_option linter.unusedSimpArgs false
namespace Go.Proofs.Ytahepinbmcgbnaa.Wd
open Go.RowKit Go.Proofs.Ytahepinbmcgbnaa.PA Go.Proofs.YtahepinbmcgbnaaW.PrintWords Go.Proofs.YtahepinbmcgbnaaW.PrintMore Go.Proofs.Ytahepinbmcgbnaa.Fl Go.Proofs.Ytahepinbmcgbnaa.Pure

theorem rTruth_eq (b : Bool) : gantryref1_truth.f b = some (tr b) := by cases b <;> rfl
theorem rBelow_eq (a x y : Int) : gantryref1_below.f a x y = some (less a x y) := by
  unfold gantryref1_below.f less
  rw [rSigned_eq]
  simp only [Option.bind_some]
  cases sg a <;> rfl
theorem rShift_eq (op : Int) : gantryref1_Shift.f op = some (decide (op = 9 ∨ op = 10)) := by
  unfold gantryref1_Shift.f
  by_cases h : op = 9
  · rw [if_pos h]; simp [h]
  · rw [if_neg h]; simp only [h, false_or, Option.some.injEq]; rw [Bool.eq_iff_iff]; simp
theorem ref_prog (op : Int) (hop : (1 ≤ op ∧ op ≤ 4) ∨ (11 ≤ op ∧ op ≤ 16)) (x y : Nat) : refF op x y = progF op x y := by
  by_cases h : op ≤ 4
  · have : op = 1 ∨ op = 2 ∨ op = 3 ∨ op = 4 := by omega
    rcases this with rfl | rfl | rfl | rfl <;> rfl
  · have hop' : 11 ≤ op ∧ op ≤ 16 := by omega
    have hn : ∀ {a b : Ieee.Datum}, (a.isNaN || b.isNaN) = true → a.order b = none := by
      intro a b hab
      cases a <;> cases b <;> first | rfl | cases hab
    have : op = 11 ∨ op = 12 ∨ op = 13 ∨ op = 14 ∨ op = 15 ∨ op = 16 := by omega
    rcases progF_cmp op hop' x y with ⟨h1, h2⟩ | ⟨h1, h2, c, h3, h4, h5⟩
    · have ho : ord x y = none := hn h1
      rw [h2]
      unfold refF
      rw [ho]
      rcases this with rfl | rfl | rfl | rfl | rfl | rfl <;> rfl
    · rw [h5]
      unfold refF
      rw [h3]
      rcases this with rfl | rfl | rfl | rfl | rfl | rfl <;> cases c <;> rfl
theorem less_tri' {k : Int} (hk : 2 ≤ k ∧ k ≤ 9) {x y : Int} (hx : is k x = true) (hy : is k y = true) : less k x y = (!less k y x && !(y == x)) := by
  have rx := is_range hk hx
  have ry := is_range hk hy
  unfold less
  cases sg k with
  | true =>
    simp only [if_true]
    have : (wrap64 x < wrap64 y) ↔ (¬ wrap64 y < wrap64 x ∧ y ≠ x) := by unfold wrap64; omega
    rw [Bool.eq_iff_iff]
    simp [this]
  | false =>
    simp only [Bool.false_eq_true, if_false]
    have : (x < y) ↔ (¬ y < x ∧ y ≠ x) := by omega
    rw [Bool.eq_iff_iff]
    simp [this]
/-- A smaller word of an unsigned kind is one. -/
theorem uns_le {k : Int} (hk : 6 ≤ k ∧ k ≤ 9) {x z : Int} (hx : is k x = true) (h0 : 0 ≤ z) (h : z ≤ x) : cn k z = z := by
  have hc := is_cn hx
  have : k = 6 ∨ k = 7 ∨ k = 8 ∨ k = 9 := by omega
  rcases this with rfl | rfl | rfl | rfl <;> (simp [cn] at hc ⊢; omega)
theorem div_in' (v lo hi : Int) (n : Nat) (h : lo ≤ v ∧ v ≤ hi) (hlo : lo ≤ 0) (hhi : 0 ≤ hi) : lo ≤ v / 2 ^ n ∧ v / 2 ^ n ≤ hi := by
  have hp : (0 : Int) < 2 ^ n := Int.pow_pos (by decide)
  constructor
  · refine Int.le_ediv_of_mul_le hp ?_
    have h1 := Int.mul_le_mul_of_nonneg_left (show (1 : Int) ≤ 2 ^ n by omega) (show 0 ≤ -lo by omega)
    rw [Int.neg_mul, Int.neg_mul] at h1
    omega
  · refine Int.ediv_le_of_le_mul hp ?_
    have : hi * 1 ≤ hi * 2 ^ n := Int.mul_le_mul_of_nonneg_left (by omega) hhi
    omega
/-- A signed word shifted to the right is one. -/
theorem sgn_shr {k : Int} (hk : 2 ≤ k ∧ k ≤ 5) {x : Int} (hx : is k x = true) (n : Nat) : cn k (wrap64 x / 2 ^ n) = IntKind.u64.wrap (wrap64 x / 2 ^ n) := by
  have hc := is_cn hx
  rw [IntKind.wrap_u64]
  generalize hu : wrap64 x = u
  have key : ∀ lo hi : Int, lo ≤ u → u ≤ hi → lo ≤ 0 → 0 ≤ hi → lo ≤ u / 2 ^ n ∧ u / 2 ^ n ≤ hi := fun lo hi h1 h2 h3 h4 => div_in' u lo hi n ⟨h1, h2⟩ h3 h4
  rw [← hc] at hu
  have : k = 2 ∨ k = 3 ∨ k = 4 ∨ k = 5 := by omega
  rcases this with rfl | rfl | rfl | rfl <;> simp [cn, wrap64] at hu ⊢
  · have := key (-128) 127 (by omega) (by omega) (by omega) (by omega); omega
  · have := key (-32768) 32767 (by omega) (by omega) (by omega) (by omega); omega
  · have := key (-2147483648) 2147483647 (by omega) (by omega) (by omega) (by omega); omega
theorem sg_whole {k : Int} (hk : 2 ≤ k ∧ k ≤ 9) : (sg k = true ∧ k ≤ 5) ∨ (sg k = false ∧ 6 ≤ k) := by
  unfold sg
  by_cases h : k ≤ 5
  · left; simp [h, hk.1]
  · right; simp [h]; omega

theorem shifted_eq (k : Nat) (op a x y : Int) (ha : 2 ≤ a ∧ a ≤ 9) (hop : op = 9 ∨ op = 10) (hx : is a x = true) (hy : 0 ≤ y ∧ y ≤ 18446744073709551615) : gantryref1_shifted.f (k + 3) op a x y = some (cn a (rk op (sg a) x y)) := by
  have hr := is_range ha hx
  unfold gantryref1_shifted.f
  rcases hop with rfl | rfl
  · rw [if_pos rfl]
    show _ = some (cn a (shl .u64 x y))
    by_cases h : y > 63
    · rw [if_pos h]
      have : shl .u64 x y = 0 := by
        unfold shl
        rw [show IntKind.u64.bits = 64 from rfl, Nat.min_eq_right (by omega), IntKind.wrap_u64, show (2 : Int) ^ 64 = 18446744073709551616 by decide]
        omega
      rw [this, cn_zero]
    · rw [if_neg h, if_pos hy.1, rCanon_eq]
      rfl
  · rw [if_neg (by decide), rSigned_eq]
    simp only [Option.bind_some]
    rcases sg_whole ha with ⟨hs, h5⟩ | ⟨hs, h6⟩
    · rw [hs]
      simp only [if_true]
      show _ = some (cn a (shr .i64 (wrap64 x) y))
      by_cases h : y > 63
      · rw [if_pos h]
        have e : shr .i64 (wrap64 x) y = wrap64 x / 2 ^ 64 := by
          unfold shr
          rw [show IntKind.i64.bits = 64 from rfl, Nat.min_eq_right (by omega)]
        rw [e, sgn_shr ⟨ha.1, h5⟩ hx, show (2 : Int) ^ 64 = 18446744073709551616 by decide]
        congr 2
        unfold wrap64
        omega
      · rw [if_neg h, if_pos hy.1]
        have e : shr .i64 (wrap64 x) y = wrap64 x / 2 ^ (min y.toNat 64) := rfl
        rw [e, sgn_shr ⟨ha.1, h5⟩ hx]
    · rw [hs]
      simp only [Bool.false_eq_true, if_false]
      show _ = some (cn a (shr .u64 x y))
      have e : shr .u64 x y = x / 2 ^ (min y.toNat 64) := rfl
      have hd := div_in' x 0 x (min y.toNat 64) ⟨hr.1, Int.le_refl _⟩ (Int.le_refl _) hr.1
      rw [e, uns_le ⟨h6, ha.2⟩ hx hd.1 hd.2]
      by_cases h : y > 63
      · rw [if_pos h]
        rw [Nat.min_eq_right (by omega), show (2 : Int) ^ 64 = 18446744073709551616 by decide]
        congr 1
        omega
      · rw [if_neg h, if_pos hy.1]

theorem divided_eq (k : Nat) (a x y : Int) (ha : 2 ≤ a ∧ a ≤ 9) (hx : is a x = true) (hy : is a y = true) (h0 : y ≠ 0) : gantryref1_divided.f (k + 3) a x y = some (cn a (rk 4 (sg a) x y), cn a (rk 5 (sg a) x y)) := by
  have rx := is_range ha hx
  have ry := is_range ha hy
  unfold gantryref1_divided.f
  rw [rSigned_eq]
  simp only [Option.bind_some]
  have r4 : ∀ s, rk 4 s x y = if s then (if y = 18446744073709551615 then -x else wrap64 (Int.tdiv (wrap64 x) (wrap64 y))) else Int.tdiv x y := fun s => rfl
  have r5 : ∀ s, rk 5 s x y = if s then (if y = 18446744073709551615 then 0 else Int.tmod (wrap64 x) (wrap64 y)) else Int.tmod x y := fun s => rfl
  rw [r4, r5]
  rcases sg_whole ha with ⟨hs, h5⟩ | ⟨hs, h6⟩
  · rw [hs]
    simp only [if_true]
    by_cases hm : y = 18446744073709551615
    · rw [if_pos (by subst hm; decide +kernel), if_pos hm, if_pos hm, rCanon_eq]
      simp only [Option.bind_some, cn_wrap, cn_zero]
    · rw [if_neg (by unfold wrap64; omega), if_neg (by unfold wrap64; omega), if_neg hm, if_neg hm, rCanon_eq, rCanon_eq]
      simp only [Option.bind_some, cn_wrap]
  · rw [hs]
    simp only [Bool.false_eq_true, if_false]
    rw [if_neg h0, Int.tdiv_eq_ediv_of_nonneg rx.1, Int.tmod_eq_emod_of_nonneg rx.1]
    have q0 : 0 ≤ x / y := Int.ediv_nonneg rx.1 ry.1
    have q1 : x / y ≤ x := Int.ediv_le_self _ rx.1
    have m0 : 0 ≤ x % y := Int.emod_nonneg _ h0
    have m1 : x % y ≤ x := by
      have := Int.mul_ediv_add_emod x y
      have h2 : 0 ≤ y * (x / y) := Int.mul_nonneg ry.1 q0
      omega
    rw [uns_le ⟨h6, ha.2⟩ hx q0 q1, uns_le ⟨h6, ha.2⟩ hx m0 m1, IntKind.wrap_u64]
    congr 2
    omega

theorem rBin_eq (k : Nat) (op a x y : Int) (hx : 0 ≤ x ∧ x ≤ 18446744073709551615) (hy : 0 ≤ y ∧ y ≤ 18446744073709551615) : gantryref1_Bin.f (k + 9) op a x y = some (bn op a x y) := by
  unfold gantryref1_Bin.f
  rw [show gantryref1_HasBin.f (k + 9) op a = some (has op a) from rHasBin_eq (k + 8) op a]
  simp only [Option.bind_some]
  unfold bn
  cases h1 : has op a with
  | false => simp
  | true =>
    simp only [if_true, Bool.true_eq_false, if_false]
    rw [show gantryref1_Is.f (k + 9) a x = some (is a x) from rIs_eq (k + 6) a x]
    simp only [Option.bind_some]
    cases h2 : is a x with
    | false => simp [gantryref1_Bin.j0]
    | true =>
      simp only [if_true, Bool.true_eq_false, false_or]
      rw [rShift_eq]
      simp only [Option.bind_some, decide_eq_true_eq]
      have hop : 1 ≤ op ∧ op ≤ 16 := by
        unfold has at h1
        simp only [Bool.and_eq_true, decide_eq_true_eq] at h1
        exact h1.1
      have j0 : is (second op a) y = true → gantryref1_Bin.j0 (k + 9) op a x y false = some (if a = 10 then (progF op x.toNat y.toNat, 0) else if (op = 4 ∨ op = 5) ∧ y = 0 then (0, 12) else if 11 ≤ op then (saysF (less a x y) (x == y) op, 0) else (cn a (rk op (sg a) x y), 0)) := by
        intro h3
        simp only [gantryref1_Bin.j0, Bool.false_eq_true, if_false]
        by_cases h10 : a = 10
        · subst h10
          rw [if_pos rfl, if_pos rfl]
          have : (1 ≤ op ∧ op ≤ 4) ∨ (11 ≤ op ∧ op ≤ 16) := by
            have : op = 1 ∨ op = 2 ∨ op = 3 ∨ op = 4 ∨ op = 5 ∨ op = 6 ∨ op = 7 ∨ op = 8 ∨ op = 9 ∨ op = 10 ∨ (11 ≤ op ∧ op ≤ 16) := by omega
            rcases this with h | h | h | h | h | h | h | h | h | h | h <;> first | (left; omega) | (right; exact h) | (exfalso; subst h; revert h1; decide)
          show (some (refF op x.toNat y.toNat) : Option Int).bind _ = _
          rw [ref_prog op this]
          rfl
        rw [if_neg h10, if_neg h10]
        by_cases hw : 2 ≤ a ∧ a ≤ 9
        · have hops : op = 1 ∨ op = 2 ∨ op = 3 ∨ op = 4 ∨ op = 5 ∨ op = 6 ∨ op = 7 ∨ op = 8 ∨ op = 9 ∨ op = 10 ∨ op = 11 ∨ op = 12 ∨ op = 13 ∨ op = 14 ∨ op = 15 ∨ op = 16 := by omega
          have hy' : ¬ (op = 9 ∨ op = 10) → is a y = true := fun hn => by rwa [second, if_neg hn] at h3
          have rCan : ∀ n z, gantryref1_Canon.f (n + 3) a z = some (cn a z) := fun n z => rCanon_eq n a z
          rcases hops with rfl | rfl | rfl | rfl | rfl | rfl | rfl | rfl | rfl | rfl | rfl | rfl | rfl | rfl | rfl | rfl <;>
            simp only [Int.reduceEq, if_true, if_false, gantryref1_Bin.j1, gantryref1_Bin.j2, Int.reduceBEq, Bool.false_eq_true, rTruth_eq, rBelow_eq, Option.bind_some, true_or, or_true, true_and, or_self, false_and, Int.reduceLE]
          · rw [show k + 8 = (k + 5) + 3 from rfl, rCan, cn_wrap]; rfl
          · rw [show k + 8 = (k + 5) + 3 from rfl, rCan, cn_wrap]; rfl
          · rw [show k + 8 = (k + 5) + 3 from rfl, rCan, cn_wrap]; rfl
          · by_cases hz : y = 0
            · rw [if_pos hz, if_pos hz]
            · rw [if_neg hz, if_neg hz, show k + 7 = (k + 4) + 3 from rfl, divided_eq _ a x y hw h2 (hy' (by decide)) hz]; rfl
          · by_cases hz : y = 0
            · rw [if_pos hz, if_pos hz]
            · rw [if_neg hz, if_neg hz, show k + 7 = (k + 4) + 3 from rfl, divided_eq _ a x y hw h2 (hy' (by decide)) hz]; rfl
          · rw [show rk 6 (sg a) x y = Go.bits .and .u64 x y from rfl, cn_and hw h2 (hy' (by decide)), u64_and x y hx.1 (by omega) hy.1 (by omega)]
          · rw [show rk 7 (sg a) x y = Go.bits .or .u64 x y from rfl, cn_or hw h2 (hy' (by decide)), u64_or x y hx.1 (by omega) hy.1 (by omega)]
          · rw [show rk 8 (sg a) x y = Go.bits .xor .u64 x y from rfl, cn_xor hw h2 (hy' (by decide)), u64_xor x y hx.1 (by omega) hy.1 (by omega)]
          · rw [show k + 6 = (k + 3) + 3 from rfl, shifted_eq _ 9 a x y hw (by decide) h2 hy]; rfl
          · rw [show k + 6 = (k + 3) + 3 from rfl, shifted_eq _ 10 a x y hw (by decide) h2 hy]; rfl
          · rfl
          · rfl
          · rfl
          · have ht := less_tri' hw h2 (hy' (by decide))
            rw [ht]
            have hs : (y == x) = (x == y) := by rw [Bool.eq_iff_iff]; simp only [beq_iff_eq]; exact eq_comm
            rw [hs]
            cases hb : (x == y) with
            | false => cases less a y x <;> rfl
            | true =>
              have : less a y x = false := by
                obtain rfl := beq_iff_eq.1 hb
                unfold less
                split <;> simp
              rw [this]; rfl
          · have ht := less_tri' hw (hy' (by decide)) h2
            rw [ht]
            rfl
          · rfl
        · have hops : op = 6 ∨ op = 7 ∨ op = 8 ∨ op = 11 ∨ op = 12 := by
            have hwh : wh a = false := by unfold wh; simp; omega
            unfold has at h1
            rw [hwh] at h1
            have hops : op = 1 ∨ op = 2 ∨ op = 3 ∨ op = 4 ∨ op = 5 ∨ op = 6 ∨ op = 7 ∨ op = 8 ∨ op = 9 ∨ op = 10 ∨ op = 11 ∨ op = 12 ∨ op = 13 ∨ op = 14 ∨ op = 15 ∨ op = 16 := by omega
            rcases hops with rfl | rfl | rfl | rfl | rfl | rfl | rfl | rfl | rfl | rfl | rfl | rfl | rfl | rfl | rfl | rfl <;> first | decide | (simp [h10] at h1)
          have hy2 : is a y = true := by
            have : second op a = a := by unfold second; rw [if_neg (by omega)]
            rwa [this] at h3
          by_cases h11 : op = 11 ∨ op = 12
          · rcases h11 with rfl | rfl <;> simp only [Int.reduceEq, if_true, if_false, gantryref1_Bin.j1, gantryref1_Bin.j2, Int.reduceBEq, Bool.false_eq_true, rTruth_eq, rBelow_eq, Option.bind_some, or_self, false_and, Int.reduceLE] <;> rfl
          · have ha1 : a = 1 := by
              have hwh : wh a = false := by unfold wh; simp; omega
              unfold has at h1
              rw [hwh] at h1
              rcases hops with rfl | rfl | rfl | rfl | rfl
              · simpa using h1
              · simpa using h1
              · simpa using h1
              · simp at h11
              · simp at h11
            subst ha1
            have hcx := is_cn h2
            have hcy := is_cn hy2
            have vx : x = 0 ∨ x = 1 := by simp [cn] at hcx; omega
            have vy : y = 0 ∨ y = 1 := by simp [cn] at hcy; omega
            rcases hops with rfl | rfl | rfl | rfl | rfl
            · simp only [Int.reduceEq, if_true, if_false, gantryref1_Bin.j1, Int.reduceBEq, Bool.false_eq_true, or_self, false_and, Int.reduceLE]
              rcases vx with rfl | rfl <;> rcases vy with rfl | rfl <;> decide +kernel
            · simp only [Int.reduceEq, if_true, if_false, gantryref1_Bin.j1, Int.reduceBEq, Bool.false_eq_true, or_self, false_and, Int.reduceLE]
              rcases vx with rfl | rfl <;> rcases vy with rfl | rfl <;> decide +kernel
            · simp only [Int.reduceEq, if_true, if_false, gantryref1_Bin.j1, Int.reduceBEq, Bool.false_eq_true, or_self, false_and, Int.reduceLE]
              rcases vx with rfl | rfl <;> rcases vy with rfl | rfl <;> decide +kernel
            · simp at h11
            · simp at h11
      by_cases hsh : op = 9 ∨ op = 10
      · rw [if_pos hsh]
        have h3 : is (second op a) y = true := by rw [second, if_pos hsh]; exact is_u64 hy
        rw [j0 h3, h3]
        simp
      · rw [if_neg hsh]
        rw [show gantryref1_Is.f (k + 9) a y = some (is a y) from rIs_eq (k + 6) a y]
        simp only [Option.bind_some]
        have hse : second op a = a := by rw [second, if_neg hsh]
        rw [hse] at j0 ⊢
        cases h3 : is a y with
        | false => simp [gantryref1_Bin.j0]
        | true =>
          rw [Bool.not_true, j0 h3]
          simp
theorem rHasConv_eq (a b : Int) : gantryref1_HasConv.f a b = some (nu a && nu b) := by
  unfold gantryref1_HasConv.f nu
  rw [rInt_eq, rInt_eq]
  simp only [Option.bind_some]
  cases wh a with
  | true => cases wh b <;> simp
  | false =>
    by_cases h : a = 10
    · rw [if_neg (by decide), if_pos h]
      have : (a == 10) = true := by simp [h]
      rw [this]
      cases wh b <;> simp
    · rw [if_neg (by decide), if_neg h]
      have : (a == 10) = false := by simp [h]
      rw [this]
      simp
/-- A whole number's float is none of the NaNs. -/
theorem clean_int (n : Int) : clean (floatOfInt .f64 n) = floatOfInt .f64 n := by
  refine clean_no ?_
  show (ord _ _ != some .eq) = false
  rw [nan_ne]
  exact read_nearest _ _ _
/-- What lies beyond the numbers of 64 bits. -/
theorem fits_not (a : Nat) : fits a = !((FloatKind.f64.format.order a a != some .eq) || (FloatKind.f64.format.order a 14114281232179134464 == some .lt) || (FloatKind.f64.format.order a 4890909195324358656 == some .gt || FloatKind.f64.format.order a 4890909195324358656 == some .eq)) := by
  unfold fits
  have h0 := nan_ne a
  unfold ord at h0
  rw [h0]
  cases hn : (Ieee.double.read a).isNaN with
  | true =>
    have : FloatKind.f64.format.order a 14114281232179134464 = none := by
      show (Ieee.double.read a).order _ = none
      cases hd : Ieee.double.read a with
      | nan => rfl
      | infinity => rw [hd] at hn; cases hn
      | number => rw [hd] at hn; cases hn
    rw [this]
    rfl
  | false =>
    obtain ⟨c1, h1⟩ := order_none (Ieee.double.read a) (Ieee.double.read 14114281232179134464) hn (by decide +kernel)
    obtain ⟨c2, h2⟩ := order_none (Ieee.double.read a) (Ieee.double.read 4890909195324358656) hn (by decide +kernel)
    rw [show FloatKind.f64.format.order a 14114281232179134464 = some c1 from h1, show FloatKind.f64.format.order a 4890909195324358656 = some c2 from h2]
    cases c1 <;> cases c2 <;> rfl
theorem rConv_eq (k : Nat) (a b x : Int) : gantryref1_Conv.f (k + 9) a b x = some (cv a b x) := by
  unfold gantryref1_Conv.f cv
  rw [rHasConv_eq]
  simp only [Option.bind_some]
  cases h1 : nu a with
  | false => simp
  | true =>
    cases h2 : nu b with
    | false => simp
    | true =>
      simp only [Bool.and_self, if_true, Bool.true_eq_false, or_self, if_false]
      rw [show gantryref1_Is.f (k + 9) a x = some (is a x) from rIs_eq (k + 6) a x]
      simp only [Option.bind_some]
      cases h3 : is a x with
      | false => simp
      | true =>
        simp only [if_true, Bool.true_eq_false, if_false]
        have rCan : ∀ n z, gantryref1_Canon.f (n + 3) b z = some (cn b z) := fun n z => rCanon_eq n b z
        by_cases h10 : a = 10
        · subst h10
          rw [if_pos rfl]
          by_cases hb : b = 10
          · subst hb
            simp [gantryref1_Conv.j0]
          · have hbb : (b == 10) = false := by simp [hb]
            rw [hbb]
            simp only [gantryref1_Conv.j0, Bool.false_eq_true, if_false, if_true, ne_eq, not_true_eq_false, false_and]
            simp only [show ((10 : Int) = b) = False from eq_false (fun e => hb e.symm), if_false]
            have hf := fits_not x.toNat
            have j1 : ∀ q : Bool, fits x.toNat = !q → gantryref1_Conv.j1 (k + 8) b x.toNat q = some (cn b (cutF x.toNat), 0) := by
              intro q hq
              simp only [gantryref1_Conv.j1]
              unfold cutF
              rw [hq]
              cases q with
              | true =>
                simp only [if_true, Bool.not_true, Bool.false_eq_true, if_false]
                rw [show k + 7 = (k + 4) + 3 from rfl, rCan]
                rfl
              | false =>
                obtain ⟨n, hn⟩ := fits_val (by rw [hq]; rfl)
                rw [hn]
                simp only [Bool.not_false, if_true, Bool.false_eq_true, if_false, Option.bind_some, Option.getD_some]
                rw [show k + 7 = (k + 4) + 3 from rfl, rCan]
                rfl
            cases e1 : (FloatKind.f64.format.order x.toNat x.toNat != some .eq) with
            | true =>
              rw [e1] at hf
              rw [if_pos rfl]
              exact j1 true (by rw [hf]; rfl)
            | false =>
              rw [e1] at hf
              rw [if_neg (by decide)]
              cases e2 : (FloatKind.f64.format.order x.toNat 14114281232179134464 == some .lt) with
              | true =>
                rw [e2] at hf
                rw [if_pos rfl]
                exact j1 true (by rw [hf]; rfl)
              | false =>
                rw [e2] at hf
                rw [if_neg (by decide)]
                exact j1 _ (by rw [hf, Bool.or_self, Bool.false_or])
        · rw [if_neg h10]
          simp only [gantryref1_Conv.j0, Bool.false_eq_true, if_false, rSigned_eq, Option.bind_some]
          rw [if_neg h10]
          have hwa : wh a = true := by
            unfold nu at h1
            have : (a == 10) = false := by simp [h10]
            rw [this] at h1
            simpa using h1
          by_cases hb : b = 10
          · subst hb
            rw [if_pos rfl, if_neg (by simp), if_neg h10, if_neg h10]
            simp only [gantryref1_Conv.j2, gantryref1_bits.f, clean_int, Option.bind_some]
            cases sg a <;> rfl
          · rw [if_neg hb, if_pos ⟨h10, hb⟩]
            simp only [gantryref1_Conv.j2, Bool.false_eq_true, if_false]
            rw [if_neg hb, show k + 7 = (k + 4) + 3 from rfl, rCan]
            rfl
end Go.Proofs.Ytahepinbmcgbnaa.Wd
