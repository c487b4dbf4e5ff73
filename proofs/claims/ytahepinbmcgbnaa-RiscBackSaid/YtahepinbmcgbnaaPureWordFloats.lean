/- The plain law behind 'WordFloats'. No condition. -/
import Derived.Test.YtahepinbmcgbnaaPAx0
import Derived.Test.YtahepinbmcgbnaaPAx3
import Derived.Test.YtahepinbmcgbnaaPAx8
import Derived.Test.YtahepinbmcgbnaaOp
import Derived.Test.YtahepinbmcgbnaaWb
set_option linter.unusedVariables false
set_option linter.unusedSimpArgs false
namespace Go.Proofs.Ytahepinbmcgbnaa.Pure
open Go.RowKit Go.Proofs.Ytahepinbmcgbnaa.PA Go.Proofs.YtahepinbmcgbnaaW.PrintWords Go.Proofs.YtahepinbmcgbnaaW.PrintMore Go.Proofs.Ytahepinbmcgbnaa.Wd Go.Proofs.Ytahepinbmcgbnaa.Fl

theorem sum_comm (a b : Ieee.Datum) : a.sum b = b.sum a := by
  cases a with
  | nan s f => cases b <;> rfl
  | infinity s =>
    cases b with
    | nan => rfl
    | infinity t =>
      simp only [Ieee.Datum.sum]
      by_cases h : s = t
      · subst h; rfl
      · rw [if_neg h, if_neg (fun e => h e.symm)]
    | number => rfl
  | number s m i =>
    cases b with
    | nan => rfl
    | infinity t => rfl
    | number t n j =>
      simp only [Ieee.Datum.sum]
      rw [Int.min_comm i j, Int.add_comm (Ieee.signed s m _), Bool.and_comm s t]
theorem product_comm (a b : Ieee.Datum) : a.product b = b.product a := by
  cases a with
  | nan s f => cases b <;> rfl
  | infinity s =>
    cases b with
    | nan => rfl
    | infinity t => simp only [Ieee.Datum.product]; rw [Bool.xor_comm]
    | number => rfl
  | number s m i =>
    cases b with
    | nan => rfl
    | infinity t => rfl
    | number t n j =>
      simp only [Ieee.Datum.product]
      rw [Bool.xor_comm, Nat.mul_comm, Int.add_comm]
theorem ar_add_comm (x y : Nat) : ar .add x y = ar .add y x := by
  unfold ar floatBits Ieee.Format.add
  simp only
  rw [sum_comm]
theorem ar_mul_comm (x y : Nat) : ar .mul x y = ar .mul y x := by
  unfold ar floatBits Ieee.Format.mul
  simp only
  rw [product_comm]
theorem xor_top {y : Nat} (h : y < 2 ^ 63) : y ^^^ 2 ^ 63 = 2 ^ 63 + y := by
  apply Nat.eq_of_testBit_eq
  intro i
  rw [Nat.testBit_xor, Nat.testBit_two_pow]
  rcases Nat.lt_trichotomy i 63 with h1 | h1 | h1
  · rw [Nat.testBit_two_pow_add_gt h1]
    have : decide (63 = i) = false := by simp; omega
    simp [this]
  · subst h1
    rw [Nat.testBit_two_pow_add_eq]
    simp
  · rw [Nat.testBit_lt_two_pow (Nat.lt_of_lt_of_le h (Nat.pow_le_pow_right (by omega) (by omega))), Nat.testBit_lt_two_pow (show 2 ^ 63 + y < 2 ^ i from Nat.lt_of_lt_of_le (by omega : 2 ^ 63 + y < 2 ^ 64) (Nat.pow_le_pow_right (by omega) (by omega)))]
    have : decide (63 = i) = false := by simp; omega
    simp [this]
theorem xor_top' {y : Nat} (h : y < 2 ^ 64) : y ^^^ 2 ^ 63 = if y < 2 ^ 63 then y + 2 ^ 63 else y - 2 ^ 63 := by
  split
  · rename_i h1; rw [xor_top h1, Nat.add_comm]
  · rename_i h1
    obtain ⟨z, rfl⟩ : ∃ z, y = 2 ^ 63 + z := ⟨y - 2 ^ 63, by omega⟩
    rw [← xor_top (by omega), Nat.xor_assoc, Nat.xor_self, Nat.xor_zero]
    rw [xor_top (by omega)]
    omega
theorem read_neg {y : Nat} (h : y < 2 ^ 64) : Ieee.double.read (y ^^^ 2 ^ 63) = (Ieee.double.read y).opposite := by
  have e1 : Ieee.double.signWeight = 9223372036854775808 := by decide +kernel
  have e2 : Ieee.double.infRung = 9218868437227405312 := by decide +kernel
  have e3 : Ieee.double.binade = 4503599627370496 := by decide +kernel
  have hm : (y ^^^ 2 ^ 63) % 9223372036854775808 = y % 9223372036854775808 := by rw [xor_top' h]; split <;> omega
  have hs : ((y ^^^ 2 ^ 63) / 9223372036854775808 % 2 == 1) = !(y / 9223372036854775808 % 2 == 1) := by
    rw [xor_top' h]
    split
    · rename_i h1
      rw [show (y + 2 ^ 63) / 9223372036854775808 % 2 = 1 by omega, show y / 9223372036854775808 % 2 = 0 by omega]; rfl
    · rename_i h1
      rw [show (y - 2 ^ 63) / 9223372036854775808 % 2 = 0 by omega, show y / 9223372036854775808 % 2 = 1 by omega]; rfl
  unfold Ieee.Format.read
  simp only [e1, hm, hs]
  split
  · rfl
  · split
    · rfl
    · split <;> rfl
theorem ar_sub {x y : Nat} (h : y < 2 ^ 64) : ar .sub x y = ar .add x (y ^^^ 2 ^ 63) := by
  unfold ar floatBits Ieee.Format.add Ieee.Format.sub
  simp only
  have : FloatKind.f64.format = Ieee.double := rfl
  rw [this, read_neg h]
theorem ar_range (op : BinOp) (x y : Nat) : 0 ≤ ar op x y ∧ ar op x y ≤ 18446744073709551615 := by
  unfold ar
  split
  · rename_i r h
    have := floatBits_wf h
    simp only [Lit.wf, decide_eq_true_eq] at this
    omega
  · unfold nan; omega

theorem order_swap (a b : Ieee.Datum) : a.order b = (b.order a).map Ordering.swap := by
  cases a with
  | nan s f => cases b <;> rfl
  | infinity s =>
    cases b with
    | nan => rfl
    | infinity t => cases s <;> cases t <;> rfl
    | number => cases s <;> rfl
  | number s m i =>
    cases b with
    | nan => rfl
    | infinity t => cases t <;> rfl
    | number t n j =>
      simp only [Ieee.Datum.order, Option.map_some]
      rw [Int.min_comm i j, Int.compare_swap]
theorem order_none (a b : Ieee.Datum) (ha : a.isNaN = false) (hb : b.isNaN = false) : ∃ c, a.order b = some c := by
  cases a with
  | nan s f => cases ha
  | infinity s => cases b with | nan => cases hb | infinity t => exact ⟨_, rfl⟩ | number => exact ⟨_, rfl⟩
  | number s m i => cases b with | nan => cases hb | infinity t => exact ⟨_, rfl⟩ | number => exact ⟨_, rfl⟩
theorem nan_ne (x : Nat) : (ord x x != some .eq) = (Ieee.double.read x).isNaN := by
  unfold ord
  rw [order_self]
  cases (Ieee.double.read x).isNaN <;> rfl
/-- Comparisons: by the order, if there is one. -/
theorem progF_cmp (op : Int) (hop : 11 ≤ op ∧ op ≤ 16) (x y : Nat) : (((Ieee.double.read x).isNaN || (Ieee.double.read y).isNaN) = true ∧ progF op x y = tr (op == 12)) ∨
    ((Ieee.double.read x).isNaN = false ∧ (Ieee.double.read y).isNaN = false ∧ ∃ c, ord x y = some c ∧ ord y x = some c.swap ∧ progF op x y = saysF (c == .lt) (c == .eq) op) := by
  unfold progF
  rw [if_pos hop.1, nan_ne, nan_ne]
  cases hx : (Ieee.double.read x).isNaN with
  | true => left; simp
  | false =>
    cases hy : (Ieee.double.read y).isNaN with
    | true => left; simp
    | false =>
      right
      obtain ⟨c, hc⟩ := order_none _ _ hx hy
      have h1 : ord x y = some c := hc
      have h2 : ord y x = some c.swap := by
        show (Ieee.double.read y).order (Ieee.double.read x) = _
        rw [order_swap, hc]; rfl
      refine ⟨rfl, rfl, c, h1, h2, ?_⟩
      simp only [Bool.or_self, Bool.false_eq_true, if_false]
      rw [h1]
      cases c <;> rfl
theorem lt_gt (x y : Nat) : progF 13 x y = progF 15 y x := by
  rcases progF_cmp 13 (by decide) x y with ⟨h1, h2⟩ | ⟨h1, h2, c, h3, h4, h5⟩
  · rcases progF_cmp 15 (by decide) y x with ⟨h3, h4⟩ | ⟨h3, h4, _⟩
    · rw [h2, h4]; rfl
    · rw [h3, h4] at h1; cases h1
  · rcases progF_cmp 15 (by decide) y x with ⟨h6, h7⟩ | ⟨h6, h7, c', h8, h9, h10⟩
    · rw [h1, h2] at h6; cases h6
    · rw [h4] at h8
      obtain rfl := Option.some.inj h8
      rw [h5, h10]
      cases c <;> decide
theorem one_of (x y : Nat) : ¬ IntKind.u64.wrap (IntKind.u64.wrap (progF 13 x y + progF 11 x y) + progF 15 x y) > 1 := by
  rcases progF_cmp 13 (by decide) x y with ⟨h1, h2⟩ | ⟨h1, h2, c, h3, h4, h5⟩
  · rcases progF_cmp 11 (by decide) x y with ⟨h3, h4⟩ | ⟨h3, h4, _⟩
    · rcases progF_cmp 15 (by decide) x y with ⟨h5, h6⟩ | ⟨h5, h6, _⟩
      · rw [h2, h4, h6]; decide
      · rw [h5, h6] at h1; cases h1
    · rw [h3, h4] at h1; cases h1
  · rcases progF_cmp 11 (by decide) x y with ⟨h6, h7⟩ | ⟨h6, h7, c', h8, h9, h10⟩
    · rw [h1, h2] at h6; cases h6
    · rcases progF_cmp 15 (by decide) x y with ⟨g6, g7⟩ | ⟨g6, g7, c'', g8, g9, g10⟩
      · rw [h1, h2] at g6; cases g6
      · rw [h3] at h8 g8
        obtain rfl := Option.some.inj h8
        obtain rfl := Option.some.inj g8
        rw [h5, h10, g10]
        cases c <;> decide
/-- A sum is the one NaN, or none. -/
theorem ne_self (x y : Nat) : progF 12 (ar .add x y).toNat (ar .add x y).toNat = 1 → ar .add x y = 9221120237041090560 := by
  intro h
  unfold ar at *
  cases hf : floatBits .add .f64 x y with
  | none => rfl
  | some r =>
    rw [hf] at h
    simp only [Int.toNat_natCast] at h
    exfalso
    rcases progF_cmp 12 (by decide) r r with ⟨h1, h2⟩ | ⟨h1, h2, c, h3, h4, h5⟩
    · rw [floatBits_noNaN hf] at h1; cases h1
    · have : ord r r = some .eq := by unfold ord; rw [order_self, floatBits_noNaN hf]; rfl
      rw [this] at h3
      obtain rfl := Option.some.inj h3
      rw [h5] at h
      exact absurd h (by decide)
theorem nan_cmp (op : Int) (hop : 11 ≤ op ∧ op ≤ 16) (x : Nat) : progF op 9221120237041090560 x = tr (op == 12) := by
  rcases progF_cmp op hop 9221120237041090560 x with ⟨_, h⟩ | ⟨h, _⟩
  · exact h
  · exact absurd h (by decide +kernel)
theorem bn_f (op x y : Int) (hop : (1 ≤ op ∧ op ≤ 4) ∨ (11 ≤ op ∧ op ≤ 16)) (hx : 0 ≤ x ∧ x ≤ 18446744073709551615) (hy : 0 ≤ y ∧ y ≤ 18446744073709551615) : (bn op 10 x y).1 = progF op x.toNat y.toNat := by
  have i10 : ∀ z : Int, 0 ≤ z ∧ z ≤ 18446744073709551615 → is 10 z = true := fun z hz => is_mk (by decide) (by simp [cn]; omega)
  unfold bn
  have h1 : has op 10 = true := by
    have : op = 1 ∨ op = 2 ∨ op = 3 ∨ op = 4 ∨ op = 11 ∨ op = 12 ∨ op = 13 ∨ op = 14 ∨ op = 15 ∨ op = 16 := by omega
    rcases this with rfl | rfl | rfl | rfl | rfl | rfl | rfl | rfl | rfl | rfl <;> decide
  rw [h1, i10 x hx, show second op 10 = 10 by unfold second; rw [if_neg (by omega)], i10 y hy]
  simp

theorem WordFloats (l : List (S25)) (hl : wfT22 l) : ∃ k, gantrylaw1_WordFloats.f k l = some true := by
  obtain ⟨hlen, hall⟩ := hl
  unfold gantrylaw1_WordFloats.f
  suffices H : ∀ (d : Nat) (i : Int), 0 ≤ i → i + d = l.length → Ev (fun k => gantrylaw1_WordFloats.l0 k l i) true from (H l.length 0 (by omega) (by omega)).rounds
  intro d
  have hend : ∀ i, Ev (fun k => gantrylaw1_WordFloats.j1 k l i false) true := by
    intro i
    refine Ev.step (fun k => by simp only [gantrylaw1_WordFloats.j1]; rw [if_neg (by decide)]) ?_
    exact Ev.bind wakes_ev (Ev.now _)
  unfold maxLen at hlen
  induction d with
  | zero =>
    intro i h0 hi
    refine Ev.step (fun k => by simp only [gantrylaw1_WordFloats.l0]; rw [if_neg (by omega)]) ?_
    exact hend i
  | succ d ih =>
    intro i h0 hi
    have next : Ev (fun k => gantrylaw1_WordFloats.l0 k l (wrap64 (i + 1))) true := by rw [show wrap64 (i + 1) = i + 1 by unfold wrap64; omega]; exact ih (i + 1) (by omega) (by omega)
    refine Ev.step (fun k => by simp only [gantrylaw1_WordFloats.l0]; rw [if_pos (by omega)]) ?_
    by_cases h2 : i < 200
    · rw [decide_eq_true h2]
      refine Ev.step (fun k => by simp only [gantrylaw1_WordFloats.j1]; rw [if_pos trivial, if_pos h0, if_pos (by omega)]) ?_
      obtain ⟨w0, w1, w2, w3, w4⟩ := hall (rd_T25 l i) (rd_mem l i h0 (by omega))
      have hx : 0 ≤ (rd_T25 l i).f3 ∧ (rd_T25 l i).f3 ≤ 18446744073709551615 := w3
      have hy : 0 ≤ (rd_T25 l i).f4 ∧ (rd_T25 l i).f4 ≤ 18446744073709551615 := w4
      clear w0 w1 w2 w3 w4
      generalize (rd_T25 l i).f3 = x at *
      generalize (rd_T25 l i).f4 = y at *
      have bev : ∀ (op a b : Int), ((1 ≤ op ∧ op ≤ 4) ∨ (11 ≤ op ∧ op ≤ 16)) → (0 ≤ a ∧ a ≤ 18446744073709551615) → (0 ≤ b ∧ b ≤ 18446744073709551615) → Ev (fun k => gantrylaw1_bin.f k op 10 a b) (progF op a.toNat b.toNat) := fun op a b ho ha hb => by
        have := bin_ev op 10 a b ha.1 hb.1 hb.2
        rwa [bn_f op a b ho ha hb] at this
      have p1 : ∀ X Y, progF 1 X Y = ar .add X Y := fun _ _ => rfl
      have p2 : ∀ X Y, progF 2 X Y = ar .sub X Y := fun _ _ => rfl
      have p3 : ∀ X Y, progF 3 X Y = ar .mul X Y := fun _ _ => rfl
      refine Ev.bind (bev 1 x y (by decide) hx hy) ?_
      have eu : un 1 10 y = (Go.bits .xor .u64 y 9223372036854775808, 0) := by
        unfold un
        rw [show hasU 1 10 = true by decide, show is 10 y = true from is_mk (by decide) (by simp [cn]; omega)]
        simp
      refine Ev.bind (un_ev 1 10 y) ?_
      rw [eu]
      refine Ev.bind (Ev.now 0) ?_
      refine Ev.congr (fun k => if_pos rfl) ?_
      refine Ev.bind (bev 1 y x (by decide) hy hx) ?_
      rw [p1, p1]
      refine Ev.congr (fun k => if_pos (ar_add_comm _ _)) ?_
      refine Ev.bind (bev 3 x y (by decide) hx hy) ?_
      refine Ev.bind (bev 3 y x (by decide) hy hx) ?_
      rw [p3, p3]
      refine Ev.congr (fun k => if_pos (ar_mul_comm _ _)) ?_
      refine Ev.bind (bev 2 x y (by decide) hx hy) ?_
      have ex : Go.bits .xor .u64 y 9223372036854775808 = ((y.toNat ^^^ 2 ^ 63 : Nat) : Int) := u64_xor y _ hy.1 (by omega) (by decide) (by decide)
      have hlt : y.toNat ^^^ 2 ^ 63 < 2 ^ 64 := Nat.xor_lt_two_pow (by omega) (by decide)
      refine Ev.bind (bev 1 x (Go.bits .xor .u64 y 9223372036854775808) (by decide) hx (by rw [ex]; omega)) ?_
      have e2 : progF 2 x.toNat y.toNat = progF 1 x.toNat (Go.bits .xor .u64 y 9223372036854775808).toNat := by
        rw [p1, p2, ex, Int.toNat_natCast, ar_sub (by omega)]
      refine Ev.congr (fun k => if_pos e2) ?_
      have e3 : (Go.bits .xor .u64 y 9223372036854775808 != Go.bits .xor .u64 y 9223372036854775808) = false := by simp
      show Ev (fun k => gantrylaw1_WordFloats.j2 k l i x y 10 (ar .add x.toNat y.toNat) (Go.bits .xor .u64 y 9223372036854775808 != Go.bits .xor .u64 y 9223372036854775808)) true
      rw [e3]
      have rs := ar_range .add x.toNat y.toNat
      have tail : Ev (fun k => gantrylaw1_WordFloats.j3 k l i x y 10 false) true := by
        refine Ev.step (fun k => by simp only [gantrylaw1_WordFloats.j3]; rw [if_neg (by decide)]) ?_
        refine Ev.bind (bev 13 x y (by decide) hx hy) ?_
        refine Ev.bind (bev 11 x y (by decide) hx hy) ?_
        refine Ev.bind (bev 15 x y (by decide) hx hy) ?_
        refine Ev.congr (fun k => if_neg (one_of _ _)) ?_
        exact next
      have tail2 : Ev (fun k => (gantrylaw1_bin.f k 11 10 9221120237041090560 x).bind fun t203 => (if t203 = 0 then ((gantrylaw1_bin.f k 12 10 9221120237041090560 x).bind fun t204 => (if t204 = 1 then ((gantrylaw1_bin.f k 11 10 0 9223372036854775808).bind fun t205 => (if t205 = 1 then ((gantrylaw1_bin.f k 13 10 x y).bind fun t206 => ((gantrylaw1_bin.f k 15 10 y x).bind fun t207 => (gantrylaw1_WordFloats.j3 k l i x y 10 (t206 != t207)))) else (gantrylaw1_WordFloats.j3 k l i x y 10 true))) else (gantrylaw1_WordFloats.j3 k l i x y 10 true))) else (gantrylaw1_WordFloats.j3 k l i x y 10 true))) true := by
        refine Ev.bind (bev 11 9221120237041090560 x (by decide) (by decide) hx) ?_
        have n1 : progF 11 (9221120237041090560 : Int).toNat x.toNat = 0 := nan_cmp 11 (by decide) _
        refine Ev.congr (fun k => if_pos n1) ?_
        refine Ev.bind (bev 12 9221120237041090560 x (by decide) (by decide) hx) ?_
        have n2 : progF 12 (9221120237041090560 : Int).toNat x.toNat = 1 := nan_cmp 12 (by decide) _
        refine Ev.congr (fun k => if_pos n2) ?_
        refine Ev.bind (bev 11 0 9223372036854775808 (by decide) (by decide) (by decide)) ?_
        have n3 : progF 11 (0 : Int).toNat (9223372036854775808 : Int).toNat = 1 := by decide +kernel
        refine Ev.congr (fun k => if_pos n3) ?_
        refine Ev.bind (bev 13 x y (by decide) hx hy) ?_
        refine Ev.bind (bev 15 y x (by decide) hy hx) ?_
        have e4 : (progF 13 x.toNat y.toNat != progF 15 y.toNat x.toNat) = false := by rw [lt_gt]; simp
        rw [e4]
        exact tail
      refine Ev.step (fun k => by simp only [gantrylaw1_WordFloats.j2]; rw [if_neg (by decide)]) ?_
      refine Ev.bind (bev 12 _ _ (by decide) rs rs) ?_
      by_cases h1 : progF 12 (ar .add x.toNat y.toNat).toNat (ar .add x.toNat y.toNat).toNat = 1
      · refine Ev.congr (fun k => if_pos h1) ?_
        refine Ev.congr (fun k => if_pos (ne_self _ _ h1)) ?_
        exact tail2
      · refine Ev.congr (fun k => if_neg h1) ?_
        exact tail2
    · rw [decide_eq_false h2]
      exact hend i

end Go.Proofs.Ytahepinbmcgbnaa.Pure
