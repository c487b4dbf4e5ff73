/- Numbers in bytes, registers in bytes: the plain laws' arithmetic. No condition. -/
import Derived.Test.YtahepinbmcgbnaaVp3
set_option linter.unusedVariables false
set_option linter.unusedSimpArgs false
namespace Go.Proofs.Ytahepinbmcgbnaa.Vm
open Go.RowKit Go.Proofs.Ytahepinbmcgbnaa.PZ Go.Proofs.Ytahepinbmcgbnaa.Wd Go.Proofs.YtahepinbmcgbnaaW.PrintWords
def Reg (x : Int) : Prop := 0 ≤ x ∧ x < 16
theorem reg_iff (x : Int) : Ri.regF x = true ↔ Reg x := by simp [Ri.regF, Reg]
theorem small_iff (x : Int) : Ri.smallF x = true ↔ -2147483648 ≤ x ∧ x < 2147483648 := by simp [Ri.smallF]
theorem ab_eq (a b : Int) : u8 (abF a b) = (16 * a + b) % 256 := by
  rw [u8_eq]; unfold abF
  rw [i64w, i64w]
  split <;> split <;> omega
theorem ab_lo (a t : Int) (h : Reg t) : u8 (abF a t) % 16 = t := by rw [ab_eq]; unfold Reg at h; omega
theorem ab_hi (a t : Int) (ha : Reg a) (h : Reg t) : u8 (abF a t) / 16 = a := by rw [ab_eq]; unfold Reg at ha h; omega
theorem reg_hi {y a : Int} (h : u8 y / 16 = a) : Reg a := by have := u8_rng y; unfold Reg; omega
theorem reg_lo {y b : Int} (h : u8 y % 16 = b) : Reg b := by have := u8_rng y; unfold Reg; omega
theorem reg_0 : Reg 0 := ⟨by omega, by omega⟩
theorem ab_back (x : Int) (h0 : 0 ≤ x) (h1 : x ≤ 255) : u8 (abF (x / 16) (x % 16)) = x := by rw [ab_eq]; omega
theorem ab_back2 (x t : Int) (h0 : 0 ≤ x) (h1 : x ≤ 255) (h : t = x % 16) : u8 (abF (x / 16) t) = x := by subst h; exact ab_back x h0 h1
theorem least_rng (i : Int) : 0 ≤ leastF i ∧ leastF i ≤ 2 := by unfold leastF; split; omega; split <;> omega
theorem least_reg (i : Int) : Reg (leastF i) := by have := least_rng i; unfold Reg; omega
theorem u8_id {x : Int} (h : 0 ≤ x ∧ x ≤ 255) : u8 x = x := by rw [u8_eq]; omega
/-- Kinds, operations, in their bounds. -/
theorem has_rng {s k : Int} (h : has s k = true) : 1 ≤ s ∧ s ≤ 16 ∧ 1 ≤ k ∧ k ≤ 11 := by
  simp only [has, wh, Bool.and_eq_true, Bool.or_eq_true, decide_eq_true_iff] at h
  obtain ⟨⟨h1, h2⟩, h3⟩ := h
  refine ⟨h1, h2, ?_⟩
  rcases h3 with h3 | h3
  · omega
  · split at h3
    · simp at h3; omega
    · split at h3
      · simp at h3; omega
      · split at h3
        · cases h3
        · simp at h3; omega
theorem wd_rng {k : Int} (h : wd k = true) : 1 ≤ k ∧ k ≤ 11 := by simpa [wd] using h
theorem wi_wd (k : Int) : decide (Wi k > 0) = wd k := wd_width k
theorem wd_of {k : Int} (h : 1 ≤ k ∧ k ≤ 11) : wd k = true := by simpa [wd] using h
theorem hasU_rng {s k : Int} (h : hasU s k = true) : 1 ≤ s ∧ s ≤ 3 ∧ 1 ≤ k ∧ k ≤ 10 := by
  simp only [hasU, wh, Bool.and_eq_true, Bool.or_eq_true, decide_eq_true_iff, beq_iff_eq] at h
  omega
theorem nm_rng {k : Int} (h : nm k = true) : 2 ≤ k ∧ k ≤ 10 := by
  simp only [nm, wh, Bool.and_eq_true, Bool.or_eq_true, decide_eq_true_iff, beq_iff_eq] at h
  omega
theorem wh_rng {k : Int} (h : wh k = true) : 2 ≤ k ∧ k ≤ 9 := by simpa [wh] using h
theorem sd_rng {s : Int} (h : sd s = true) : 11 ≤ s ∧ s ≤ 16 := by simpa [sd] using h
/-- Numbers' bytes. -/
theorem lowF_eq (i : Int) (j : Nat) : lowF i j = (i / 256 ^ j) % 256 := by
  unfold lowF
  rw [u8w, two_256, Int.fdiv_eq_ediv_of_nonneg _ (by exact Int.le_of_lt (Int.pow_pos (by decide)))]
theorem lows_getD (pre : List Int) (i : Int) (n j : Nat) (h : j < n) : (pre ++ lows i n).getD (pre.length + j) 0 = lowF i j := by
  simp [List.getD, lows, h]
theorem emod_step (i : Int) (m : Nat) : i % 256 ^ (m + 1) = i % 256 ^ m + (i / 256 ^ m) % 256 * 256 ^ m := by
  have e : (0 : Int) < 256 ^ m := Int.pow_pos (by decide)
  generalize hM : (256 : Int) ^ m = M at *
  rw [Int.pow_succ, hM]
  have h1 := Int.emod_add_mul_ediv i M
  have h2 := Int.emod_add_mul_ediv (i / M) 256
  have r0 := Int.emod_nonneg i (show M ≠ 0 by omega)
  have r1 := Int.emod_lt_of_pos i e
  have s0 := Int.emod_nonneg (i / M) (show (256 : Int) ≠ 0 by omega)
  have s1 := Int.emod_lt_of_pos (i / M) (show (0 : Int) < 256 by omega)
  generalize i % M = r at *
  generalize i / M % 256 = s at *
  generalize hq : i / M / 256 = t at *
  have hi : i = (r + s * M) + (M * 256) * t := by
    rw [← h1, ← h2]
    rw [Int.mul_add, Int.add_assoc, Int.mul_comm M s, Int.mul_assoc]
  rw [hi, Int.add_mul_emod_self_left]
  have : s * M ≤ 255 * M := Int.mul_le_mul_of_nonneg_right (by omega) (by omega)
  have : 0 ≤ s * M := Int.mul_nonneg s0 (by omega)
  exact Int.emod_eq_of_lt (by omega) (by omega)
theorem val_lows (pre : List Int) (i : Int) (n : Nat) : ∀ m, m ≤ n → val (pre ++ lows i n) pre.length m = i % 256 ^ m
  | 0, _ => by simp [val, Int.emod_one]
  | m + 1, h => by
    unfold val
    rw [val_lows pre i n m (by omega), lows_getD _ _ _ _ (by omega), lowF_eq, emod_step]
theorem numV_lows {pre : List Int} {i : Int} {n p : Nat} (hp : pre.length = p) (hr : rng (pre ++ lows i n)) (hn : n ≤ 8) : numV (pre ++ lows i n) p n = sgR n (i % 256 ^ n) := by
  subst hp
  unfold numV
  rw [leR_val (fun k q => hr _ (List.getElem_mem q)) _ n hn, val_lows _ _ _ _ (Nat.le_refl _)]
theorem sg1 (v : Int) (h0 : 0 ≤ v) (h1 : v < 256) : sgR 1 v = if v ≥ 128 then v - 256 else v := by
  unfold sgR
  rw [i64_in v (by omega) (by omega), Int.fdiv_eq_ediv_of_nonneg _ (by decide), i64w]
  rw [show (2 : Int) ^ (64 - 8 * 1) = 72057594037927936 from rfl]
  split <;> split <;> omega
theorem sg4 (v : Int) (h0 : 0 ≤ v) (h1 : v < 4294967296) : sgR 4 v = if v ≥ 2147483648 then v - 4294967296 else v := by
  unfold sgR
  rw [i64_in v (by omega) (by omega), Int.fdiv_eq_ediv_of_nonneg _ (by decide), i64w]
  rw [show (2 : Int) ^ (64 - 8 * 4) = 4294967296 from rfl]
  split <;> split <;> omega
theorem sg8 (v : Int) (h0 : 0 ≤ v) (h1 : v < 18446744073709551616) : sgR 8 v = if v ≥ 9223372036854775808 then v - 18446744073709551616 else v := by
  unfold sgR
  rw [Int.fdiv_eq_ediv_of_nonneg _ (by decide), show (2 : Int) ^ (64 - 8 * 8) = 1 from rfl, Int.mul_one, i64w v, Int.emod_eq_of_lt h0 h1]
  rw [i64_in _ (by split <;> omega) (by split <;> omega), Int.ediv_one]
theorem p1 : (256 : Int) ^ 1 = 256 := rfl
theorem p4 : (256 : Int) ^ 4 = 4294967296 := rfl
theorem p8 : (256 : Int) ^ 8 = 18446744073709551616 := rfl
theorem sg_small (i : Int) : sgR 4 (i % 256 ^ 4) = i ↔ -2147483648 ≤ i ∧ i < 2147483648 := by
  rw [p4, sg4 _ (by omega) (by omega)]
  split <;> omega
theorem sg_least (i : Int) (h0 : -9223372036854775808 ≤ i) (h1 : i ≤ 9223372036854775807) : sgR (bytesF (leastF i)) (i % 256 ^ (bytesF (leastF i))) = i := by
  unfold leastF
  split
  · rw [show bytesF 0 = 1 from rfl, p1, sg1 _ (by omega) (by omega)]; split <;> omega
  · split
    · rw [show bytesF 1 = 4 from rfl, p4, sg4 _ (by omega) (by omega)]; split <;> omega
    · rw [show bytesF 2 = 8 from rfl, p8, sg8 _ (by omega) (by omega)]; split <;> omega
theorem inR_least (i lo hi : Int) (hl : -2147483648 ≤ lo ∧ hi ≤ 2147483647 ∨ lo ≤ -2147483649 ∧ 2147483648 ≤ hi) (h0 : -9223372036854775808 ≤ i) (h1 : i ≤ 9223372036854775807) (hs : leastF i = 2 → lo ≤ -2147483649 ∧ 2147483648 ≤ hi) : inR i (sizedF (leastF i) lo hi) = true ↔ lo ≤ i ∧ i ≤ hi := by
  have hl2 := least_rng i
  unfold sizedF
  by_cases q1 : leastF i = 0
  · rw [if_pos q1]
    unfold leastF at q1
    split at q1
    · simp only [inR, List.any_cons, List.any_nil, Bool.or_false, Bool.and_eq_true, decide_eq_true_iff, mx, mi]
      split <;> split <;> omega
    · split at q1 <;> omega
  rw [if_neg q1]
  by_cases q2 : leastF i = 1
  · rw [if_pos q2]
    unfold leastF at q2
    split at q2
    · omega
    · split at q2
      · simp only [inR, List.any_cons, List.any_nil, Bool.or_false, Bool.and_eq_true, Bool.or_eq_true, decide_eq_true_iff, mx, mi]
        split <;> split <;> split <;> split <;> omega
      · omega
  rw [if_neg q2]
  have q3 : leastF i = 2 := by omega
  have := hs q3
  unfold leastF at q3
  split at q3
  · omega
  · split at q3
    · omega
    · simp only [inR, List.any_cons, List.any_nil, Bool.or_false, Bool.and_eq_true, Bool.or_eq_true, decide_eq_true_iff]
      omega
/-- A number out of a size's spans has that size. -/
theorem least_of {y sz lo hi : Int} (h0 : 0 ≤ sz) (h2 : sz ≤ 2) (h : inR y (sizedF sz lo hi) = true) : leastF y = sz := by
  unfold sizedF at h
  by_cases q1 : sz = 0
  · rw [if_pos q1] at h
    simp only [inR, List.any_cons, List.any_nil, Bool.or_false, Bool.and_eq_true, decide_eq_true_iff, mx, mi] at h
    unfold leastF
    rw [if_pos (by split at h <;> split at h <;> omega)]; omega
  rw [if_neg q1] at h
  by_cases q2 : sz = 1
  · rw [if_pos q2] at h
    simp only [inR, List.any_cons, List.any_nil, Bool.or_false, Bool.and_eq_true, Bool.or_eq_true, decide_eq_true_iff, mx, mi] at h
    unfold leastF
    have k : (-2147483648 ≤ y ∧ y ≤ -129) ∨ (128 ≤ y ∧ y ≤ 2147483647) := by
      rcases h with h | h
      · left; split at h <;> split at h <;> omega
      · right; split at h <;> split at h <;> omega
    rw [if_neg (by omega), if_pos (by omega)]; omega
  rw [if_neg q2] at h
  simp only [inR, List.any_cons, List.any_nil, Bool.or_false, Bool.and_eq_true, Bool.or_eq_true, decide_eq_true_iff] at h
  unfold leastF
  rw [if_neg (by omega), if_neg (by omega)]; omega
theorem val_digit {l : List Int} (h : BY l) : ∀ (j n p : Nat), j < n → (val l p n / 256 ^ j) % 256 = l.getD (p + j) 0
  | 0, n + 1, p, _ => by
    have := getD_rng h.2 p
    rw [val_front, Int.pow_zero, Int.ediv_one]
    show _ = l.getD p 0
    omega
  | j + 1, n + 1, p, q => by
    have ih := val_digit h j n (p + 1) (by omega)
    have := getD_rng h.2 p
    rw [val_front, Int.pow_succ, Int.mul_comm (256 ^ j) 256, ← Int.ediv_ediv_of_nonneg (by decide), show (l.getD p 0 + 256 * val l (p + 1) n) / 256 = val l (p + 1) n by omega, ih]
    congr 1
    omega
theorem lowF_mod (v w : Int) (n j : Nat) (hj : j < n) (hn : n = 1 ∨ n = 4 ∨ n = 8) (h : v % 256 ^ n = w % 256 ^ n) : (v / 256 ^ j) % 256 = (w / 256 ^ j) % 256 := by
  rcases hn with rfl | rfl | rfl
  · rw [p1] at h
    obtain rfl : j = 0 := by omega
    simpa using h
  · rw [p4] at h
    match j, hj with
    | 0, _ => rw [show (256 : Int) ^ 0 = 1 from rfl]; omega
    | 1, _ => rw [show (256 : Int) ^ 1 = 256 from rfl]; omega
    | 2, _ => rw [show (256 : Int) ^ 2 = 65536 from rfl]; omega
    | 3, _ => rw [show (256 : Int) ^ 3 = 16777216 from rfl]; omega
  · rw [p8] at h
    match j, hj with
    | 0, _ => rw [show (256 : Int) ^ 0 = 1 from rfl]; omega
    | 1, _ => rw [show (256 : Int) ^ 1 = 256 from rfl]; omega
    | 2, _ => rw [show (256 : Int) ^ 2 = 65536 from rfl]; omega
    | 3, _ => rw [show (256 : Int) ^ 3 = 16777216 from rfl]; omega
    | 4, _ => rw [show (256 : Int) ^ 4 = 4294967296 from rfl]; omega
    | 5, _ => rw [show (256 : Int) ^ 5 = 1099511627776 from rfl]; omega
    | 6, _ => rw [show (256 : Int) ^ 6 = 281474976710656 from rfl]; omega
    | 7, _ => rw [show (256 : Int) ^ 7 = 72057594037927936 from rfl]; omega
theorem sg_mod (v : Int) (n : Nat) (hn : n = 1 ∨ n = 4 ∨ n = 8) (h0 : 0 ≤ v) (h1 : v < 256 ^ n) : sgR n v % 256 ^ n = v % 256 ^ n ∧ -9223372036854775808 ≤ sgR n v ∧ sgR n v ≤ 9223372036854775807 := by
  rcases hn with rfl | rfl | rfl
  · rw [p1] at h1 ⊢; rw [sg1 v h0 h1]; split <;> omega
  · rw [p4] at h1 ⊢; rw [sg4 v h0 h1]; split <;> omega
  · rw [p8] at h1 ⊢; rw [sg8 v h0 h1]; split <;> omega
theorem bytes_3 (n : Int) : bytesF n = 1 ∨ bytesF n = 4 ∨ bytesF n = 8 := by unfold bytesF; split; exact .inl rfl; split; exact .inr (.inl rfl); exact .inr (.inr rfl)
theorem numV_rng {l : List Int} (h : BY l) (p n : Nat) (hn : n = 1 ∨ n = 4 ∨ n = 8) : -9223372036854775808 ≤ numV l p n ∧ numV l p n ≤ 9223372036854775807 := by
  unfold numV
  rw [leR_val h.2 p n (by omega)]
  obtain ⟨a, b⟩ := val_rng h.2 p n
  exact (sg_mod _ n hn a b).2
/-- A number's bytes are those that it was read from. -/
theorem lows_back {l : List Int} (h : BY l) (p n : Nat) (hn : n = 1 ∨ n = 4 ∨ n = 8) (hl : p + n ≤ l.length) : lows (numV l p n) n = (l.drop p).take n := by
  unfold numV
  rw [leR_val h.2 p n (by omega)]
  obtain ⟨a, b⟩ := val_rng h.2 p n
  have e := (sg_mod _ n hn a b).1
  apply List.ext_getElem
  · simp [lows]; omega
  · intro j h1 h2
    have hj : j < n := by simpa [lows] using h1
    have : (lows (sgR n (val l p n)) n)[j] = lowF (sgR n (val l p n)) j := by simp [lows]
    rw [this, lowF_eq, lowF_mod _ (val l p n) n j hj hn e, val_digit h j n p hj, gd l (p + j) (by omega)]
    simp
theorem take_1 {l : List Int} (h : 1 ≤ l.length) : l.take 1 = [l.getD 0 0] := by
  rcases l with _ | ⟨a, l⟩
  · simp at h
  · simp
theorem take_2 {l : List Int} (h : 2 ≤ l.length) : l.take 2 = [l.getD 0 0, l.getD 1 0] := by
  rcases l with _ | ⟨a, _ | ⟨b, l⟩⟩ <;> simp at h ⊢
theorem take_3 {l : List Int} (h : 3 ≤ l.length) : l.take 3 = [l.getD 0 0, l.getD 1 0, l.getD 2 0] := by
  rcases l with _ | ⟨a, _ | ⟨b, _ | ⟨c, l⟩⟩⟩ <;> simp at h ⊢
theorem take_4 {l : List Int} (h : 4 ≤ l.length) : l.take 4 = [l.getD 0 0, l.getD 1 0, l.getD 2 0, l.getD 3 0] := by
  rcases l with _ | ⟨a, _ | ⟨b, _ | ⟨c, _ | ⟨d, l⟩⟩⟩⟩ <;> simp at h ⊢
theorem take_split (l : List Int) (c m : Nat) : l.take (c + m) = l.take c ++ (l.drop c).take m := List.take_add
end Go.Proofs.Ytahepinbmcgbnaa.Vm
