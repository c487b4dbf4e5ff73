/- The reader's faults beside May's conditions. No condition. -/
import Derived.Test.YtahepinbmcgbnaaVp5
set_option linter.unusedVariables false
set_option linter.unusedSimpArgs false
namespace Go.Proofs.Ytahepinbmcgbnaa.Vm
open Go.RowKit Go.Proofs.Ytahepinbmcgbnaa.PZ Go.Proofs.Ytahepinbmcgbnaa.Wd Go.Proofs.YtahepinbmcgbnaaW.PrintWords
theorem decR_iff {L : List Int} {N : Nat} {bad : Bool} {o A B C K S Z I a b c k s z i m : Int} (H : instD L = .ok N bad (iC o A B C K S Z I 0)) (hN : 1 ≤ N) :
    decR L = (iC o a b c k s z i m, N, 0) ↔ (bad = false ∧ A = a ∧ B = b ∧ C = c ∧ K = k ∧ S = s ∧ Z = z ∧ I = i ∧ m = 0) := by
  unfold decR
  rw [H]
  cases bad with
  | true =>
    constructor
    · intro h
      have := congrArg (fun q => q.2.2) h
      simp at this
    · rintro ⟨h, _⟩; cases h
  | false =>
    constructor
    · intro h
      have h := congrArg (fun q => q.1) h
      simp only [Bool.false_eq_true, if_false, iC, List.cons.injEq, SV.a.injEq, Value.int.injEq, true_and, and_true] at h
      obtain ⟨h1, h2, h3, h4, h5, h6, h7, h8⟩ := h
      exact ⟨rfl, h1, h2, h3, h4, h5, h6, h7, h8.symm⟩
    · rintro ⟨_, rfl, rfl, rfl, rfl, rfl, rfl, rfl, rfl⟩
      rfl
theorem decR_form {L : List Int} (H : instD L = .form) {f : List SV} {N : Nat} : decR L ≠ (f, N, 0) := by
  unfold decR
  rw [H]
  intro h
  have := congrArg (fun q => q.2.2) h
  simp at this
theorem bad27 (b : Int) : ((false || !(b == 0)) = false) ↔ b = 0 := by simp
theorem bad7 (b k s : Int) : (((((false || !(b == 0)) || !decide (Wi k > 0)) || !(k != 11)) || !hasU s k) = false) ↔ b = 0 ∧ hasU s k = true := by
  rw [wi_wd]
  constructor
  · intro h
    simp only [Bool.or_eq_false_iff, Bool.not_eq_false'] at h
    exact ⟨by simpa using h.1.1.1.2, h.2⟩
  · rintro ⟨rfl, h⟩
    have := hasU_rng h
    have h1 : wd k = true := wd_of (by omega)
    have h2 : (k != 11) = true := bne_iff_ne.mpr (by omega)
    rw [h, h1, h2]; rfl
theorem bad8 (k s : Int) : ((((false || !decide (Wi k > 0)) || !nm k) || !nm s) = false) ↔ (nu s && nu k) = true := by
  rw [wi_wd]
  constructor
  · intro h
    simp only [Bool.or_eq_false_iff, Bool.not_eq_false'] at h
    rw [Bool.and_eq_true]
    exact ⟨h.2, h.1.2⟩
  · intro h
    rw [Bool.and_eq_true] at h
    have hk : nm k = true := h.2
    have hs : nm s = true := h.1
    have := nm_rng hk
    rw [hk, hs, wd_of (by omega)]; rfl
theorem bad4 (a b k s : Int) : (((((false || !decide (Wi k > 0)) || !has s k) || !cnd1 k s a b) || !cnd2 s a b) = false) ↔ binaryF a b k s = true := by
  rw [wi_wd]
  unfold binaryF cnd1 cnd2
  constructor
  · intro h
    simp only [Bool.or_eq_false_iff, Bool.not_eq_false'] at h
    obtain ⟨⟨⟨_, h1⟩, h2⟩, h3⟩ := h
    rw [h1]
    cases hs : sh s with
    | true => rw [hs] at h3; simpa using h3
    | false =>
      unfold sp at h2
      cases hw : wh k <;> cases h4 : (s == 4 || s == 5) <;> rw [hw, h4] at h2 <;> simp at h2 ⊢
      simpa using h2
  · intro h
    rw [Bool.and_eq_true] at h
    obtain ⟨h1, h2⟩ := h
    have := has_rng h1
    rw [h1, wd_of (by omega)]
    cases hs : sh s with
    | true =>
      rw [hs] at h2
      have hp : sp s = false := by
        unfold sh at hs; unfold sp
        simp only [Bool.or_eq_true, beq_iff_eq] at hs
        simp only [Bool.or_eq_false_iff, beq_eq_false_iff_ne]
        omega
      rw [hp]
      simp at h2 ⊢
      exact h2
    | false =>
      rw [hs] at h2
      unfold sp
      cases hw : wh k <;> cases h4 : (s == 4 || s == 5) <;> rw [hw, h4] at h2 <;> simp at h2 ⊢
      simpa using h2
theorem small_i (i : Int) : small i = true ↔ -2147483648 ≤ i ∧ i < 2147483648 := by
  simp only [small, inR, List.any_cons, List.any_nil, Bool.or_false, Bool.and_eq_true, decide_eq_true_iff]; omega
theorem bad6 (k s i : Int) : ((((false || !decide (Wi k > 0)) || !cnd6 k s) || !small i) = false) ↔ ((has s k && !sh s && (!wh k || (s != 4 && s != 5))) = true ∧ -2147483648 ≤ i ∧ i < 2147483648) := by
  rw [wi_wd, ← small_i]
  have e : cnd6 k s = (has s k && !sh s && (!wh k || (s != 4 && s != 5))) := by
    unfold cnd6 sp
    rw [Bool.not_or]; rfl
  rw [e]
  constructor
  · intro h
    simp only [Bool.or_eq_false_iff, Bool.not_eq_false'] at h
    exact ⟨h.1.2, h.2⟩
  · rintro ⟨h1, h2⟩
    have h3 := h1
    simp only [Bool.and_eq_true] at h3
    have := has_rng h3.1.1
    rw [h1, h2, wd_of (by omega)]; rfl
theorem bad11 (k i : Int) : (((false || !decide (Wi k > 0)) || !small i) = false) ↔ (wd k = true ∧ -2147483648 ≤ i ∧ i < 2147483648) := by
  rw [wi_wd, ← small_i]
  cases wd k <;> cases small i <;> simp
theorem bad15 (s : Int) : ((false || !sd s) = false) ↔ sd s = true := by cases sd s <;> simp
theorem bad16 (k : Int) : ((false || !decide (Wi k > 0)) = false) ↔ wd k = true := by rw [wi_wd]; cases wd k <;> simp
theorem bad18 (b s : Int) : (((false || !(b == 0)) || !sd s) = false) ↔ b = 0 ∧ sd s = true := by cases sd s <;> simp
theorem badR (lo hi i : Int) : ((false || !inR i [(lo, hi)]) = false) ↔ lo ≤ i ∧ i ≤ hi := by
  simp [inR]
theorem bad1 (i : Int) (hi : -9223372036854775808 ≤ i ∧ i ≤ 9223372036854775807) : (false || !inR i (sizedF (leastF i) (-9223372036854775808) 9223372036854775807)) = false := by
  have := (inR_least i (-9223372036854775808) 9223372036854775807 (by omega) hi.1 hi.2 (by omega)).2 hi
  rw [this]; rfl
theorem least_small {i : Int} (h : ¬ 1 < leastF i) : -2147483648 ≤ i ∧ i < 2147483648 := by
  unfold leastF at h
  split at h
  · omega
  · split at h <;> omega
theorem small_least {i : Int} (h : -2147483648 ≤ i ∧ i < 2147483648) : ¬ 1 < leastF i := by
  unfold leastF
  split
  · omega
  · rw [if_pos (by omega)]; omega
theorem held_rng (k : Int) : -2147483648 ≤ (heldF k).1 ∧ (heldF k).2 ≤ 2147483647 := by
  unfold heldF
  repeat' split
  all_goals simp
theorem u32w (x : Int) : IntKind.u32.wrap x = x % 4294967296 := by simp [IntKind.wrap, IntKind.bits, IntKind.signed]
theorem i32w (x : Int) : IntKind.i32.wrap x = if x % 4294967296 ≥ 2147483648 then x % 4294967296 - 4294967296 else x % 4294967296 := by simp [IntKind.wrap, IntKind.bits, IntKind.signed]
theorem wr32_eq (x : Int) : wr32 x = if x % 4294967296 ≥ 2147483648 then x % 4294967296 - 4294967296 else x % 4294967296 := by
  unfold wr32
  rw [u32w, i32w, Int.emod_emod_of_dvd _ (Int.dvd_refl _), i64_in _ (by split <;> omega) (by split <;> omega)]
theorem imm_held (k n : Int) (hk : wh k = true) (hn : -2147483648 ≤ n ∧ n < 2147483648) : (wr32 (cn k (IntKind.u64.wrap n)) == n) = true ↔ ((heldF k).1 ≤ n ∧ n ≤ (heldF k).2) := by
  have hk2 := wh_rng hk
  rw [beq_iff_eq, wr32_eq, u64w]
  rcases (show k = 2 ∨ k = 3 ∨ k = 4 ∨ k = 5 ∨ k = 6 ∨ k = 7 ∨ k = 8 ∨ k = 9 by omega) with rfl | rfl | rfl | rfl | rfl | rfl | rfl | rfl <;> simp [cn, heldF] <;> split <;> omega
theorem has_shift_wh {s k : Int} (h : has s k = true) (hs : sh s = true) : wh k = true := by
  simp only [has, Bool.and_eq_true, Bool.or_eq_true, decide_eq_true_iff] at h
  simp only [sh, Bool.or_eq_true, beq_iff_eq] at hs
  obtain ⟨_, h | h⟩ := h
  · exact h
  · rw [if_neg (by omega), if_neg (by omega), if_pos (by omega)] at h; cases h
theorem bad5 (k s i : Int) (hi : -9223372036854775808 ≤ i ∧ i ≤ 9223372036854775807) (hl : ¬ 1 < leastF i) :
    (((((false || !decide (Wi k > 0)) || !wh k) || !cnd5 k s) || !inR i (sizedF (leastF i) (heldF (if sh s = true then 9 else k)).1 (heldF (if sh s = true then 9 else k)).2)) = false) ↔ immF s k i = true := by
  have hr := held_rng (if sh s = true then 9 else k)
  have hl2 := inR_least i (heldF (if sh s = true then 9 else k)).1 (heldF (if sh s = true then 9 else k)).2 (.inl hr) hi.1 hi.2 (fun q => absurd q (by omega))
  have hsm := least_small hl
  have hs1 : Ri.smallF i = true := (small_iff i).2 hsm
  rw [wi_wd]
  unfold immF cnd5 sp
  rw [hs1]
  constructor
  · intro h
    simp only [Bool.or_eq_false_iff, Bool.not_eq_false', Bool.and_eq_true, Bool.not_eq_true'] at h
    obtain ⟨⟨⟨_, h1⟩, h2, h3, h4⟩, h5⟩ := h
    have h6 := (imm_held (if sh s = true then 9 else k) i (by split; rfl; exact h1) hsm).2 (hl2.1 h5)
    rw [h1, h2, h3, h4, h6]; rfl
  · intro h
    simp only [Bool.and_eq_true, Bool.not_eq_true', Bool.and_true] at h
    obtain ⟨⟨⟨⟨h1, h2⟩, h3⟩, h4⟩, h5⟩ := h
    have h6 := hl2.2 ((imm_held (if sh s = true then 9 else k) i (by split; rfl; exact h1) hsm).1 h5)
    have := wh_rng h1
    rw [h1, h2, h3, h4, h6, wd_of (by omega)]; rfl
theorem bad17 (k i : Int) (hi : -9223372036854775808 ≤ i ∧ i ≤ 9223372036854775807) (hl : ¬ 1 < leastF i) :
    ((((false || !decide (Wi k > 0)) || !wh k) || !inR i (sizedF (leastF i) (heldF k).1 (heldF k).2)) = false) ↔ immF 2 k i = true := by
  have hr := held_rng k
  have hl2 := inR_least i (heldF k).1 (heldF k).2 (.inl hr) hi.1 hi.2 (fun q => absurd q (by omega))
  have hsm := least_small hl
  have hs1 : Ri.smallF i = true := (small_iff i).2 hsm
  rw [wi_wd]
  unfold immF
  rw [hs1, show sh 2 = false from rfl]
  constructor
  · intro h
    simp only [Bool.or_eq_false_iff, Bool.not_eq_false'] at h
    obtain ⟨⟨_, h1⟩, h5⟩ := h
    have h6 := (imm_held k i h1 hsm).2 (hl2.1 h5)
    have h2 : has 2 k = true := by simp [has, h1]
    show (wh k && has 2 k && true && true && true && (wr32 (cn k (IntKind.u64.wrap i)) == i)) = true
    rw [h1, h2, h6]; rfl
  · intro h
    simp only [Bool.and_eq_true] at h
    obtain ⟨⟨⟨⟨⟨h1, h2⟩, h3⟩, h4⟩, _⟩, h5⟩ := h
    have h6 := hl2.2 ((imm_held k i h1 hsm).1 h5)
    have := wh_rng h1
    rw [h1, h6, wd_of (by omega)]; rfl
theorem bad22 (s i : Int) (hi : -9223372036854775808 ≤ i ∧ i ≤ 9223372036854775807) (hl : ¬ 1 < leastF i) :
    (((false || !sd s) || !inR i (sizedF (leastF i) (-2147483648) 2147483647)) = false) ↔ sd s = true := by
  have hsm := least_small hl
  rw [(inR_least i (-2147483648) 2147483647 (by omega) hi.1 hi.2 (fun q => absurd q (by omega))).2 (by omega)]
  cases sd s <;> simp
theorem bad19 (i : Int) (hi : -9223372036854775808 ≤ i ∧ i ≤ 9223372036854775807) (hl : ¬ 1 < leastF i) :
    (false || !inR i (sizedF (leastF i) (-2147483648) 2147483647)) = false := by
  have hsm := least_small hl
  rw [(inR_least i (-2147483648) 2147483647 (by omega) hi.1 hi.2 (fun q => absurd q (by omega))).2 (by omega)]
  rfl
end Go.Proofs.Ytahepinbmcgbnaa.Vm
