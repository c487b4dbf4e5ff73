/- Decode: the program's and the document's answer one; bytes and instructions are one to one. No condition. -/
import Derived.Test.YtahepinbmcgbnaaRp
import Derived.Test.YtahepinbmcgbnaaRw
import Derived.Laws.BitsAllLaws
set_option linter.unusedVariables false
set_option linter.unusedSimpArgs false
namespace Go.Proofs.Ytahepinbmcgbnaa.Ri
open Go.RowKit Go.Proofs.Ytahepinbmcgbnaa.PA Go.Proofs.YtahepinbmcgbnaaW.PrintWords Go.Proofs.Ytahepinbmcgbnaa.Wd

theorem or_add (x y m : Int) (i : Nat) (hm : (2 : Int) ^ i = m) (hx : 0 ≤ x ∧ x < m) (hy : 0 ≤ y) (h : x + y * m < 4294967296) : bits .or .u32 x (y * m) = x + y * m := by
  subst hm
  have hp : (0 : Int) ≤ y * 2 ^ i := Int.mul_nonneg hy (Int.le_of_lt (Int.pow_pos (by decide)))
  rw [u32_or x (y * 2 ^ i) hx.1 (by omega) hp (by omega)]
  obtain ⟨a, rfl⟩ := Int.eq_ofNat_of_zero_le hx.1
  obtain ⟨b, rfl⟩ := Int.eq_ofNat_of_zero_le hy
  have e : ((b : Int) * 2 ^ i) = ((2 ^ i * b : Nat) : Int) := by push_cast; rw [Int.mul_comm]
  rw [e]
  simp only [Int.toNat_natCast]
  have hb : a < 2 ^ i := by exact_mod_cast hx.2
  rw [Nat.or_comm, ← Nat.two_pow_add_eq_or_of_lt hb]
  push_cast
  omega
theorem v4_val (a b c d : Int) (ha : 0 ≤ a ∧ a ≤ 255) (hb : 0 ≤ b ∧ b ≤ 255) (hc : 0 ≤ c ∧ c ≤ 255) (hd : 0 ≤ d ∧ d ≤ 255) : v4 a b c d = a + b * 256 + c * 65536 + d * 16777216 := by
  unfold v4
  rw [or_add a b 256 8 (by decide) (by omega) (by omega) (by omega), or_add (a + b * 256) c 65536 16 (by decide) (by omega) (by omega) (by omega), or_add (a + b * 256 + c * 65536) d 16777216 24 (by decide) (by omega) (by omega) (by omega)]
theorem tail_ks (o k s i : Int) (hB : o = 4 ∨ o = 7 ∨ o = 8) (h : tailF o k s i = true) : 1 ≤ k ∧ k ≤ 11 ∧ 1 ≤ s ∧ s ≤ 16 := by
  rcases hB with rfl | rfl | rfl
  · simp only [tailF, if_true] at h
    unfold has wh at h
    simp only [Bool.and_eq_true, Bool.or_eq_true, decide_eq_true_eq] at h
    obtain ⟨⟨h1, h2⟩, h3⟩ := h
    rcases h3 with h3 | h3
    · omega
    · split at h3
      · simp only [Bool.or_eq_true, beq_iff_eq] at h3; omega
      · split at h3
        · simp only [beq_iff_eq] at h3; omega
        · split at h3
          · cases h3
          · simp only [beq_iff_eq] at h3; omega
  · simp only [tailF, if_true, Int.reduceEq, if_false] at h
    unfold hasU wh at h
    simp only [Bool.and_eq_true, Bool.or_eq_true, decide_eq_true_eq, beq_iff_eq] at h
    omega
  · simp only [tailF, if_true, Int.reduceEq, if_false] at h
    unfold nu wh at h
    simp only [Bool.and_eq_true, Bool.or_eq_true, decide_eq_true_eq, beq_iff_eq] at h
    omega
theorem tail_k (o k s i : Int) (hA : o = 11 ∨ o = 13) (h : tailF o k s i = true) : 1 ≤ k ∧ k ≤ 11 := by
  rcases hA with rfl | rfl
  all_goals
    simp only [tailF, if_true, Int.reduceEq, if_false, or_true, true_or, or_false, false_or] at h
    unfold wd at h
    simpa using h
/-- What an instruction is. -/
theorem rmay_facts (o a b c k s z i l : Int) (h : rmayF o a b c k s z i l = true) : z = 0 ∧ l = 0 ∧ (0 ≤ a ∧ a < 16) ∧ (0 ≤ b ∧ b < 16) ∧ (0 ≤ c ∧ c < 16) ∧ (-2147483648 ≤ i ∧ i < 2147483648) ∧ (fieldsF o).toList.isEmpty = false ∧ (lets o 67 = true ∨ c = 0) ∧ (lets o 75 = true ∨ k = 0)
    ∧ (lets o 83 = true ∨ s = 0) ∧ (lets o 73 = true ∨ i = 0) ∧ tailF o k s i = true := by
  unfold rmayF regF smallF at h
  simp only [Bool.and_eq_true, Bool.or_eq_true, Bool.not_eq_true', decide_eq_true_eq, beq_iff_eq, bne_eq_false_iff_eq] at h
  obtain ⟨h0, hz, hl, ha, hb, hc, hi, _, _, h3, h4, h5, h6, h7⟩ := h
  exact ⟨hz, hl, ha, hb, hc, hi, h0, h3, h4, h5, h6, h7⟩
theorem code_range (o : Int) (h : (fieldsF o).toList.isEmpty = false) : 1 ≤ o ∧ o ≤ 29 := by
  by_cases hc : codes o
  · unfold codes at hc; omega
  · unfold codes at hc
    have hf : fieldsF o = ⟨#[]⟩ := by unfold fieldsF; rw [if_neg (by omega), if_neg (by omega), if_neg (by omega), if_neg (by omega), if_neg (by omega), if_neg (by omega), if_neg (by omega), if_neg (by omega), if_neg (by omega), if_neg (by omega)]
    rw [hf] at h
    exact absurd h (by decide +kernel)
theorem row_t (o : Int) : ((knownF o).2.2.2.1 = 2) = (o = 11 ∨ o = 13) := by
  obtain ⟨_, _, _, _, _, _, _, r7, _⟩ := rows o
  exact propext (Iff.trans beq_iff_eq.symm (by rw [r7]; exact decide_eq_true_iff))
theorem row_n (o : Int) : ((knownF o).2.2.2.2.1 = 4) = (o = 4 ∨ o = 7 ∨ o = 8) := by
  obtain ⟨_, _, _, _, _, _, _, _, r8⟩ := rows o
  exact propext (Iff.trans beq_iff_eq.symm (by rw [r8]; exact decide_eq_true_iff))
/-- The document's answer, and how many bytes were read. -/
def ext (r : Int × Int × Int × Int × Int × Int × Int × Int) : Int × Int × Int × Int × Int × Int × Int × Int × Int :=
  (r.1, r.2.1, r.2.2.1, r.2.2.2.1, r.2.2.2.2.1, r.2.2.2.2.2.1, r.2.2.2.2.2.2.1, (if r.2.2.2.2.2.2.2 = 0 then 8 else 0), r.2.2.2.2.2.2.2)
theorem dec_rdec (b0 b1 b2 b3 b4 b5 b6 b7 : Int) (h4 : 0 ≤ b4 ∧ b4 ≤ 255) (h5 : 0 ≤ b5 ∧ b5 ≤ 255) (h6 : 0 ≤ b6 ∧ b6 ≤ 255) (h7 : 0 ≤ b7 ∧ b7 ≤ 255) : decF b0 b1 b2 b3 b4 b5 b6 b7 = ext (rdecF b0 b1 b2 b3 b4 b5 b6 b7) := by
  have hv := v4_val b4 b5 b6 b7 h4 h5 h6 h7
  unfold decF rdecF rdecE
  simp only [may_rmay, row_t, row_n]
  generalize v4 b4 b5 b6 b7 = v at hv ⊢
  have v0 : 0 ≤ v ∧ v < 4294967296 := by omega
  clear hv h4 h5 h6 h7
  obtain ⟨r0, _⟩ := rows b0
  by_cases hB : b0 = 4 ∨ b0 = 7 ∨ b0 = 8
  · have hA : ¬ (b0 = 11 ∨ b0 = 13) := by omega
    have ok : (knownF b0).2.2.2.2.2 = true := by rcases hB with rfl | rfl | rfl <;> decide
    simp only [if_pos hB, if_neg hA, ok, if_true]
    have t1 : v.tmod 256 = v % 256 := Int.tmod_eq_emod_of_nonneg v0.1
    have t2 : v.tdiv 256 = v / 256 := Int.tdiv_eq_ediv_of_nonneg v0.1
    rw [t1, t2]
    by_cases hv : v < 65536
    · have e1 : wrap64 (wrap32 v) = v := by unfold wrap64 wrap32; omega
      rw [e1, if_neg (show ¬ v < 0 by omega), if_neg (show ¬ 65536 ≤ v by omega), t1, t2]
      have e2 : wrap64 (v % 256) = v % 256 := by unfold wrap64; omega
      have e3 : wrap64 (v / 256) = v / 256 % 4294967296 := by unfold wrap64; omega
      rw [e2, e3]
      split <;> rfl
    · have hm : ¬ rmayF b0 b1 b2 b3 (wrap64 (v % 256)) (v / 256 % 4294967296) 0 0 0 = true := fun h => by
        obtain ⟨_, _, _, _, _, _, _, _, _, _, _, ht⟩ := rmay_facts _ _ _ _ _ _ _ _ _ h
        have := tail_ks _ _ _ _ hB ht
        omega
      rw [if_neg hm]
      by_cases hn : wrap64 (wrap32 v) < 0
      · rw [if_pos hn]; rfl
      · rw [if_neg hn, if_pos (by unfold wrap64 wrap32 at hn ⊢; omega)]; rfl
  · simp only [if_neg hB]
    by_cases hA : b0 = 11 ∨ b0 = 13
    · have ok : (knownF b0).2.2.2.2.2 = true := by rcases hA with rfl | rfl <;> decide
      simp only [if_pos hA, ok, if_true]
      split <;> rfl
    · simp only [if_neg hA]
      cases ok : (knownF b0).2.2.2.2.2 with
      | true =>
        simp only [if_true]
        split <;> rfl
      | false =>
        have hm : ¬ rmayF b0 b1 b2 b3 0 0 0 (wrap64 (wrap32 v)) 0 = true := fun h => by
          obtain ⟨_, _, _, _, _, _, hf, _⟩ := rmay_facts _ _ _ _ _ _ _ _ _ h
          rw [ok, hf] at r0
          cases r0
        simp only [Bool.false_eq_true, if_false, hm]
        rfl
/-- An instruction's bytes are told to be that instruction. -/
theorem dec_enc (o a b c k s z i l : Int) (h : rmayF o a b c k s z i l = true) (rest : List Int) : z = 0 ∧ l = 0 ∧ decL (rencF o a b c k s z i l ++ rest) = dec11 (o, a, b, c, k, s, i, 8, 0) ∧ byts (rencF o a b c k s z i l) = true := by
  obtain ⟨rfl, rfl, ha, hb, hc, hi, hf, hlc, hlk, hls, hli, ht⟩ := rmay_facts _ _ _ _ _ _ _ _ _ h
  obtain ⟨r0, r1, r2, r3, r4, r5, r6, r7, r8⟩ := rows o
  have ho := code_range o hf
  refine ⟨rfl, rfl, ?_, ?_⟩
  · unfold decL
    rw [if_neg (by simp [rencF, reight])]
    have hd : ∀ T N : Int, decF (o % 256) (a % 256) (b % 256) (T % 256) (N % 256) (N % 4294967296 / 256 % 256) (N % 4294967296 / 65536 % 256) (N % 4294967296 / 16777216) = (o, a, b, c, k, s, i, 8, 0) →
        dec11 (decF (o % 256) (a % 256) (b % 256) (T % 256) (N % 256) (N % 4294967296 / 256 % 256) (N % 4294967296 / 65536 % 256) (N % 4294967296 / 16777216)) = dec11 (o, a, b, c, k, s, i, 8, 0) := fun T N e => by rw [e]
    refine hd (if o = 11 ∨ o = 13 then k else c) (if o = 4 ∨ o = 7 ∨ o = 8 then wrap64 (k + wrap64 (256 * s)) else i) ?_
    rw [dec_rdec _ _ _ _ _ _ _ _ (by omega) (by omega) (by omega) (by omega)]
    have eo : o % 256 = o := by omega
    have ea : a % 256 = a := by omega
    have eb : b % 256 = b := by omega
    have ec : c % 256 = c := by omega
    unfold rdecF rdecE
    rw [v4_val _ _ _ _ (by omega) (by omega) (by omega) (by omega), eo, ea, eb]
    by_cases hB : o = 4 ∨ o = 7 ∨ o = 8
    · have hA : ¬ (o = 11 ∨ o = 13) := by omega
      have hks := tail_ks _ _ _ _ hB ht
      have i0 : i = 0 := by
        rcases hli with hli | hli
        · rw [← r4, beq_iff_eq] at hli
          rw [decide_eq_true hB, beq_iff_eq] at r8
          omega
        · exact hli
      subst i0
      simp only [if_pos hB, if_neg hA]
      have w1 : wrap64 (k + wrap64 (256 * s)) = k + 256 * s := by unfold wrap64; omega
      rw [w1, ec]
      have w2 : (k + 256 * s) % 256 + (k + 256 * s) % 4294967296 / 256 % 256 * 256 + (k + 256 * s) % 4294967296 / 65536 % 256 * 65536 + (k + 256 * s) % 4294967296 / 16777216 * 16777216 = k + 256 * s := by omega
      rw [w2]
      have w3 : wrap64 (wrap32 (k + 256 * s)) = k + 256 * s := by unfold wrap64 wrap32; omega
      have t1 : (k + 256 * s).tmod 256 = k := by rw [Int.tmod_eq_emod_of_nonneg (by omega)]; omega
      have t2 : (k + 256 * s).tdiv 256 = s := by rw [Int.tdiv_eq_ediv_of_nonneg (by omega)]; omega
      have t3 : wrap64 s = s := by unfold wrap64; omega
      rw [w3, if_neg (by omega), if_neg (by omega), t1, t2, t3, if_pos h]
      rfl
    · simp only [if_neg hB]
      have s0 : s = 0 := by
        rcases hls with hls | hls
        · rw [← r5, r8] at hls
          exact absurd (of_decide_eq_true hls) hB
        · exact hls
      subst s0
      have w2 : i % 256 + i % 4294967296 / 256 % 256 * 256 + i % 4294967296 / 65536 % 256 * 65536 + i % 4294967296 / 16777216 * 16777216 = i % 4294967296 := by omega
      rw [w2]
      have w3 : wrap64 (wrap32 (i % 4294967296)) = i := by unfold wrap64 wrap32; omega
      rw [w3]
      by_cases hA : o = 11 ∨ o = 13
      · have hk := tail_k _ _ _ _ hA ht
        have c0 : c = 0 := by
          rcases hlc with hlc | hlc
          · rcases hA with rfl | rfl <;> exact absurd hlc (by decide +kernel)
          · exact hlc
        subst c0
        have ek : k % 256 = k := by omega
        simp only [if_pos hA]
        rw [ek, if_pos h]
        rfl
      · have k0 : k = 0 := by
          rcases hlk with hlk | hlk
          · rw [← r6, r7, r8, decide_eq_false hB, decide_eq_false hA] at hlk
            cases hlk
          · exact hlk
        subst k0
        simp only [if_neg hA]
        rw [ec, if_pos h]
        rfl
  · unfold byts rencF reight
    simp only [List.all_cons, List.all_nil, Bool.and_true, Bool.and_eq_true, decide_eq_true_eq]
    omega
end Go.Proofs.Ytahepinbmcgbnaa.Ri
