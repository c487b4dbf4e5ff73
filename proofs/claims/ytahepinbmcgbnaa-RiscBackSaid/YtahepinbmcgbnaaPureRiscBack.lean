/- The plain law behind 'RiscBack'. No condition. -/
import Derived.Test.YtahepinbmcgbnaaPBx3
import Derived.Test.YtahepinbmcgbnaaOpB
import Derived.Test.YtahepinbmcgbnaaRq
set_option linter.unusedVariables false
set_option linter.unusedSimpArgs false
namespace Go.Proofs.Ytahepinbmcgbnaa.Pure
open Go.RowKit Go.Proofs.Ytahepinbmcgbnaa.PB Go.Proofs.YtahepinbmcgbnaaW.PrintWords Go.Proofs.Ytahepinbmcgbnaa

theorem up (i : Nat) (h : i < 9223372036854775807) : wrap64 ((i : Int) + 1) = ((i + 1 : Nat) : Int) := by unfold wrap64; omega
theorem eqb (l : List Int) (hm : l.length ≤ 9223372036854775807) : ∀ (n i k : Nat), l.length - i = n → n < k → i ≤ l.length → gantryref0_EqBytes.l0 k l l i = some true
  | n, i, 0, _, h, _ => absurd h (by omega)
  | 0, i, k + 1, h0, h, hi => by
    unfold gantryref0_EqBytes.l0
    rw [if_neg (by omega)]
  | n + 1, i, k + 1, h0, h, hi => by
    unfold gantryref0_EqBytes.l0
    rw [if_pos (by omega), if_pos (by omega), if_pos (by omega), if_pos rfl, up i (by omega)]
    exact eqb l hm n (i + 1) k (by omega) (by omega) (by omega)
theorem eqb_f (l : List Int) (k : Nat) (hm : l.length ≤ 9223372036854775807) (hk : l.length < k) : gantryref0_EqBytes.f k l l = some true := by
  unfold gantryref0_EqBytes.f
  rw [if_pos rfl]
  exact eqb l hm l.length 0 k (by omega) hk (by omega)
theorem wakes_f (k : Nat) (hk : 9 ≤ k) : gantrylaw3_wakes.f k = some true := by
  have e : Ri.encF 9 1 15 0 0 0 0 (-8) 0 = ([9, 1, 15, 0, 248, 255, 255, 255], 0) := by decide +kernel
  unfold gantrylaw3_wakes.f risc_Encode.f gantrylaw3_num.f
  rw [e]
  simp only [Option.bind_some, if_true]
  rw [eqb_f _ k (by decide) (by simp; omega)]
  rfl
theorem rd_in (l : List Int) (i : Nat) (h : i < l.length) : rd l (i : Int) = l[i] := by simp [rd, List.getD_eq_getElem?_getD, List.getElem?_eq_getElem h]
theorem eq2 (l m : List Int) (hlm : l.length = m.length) (hm : l.length ≤ 9223372036854775807) : ∀ (n i k : Nat), l.length - i = n → n < k → i ≤ l.length → gantryref0_EqBytes.l0 k l m i = some (decide (l.drop i = m.drop i))
  | n, i, 0, _, h, _ => absurd h (by omega)
  | 0, i, k + 1, h0, h, hi => by
    unfold gantryref0_EqBytes.l0
    rw [if_neg (by omega), List.drop_of_length_le (by omega), List.drop_of_length_le (by omega)]
    rfl
  | n + 1, i, k + 1, h0, h, hi => by
    unfold gantryref0_EqBytes.l0
    have h1 : i < l.length := by omega
    have h2 : i < m.length := by omega
    rw [if_pos (by omega), if_pos (by omega), if_pos (by omega), up i (by omega), rd_in l i h1, rd_in m i h2, eq2 l m hlm hm n (i + 1) k (by omega) (by omega) (by omega), List.drop_eq_getElem_cons h1, List.drop_eq_getElem_cons h2]
    by_cases hr : l[i] = m[i]
    · rw [if_pos hr, hr]
      simp only [List.cons.injEq, true_and]
    · rw [if_neg hr]
      simp only [List.cons.injEq, hr, false_and, decide_false]
theorem eq2_f (l m : List Int) (k : Nat) (hlm : l.length = m.length) (hm : l.length ≤ 9223372036854775807) (hk : l.length < k) : gantryref0_EqBytes.f k l m = some (decide (l = m)) := by
  unfold gantryref0_EqBytes.f
  rw [if_pos (by omega)]
  exact eq2 l m hlm hm l.length 0 k (by omega) hk (by omega)
def enc46 (x : S46) : List Int := Ri.rencF x.f0 x.f1 x.f2 x.f3 x.f4 x.f5 x.f6 x.f7 x.f8
def may46 (x : S46) : Bool := Ri.rmayF x.f0 x.f1 x.f2 x.f3 x.f4 x.f5 x.f6 x.f7 x.f8
theorem len46 (x : S46) : (enc46 x).length = 8 := by simp [enc46, Ri.rencF, Ri.reight]
theorem same (x y : S46) (hx : may46 x = true) (hy : may46 y = true) : decide (enc46 x = enc46 y) = ((x.f0 == y.f0) && ((x.f1 == y.f1) && ((x.f2 == y.f2) && ((x.f3 == y.f3) && ((x.f4 == y.f4) && ((x.f5 == y.f5) && ((x.f6 == y.f6) && ((x.f7 == y.f7) && (x.f8 == y.f8))))))))) := by
  obtain ⟨xz, xl, xd, _⟩ := Ri.dec_enc _ _ _ _ _ _ _ _ _ hx []
  obtain ⟨yz, yl, yd, _⟩ := Ri.dec_enc _ _ _ _ _ _ _ _ _ hy []
  by_cases h : enc46 x = enc46 y
  · rw [decide_eq_true h]
    unfold enc46 at h
    rw [h, yd] at xd
    simp only [Ri.dec11, Prod.mk.injEq] at xd
    obtain ⟨e0, e1, e2, e3, e4, e5, _, e7, _⟩ := xd
    simp [e0, e1, e2, e3, e4, e5, e7, xz, xl, yz, yl]
  · rw [decide_eq_false h]
    refine (Bool.eq_false_iff.2 fun hc => h ?_).symm
    simp only [Bool.and_eq_true, beq_iff_eq] at hc
    obtain ⟨e0, e1, e2, e3, e4, e5, e6, e7, e8⟩ := hc
    unfold enc46
    rw [e0, e1, e2, e3, e4, e5, e6, e7, e8]
theorem encE (x : S46) : risc_Encode.f x.f0 x.f1 x.f2 x.f3 x.f4 x.f5 x.f6 x.f7 x.f8 = some (if may46 x = true then (enc46 x, 0) else ([], 30)) := by
  unfold risc_Encode.f may46 enc46
  rw [Ri.enc_renc]
theorem back_in (l : List S46) (hl : l.length ≤ maxLen) (i K : Nat) (hi : i < l.length) (hK : 9 ≤ K) (hx : may46 (rd_T46 l (i : Int)) = true) (next : ∀ k, K ≤ k → gantrylaw3_RiscBack.l0 k l (wrap64 ((i : Int) + 1)) = some true) :
    ∀ (n j k : Nat), i - j = n → n + K + 1 ≤ k → j ≤ i → gantrylaw3_RiscBack.l1 k l i (enc46 (rd_T46 l (i : Int))) j = some true
  | n, j, 0, _, h, _ => absurd h (by omega)
  | n, j, k + 1, hn, hk, hj => by
    have hm : maxLen = 9223372036854775807 := rfl
    unfold gantrylaw3_RiscBack.l1
    by_cases h : j < i
    · obtain ⟨m, rfl⟩ : ∃ m, n = m + 1 := ⟨n - 1, by omega⟩
      have ih := back_in l hl i K hi hK hx next m (j + 1) k (by omega) (by omega) (by omega)
      rw [if_pos (by omega), if_pos (by omega), if_pos (by omega), encE, up j (by omega)]
      cases hy : may46 (rd_T46 l (j : Int)) with
      | false =>
        simp only [Bool.false_eq_true, if_false, Option.bind_some, gantrylaw3_num.f]
        simpa using ih
      | true =>
        simp only [if_true, Option.bind_some, gantrylaw3_num.f]
        rw [eq2_f _ _ k (by rw [len46, len46]) (by rw [len46]; omega) (by rw [len46]; omega), same _ _ hx hy]
        simp only [Option.bind_some]
        rw [if_pos (by omega), if_pos (by omega), if_neg (by simp)]
        exact ih
    · rw [if_neg (by omega)]
      exact next k (by omega)
theorem back_end (l : List S46) (i k : Nat) (hi : i ≤ 100) (h : ¬ ((i : Int) < (l.length : Int) ∧ i < 100)) (hk : 40 ≤ k) : gantrylaw3_RiscBack.l0 k l i = some true := by
  obtain ⟨k, rfl⟩ : ∃ q, k = q + 3 := ⟨k - 3, by omega⟩
  unfold gantrylaw3_RiscBack.l0
  have hw := wakes_f (k + 1) (by omega)
  have hj : gantrylaw3_RiscBack.j1 (k + 2) l i false = some true := by
    unfold gantrylaw3_RiscBack.j1
    rw [if_neg (by simp), hw]
    rfl
  by_cases h1 : (i : Int) < (l.length : Int)
  · rw [if_pos h1, decide_eq_false (show ¬ (i : Int) < 100 by omega)]
    exact hj
  · rw [if_neg h1]
    exact hj
theorem copy46 (x : S46) : gantryref0_CopyBytes.f (enc46 x) = some (enc46 x) := by
  unfold gantryref0_CopyBytes.f
  rw [if_pos (by rw [len46]; decide)]
  rw [List.nil_append]
theorem dec46 (x : S46) (hx : may46 x = true) : x.f6 = 0 ∧ x.f8 = 0 ∧ risc_Decode.f (enc46 x ++ [1, 2, 3]) = some (x.f0, x.f1, x.f2, x.f3, x.f4, x.f5, 0, x.f7, 0, 8, 0) := by
  obtain ⟨z0, l0, hd, hb⟩ := Ri.dec_enc _ _ _ _ _ _ _ _ _ hx [1, 2, 3]
  refine ⟨z0, l0, ?_⟩
  unfold risc_Decode.f
  rw [if_pos]
  · unfold enc46
    rw [hd]
    rfl
  · unfold Ri.byts at hb ⊢
    rw [List.all_append]
    unfold enc46
    rw [hb]
    rfl
theorem enc46z (x : S46) (hx : may46 x = true) : risc_Encode.f x.f0 x.f1 x.f2 x.f3 x.f4 x.f5 0 x.f7 0 = some (enc46 x, 0) := by
  obtain ⟨z0, l0, _⟩ := dec46 x hx
  have := encE x
  rw [hx, if_pos rfl, z0, l0] at this
  exact this
theorem bind_to {α β : Type} {o : Option α} {a : α} {F : α → Option β} {r : β} (h : o = some a) (hF : F a = some r) : o.bind F = some r := by rw [h]; exact hF
theorem j1_no (l : List S46) (i k : Nat) (h : (i : Int) < (l.length : Int)) (hx : may46 (rd_T46 l (i : Int)) = false) (hn : gantrylaw3_RiscBack.l0 k l (wrap64 ((i : Int) + 1)) = some true) : gantrylaw3_RiscBack.j1 (k + 1) l i true = some true := by
  have e := encE (rd_T46 l (i : Int))
  rw [hx, if_neg (by simp)] at e
  unfold gantrylaw3_RiscBack.j1
  rw [if_pos rfl, if_pos (by omega), if_pos h]
  refine bind_to e ?_
  refine bind_to (a := 30) rfl ?_
  rw [if_neg (by decide)]
  exact hn
theorem j1_yes (l : List S46) (i k : Nat) (h : (i : Int) < (l.length : Int)) (hk : 9 ≤ k) (hx : may46 (rd_T46 l (i : Int)) = true) (hj2 : gantrylaw3_RiscBack.j2 k l i (enc46 (rd_T46 l (i : Int))) false = some true) : gantrylaw3_RiscBack.j1 (k + 1) l i true = some true := by
  have e := encE (rd_T46 l (i : Int))
  rw [hx, if_pos rfl] at e
  have h8 := len46 (rd_T46 l (i : Int))
  obtain ⟨z0, l0, hdec⟩ := dec46 _ hx
  unfold gantrylaw3_RiscBack.j1
  rw [if_pos rfl, if_pos (by omega), if_pos h]
  refine bind_to e ?_
  refine bind_to (a := 0) rfl ?_
  rw [if_pos rfl]
  refine bind_to (copy46 _) ?_
  refine bind_to (a := [1, 2, 3]) rfl ?_
  have hlt : (enc46 (rd_T46 l (i : Int))).length + ([1, 2, 3] : List Int).length < 140737488355328 := by rw [h8]; simp
  rw [if_pos hlt]
  refine bind_to hdec ?_
  refine bind_to (enc46z _ hx) ?_
  refine bind_to (a := 0) rfl ?_
  rw [if_pos rfl, if_pos rfl, if_neg (by simp [z0, l0])]
  refine bind_to (a := 0) rfl ?_
  rw [if_pos rfl]
  refine bind_to (eqb_f _ k (by rw [h8]; omega) (by rw [h8]; omega)) ?_
  exact hj2
theorem back_step (l : List S46) (hl : l.length ≤ maxLen) (m i k : Nat) (h : (i : Int) < (l.length : Int) ∧ i < 100) (hk : 120 * m + 160 ≤ k) (nxt : ∀ k, 120 * m + 40 ≤ k → gantrylaw3_RiscBack.l0 k l (wrap64 ((i : Int) + 1)) = some true) : gantrylaw3_RiscBack.l0 k l i = some true := by
  have hm : maxLen = 9223372036854775807 := rfl
  obtain ⟨k, rfl⟩ : ∃ q, k = q + 3 := ⟨k - 3, by omega⟩
  unfold gantrylaw3_RiscBack.l0
  rw [if_pos h.1, decide_eq_true (show (i : Int) < 100 by omega)]
  cases hx : may46 (rd_T46 l (i : Int)) with
  | false => exact j1_no l i (k + 1) h.1 hx (nxt (k + 1) (by omega))
  | true =>
    have inner := back_in l hl i (120 * m + 40) (by omega) (by omega) hx nxt i 0 k (by omega) (by omega) (by omega)
    refine j1_yes l i (k + 1) h.1 (by omega) hx ?_
    unfold gantrylaw3_RiscBack.j2
    rw [if_neg (by simp)]
    exact inner
theorem back_loop (l : List S46) (hl : l.length ≤ maxLen) (n : Nat) : ∀ (i k : Nat), 100 - i = n → 120 * n + 40 ≤ k → i ≤ 100 → gantrylaw3_RiscBack.l0 k l i = some true := by
  have hm : maxLen = 9223372036854775807 := rfl
  induction n with
  | zero => intro i k hn hk hi; exact back_end l i k hi (by omega) (by omega)
  | succ m ih =>
    intro i k hn hk hi
    by_cases h : (i : Int) < (l.length : Int) ∧ i < 100
    · refine back_step l hl m i k h (by omega) fun k hk => ?_
      rw [up i (by omega)]
      exact ih (i + 1) k (by omega) hk (by omega)
    · exact back_end l i k hi h (by omega)
theorem RiscBack (l : List S46) (hl : wfT41 l) : ∃ k, gantrylaw3_RiscBack.f k l = some true :=
  ⟨12040, back_loop l hl.1 100 0 12040 rfl (by omega) (by omega)⟩
end Go.Proofs.Ytahepinbmcgbnaa.Pure
