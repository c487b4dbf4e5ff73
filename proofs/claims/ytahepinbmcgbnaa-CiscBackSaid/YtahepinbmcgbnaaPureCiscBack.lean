/- The plain law behind 'CiscBack'. No condition. -/
import Derived.Test.YtahepinbmcgbnaaPHx3
import Derived.Test.YtahepinbmcgbnaaOpH
set_option linter.unusedVariables false
set_option linter.unusedSimpArgs false
namespace Go.Proofs.Ytahepinbmcgbnaa.Pure
open Go.RowKit Go.Proofs.Ytahepinbmcgbnaa.PH Go.Proofs.YtahepinbmcgbnaaW.PrintWords Go.Proofs.Ytahepinbmcgbnaa

theorem up (i : Nat) (h : i < 9223372036854775807) : wrap64 ((i : Int) + 1) = ((i + 1 : Nat) : Int) := by unfold wrap64; omega
theorem eqb (l : List Int) (hm : l.length ≤ 9223372036854775807) : ∀ (n i k : Nat), l.length - i = n → n < k → i ≤ l.length → gantryref0_EqBytes.l0 k l l i = some true
  | n, i, 0, _, h, _ => absurd h (by omega)
  | 0, i, k + 1, h0, h, hi => by
    unfold gantryref0_EqBytes.l0
    rw [if_neg (by omega)]
  | n + 1, i, k + 1, h0, h, hi => by
    unfold gantryref0_EqBytes.l0
    rw [if_pos (by omega), if_pos (by omega), if_pos (by omega), if_pos rfl, up i (by omega)]
    exact eqb l hm n (i + 1) k (by omega) (by omega) (by omega)
theorem eqb_f (l : List Int) (k : Nat) (hm : l.length ≤ 9223372036854775807) (hk : l.length < k) : gantryref0_EqBytes.f k l l = some true := by
  unfold gantryref0_EqBytes.f
  rw [if_pos rfl]
  exact eqb l hm l.length 0 k (by omega) hk (by omega)
theorem wakes_f (k : Nat) (hk : 9 ≤ k) : gantrylaw4_wakes.f k = some true := by
  have e : Vm.encC 1 3 0 0 0 0 0 128 0 = ([1, 49, 128, 0, 0, 0], 0) := by decide +kernel
  unfold gantrylaw4_wakes.f cisc_Encode.f gantrylaw4_num.f
  rw [e, if_pos (by decide)]
  simp only [Option.bind_some, if_true]
  rw [eqb_f _ k (by decide) (by simp; omega)]
  rfl
theorem rd_mem (l : List S46) (i : Nat) (h : i < l.length) : rd_T46 l i ∈ l := by
  unfold rd_T46
  simp [List.getD_eq_getElem?_getD, h]
def enc46 (x : S46) : List Int := Vm.layF x.f0 x.f1 x.f2 x.f3 x.f4 x.f5 x.f6 x.f7
def may46 (x : S46) : Bool := Vm.mayF x.f0 x.f1 x.f2 x.f3 x.f4 x.f5 x.f6 x.f7 x.f8
def rg46 (x : S46) : Prop := -9223372036854775808 ≤ x.f7 ∧ x.f7 ≤ 9223372036854775807
theorem rg_of (l : List S46) (hl : wfT41 l) (i : Nat) (h : i < l.length) : rg46 (rd_T46 l (i : Int)) := by
  have hx := hl.2 _ (rd_mem l i h)
  obtain ⟨_, _, _, _, _, _, _, h7, _⟩ := hx
  exact h7
theorem len46 (x : S46) : 1 ≤ (enc46 x).length ∧ (enc46 x).length ≤ 12 := Vm.lay_len ..
theorem byts46 (x : S46) : Vm.Ri.byts (enc46 x) = true := by
  unfold Vm.Ri.byts
  refine List.all_eq_true.2 fun y hy => ?_
  have := Vm.lay_rng _ _ _ _ _ _ _ _ y hy
  simp [this]
theorem encE (x : S46) (h : rg46 x) : cisc_Encode.f x.f0 x.f1 x.f2 x.f3 x.f4 x.f5 x.f6 x.f7 x.f8 = some (if may46 x = true then (enc46 x, 0) else ([], 40)) := by
  unfold cisc_Encode.f
  rw [if_pos (show -9223372036854775808 ≤ x.f7 ∧ x.f7 ≤ 9223372036854775807 from h)]
  rfl
theorem decE (x : S46) (h : rg46 x) (hx : may46 x = true) : Vm.decR (enc46 x) = (Vm.iC x.f0 x.f1 x.f2 x.f3 x.f4 x.f5 x.f6 x.f7 x.f8, (enc46 x).length, 0) := (Vm.f1_all _ _ _ _ _ _ _ _ _ h).2 hx
theorem dec46 (x : S46) (h : rg46 x) (hx : may46 x = true) (r : List Int) (hr : Vm.Ri.byts r = true) : cisc_Decode.f (enc46 x ++ r) = some (x.f0, x.f1, x.f2, x.f3, x.f4, x.f5, x.f6, x.f7, x.f8, ((enc46 x).length : Int), 0) := by
  have hd := Vm.dec_pre (l' := enc46 x ++ r) (decE x h hx) (by simp) (by simp)
  have hb : Vm.Ri.byts (enc46 x ++ r) = true := by
    have := byts46 x
    unfold Vm.Ri.byts at this hr ⊢
    rw [List.all_append, this, hr]; rfl
  unfold cisc_Decode.f
  rw [if_pos hb, hd]
  rfl
theorem cut46 (x : S46) (h : rg46 x) (hx : may46 x = true) (q : Nat) (hq : q < (enc46 x).length) : cisc_Decode.f ((enc46 x).take q) = some (0, 0, 0, 0, 0, 0, 0, 0, 0, 0, 41) := by
  have hd := Vm.dec_cut (decE x h hx) q hq
  have hb : Vm.Ri.byts ((enc46 x).take q) = true := by
    have := byts46 x
    unfold Vm.Ri.byts at this ⊢
    rw [List.all_eq_true] at this ⊢
    exact fun y hy => this y (List.mem_of_mem_take hy)
  unfold cisc_Decode.f
  rw [if_pos hb, hd]
  rfl
theorem copy_f (l : List Int) (h : l.length ≤ 4000) : gantryref0_CopyBytes.f l = some l := by
  unfold gantryref0_CopyBytes.f
  rw [if_pos (by simp; omega)]
  rfl
theorem bind_to {α β : Type} {o : Option α} {a : α} {F : α → Option β} {r : β} (h : o = some a) (hF : F a = some r) : o.bind F = some r := by rw [h]; exact hF
theorem back_in (l : List S46) (i : Nat) (x : S46) (h : rg46 x) (hx : may46 x = true) (K : Nat) (next : ∀ k, K ≤ k → gantrylaw4_CiscBack.l0 k l (wrap64 ((i : Int) + 1)) = some true) :
    ∀ (n j k : Nat), (enc46 x).length - j = n → n + K + 1 ≤ k → j ≤ (enc46 x).length → gantrylaw4_CiscBack.l1 k l i (enc46 x) j = some true
  | n, j, 0, _, h, _ => absurd h (by omega)
  | n, j, k + 1, hn, hk, hj => by
    have hlen := len46 x
    unfold gantrylaw4_CiscBack.l1
    by_cases hlt : j < (enc46 x).length
    · obtain ⟨m, rfl⟩ : ∃ m, n = m + 1 := ⟨n - 1, by omega⟩
      have ih := back_in l i x h hx K next m (j + 1) k (by omega) (by omega) (by omega)
      rw [if_pos (by omega), if_pos (by omega), if_pos (by omega), up j (by omega)]
      refine bind_to (copy_f _ (by rw [List.length_take]; omega)) ?_
      refine bind_to (cut46 x h hx j hlt) ?_
      refine bind_to (a := 41) rfl ?_
      rw [if_pos rfl, if_pos rfl]
      exact ih
    · rw [if_neg (by omega)]
      exact next k (by omega)
theorem back_end (l : List S46) (i k : Nat) (hi : i ≤ 100) (h : ¬ ((i : Int) < (l.length : Int) ∧ i < 100)) (hk : 40 ≤ k) : gantrylaw4_CiscBack.l0 k l i = some true := by
  obtain ⟨k, rfl⟩ : ∃ q, k = q + 3 := ⟨k - 3, by omega⟩
  unfold gantrylaw4_CiscBack.l0
  have hw := wakes_f (k + 1) (by omega)
  have hj : gantrylaw4_CiscBack.j1 (k + 2) l i false = some true := by
    unfold gantrylaw4_CiscBack.j1
    rw [if_neg (by simp), hw]
    rfl
  by_cases h1 : (i : Int) < (l.length : Int)
  · rw [if_pos h1, decide_eq_false (show ¬ (i : Int) < 100 by omega)]
    exact hj
  · rw [if_neg h1]
    exact hj
theorem j1_no (l : List S46) (i k : Nat) (h : (i : Int) < (l.length : Int)) (hr : rg46 (rd_T46 l (i : Int))) (hx : may46 (rd_T46 l (i : Int)) = false) (hn : gantrylaw4_CiscBack.l0 k l (wrap64 ((i : Int) + 1)) = some true) : gantrylaw4_CiscBack.j1 (k + 1) l i true = some true := by
  have e := encE (rd_T46 l (i : Int)) hr
  rw [hx, if_neg (by simp)] at e
  unfold gantrylaw4_CiscBack.j1
  rw [if_pos rfl, if_pos (by omega), if_pos h]
  refine bind_to e ?_
  refine bind_to (a := 40) rfl ?_
  rw [if_neg (by decide)]
  exact hn
theorem j1_yes (l : List S46) (i k : Nat) (h : (i : Int) < (l.length : Int)) (hk : 20 ≤ k) (hr : rg46 (rd_T46 l (i : Int))) (hx : may46 (rd_T46 l (i : Int)) = true) (hj2 : gantrylaw4_CiscBack.j2 k l i (enc46 (rd_T46 l (i : Int))) false = some true) : gantrylaw4_CiscBack.j1 (k + 1) l i true = some true := by
  have e := encE (rd_T46 l (i : Int)) hr
  rw [hx, if_pos rfl] at e
  have h8 := len46 (rd_T46 l (i : Int))
  have hdec := dec46 _ hr hx [1, 2, 3] rfl
  unfold gantrylaw4_CiscBack.j1
  rw [if_pos rfl, if_pos (by omega), if_pos h]
  refine bind_to e ?_
  refine bind_to (a := 0) rfl ?_
  rw [if_pos rfl]
  refine bind_to (copy_f _ (show (enc46 (rd_T46 l (i : Int))).length ≤ 4000 by omega)) ?_
  refine bind_to (a := [1, 2, 3]) rfl ?_
  have hlt : (enc46 (rd_T46 l (i : Int))).length + ([1, 2, 3] : List Int).length < 140737488355328 := by simp; omega
  rw [if_pos hlt]
  refine bind_to hdec ?_
  refine bind_to e ?_
  refine bind_to (a := 0) rfl ?_
  rw [if_pos rfl, if_pos rfl, if_neg (by simp)]
  refine bind_to (a := 0) rfl ?_
  rw [if_pos rfl]
  refine bind_to (eqb_f (enc46 (rd_T46 l (i : Int))) k (by omega) (by omega)) ?_
  exact hj2
theorem back_step (l : List S46) (hl : wfT41 l) (m i k : Nat) (h : (i : Int) < (l.length : Int) ∧ i < 100) (hk : 40 * m + 80 ≤ k) (nxt : ∀ k, 40 * m + 40 ≤ k → gantrylaw4_CiscBack.l0 k l (wrap64 ((i : Int) + 1)) = some true) : gantrylaw4_CiscBack.l0 k l i = some true := by
  obtain ⟨k, rfl⟩ : ∃ q, k = q + 3 := ⟨k - 3, by omega⟩
  have hr := rg_of l hl i (by omega)
  have h8 := len46 (rd_T46 l (i : Int))
  unfold gantrylaw4_CiscBack.l0
  rw [if_pos h.1, decide_eq_true (show (i : Int) < 100 by omega)]
  cases hx : may46 (rd_T46 l (i : Int)) with
  | false => exact j1_no l i (k + 1) h.1 hr hx (nxt (k + 1) (by omega))
  | true =>
    have inner := back_in l i _ hr hx (40 * m + 40) nxt _ 0 k rfl (by omega) (by omega)
    refine j1_yes l i (k + 1) h.1 (by omega) hr hx ?_
    unfold gantrylaw4_CiscBack.j2
    rw [if_neg (by simp)]
    exact inner
theorem back_loop (l : List S46) (hl : wfT41 l) (n : Nat) : ∀ (i k : Nat), 100 - i = n → 40 * n + 40 ≤ k → i ≤ 100 → gantrylaw4_CiscBack.l0 k l i = some true := by
  have hm : maxLen = 9223372036854775807 := rfl
  have hll := hl.1
  induction n with
  | zero => intro i k hn hk hi; exact back_end l i k hi (by omega) (by omega)
  | succ m ih =>
    intro i k hn hk hi
    by_cases h : (i : Int) < (l.length : Int) ∧ i < 100
    · refine back_step l hl m i k h (by omega) fun k hk => ?_
      rw [up i (by omega)]
      exact ih (i + 1) k (by omega) hk (by omega)
    · exact back_end l i k hi h (by omega)
theorem CiscBack (l : List S46) (hl : wfT41 l) : ∃ k, gantrylaw4_CiscBack.f k l = some true :=
  ⟨4040, back_loop l hl 100 0 4040 rfl (by omega) (by omega)⟩
end Go.Proofs.Ytahepinbmcgbnaa.Pure
