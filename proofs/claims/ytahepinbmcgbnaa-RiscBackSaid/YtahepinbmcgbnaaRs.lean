/- Contracts of package gantryref3's functions: fields, has, unused, Reg, Small, May. No condition. -/
import Derived.Test.YtahepinbmcgbnaaRr
import Derived.Test.YtahepinbmcgbnaaWf
import Derived.Test.YtahepinbmcgbnaaRk
set_option linter.unusedVariables false
set_option linter.unusedSimpArgs false
namespace Go.Proofs.Ytahepinbmcgbnaa.Ri
open Go.RowKit Go.Proofs.Ytahepinbmcgbnaa.PA Go.Proofs.YtahepinbmcgbnaaW.PrintWords Go.Proofs.Ytahepinbmcgbnaa.Wd

/-- The letters of a code. -/
def fieldsF (op : Int) : ByteArray :=
  if op = 1 ∨ op = 2 ∨ op = 20 ∨ op = 21 then ⟨#[65, 73]⟩ else if op = 3 ∨ op = 26 then ⟨#[65, 66]⟩ else if op = 4 then ⟨#[65, 66, 67, 75, 83]⟩
  else if op = 7 ∨ op = 8 then ⟨#[65, 66, 75, 83]⟩ else if op = 9 then ⟨#[65, 66, 73]⟩ else if op = 11 ∨ op = 13 then ⟨#[65, 66, 75, 73]⟩ else if op = 15 then ⟨#[65, 66, 67, 73]⟩
  else if op = 19 ∨ op = 23 ∨ op = 25 ∨ op = 29 then ⟨#[73]⟩ else if op = 27 ∨ op = 28 then ⟨#[65]⟩ else if op = 24 then ⟨#[45]⟩ else ⟨#[]⟩
set_option maxHeartbeats 8000000 in
set_option maxRecDepth 100000 in
theorem fields_calls (op : Int) (w : World) : Calls Try.prog 72 #[.int .i64 op] w fun e w' => e = .returned (.string (fieldsF op)) ∧ w' = w := by
  by_cases hc : codes op
  · rcases hc with rfl | rfl | rfl | rfl | rfl | rfl | rfl | rfl | rfl | rfl | rfl | rfl | rfl | rfl | rfl | rfl | rfl | rfl | rfl | rfl
    all_goals
      go_enter Try.func72, Try.ntmps72
      go_wp2
      go_ret
      exact ⟨by simp [fieldsF], rfl⟩
  · unfold codes at hc
    have b1 : (op == 1) = false := beq_eq_false_iff_ne.mpr (by omega)
    have b2 : (op == 2) = false := beq_eq_false_iff_ne.mpr (by omega)
    have b20 : (op == 20) = false := beq_eq_false_iff_ne.mpr (by omega)
    have b21 : (op == 21) = false := beq_eq_false_iff_ne.mpr (by omega)
    have b3 : (op == 3) = false := beq_eq_false_iff_ne.mpr (by omega)
    have b26 : (op == 26) = false := beq_eq_false_iff_ne.mpr (by omega)
    have b4 : (op == 4) = false := beq_eq_false_iff_ne.mpr (by omega)
    have b7 : (op == 7) = false := beq_eq_false_iff_ne.mpr (by omega)
    have b8 : (op == 8) = false := beq_eq_false_iff_ne.mpr (by omega)
    have b9 : (op == 9) = false := beq_eq_false_iff_ne.mpr (by omega)
    have b11 : (op == 11) = false := beq_eq_false_iff_ne.mpr (by omega)
    have b13 : (op == 13) = false := beq_eq_false_iff_ne.mpr (by omega)
    have b15 : (op == 15) = false := beq_eq_false_iff_ne.mpr (by omega)
    have b19 : (op == 19) = false := beq_eq_false_iff_ne.mpr (by omega)
    have b23 : (op == 23) = false := beq_eq_false_iff_ne.mpr (by omega)
    have b25 : (op == 25) = false := beq_eq_false_iff_ne.mpr (by omega)
    have b29 : (op == 29) = false := beq_eq_false_iff_ne.mpr (by omega)
    have b27 : (op == 27) = false := beq_eq_false_iff_ne.mpr (by omega)
    have b28 : (op == 28) = false := beq_eq_false_iff_ne.mpr (by omega)
    have b24 : (op == 24) = false := beq_eq_false_iff_ne.mpr (by omega)
    have hk : fieldsF op = ⟨#[]⟩ := by unfold fieldsF; rw [if_neg (by omega), if_neg (by omega), if_neg (by omega), if_neg (by omega), if_neg (by omega), if_neg (by omega), if_neg (by omega), if_neg (by omega), if_neg (by omega), if_neg (by omega)]
    rw [hk]
    clear hk hc
    go_enter Try.func72, Try.ntmps72
    go_wp2
    go_ret
    exact ⟨rfl, rfl⟩
/-- Is a letter among a code's letters? -/
def lets (op c : Int) : Bool := (fieldsF op).toList.any fun x => (x.toNat : Int) == c
theorem has_lits (op c : Int) (hc : c = 65 ∨ c = 66 ∨ c = 67 ∨ c = 75 ∨ c = 83 ∨ c = 73) : gantryref3_has.f 9 (fieldsF op) c = some (lets op c) := by
  have key : ∀ s : ByteArray, s ∈ [(⟨#[65, 73]⟩ : ByteArray), ⟨#[65, 66]⟩, ⟨#[65, 66, 67, 75, 83]⟩, ⟨#[65, 66, 75, 83]⟩, ⟨#[65, 66, 73]⟩, ⟨#[65, 66, 75, 73]⟩, ⟨#[65, 66, 67, 73]⟩, ⟨#[73]⟩, ⟨#[65]⟩, ⟨#[45]⟩, ⟨#[]⟩] → ∀ c, c = 65 ∨ c = 66 ∨ c = 67 ∨ c = 75 ∨ c = 83 ∨ c = 73 → gantryref3_has.f 9 s c = some (s.toList.any fun x => (x.toNat : Int) == c) := by
    intro s hs c hc
    simp only [List.mem_cons, List.not_mem_nil, or_false] at hs
    rcases hs with rfl | rfl | rfl | rfl | rfl | rfl | rfl | rfl | rfl | rfl | rfl <;> rcases hc with rfl | rfl | rfl | rfl | rfl | rfl <;> decide +kernel
  refine key _ ?_ c hc
  unfold fieldsF
  repeat' split
  all_goals simp
theorem rhas_calls (op c : Int) (hc : c = 65 ∨ c = 66 ∨ c = 67 ∨ c = 75 ∨ c = 83 ∨ c = 73) (w : World) : Calls Try.prog 76 #[.string (fieldsF op), .int .u8 c] w fun e w' => e = .returned (.bool (lets op c)) ∧ Drawn0 w w' :=
  gantryref3_has.calls 9 _ _ _ w (has_lits op c hc)
theorem unused_calls (op c n : Int) (hc : c = 65 ∨ c = 66 ∨ c = 67 ∨ c = 75 ∨ c = 83 ∨ c = 73) (w : World) : Calls Try.prog 75 #[.string (fieldsF op), .int .u8 c, .int .i64 n] w fun e w' => e = .returned (.bool (lets op c || n == 0)) ∧ Drawn0 w w' :=
  gantryref3_unused.calls 9 _ _ _ _ w (by unfold gantryref3_unused.f; rw [has_lits op c hc]; cases lets op c <;> simp)
def smallF (n : Int) : Bool := decide (-2147483648 ≤ n) && decide (n < 2147483648)
theorem rreg_calls (n : Int) (w : World) : Calls Try.prog 73 #[.int .i64 n] w fun e w' => e = .returned (.bool (regF n)) ∧ Drawn0 w w' :=
  gantryref3_Reg.calls n _ w (by unfold gantryref3_Reg.f regF; by_cases h : 0 ≤ n <;> simp [h])
theorem rsmall_calls (n : Int) (w : World) : Calls Try.prog 74 #[.int .i64 n] w fun e w' => e = .returned (.bool (smallF n)) ∧ Drawn0 w w' :=
  gantryref3_Small.calls n _ w (by unfold gantryref3_Small.f smallF; by_cases h : -2147483648 ≤ n <;> simp [h])
theorem hasBin_calls (s k : Int) (w : World) : Calls Try.prog 60 #[.int .i64 s, .int .i64 k] w fun e w' => e = .returned (.bool (has s k)) ∧ Drawn0 w w' := gantryref1_HasBin.calls 1 _ _ _ w (rHasBin_eq 0 s k)
theorem hasUn_calls (s k : Int) (w : World) : Calls Try.prog 59 #[.int .i64 s, .int .i64 k] w fun e w' => e = .returned (.bool (hasU s k)) ∧ Drawn0 w w' := gantryref1_HasUn.calls _ _ _ w (rHasUn_eq s k)
theorem hasConv_calls (s k : Int) (w : World) : Calls Try.prog 67 #[.int .i64 s, .int .i64 k] w fun e w' => e = .returned (.bool (nu s && nu k)) ∧ Drawn0 w w' := gantryref1_HasConv.calls _ _ _ w (rHasConv_eq s k)
theorem word_calls (k : Int) (w : World) : Calls Try.prog 70 #[.int .i64 k] w fun e w' => e = .returned (.bool (wd k)) ∧ Drawn0 w w' := gantryref1_Word.calls _ _ w (rWord_eq k)
/-- May's last question. -/
def tailF (o k s i : Int) : Bool :=
  if o = 4 then has s k else if o = 7 then hasU s k else if o = 8 then (nu s && nu k) else if o = 11 ∨ o = 13 then wd k else if o = 15 then regF i else if o = 25 then decide (0 ≤ i) else if o = 29 then decide (0 < i) else true
/-- May: is it an instruction of R64? -/
def rmayF (o a b c k s z i l : Int) : Bool :=
  (!(fieldsF o).toList.isEmpty) && (!(z != 0) && (!(l != 0) && (regF a && (regF b && (regF c && (smallF i && ((lets o 65 || a == 0) && ((lets o 66 || b == 0) && ((lets o 67 || c == 0) && ((lets o 75 || k == 0) && ((lets o 83 || s == 0) && ((lets o 73 || !(i != 0)) && tailF o k s i))))))))))))
end Go.Proofs.Ytahepinbmcgbnaa.Ri
