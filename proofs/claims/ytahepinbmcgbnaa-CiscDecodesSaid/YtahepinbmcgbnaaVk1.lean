/- From contracts over small memories to contracts in the printer's words. No condition. -/
import Derived.Test.YtahepinbmcgbnaaVp8
set_option linter.unusedVariables false
set_option linter.unusedSimpArgs false
namespace Go.Proofs.Ytahepinbmcgbnaa.Vm
open Go.RowKit Go.Proofs.Ytahepinbmcgbnaa.PV Go.Proofs.Ytahepinbmcgbnaa.Wd Go.Proofs.YtahepinbmcgbnaaW.PrintWords
def noB : Bs := fun _ => none
theorem mt_no (w : World) : Mt noB [] w := ⟨fun j b e => by simp at e, fun _ _ => rfl, fun j d e => by simp [noB] at e, fun i j ci cj di dj e => by simp at e, fun i j ci cj di dj e => by simp at e⟩
theorem below_ro {B B' : Bs} {l : List SV} {h' : Hp} {w w' : World} (s : Step B [.ro l] w B' h' w') : Below w.heap.size w w' :=
 ⟨s.fr.os, s.fr.tape, s.fr.output, s.fr.size, fun k hk => s.fr.block k hk (by
  rintro ⟨j, cs, d, e, _⟩
  rcases j with _ | j <;> simp at e)⟩
theorem below_no {B B' : Bs} {h' : Hp} {w w' : World} (s : Step B [] w B' h' w') : Below w.heap.size w w' :=
 ⟨s.fr.os, s.fr.tape, s.fr.output, s.fr.size, fun k hk => s.fr.block k hk (by
  rintro ⟨j, cs, d, e, _⟩
  simp at e)⟩
/-- An owned row of bytes, in the printer's words. -/
theorem row_of {B B' : Bs} {w w' : World} {L : List Int} {v : Value} (m : Mt B' [.rw (byC L)] w') (s : Step B [] w B' [.rw (byC L)] w') (r : SR B' (.so 0 L.length 1 5) v) : Kd.R (Kd.int .u8) 5 w' w.heap.size (fun _ => True) v L := by
 obtain ⟨cap, d, hB, rfl, h1, h2, h3, h4, h5⟩ := r
 obtain ⟨d', c, hB', hs, hh, hsz, hw⟩ := m.blk 0 _ rfl
 obtain rfl : d = d' := Option.some.inj (hB.symm.trans hB')
 have hbase : w.heap.size ≤ d.a.block := by
  rcases s.own d.a.block ⟨0, _, d, rfl, hB, rfl⟩ with ⟨j, cs, d2, e, _⟩ | q
  ·simp at e
  ·exact q
 have hd : d.a = ⟨d.a.block, 0, none⟩ := by
  cases hda : d.a with
  | mk b o sp => rw [hda] at hs h3; simp at hs h3; rw [hs, h3]
 refine Kd.R_of_own (enc := Value.int .u8) ⟨by simp [encs], .inr ⟨d.a.block, cap, c, by rw [← hd], hbase, by rw [hh, h5], h1, h2, by rw [hsz, h4], ?_⟩⟩ (fun _ _ => trivial)
 apply List.ext_getElem?
 intro i
 rw [Nat.mul_one, List.getElem?_take]
 by_cases hi : i < L.length
 ·rw [if_pos hi]
  obtain ⟨v, e1, e2⟩ := hw i (.a (.int .u8 L[i])) (by simp [byC, hi])
  rw [h3, Nat.zero_add] at e1
  rw [Array.getElem?_toList, e1]
  have e2 : v = .int .u8 L[i] := e2
  rw [e2]
  simp [encs, hi]
 ·rw [if_neg hi]
  simp [encs, Nat.le_of_not_lt hi]
/-- Bytes that are read, as a small memory. -/
theorem mt_ro {w : World} {A0 : Option Addr} {l : List Int} (h : Kd.C (Kd.int .u8) w A0 l.length l) : ∃ B, Mt B [.ro (byC l)] w ∧ ∀ c0, l.length ≤ c0 → SR B (.sl 0 0 l.length) (.slice A0 l.length c0) := by
 rcases Nat.eq_zero_or_pos l.length with hl | hl
 ·refine ⟨noB, ⟨fun j b e => ?_, fun _ _ => rfl, fun j d e => by simp [noB] at e, fun i j ci cj di dj e _ k => by simp [noB] at k, fun i j ci cj di dj e _ _ k => by simp [noB] at k⟩, fun c0 h0 => ⟨A0, c0, rfl, h0, fun q => by omega⟩⟩
  obtain rfl : l = [] := List.length_eq_zero_iff.1 hl
  rcases j with _ | j
  ·simp at e
   subst e
   intro i x hx
   simp [byC] at hx
  ·simp at e
 ·obtain ⟨ad, rfl, hc⟩ := h.2.2 hl
  have hcell : ∀ i (hi : i < l.length), w.cell? (ad.add i) = some (.int .u8 l[i]) := fun i hi => by
   obtain ⟨c, h1, h2, h3⟩ := hc i l[i] (by simp [hi])
   have h2 : c = [.int .u8 l[i]] := h2
   have := h3 0 (.int .u8 l[i]) (by rw [h2]; rfl)
   simpa [Kd.int, Kd.scalar] using this
  have hs : ad.spot = none := by
   have := hcell 0 hl
   unfold World.cell? at this
   rw [show ad.add 0 = ad by cases ad; rfl] at this
   cases hsp : ad.spot with
   | none => rfl
   | some x =>
    rw [hsp] at this
    split at this <;> simp at this
  refine ⟨fun j => if j = 0 then some ⟨ad, 0, 0⟩ else none, ⟨fun j b e => ?_, fun j hj => ?_, fun j d e => ?_, fun i j ci cj di dj e => ?_, fun i j ci cj di dj e => ?_⟩, fun c0 h0 => ⟨some ad, c0, rfl, h0, fun _ => ⟨⟨ad, 0, 0⟩, rfl, by rw [show ad.add 0 = ad by cases ad; rfl]⟩⟩⟩
  ·rcases j with _ | j
   ·simp at e
    subst e
    intro i x hx
    have hi : i < l.length := by
     have := (List.getElem?_eq_some_iff.1 hx).1
     simpa [byC] using this
    refine ⟨⟨ad, 0, 0⟩, .int .u8 l[i], rfl, hs, ?_, ?_⟩
    ·rw [← hcell i hi, add_eq hs]
    ·have : x = .a (.int .u8 l[i]) := by
      have := hx
      simp [byC, hi] at this
      exact this.symm
     subst this; rfl
   ·simp at e
  ·have : j ≠ 0 := by intro q; subst q; simp at hj
   simp [this]
  ·by_cases q : j = 0
   ·simp [q] at e; subst e; exact hs
   ·simp [q] at e
  ·rcases i with _ | i <;> simp at e
  ·rcases i with _ | i <;> simp at e
def Ri.byts (l : List Int) : Bool := l.all fun x => decide (0 ≤ x) && decide (x ≤ 255)
theorem byts_BY {l : List Int} (h : Ri.byts l = true) (hl : l.length ≤ maxLen) : BY l := ⟨hl, fun k hk => by
 have := List.all_eq_true.1 h _ (List.getElem_mem hk)
 simpa using this⟩
theorem two_of {B : Bs} {x : SV} {n : Int} {vs : List Value} (h : PL B [.s x, .s (.a (.int .i64 n))] vs) : ∃ v0, vs = [v0, .int .i64 n] ∧ SR B x v0 := by
 rcases vs with _ | ⟨v0, _ | ⟨v1, _ | ⟨v2, vs⟩⟩⟩
 ·exact h.elim
 ·exact h.2.elim
 ·obtain ⟨h1, h2, _⟩ := h
  have h2 : v1 = .int .i64 n := h2
  subst h2
  exact ⟨v0, rfl, h1⟩
 ·exact h.2.2.elim
/-- An instruction's bytes, and whether it is one. -/
def encC (o a b c k s z i m : Int) : List Int × Int := if mayF o a b c k s z i m = true then (layF o a b c k s z i, 0) else ([], 40)
theorem enc_calls (o a b c k s z i m : Int) (hi : -9223372036854775808 ≤ i ∧ i ≤ 9223372036854775807) (w : World) : Calls Try.prog 42 #[.agg #[.int .i64 o, .int .i64 a, .int .i64 b, .int .i64 c, .int .i64 k, .int .i64 s, .int .i64 z, .int .i64 i, .int .i64 m]] w
  fun e w' => ∃ v0_ : Value, e = .returned (.tuple #[v0_, .int .i64 (encC o a b c k s z i m).2]) ∧ Kd.R (Kd.int .u8) 5 w' w.heap.size (fun _ => True) v0_ (encC o a b c k s z i m).1 ∧ Below w.heap.size w w' := by
 have ar : AR noB [.g (iC o a b c k s z i m)] [.agg #[.int .i64 o, .int .i64 a, .int .i64 b, .int .i64 c, .int .i64 k, .int .i64 s, .int .i64 z, .int .i64 i, .int .i64 m]] := by
  refine ⟨⟨_, rfl, rfl, rfl, rfl, rfl, rfl, rfl, rfl, rfl, rfl, trivial⟩, trivial⟩
 have f1 := f1_all o a b c k s z i m hi
 cases hm : mayF o a b c k s z i m with
 | true =>
  have e : encC o a b c k s z i m = (layF o a b c k s z i, 0) := if_pos hm
  rw [e]
  refine (encode_wc o a b c k s z i m (fun q h => q = .ret (.t [.s (.so 0 (layF o a b c k s z i).length 1 5), .s (.a (.int .i64 0))]) ∧ h = [.rw (byC (layF o a b c k s z i))]) (fun _ => ⟨rfl, rfl⟩) (fun q => absurd (f1.2 hm) q) noB w _ (mt_no w) ar).mono ?_
  rintro e' w' ⟨q, h', B', ⟨rfl, rfl⟩, eo, m', st⟩
  cases e' <;> first | exact eo.elim | skip
  obtain ⟨vs, rfl, k1⟩ := eo
  obtain ⟨v0, rfl, k0⟩ := two_of k1
  exact ⟨v0, rfl, row_of m' st k0, below_no st⟩
 | false =>
  have e : encC o a b c k s z i m = ([], 40) := if_neg (by rw [hm]; decide)
  rw [e]
  refine (encode_wc o a b c k s z i m (fun q h => q = .ret (.t [.s (.a (.slice none 0 0)), .s (.a (.int .i64 40))]) ∧ h = []) (fun q => absurd (f1.1 q) (by rw [hm]; decide)) (fun _ => ⟨rfl, rfl⟩) noB w _ (mt_no w) ar).mono ?_
  rintro e' w' ⟨q, h', B', ⟨rfl, rfl⟩, eo, m', st⟩
  cases e' <;> first | exact eo.elim | skip
  obtain ⟨vs, rfl, k1⟩ := eo
  obtain ⟨v0, rfl, k0⟩ := two_of k1
  have k0 : v0 = .slice none 0 0 := k0
  subst k0
  exact ⟨_, rfl, Kd.R_nil _ _ _ _ _, below_no st⟩
/-- Decode's answer as a value: an instruction, two numbers. -/
def decV (f : List SV) (n e : Int) : Value := .tuple #[.agg #[.int .i64 (ci f 0), .int .i64 (ci f 1), .int .i64 (ci f 2), .int .i64 (ci f 3), .int .i64 (ci f 4), .int .i64 (ci f 5), .int .i64 (ci f 6), .int .i64 (ci f 7), .int .i64 (ci f 8)], .int .i64 n, .int .i64 e]
theorem dec_val {B : Bs} {o a b c k s z i m n e : Int} {v : Value} (h : PR B (.t [.g (iC o a b c k s z i m), .s (.a (.int .i64 n)), .s (.a (.int .i64 e))]) v) : v = decV (iC o a b c k s z i m) n e := by
 obtain ⟨vs, rfl, h⟩ := h
 rcases vs with _ | ⟨v0, _ | ⟨v1, _ | ⟨v2, _ | ⟨v3, vs⟩⟩⟩⟩
 ·exact h.elim
 ·exact h.2.elim
 ·exact h.2.2.elim
 ·obtain ⟨⟨us, rfl, hu⟩, h1, h2, _⟩ := h
  have h1 : v1 = .int .i64 n := h1
  have h2 : v2 = .int .i64 e := h2
  subst h1 h2
  rcases us with _ | ⟨u0, _ | ⟨u1, _ | ⟨u2, _ | ⟨u3, _ | ⟨u4, _ | ⟨u5, _ | ⟨u6, _ | ⟨u7, _ | ⟨u8, _ | ⟨u9, us⟩⟩⟩⟩⟩⟩⟩⟩⟩⟩
  all_goals first | exact hu.elim | exact hu.2.elim | exact hu.2.2.elim | exact hu.2.2.2.elim | exact hu.2.2.2.2.elim | exact hu.2.2.2.2.2.elim | exact hu.2.2.2.2.2.2.elim | exact hu.2.2.2.2.2.2.2.elim | exact hu.2.2.2.2.2.2.2.2.elim | exact hu.2.2.2.2.2.2.2.2.2.elim | skip
  obtain ⟨q0, q1, q2, q3, q4, q5, q6, q7, q8, _⟩ := hu
  have q0 : u0 = .int .i64 o := q0
  have q1 : u1 = .int .i64 a := q1
  have q2 : u2 = .int .i64 b := q2
  have q3 : u3 = .int .i64 c := q3
  have q4 : u4 = .int .i64 k := q4
  have q5 : u5 = .int .i64 s := q5
  have q6 : u6 = .int .i64 z := q6
  have q7 : u7 = .int .i64 i := q7
  have q8 : u8 = .int .i64 m := q8
  subst q0 q1 q2 q3 q4 q5 q6 q7 q8
  rfl
 ·exact h.2.2.2.elim
theorem dec_calls (A0 : Option Addr) (c0 : Nat) (l : List Int) (w : World) (hr : Kd.C (Kd.int .u8) w A0 l.length l) (hc : l.length ≤ c0) (hb : Ri.byts l = true) : Calls Try.prog 47 #[.slice A0 l.length c0] w
  fun e w' => e = .returned (decV (decR l).1 ((decR l).2.1 : Int) (decR l).2.2) ∧ Below w.heap.size w w' := by
 obtain ⟨B, mt, ar⟩ := mt_ro hr
 have hm : BY l := byts_BY hb (by have := hr.2.1; unfold maxLen; omega)
 obtain ⟨o, a, b, c, k, s, z, i, n, e, hd⟩ := decR_iC l
 refine (decode_wc l (fun q h => q = .ret (.t [.g (decR l).1, .s (.a (.int .i64 (decR l).2.1)), .s (.a (.int .i64 (decR l).2.2))]) ∧ h = [.ro (byC l)]) hm ⟨rfl, rfl⟩ B w [.slice A0 l.length c0] mt ⟨ar c0 hc, trivial⟩).mono ?_
 rw [hd]
 rintro e' w' ⟨q, h', B', ⟨rfl, rfl⟩, eo, m', st⟩
 cases e' <;> first | exact eo.elim | skip
 exact ⟨by rw [dec_val eo], below_ro st⟩
end Go.Proofs.Ytahepinbmcgbnaa.Vm
