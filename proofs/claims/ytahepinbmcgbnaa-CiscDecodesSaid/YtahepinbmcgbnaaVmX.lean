/- Several texts in one: VmA VmB VmC VmD VmE VmF VmG VmH. No condition. -/
import Derived.Below
import Derived.Laws.AppendOwn
import Derived.Laws.IdiomCopy
import Derived.WideLaws
import Derived.WalkLawsBesides
import Derived.Laws.StructEq
section
/- Small memories: a reckoning of a call over blocks of its own numbering, and how it stands to the machine's memory. No condition. -/
set_option linter.unusedVariables false
set_option linter.unusedSimpArgs false
namespace Go.Proofs.Ytahepinbmcgbnaa.Vm
open Go.RowKit

/-- What stands in one cell: a value without addresses; an address; a slice that is read; one that is owned (its block, length, cells an element, element's type); an address in an interface; a closure over addresses. -/
inductive SV where
  | a (v : Value)
  | p (j off : Nat)
  | sl (j off len : Nat)
  | so (j len es : Nat) (ty : TypeId)
  | ip (t : TypeId) (j off : Nat)
  | clo (f : FuncId) (cs : List (Nat × Nat))

/-- Where a block lies: its first cell, how many cells the machine's block has, of what type. -/
structure Bd where
  a : Addr
  r : Nat
  ty : TypeId
abbrev Bs := Nat → Option Bd

def PM (B : Bs) (j off : Nat) (x : Value) : Prop := ∃ d, B j = some d ∧ x = .pointer (some (d.a.add off))
def CL (B : Bs) : List (Nat × Nat) → List Value → Prop
  | [], [] => True
  | q :: r, v :: vs => PM B q.1 q.2 v ∧ CL B r vs
  | _, _ => False
/-- A cell's value, in the machine. -/
def SR (B : Bs) : SV → Value → Prop
  | .a v, x => x = v
  | .p j off, x => PM B j off x
  | .sl j off len, x => ∃ q cap, x = .slice q len cap ∧ len ≤ cap ∧ (0 < len → ∃ d, B j = some d ∧ q = some (d.a.add off))
  | .so j len es ty, x => ∃ cap d, B j = some d ∧ x = .slice (some d.a) len cap ∧ len ≤ cap ∧ cap ≤ maxLen ∧ d.a.off = 0 ∧ d.r = cap * es ∧ d.ty = ty
  | .ip t j off, x => ∃ v, x = .iface t v ∧ PM B j off v
  | .clo f cs, x => ∃ vs : List Value, x = .func (.func f) #[] vs.toArray ∧ CL B cs vs
def LR (B : Bs) : List SV → List Value → Prop
  | [], [] => True
  | x :: xs, v :: vs => SR B x v ∧ LR B xs vs
  | _, _ => False

def Ext (B B' : Bs) : Prop := ∀ j d, B j = some d → B' j = some d
theorem Ext.refl (B : Bs) : Ext B B := fun _ _ h => h
theorem Ext.trans {a b c : Bs} (h : Ext a b) (k : Ext b c) : Ext a c := fun j d e => k j d (h j d e)
theorem PM.mono {B B' : Bs} (h : Ext B B') {j off : Nat} {x : Value} (k : PM B j off x) : PM B' j off x := let ⟨d, e, f⟩ := k; ⟨d, h _ _ e, f⟩
theorem CL.mono {B B' : Bs} (h : Ext B B') : ∀ {l : List (Nat × Nat)} {vs : List Value}, CL B l vs → CL B' l vs
  | [], [], k => k
  | [], _ :: _, k => k
  | _ :: _, [], k => k
  | _ :: _, _ :: _, k => ⟨k.1.mono h, CL.mono h k.2⟩
theorem SR.mono {B B' : Bs} (h : Ext B B') : ∀ {s : SV} {x : Value}, SR B s x → SR B' s x
  | .a _, _, k => k
  | .p _ _, _, k => PM.mono h k
  | .sl _ _ _, _, ⟨q, cap, e, l, f⟩ => ⟨q, cap, e, l, fun z => let ⟨d, g, i⟩ := f z; ⟨d, h _ _ g, i⟩⟩
  | .so _ _ _ _, _, ⟨cap, d, e, f⟩ => ⟨cap, d, h _ _ e, f⟩
  | .ip _ _ _, _, ⟨v, e, f⟩ => ⟨v, e, f.mono h⟩
  | .clo _ _, _, ⟨vs, e, f⟩ => ⟨vs, e, f.mono h⟩
theorem LR.mono {B B' : Bs} (h : Ext B B') : ∀ {l : List SV} {vs : List Value}, LR B l vs → LR B' l vs
  | [], [], k => k
  | [], _ :: _, k => k
  | _ :: _, [], k => k
  | _ :: _, _ :: _, k => ⟨k.1.mono h, LR.mono h k.2⟩
theorem LR.len {B : Bs} : ∀ {l : List SV} {vs : List Value}, LR B l vs → l.length = vs.length
  | [], [], _ => rfl
  | [], _ :: _, k => k.elim
  | _ :: _, [], k => k.elim
  | _ :: _, _ :: _, k => congrArg (· + 1) (LR.len k.2)
theorem LR.get {B : Bs} : ∀ {l : List SV} {vs : List Value}, LR B l vs → ∀ (i : Nat) (x : SV), l[i]? = some x → ∃ v, vs[i]? = some v ∧ SR B x v
  | [], [], _, i, x, e => by simp at e
  | [], _ :: _, k, _, _, _ => k.elim
  | _ :: _, [], k, _, _, _ => k.elim
  | x :: xs, v :: vs, k, 0, y, e => by simp at e; subst e; exact ⟨v, rfl, k.1⟩
  | x :: xs, v :: vs, k, i + 1, y, e => by simpa using LR.get k.2 i y (by simpa using e)
theorem LR.of {B : Bs} : ∀ {l : List SV} {vs : List Value}, l.length = vs.length → (∀ (i : Nat) (x : SV), l[i]? = some x → ∃ v, vs[i]? = some v ∧ SR B x v) → LR B l vs
  | [], [], _, _ => trivial
  | [], _ :: _, h, _ => by simp at h
  | _ :: _, [], h, _ => by simp at h
  | x :: xs, v :: vs, h, k => by
    refine ⟨?_, LR.of (by simpa using h) fun i y e => by simpa using k (i + 1) y (by simpa using e)⟩
    obtain ⟨u, e, r⟩ := k 0 x rfl
    simp at e; subst e; exact r
theorem LR.append {B : Bs} : ∀ {l : List SV} {vs : List Value} {l' : List SV} {vs' : List Value}, LR B l vs → LR B l' vs' → LR B (l ++ l') (vs ++ vs')
  | [], [], _, _, _, k => k
  | [], _ :: _, _, _, h, _ => h.elim
  | _ :: _, [], _, _, h, _ => h.elim
  | _ :: _, _ :: _, _, _, h, k => ⟨h.1, LR.append h.2 k⟩
theorem LR.take {B : Bs} : ∀ {l : List SV} {vs : List Value} (n : Nat), LR B l vs → LR B (l.take n) (vs.take n)
  | [], [], n, _ => by simp [LR]
  | [], _ :: _, _, h => h.elim
  | _ :: _, [], _, h => h.elim
  | _ :: _, _ :: _, 0, _ => by simp [LR]
  | _ :: _, _ :: _, n + 1, h => ⟨h.1, LR.take n h.2⟩
theorem LR.drop {B : Bs} : ∀ {l : List SV} {vs : List Value} (n : Nat), LR B l vs → LR B (l.drop n) (vs.drop n)
  | [], [], n, _ => by simp [LR]
  | [], _ :: _, _, h => h.elim
  | _ :: _, [], _, h => h.elim
  | _ :: _, _ :: _, 0, h => h
  | _ :: _, _ :: _, n + 1, h => LR.drop n h.2

/-- A block: the call's own, or handed to it, and written; read alone; gone. -/
inductive Blk where
  | rw (c : List SV)
  | ro (c : List SV)
  | dead
abbrev Hp := List Blk

/-- A window of a row of cells. -/
def Wn (B : Bs) (c : Array Value) (o : Nat) (cs : List SV) : Prop := ∀ i x, cs[i]? = some x → ∃ v, c[o + i]? = some v ∧ SR B x v
def BM (B : Bs) (w : World) (j : Nat) : Blk → Prop
  | .rw cs => ∃ d c, B j = some d ∧ d.a.spot = none ∧ w.heap[d.a.block]? = some (.cells c d.ty (0, 0)) ∧ c.size = d.r ∧ Wn B c d.a.off cs
  | .ro cs => ∀ i x, cs[i]? = some x → ∃ d v, B j = some d ∧ d.a.spot = none ∧ w.cell? ⟨d.a.block, d.a.off + i, none⟩ = some v ∧ SR B x v
  | .dead => True
def Own (B : Bs) (h : Hp) (b : Nat) : Prop := ∃ j cs d, h[j]? = some (.rw cs) ∧ B j = some d ∧ d.a.block = b
structure Mt (B : Bs) (h : Hp) (w : World) : Prop where
  blk : ∀ j b, h[j]? = some b → BM B w j b
  dom : ∀ j, h.length ≤ j → B j = none
  spt : ∀ j d, B j = some d → d.a.spot = none
  sep : ∀ i j ci cj di dj, h[i]? = some (.rw ci) → h[j]? = some (.rw cj) → B i = some di → B j = some dj → di.a.block = dj.a.block → i = j
  sepr : ∀ i j ci cj di dj, h[i]? = some (.rw ci) → h[j]? = some (.ro cj) → cj ≠ [] → B i = some di → B j = some dj → di.a.block ≠ dj.a.block
/-- What a run leaves alone: all old blocks but its own. -/
structure Fr (own : Nat → Prop) (w w' : World) : Prop where
  os : w'.os = w.os
  tape : w'.tape = w.tape
  output : w'.output = w.output
  size : w.heap.size ≤ w'.heap.size
  block : ∀ k, k < w.heap.size → ¬ own k → w'.heap[k]? = w.heap[k]?
structure Step (B : Bs) (h : Hp) (w : World) (B' : Bs) (h' : Hp) (w' : World) : Prop where
  ext : Ext B B'
  fr : Fr (Own B h) w w'
  own : ∀ b, Own B' h' b → Own B h b ∨ w.heap.size ≤ b
  len : h.length ≤ h'.length
  old : ∀ j, j < h.length → B' j = B j
  rok : ∀ (j : Nat) (c : List SV), h'[j]? = some (.ro c) → h[j]? = some (.ro c)
theorem Step.refl (B : Bs) (h : Hp) (w : World) : Step B h w B h w := ⟨Ext.refl B, ⟨rfl, rfl, rfl, Nat.le_refl _, fun _ _ _ => rfl⟩, fun _ k => .inl k, Nat.le_refl _, fun _ _ => rfl, fun _ _ e => e⟩
theorem rok_set {h : Hp} {i : Nat} {b : Blk} (hb : ∀ c, b ≠ .ro c) (j : Nat) (c : List SV) (e : (h.set i b)[j]? = some (.ro c)) : h[j]? = some (.ro c) := by
  rw [List.getElem?_set] at e
  split at e
  · first
      | (split at e
         · exact absurd (Option.some.inj e) (hb c)
         · cases e)
      | exact absurd (Option.some.inj e) (hb c)
  · exact e
theorem rok_app {h h0 : Hp} {cs : List SV} (hh : ∀ (j : Nat) (c : List SV), h[j]? = some (.ro c) → h0[j]? = some (.ro c)) (j : Nat) (c : List SV) (e : (h ++ [Blk.rw cs])[j]? = some (.ro c)) : h0[j]? = some (.ro c) := by
  rcases Nat.lt_or_ge j h.length with k | k
  · rw [List.getElem?_append_left k] at e; exact hh j c e
  · rw [List.getElem?_append_right k] at e
    cases hq : j - h.length with
    | zero => rw [hq] at e; simp at e
    | succ n => rw [hq] at e; simp at e
theorem Step.trans {B h w B' h' w' B'' h'' w''} (s : Step B h w B' h' w') (t : Step B' h' w' B'' h'' w'') : Step B h w B'' h'' w'' :=
  ⟨s.ext.trans t.ext, ⟨t.fr.os.trans s.fr.os, t.fr.tape.trans s.fr.tape, t.fr.output.trans s.fr.output, Nat.le_trans s.fr.size t.fr.size, fun k hk hn => by
      rw [t.fr.block k (Nat.lt_of_lt_of_le hk s.fr.size) (fun o => by rcases s.own k o with o | o; exact hn o; omega), s.fr.block k hk hn]⟩,
    fun b o => by rcases t.own b o with o | o; exact s.own b o; exact .inr (Nat.le_trans s.fr.size o), Nat.le_trans s.len t.len, fun j hj => (t.old j (Nat.lt_of_lt_of_le hj s.len)).trans (s.old j hj), fun j c e => s.rok j c (t.rok j c e)⟩

theorem add_eq {a : Addr} (h : a.spot = none) (n : Nat) : a.add n = ⟨a.block, a.off + n, none⟩ := by
  cases a; simp at h; subst h; unfold Addr.add; split <;> simp_all
theorem add_add {a : Addr} (h : a.spot = none) (n m : Nat) : (a.add n).add m = a.add (n + m) := by
  rw [add_eq h, add_eq h, add_eq rfl]; simp [Nat.add_assoc]
theorem own_lt {B : Bs} {h : Hp} {w : World} (m : Mt B h w) {b : Nat} (o : Own B h b) : b < w.heap.size := by
  obtain ⟨j, cs, d, hj, hB, rfl⟩ := o
  obtain ⟨d', c, e, _, hh, _⟩ := m.blk j _ hj
  obtain rfl : d = d' := Option.some.inj (hB.symm.trans e)
  exact (Array.getElem?_eq_some_iff.1 hh).1
theorem cell_lt {w : World} {b o : Nat} {v : Value} (h : w.cell? ⟨b, o, none⟩ = some v) : b < w.heap.size := by
  unfold World.cell? at h
  split at h
  · rename_i hh; exact (Array.getElem?_eq_some_iff.1 hh).1
  · cases h

/-- The cells that stand at a place. -/
def ldN (h : Hp) (j off n : Nat) : Option (List SV) :=
  match h[j]? with
  | some (.rw cs) => if off + n ≤ cs.length then some ((cs.drop off).take n) else none
  | some (.ro cs) => if off + n ≤ cs.length then some ((cs.drop off).take n) else none
  | _ => none
theorem wn_vals {B : Bs} {f : Nat → Option Value} : ∀ (cs : List SV), (∀ (i : Nat) (x : SV), cs[i]? = some x → ∃ v, f i = some v ∧ SR B x v) → ∃ vs, LR B cs vs ∧ ∀ (i : Nat) (v : Value), vs[i]? = some v → f i = some v
  | [], _ => ⟨[], trivial, fun i v e => by simp at e⟩
  | x :: xs, k => by
    obtain ⟨v, e, r⟩ := k 0 x rfl
    obtain ⟨vs, l, q⟩ := wn_vals (f := fun i => f (i + 1)) xs (fun i y e => k (i + 1) y (by simpa using e))
    refine ⟨v :: vs, ⟨r, l⟩, fun i u e' => ?_⟩
    cases i with
    | zero => simp at e'; subst e'; exact e
    | succ i => exact q i u (by simpa using e')
theorem ldN_sound {B : Bs} {h : Hp} {w : World} (m : Mt B h w) {j off n : Nat} {xs : List SV} (e : ldN h j off n = some xs) (hn : 0 < n) :
    xs.length = n ∧ ∃ d vs, B j = some d ∧ d.a.spot = none ∧ LR B xs vs ∧ ∀ i v, vs[i]? = some v → w.cell? ((d.a.add off).add i) = some v := by
  unfold ldN at e
  split at e
  · rename_i cs hj
    split at e
    · rename_i hle
      cases e
      obtain ⟨d, c, hB, hs, hh, hr, hw⟩ := m.blk j _ hj
      refine ⟨by simp; omega, d, ?_⟩
      obtain ⟨vs, l, q⟩ := wn_vals (B := B) (f := fun i => w.cell? ((d.a.add off).add i)) ((cs.drop off).take n) (fun i x hx => by
        rw [List.getElem?_take] at hx
        split at hx
        · rw [List.getElem?_drop] at hx
          obtain ⟨v, hv, r⟩ := hw _ _ hx
          refine ⟨v, ?_, r⟩
          rw [add_add hs, add_eq hs]
          simp [World.cell?, hh, hv]
        · cases hx)
      exact ⟨vs, hB, hs, l, q⟩
    · cases e
  · rename_i cs hj
    split at e
    · rename_i hle
      cases e
      have hb := m.blk j _ hj
      obtain ⟨x0, hx0⟩ : ∃ x, cs[off]? = some x := ⟨_, List.getElem?_eq_getElem (by omega)⟩
      obtain ⟨d, v0, hB, hs, _, _⟩ := hb _ _ hx0
      refine ⟨by simp; omega, d, ?_⟩
      obtain ⟨vs, l, q⟩ := wn_vals (B := B) (f := fun i => w.cell? ((d.a.add off).add i)) ((cs.drop off).take n) (fun i x hx => by
        rw [List.getElem?_take] at hx
        split at hx
        · rw [List.getElem?_drop] at hx
          obtain ⟨d', v, hB', _, hv, r⟩ := hb _ _ hx
          obtain rfl : d = d' := Option.some.inj (hB.symm.trans hB')
          refine ⟨v, ?_, r⟩
          rw [add_add hs, add_eq hs]
          exact hv
        · cases hx)
      exact ⟨vs, hB, hs, l, q⟩
    · cases e
  · cases e

/-- A row of cells laid at a place. -/
def stN (h : Hp) (j off : Nat) (xs : List SV) : Option Hp :=
  match h[j]? with
  | some (.rw cs) => if off + xs.length ≤ cs.length then some (h.set j (.rw (cs.take off ++ xs ++ cs.drop (off + xs.length)))) else none
  | _ => none
theorem setRow_other' (w : World) (g k : Nat) (cs : Array Value) (h : k ≠ g) : (w.setRow g cs).heap[k]? = w.heap[k]? := by
  simp only [World.setRow, Array.getElem?_modify]
  rw [if_neg (by omega)]
theorem setRow_size (w : World) (g : Nat) (cs : Array Value) : (w.setRow g cs).heap.size = w.heap.size := by simp [World.setRow]
theorem own_set {B : Bs} {h : Hp} {j : Nat} {cs cs' : List SV} (hj : h[j]? = some (.rw cs)) {b : Nat} : Own B (h.set j (.rw cs')) b → Own B h b := by
  rintro ⟨i, ci, d, hi, hB, e⟩
  by_cases hij : j = i
  · subst hij; exact ⟨j, cs, d, hj, hB, e⟩
  · rw [List.getElem?_set_ne hij] at hi; exact ⟨i, ci, d, hi, hB, e⟩
/-- One of the blocks is written anew. -/
theorem Mt.upd {B : Bs} {h : Hp} {w w' : World} (m : Mt B h w) {j : Nat} {cs cs' : List SV} {d : Bd} {c' : Array Value} (hj : h[j]? = some (.rw cs)) (hB : B j = some d)
    (hh : w'.heap[d.a.block]? = some (.cells c' d.ty (0, 0))) (hr : c'.size = d.r) (hw : Wn B c' d.a.off cs')
    (ho : ∀ k, k ≠ d.a.block → w'.heap[k]? = w.heap[k]?) : Mt B (h.set j (.rw cs')) w' := by
  have hjl : j < h.length := (List.getElem?_eq_some_iff.1 hj).1
  have hs : d.a.spot = none := by obtain ⟨d', c, e, s, _⟩ := m.blk j _ hj; rw [Option.some.inj (hB.symm.trans e)]; exact s
  have back : ∀ i b, (h.set j (.rw cs'))[i]? = some b → i ≠ j → h[i]? = some b := fun i b e hn => by rwa [List.getElem?_set_ne (Ne.symm hn)] at e
  have rwb : ∀ i ci, (h.set j (.rw cs'))[i]? = some (Blk.rw ci) → ∃ c0, h[i]? = some (Blk.rw c0) := fun i ci e => by
    by_cases hn : i = j
    · subst hn; exact ⟨cs, hj⟩
    · exact ⟨ci, back i _ e hn⟩
  have rob : ∀ i ci, (h.set j (.rw cs'))[i]? = some (Blk.ro ci) → i ≠ j ∧ h[i]? = some (.ro ci) := fun i ci e => by
    by_cases hn : i = j
    · subst hn; rw [List.getElem?_set_self hjl] at e; cases e
    · exact ⟨hn, back i _ e hn⟩
  refine ⟨fun i b e => ?_, fun i hi => m.dom i (by simpa using hi), m.spt, fun i k ci ck di dk ei ek bi bk q => ?_, fun i k ci ck di dk ei ek hne bi bk => ?_⟩
  · by_cases hn : i = j
    · subst hn
      rw [List.getElem?_set_self hjl] at e
      cases e
      exact ⟨d, c', hB, hs, hh, hr, hw⟩
    · have e' := back i b e hn
      have hb := m.blk i b e'
      cases b with
      | rw ci =>
        obtain ⟨di, c, hBi, hsi, hhi, hri, hwi⟩ := hb
        refine ⟨di, c, hBi, hsi, ?_, hri, hwi⟩
        rw [ho]; exact hhi
        intro q; exact hn (m.sep i j ci cs di d e' hj hBi hB q)
      | ro ci =>
        intro k x hx
        obtain ⟨di, v, hBi, hsi, hc, r⟩ := hb k x hx
        refine ⟨di, v, hBi, hsi, ?_, r⟩
        have hne : ci ≠ [] := fun q => by simp [q] at hx
        rw [World.cell?_of_block (w := w) (ho _ ?_)]
        · exact hc
        · exact fun q => m.sepr j i cs ci d di hj e' hne hB hBi q.symm
      | dead => trivial
  · obtain ⟨c1, h1⟩ := rwb i ci ei
    obtain ⟨c2, h2⟩ := rwb k ck ek
    exact m.sep i k c1 c2 di dk h1 h2 bi bk q
  · obtain ⟨c1, h1⟩ := rwb i ci ei
    exact m.sepr i k c1 ck di dk h1 (rob k ck ek).2 hne bi bk
def scell : SV → Bool
  | .a (.agg _) => false
  | .a (.tuple _) => false
  | _ => true
theorem SR.one {B : Bs} : ∀ {s : SV} {x : Value}, SR B s x → scell s = true → x.oneCell' = true
  | .a u, x, k, h => by cases (show x = u from k); cases u <;> first | rfl | simp [scell] at h
  | .p _ _, _, ⟨_, _, e⟩, _ => by subst e; rfl
  | .sl _ _ _, _, ⟨_, _, e, _⟩, _ => by subst e; rfl
  | .so _ _ _ _, _, ⟨_, _, _, e, _⟩, _ => by subst e; rfl
  | .ip _ _ _, _, ⟨_, e, _⟩, _ => by subst e; rfl
  | .clo _ _, _, ⟨_, e, _⟩, _ => by subst e; rfl
theorem LR.one {B : Bs} : ∀ {l : List SV} {vs : List Value}, LR B l vs → l.all scell = true → ∀ v ∈ vs, v.oneCell' = true
  | [], [], _, _, v, hv => by simp at hv
  | [], _ :: _, k, _, _, _ => k.elim
  | _ :: _, [], k, _, _, _ => k.elim
  | x :: xs, u :: vs, k, h, v, hv => by
    simp only [List.all_cons, Bool.and_eq_true] at h
    rcases List.mem_cons.1 hv with rfl | hv
    · exact k.1.one h.1
    · exact LR.one k.2 h.2 v hv
theorem stN_sound {P : Program} {B : Bs} {h h' : Hp} {w : World} (m : Mt B h w) {j off : Nat} {xs : List SV} {vs : List Value} (e : stN h j off xs = some h') (l : LR B xs vs) (ho : xs.all scell = true) :
    ∃ d w', B j = some d ∧ d.a.spot = none ∧ (storeCells (d.a.add off) vs).run P w = .ok () w' ∧ Mt B h' w' ∧ Step B h w B h' w' := by
  unfold stN at e
  split at e
  · rename_i cs hj
    split at e
    · rename_i hle
      cases e
      obtain ⟨d, c, hB, hs, hh, hr, hw⟩ := m.blk j _ hj
      have hlen := l.len
      have hsz : d.a.off + off + vs.length ≤ c.size ∨ vs = [] := by
        by_cases hv : vs = []
        · exact .inr hv
        · left
          have hpos : 0 < vs.length := List.length_pos_iff.2 hv
          obtain ⟨x, hx⟩ : ∃ x, cs[off + vs.length - 1]? = some x := ⟨_, List.getElem?_eq_getElem (by omega)⟩
          obtain ⟨v, hv', _⟩ := hw _ _ hx
          have := (Array.getElem?_eq_some_iff.1 hv').1
          omega
      rcases hsz with hsz | rfl
      · refine ⟨d, w.setRow d.a.block (c.toList.take (d.a.off + off + 0) ++ vs ++ c.toList.drop (d.a.off + off + 0 + vs.length)).toArray, hB, hs, ?_, ?_, ?_⟩
        · rw [add_eq hs]
          have := run_storeCells_at P d.a.block (d.a.off + off) d.ty vs 0 c w hh (by omega) (l.one ho)
          simpa using this
        · have hsz2 : (c.toList.take (d.a.off + off + 0) ++ vs ++ c.toList.drop (d.a.off + off + 0 + vs.length)).toArray.size = d.r := by
            simp; omega
          refine m.upd hj hB (setRow_heap w _ c _ _ _ hh) hsz2 (fun i x hx => ?_) (fun k hk => setRow_other' w _ k _ hk)
          have hcs : off + vs.length ≤ cs.length := by omega
          rw [hlen] at hx
          have e1 : (cs.take off).length = off := by simp; omega
          have e2 : (c.toList.take (d.a.off + off + 0)).length = d.a.off + off := by simp; omega
          rcases Nat.lt_or_ge i off with h1 | h1
          · rw [List.append_assoc, List.getElem?_append_left (by omega), List.getElem?_take, if_pos h1] at hx
            obtain ⟨v, hv, r⟩ := hw i x hx
            refine ⟨v, ?_, r⟩
            rw [List.getElem?_toArray, List.append_assoc, List.getElem?_append_left (by omega), List.getElem?_take, if_pos (by omega)]
            simpa using hv
          · rw [List.append_assoc, List.getElem?_append_right (by omega), e1] at hx
            rcases Nat.lt_or_ge (i - off) vs.length with h2 | h2
            · rw [List.getElem?_append_left (by omega)] at hx
              obtain ⟨v, hv, r⟩ := l.get _ _ hx
              refine ⟨v, ?_, r⟩
              rw [List.getElem?_toArray, List.append_assoc, List.getElem?_append_right (by omega), e2, List.getElem?_append_left (by omega), show d.a.off + i - (d.a.off + off) = i - off by omega]
              exact hv
            · rw [List.getElem?_append_right (by omega), List.getElem?_drop] at hx
              obtain ⟨v, hv, r⟩ := hw _ _ hx
              refine ⟨v, ?_, r⟩
              rw [List.getElem?_toArray, List.append_assoc, List.getElem?_append_right (by omega), e2, List.getElem?_append_right (by omega), List.getElem?_drop]
              rw [show d.a.off + off + 0 + vs.length + (d.a.off + i - (d.a.off + off) - vs.length) = d.a.off + (off + vs.length + (i - off - xs.length)) by omega]
              simpa using hv
        · exact ⟨Ext.refl B, ⟨rfl, rfl, rfl, Nat.le_of_eq (setRow_size _ _ _).symm, fun k hk hn => setRow_other' w _ k _ (fun q => hn ⟨j, cs, d, hj, hB, q.symm⟩)⟩, fun b o => .inl (own_set hj o), by simp, fun _ _ => rfl, rok_set (by simp)⟩
      · have hx : xs = [] := List.length_eq_zero_iff.1 (by simpa using hlen)
        subst hx
        have : h.set j (.rw (cs.take off ++ [] ++ cs.drop (off + ([] : List SV).length))) = h := by
          simp only [List.append_nil, List.length_nil, Nat.add_zero, List.take_append_drop]
          apply List.ext_getElem?
          intro i
          rw [List.getElem?_set]
          split
          · rename_i q; subst q; rw [hj]; simp; exact (List.getElem?_eq_some_iff.1 hj).1
          · rfl
        rw [this]
        exact ⟨d, w, hB, hs, by simp [storeCells], m, Step.refl B h w⟩
    · cases e
  · cases e

def put (B : Bs) (n : Nat) (d : Bd) : Bs := fun j => if j = n then some d else B j
theorem put_ext {B : Bs} {n : Nat} {d : Bd} (h : B n = none) : Ext B (put B n d) := fun j e q => by
  unfold put; split
  · rename_i k; subst k; rw [h] at q; cases q
  · exact q
/-- A new block. -/
theorem Mt.new {B : Bs} {h : Hp} {w w' : World} (m : Mt B h w) {d : Bd} {c : Array Value} {cs : List SV} (hb : d.a.block = w.heap.size) (hs : d.a.spot = none) (hr : c.size = d.r)
    (hh : w'.heap[w.heap.size]? = some (.cells c d.ty (0, 0))) (hw : Wn (put B h.length d) c d.a.off cs) (ho : ∀ k, k < w.heap.size → w'.heap[k]? = w.heap[k]?) : Mt (put B h.length d) (h ++ [.rw cs]) w' := by
  have hx : Ext B (put B h.length d) := put_ext (m.dom _ (Nat.le_refl _))
  have old : ∀ i, i ≠ h.length → put B h.length d i = B i := fun i hi => by simp [put, hi]
  have new : put B h.length d h.length = some d := by simp [put]
  have cases_ : ∀ i b, (h ++ [Blk.rw cs])[i]? = some b → (i < h.length ∧ h[i]? = some b) ∨ (i = h.length ∧ b = .rw cs) := fun i b e => by
    rcases Nat.lt_or_ge i h.length with k | k
    · rw [List.getElem?_append_left k] at e; exact .inl ⟨k, e⟩
    · rw [List.getElem?_append_right k] at e
      have : i - h.length = 0 := by
        rcases Nat.eq_zero_or_pos (i - h.length) with z | z
        · exact z
        · rw [List.getElem?_eq_none (by simp; omega)] at e; cases e
      rw [this] at e; simp at e
      exact .inr ⟨by omega, e.symm⟩
  have lt_of : ∀ i ci di, h[i]? = some (.rw ci) → B i = some di → di.a.block < w.heap.size := fun i ci di e f => own_lt m ⟨i, ci, di, e, f, rfl⟩
  have lt_ro : ∀ i ci di, h[i]? = some (.ro ci) → ci ≠ [] → B i = some di → di.a.block < w.heap.size := fun i ci di e hne f => by
    obtain ⟨x, r, rfl⟩ := List.exists_cons_of_ne_nil hne
    obtain ⟨d', v, e', _, hc, _⟩ := m.blk i _ e 0 x rfl
    obtain rfl : di = d' := Option.some.inj (f.symm.trans e')
    exact cell_lt hc
  refine ⟨fun i b e => ?_, fun i hi => ?_, fun i e q => (by unfold put at q; split at q; (cases q; exact hs); exact m.spt _ _ q), fun i k ci ck di dk ei ek bi bk q => ?_, fun i k ci ck di dk ei ek hne bi bk => ?_⟩
  · rcases cases_ i b e with ⟨hi, e'⟩ | ⟨rfl, rfl⟩
    · have hb' := m.blk i b e'
      cases b with
      | rw ci =>
        obtain ⟨di, c', hBi, hsi, hhi, hri, hwi⟩ := hb'
        refine ⟨di, c', hx _ _ hBi, hsi, ?_, hri, fun k x hk => let ⟨v, a1, a2⟩ := hwi k x hk; ⟨v, a1, a2.mono hx⟩⟩
        rw [ho _ (lt_of i ci di e' hBi)]; exact hhi
      | ro ci =>
        intro k x hk
        obtain ⟨di, v, hBi, hsi, hc, r⟩ := hb' k x hk
        refine ⟨di, v, hx _ _ hBi, hsi, ?_, r.mono hx⟩
        exact (World.cell?_of_block (w := w) (a := ⟨di.a.block, di.a.off + k, none⟩) (ho _ (cell_lt hc))).trans hc
      | dead => trivial
    · refine ⟨d, c, new, hs, ?_, hr, hw⟩
      rw [hb]; exact hh
  · simp at hi
    rw [old i (by omega)]
    exact m.dom i (by omega)
  · rcases cases_ i _ ei with ⟨hi, ei'⟩ | ⟨rfl, qi⟩ <;> rcases cases_ k _ ek with ⟨hk, ek'⟩ | ⟨rfl, qk⟩
    · rw [old i (by omega)] at bi; rw [old k (by omega)] at bk
      exact m.sep i k ci ck di dk ei' ek' bi bk q
    · rw [old i (by omega)] at bi; rw [new] at bk; cases bk
      have := lt_of i ci di ei' bi
      omega
    · rw [new] at bi; cases bi; rw [old k (by omega)] at bk
      have := lt_of k ck dk ek' bk
      omega
    · rfl
  · rcases cases_ k _ ek with ⟨hk, ek'⟩ | ⟨rfl, qk⟩
    · rw [old k (by omega)] at bk
      have hlt := lt_ro k ck dk ek' hne bk
      rcases cases_ i _ ei with ⟨hi, ei'⟩ | ⟨rfl, qi⟩
      · rw [old i (by omega)] at bi
        exact m.sepr i k ci ck di dk ei' ek' hne bi bk
      · rw [new] at bi; cases bi; omega
    · cases qk
theorem own_new {B : Bs} {h : Hp} {w : World} (m : Mt B h w) {d : Bd} {cs : List SV} (hb : d.a.block = w.heap.size) : ∀ b, Own (put B h.length d) (h ++ [.rw cs]) b → Own B h b ∨ w.heap.size ≤ b := by
  rintro b ⟨i, ci, di, e, f, rfl⟩
  rcases Nat.lt_or_ge i h.length with k | k
  · rw [List.getElem?_append_left k] at e
    have : put B h.length d i = B i := by simp [put, Nat.ne_of_lt k]
    rw [this] at f
    exact .inl ⟨i, ci, di, e, f, rfl⟩
  · by_cases hi : i = h.length
    · subst hi
      simp [put] at f
      subst f
      exact .inr (Nat.le_of_eq hb.symm)
    · rw [List.getElem?_eq_none (by simp; omega)] at e; cases e
/-- A new row of cells. -/
theorem alloc_sound {B : Bs} {h : Hp} {w : World} (m : Mt B h w) {cs : List SV} {vs : List Value} (ty : TypeId) (l : LR B cs vs) :
    Mt (put B h.length ⟨⟨w.heap.size, 0, none⟩, vs.length, ty⟩) (h ++ [.rw cs]) (w.alloc (.cells vs.toArray ty (0, 0))) ∧ Step B h w (put B h.length ⟨⟨w.heap.size, 0, none⟩, vs.length, ty⟩) (h ++ [.rw cs]) (w.alloc (.cells vs.toArray ty (0, 0))) := by
  have hx : Ext B (put B h.length ⟨⟨w.heap.size, 0, none⟩, vs.length, ty⟩) := put_ext (m.dom _ (Nat.le_refl _))
  refine ⟨m.new (c := vs.toArray) rfl rfl (by simp) (by show (w.heap.push _)[w.heap.size]? = _; simp) (fun i x e => ?_) (fun k hk => Below.heap_alloc w _ k hk), hx, ⟨rfl, rfl, rfl, by show w.heap.size ≤ (w.heap.push _).size; simp, fun k hk _ => Below.heap_alloc w _ k hk⟩, own_new m rfl, by simp, fun j hj => by simp [put, Nat.ne_of_lt hj], rok_app fun _ _ e => e⟩
  obtain ⟨v, e1, r⟩ := (l.mono hx).get i x e
  exact ⟨v, by simpa using e1, r⟩
end Go.Proofs.Ytahepinbmcgbnaa.Vm
end
section
/- Small memories: values, temporaries, and what an operation does over them. No condition. -/
set_option linter.unusedVariables false
set_option linter.unusedSimpArgs false
namespace Go.Proofs.Ytahepinbmcgbnaa.Vm
open Go.RowKit

/-- A temporary's value: of one cell; a structure's cells; several results. -/
inductive PV where
  | s (x : SV)
  | g (l : List SV)
  | t (l : List PV)
abbrev Tm := List (Nat × PV)
def PR1 (B : Bs) : PV → Value → Prop
  | .s x, v => SR B x v
  | .g l, v => ∃ vs : List Value, v = .agg vs.toArray ∧ LR B l vs
  | .t _, _ => False
def PL (B : Bs) : List PV → List Value → Prop
  | [], [] => True
  | x :: xs, v :: vs => PR1 B x v ∧ PL B xs vs
  | _, _ => False
def PR (B : Bs) : PV → Value → Prop
  | .t l, v => ∃ vs : List Value, v = .tuple vs.toArray ∧ PL B l vs
  | x, v => PR1 B x v
theorem PR1.mono {B B' : Bs} (h : Ext B B') : ∀ {x : PV} {v : Value}, PR1 B x v → PR1 B' x v
  | .s _, _, k => SR.mono h k
  | .g _, _, ⟨vs, e, l⟩ => ⟨vs, e, l.mono h⟩
  | .t _, _, k => k.elim
theorem PL.mono {B B' : Bs} (h : Ext B B') : ∀ {l : List PV} {vs : List Value}, PL B l vs → PL B' l vs
  | [], [], k => k
  | [], _ :: _, k => k
  | _ :: _, [], k => k
  | _ :: _, _ :: _, k => ⟨k.1.mono h, PL.mono h k.2⟩
theorem PR.mono {B B' : Bs} (h : Ext B B') : ∀ {x : PV} {v : Value}, PR B x v → PR B' x v
  | .s _, _, k => PR1.mono (x := .s _) h k
  | .g _, _, k => PR1.mono (x := .g _) h k
  | .t _, _, ⟨vs, e, l⟩ => ⟨vs, e, l.mono h⟩

def lk : Tm → Nat → Option PV
  | [], _ => none
  | (m, v) :: r, n => if m = n then some v else lk r n
def rm : Tm → Nat → Tm
  | [], _ => []
  | (m, v) :: r, n => if m = n then rm r n else (m, v) :: rm r n
theorem lk_rm (n : Nat) : ∀ (t : Tm) (m : Nat) (v : PV), lk (rm t n) m = some v → m ≠ n ∧ lk t m = some v
  | [], m, v, h => by simp [rm, lk] at h
  | (k, u) :: r, m, v, h => by
    simp only [rm] at h
    split at h
    · rename_i q; obtain ⟨a, b⟩ := lk_rm n r m v h
      refine ⟨a, ?_⟩
      simp only [lk]; rw [if_neg (by omega)]; exact b
    · rename_i q
      simp only [lk] at h ⊢
      split at h
      · rename_i z; subst z; exact ⟨q, by simpa using h⟩
      · rename_i z; rw [if_neg z]; exact lk_rm n r m v h
def ins : Tm → Nat → PV → Tm
  | [], n, v => [(n, v)]
  | (m, u) :: r, n, v => if n = m then (n, v) :: r else if n ≤ m then (m, u) :: ins r n v else (n, v) :: (m, u) :: r
theorem lk_ins : ∀ (t : Tm) (n k : Nat) (v : PV), lk (ins t n v) k = if n = k then some v else lk t k
  | [], n, k, v => by simp [ins, lk]
  | (m, u) :: r, n, k, v => by
    simp only [ins]
    split
    · rename_i q; subst q; simp only [lk]; split <;> simp_all
    · split
      · simp only [lk, lk_ins r n k v]
        split
        · rename_i q1 q2 q3; rw [if_neg (by omega)]
        · rfl
      · simp only [lk]
def pt (t : Tm) : Option Nat → PV → Tm
  | none, _ => t
  | some d, v => ins t d v
def rmO (t : Tm) : Option Nat → Tm
  | none => t
  | some d => ins t d (.s (.a (.tuple #[])))
structure TR (N : Nat) (B : Bs) (t : Tm) (tmps : Array Value) : Prop where
  size : tmps.size = N
  get : ∀ n v, lk t n = some v → PR B v (tmps.getD n undef)
theorem TR.mono {N : Nat} {B B' : Bs} {t : Tm} {tmps : Array Value} (h : Ext B B') (k : TR N B t tmps) : TR N B' t tmps := ⟨k.size, fun n v e => (k.get n v e).mono h⟩
def dOk (N : Nat) : Option Nat → Bool
  | none => true
  | some d => decide (d < N)
theorem TR.put {N : Nat} {B : Bs} {t : Tm} {a : Act} (k : TR N B t a.tmps) {dst : Option Nat} (hd : dOk N dst = true) {v : PV} {x : Value} (h : PR B v x) : TR N B (pt t dst v) (a.put dst x).tmps := by
  cases dst with
  | none => exact k
  | some d =>
    have hd' : d < a.tmps.size := by simp [dOk] at hd; rw [k.size]; exact hd
    refine ⟨by simp [Act.put, k.size], fun n u e => ?_⟩
    simp only [pt, lk_ins] at e
    simp only [Act.put]
    split at e
    · rename_i q; subst q; cases e
      rw [Array.getD_eq_getD_getElem?, Array.getElem?_setIfInBounds_self_of_lt hd']; exact h
    · rename_i q
      rw [Array.getD_eq_getD_getElem?, Array.getElem?_setIfInBounds_ne q]
      have := k.get n u e
      rwa [Array.getD_eq_getD_getElem?] at this
theorem TR.rmO {N : Nat} {B : Bs} {t : Tm} {a : Act} (k : TR N B t a.tmps) {dst : Option Nat} : TR N B (rmO t dst) (a.put dst undef).tmps := by
  cases dst with
  | none => exact k
  | some d =>
    refine ⟨by simp [Act.put, k.size], fun n u e => ?_⟩
    simp only [Vm.rmO, lk_ins] at e
    simp only [Act.put]
    split at e
    · rename_i q; subst q; cases e
      rw [Array.getD_eq_getD_getElem?]
      rcases Nat.lt_or_ge d a.tmps.size with h | h
      · rw [Array.getElem?_setIfInBounds_self_of_lt h]; rfl
      · rw [Array.getElem?_eq_none (by simpa using h)]; rfl
    · rename_i q
      rw [Array.getD_eq_getD_getElem?, Array.getElem?_setIfInBounds_ne q]
      have := k.get n u e
      rwa [Array.getD_eq_getD_getElem?] at this
def cst : Value → Option PV
  | .agg _ => none
  | .tuple _ => none
  | v => some (.s (.a v))
def ev (t : Tm) : Operand → Option PV
  | .tmp n => lk t n
  | .const v => cst v
  | .func f => some (.s (.clo f []))
  | .global _ => none
theorem ev_sound {N : Nat} {B : Bs} {t : Tm} {a : Act} (k : TR N B t a.tmps) : ∀ {x : Operand} {v : PV}, ev t x = some v → PR B v (a.eval x)
  | .tmp n, v, e => k.get n v e
  | .const u, v, e => by cases u <;> simp [ev, cst] at e <;> subst e <;> rfl
  | .func f, v, e => by simp [ev] at e; subst e; exact ⟨[], rfl, trivial⟩
  | .global _, _, e => by simp [ev] at e

/-- What a type's row says: its size in cells, its zero, its kind. -/
inductive Sh where
  | int (k : IntKind)
  | bool
  | str
  | ptr
  | slice (elem : TypeId) (es eb : Nat) (ez : List Value)
  | struct (fs : List (Nat × Nat × Bool))
  | array (n : Nat) (es : Nat) (agg : Bool)
  | iface
  | other
structure TI where
  size : Nat
  zero : List Value
  sh : Sh
def aggB : Option TypeDesc → Bool
  | some (.struct _) => true
  | some (.array _ _) => true
  | _ => false
def fOf (P : Program) (f : Field) : Option (Nat × Nat × Bool) := match P.info? f.type with
  | some i => if i.size = 0 ∨ (P.underlying f.type).isSome = false then none else some (f.offset, i.size, aggB (P.underlying f.type))
  | none => none
theorem fOf_spec {P : Program} {f : Field} {q : Nat × Nat × Bool} (h : fOf P f = some q) : ∃ i, P.info? f.type = some i ∧ i.size ≠ 0 ∧ (P.underlying f.type).isSome = true ∧ q = (f.offset, i.size, aggB (P.underlying f.type)) := by
  unfold fOf at h
  split at h
  · rename_i i hi
    split at h
    · cases h
    · rename_i hn; cases h
      exact ⟨i, hi, fun e => hn (.inl e), by cases hs : (P.underlying f.type).isSome; exact absurd (.inr hs) hn; rfl, rfl⟩
  · cases h
def shOf (P : Program) : TypeDesc → Option Sh
  | .int k => some (.int k)
  | .bool => some .bool
  | .string => some .str
  | .pointer _ => some .ptr
  | .slice e => match P.info? e with
    | some i => match i.zero with
      | some z => some (.slice e i.size i.bytes z.cells.toList)
      | none => none
    | none => none
  | .struct fs => (fs.toList.mapM (fOf P)).map Sh.struct
  | .array n e => match P.info? e, P.underlying e with
    | some i, some d => some (.array n i.size (aggB (some d)))
    | _, _ => none
  | .interface _ => some .iface
  | _ => some .other
def tiOf (P : Program) (ty : TypeId) : Option TI :=
  match P.info? ty, P.underlying ty with
  | some i, some d => match i.zero, shOf P d with
    | some z, some s => if z.cells.size = i.size then some ⟨i.size, z.cells.toList, s⟩ else none
    | _, _ => none
  | _, _ => none
theorem tiOf_spec {P : Program} {ty : TypeId} {ti : TI} (h : tiOf P ty = some ti) :
    ∃ i d z, P.info? ty = some i ∧ P.underlying ty = some d ∧ i.zero = some z ∧ shOf P d = some ti.sh ∧ ti.size = i.size ∧ z.cells.toList = ti.zero ∧ ti.zero.length = ti.size := by
  unfold tiOf at h
  split at h
  · rename_i i d hi hd
    split at h
    · rename_i z s hz hs
      split at h
      · rename_i q; cases h
        exact ⟨i, d, z, hi, hd, hz, hs, rfl, rfl, by simpa using q⟩
      · cases h
    · cases h
  · cases h
def Sh.agg : Sh → Bool
  | .struct _ => true
  | .array _ _ _ => true
  | _ => false
def TI.agg (i : TI) : Bool := i.sh.agg
theorem agg_spec {P : Program} {d : TypeDesc} {s : Sh} (h : shOf P d = some s) : s.agg = aggB (some d) := by
  cases d <;> simp only [shOf] at h
  all_goals first
    | (cases h; rfl)
    | (split at h
       · first | (split at h <;> cases h <;> rfl) | (cases h; rfl)
       · cases h)
    | (rw [Option.map_eq_some_iff] at h; obtain ⟨l, _, rfl⟩ := h; rfl)

/-- What an operation comes to. -/
inductive OR where
  | val (v : PV) (h : Hp)
  | skip (h : Hp)
  | pan (x : SV) (h : Hp)
  | call (f : FuncId) (args : List PV) (h : Hp)
  | need (p : Prop) (r : OR)
def AR (B : Bs) : List PV → List Value → Prop
  | [], [] => True
  | x :: xs, v :: vs => PR B x v ∧ AR B xs vs
  | _, _ => False
theorem AR.mono {B B' : Bs} (h : Ext B B') : ∀ {l : List PV} {vs : List Value}, AR B l vs → AR B' l vs
  | [], [], k => k
  | [], _ :: _, k => k
  | _ :: _, [], k => k
  | _ :: _, _ :: _, k => ⟨k.1.mono h, AR.mono h k.2⟩
def OS (P : Program) (B : Bs) (h : Hp) (w : World) (a : Act) (o : Oper) : OR → Prop
  | .val v h' => ∃ x w' B', (execOp a.eval o).run P w = .ok (.value x) w' ∧ PR B' v x ∧ Mt B' h' w' ∧ Step B h w B' h' w'
  | .skip h' => ∃ w' B', (execOp a.eval o).run P w = .ok .skip w' ∧ Mt B' h' w' ∧ Step B h w B' h' w'
  | .pan s h' => ∃ x, (execOp a.eval o).run P w = .halt (.panic x) w ∧ SR B s x ∧ h' = h
  | .call f args h' => ∃ vs : List Value, (execOp a.eval o).run P w = .ok (.enter f vs.toArray) w ∧ AR B args vs ∧ h' = h
  | .need p r => p → OS P B h w a o r
theorem os_val {P : Program} {B : Bs} {h : Hp} {w : World} {a : Act} {o : Oper} {v : PV} {x : Value} (m : Mt B h w) (e : (execOp a.eval o).run P w = .ok (.value x) w) (r : PR B v x) : OS P B h w a o (.val v h) :=
  ⟨x, w, B, e, r, m, Step.refl B h w⟩
/-- A value's cells. -/
def cellsOf : PV → Option (List SV)
  | .s x => if scell x = true then some [x] else none
  | .g l => if l.all scell = true then some l else none
  | .t _ => none
theorem cells_one {v : Value} (h : v.oneCell' = true) : v.cells = #[v] := by cases v <;> first | rfl | simp [Value.oneCell'] at h
theorem cellsOf_sound {B : Bs} {v : PV} {x : Value} {l : List SV} (r : PR B v x) (h : cellsOf v = some l) : ∃ vs : List Value, x.cells = vs.toArray ∧ LR B l vs ∧ l.all scell = true := by
  cases v with
  | s y =>
    simp only [cellsOf] at h
    split at h
    · rename_i q; cases h
      have r' : SR B y x := r
      exact ⟨[x], cells_one (r'.one q), ⟨r', trivial⟩, by simp [q]⟩
    · cases h
  | g l' =>
    simp only [cellsOf] at h
    split at h
    · rename_i q; cases h
      obtain ⟨vs, rfl, k⟩ := r
      exact ⟨vs, rfl, k, q⟩
    · cases h
  | t _ => simp [cellsOf] at h
theorem lr_atoms {B : Bs} : ∀ (l : List Value), LR B (l.map .a) l
  | [] => trivial
  | _ :: l => ⟨rfl, lr_atoms l⟩

def moveR (t : Tm) (h : Hp) (x : Operand) : Option OR := match ev t x with
  | some v => some (.val v h)
  | none => none
def pickR (t : Tm) (h : Hp) (c x y : Operand) : Option OR := match ev t c with
  | some (.s (.a (.bool true))) => moveR t h x
  | some (.s (.a (.bool false))) => moveR t h y
  | _ => none
def allocR (P : Program) (h : Hp) (ty : TypeId) : Option OR := match tiOf P ty with
  | some i => some (.val (.s (.p h.length 0)) (h ++ [.rw (i.zero.map .a)]))
  | none => none
def boxR (t : Tm) (h : Hp) (x : Operand) : Option OR := match ev t x with
  | some v => match cellsOf v with
    | some l => some (.val (.s (.p h.length 0)) (h ++ [.rw l]))
    | none => none
  | none => none
def ld1R (h : Hp) (r : Option (List SV)) : Option OR := match r with
  | some [x] => some (.val (.s x) h)
  | _ => none
def ldgR (h : Hp) (r : Option (List SV)) : Option OR := match r with
  | some l => some (.val (.g l) h)
  | _ => none
def ldR (h : Hp) (j off n : Nat) (agg : Bool) : Option OR := match agg with
  | false => ld1R h (ldN h j off 1)
  | true => if 0 < n then ldgR h (ldN h j off n) else none
def loadR (P : Program) (t : Tm) (h : Hp) (ty : TypeId) (x : Operand) : Option OR := match ev t x with
  | some (.s (.p j off)) => match tiOf P ty with
    | some i => ldR h j off i.size i.agg
    | none => none
  | _ => none
def st2R (r : Option Hp) : Option OR := match r with
  | some h => some (.skip h)
  | none => none
def st1R (h : Hp) (j off n : Nat) (l : Option (List SV)) : Option OR := match l with
  | some l => if l.length = n then st2R (stN h j off l) else none
  | none => none
def storeR (P : Program) (t : Tm) (h : Hp) (ty : TypeId) (x y : Operand) : Option OR := match ev t x with
  | some (.s (.p j off)) => match ev t y with
    | some v => match tiOf P ty with
      | some i => st1R h j off i.size (cellsOf v)
      | none => none
    | none => none
  | _ => none
def nilR (t : Tm) (h : Hp) (x : Operand) : Option OR := match ev t x with
  | some (.s (.p j off)) => some (.val (.s (.p j off)) h)
  | some (.s (.ip ty j off)) => some (.val (.s (.ip ty j off)) h)
  | some (.s (.clo f cs)) => some (.val (.s (.clo f cs)) h)
  | _ => none
def faR (h : Hp) (j off : Nat) (f : Option (Nat × Nat × Bool)) : Option OR := match f with
  | some q => some (.val (.s (.p j (off + q.1))) h)
  | none => none
def fieldAddrR (P : Program) (t : Tm) (h : Hp) (ty : TypeId) (x : Operand) (f : Nat) : Option OR := match ev t x with
  | some (.s (.p j off)) => match tiOf P ty with
    | some ⟨_, _, .struct fs⟩ => faR h j off fs[f]?
    | _ => none
  | _ => none
def fdR (h : Hp) (l : List SV) (f : Option (Nat × Nat × Bool)) : Option OR := match f with
  | some (off, n, true) => if off + n ≤ l.length then some (.val (.g ((l.drop off).take n)) h) else none
  | some (off, _, false) => ld1R h ((l[off]?).map fun x => [x])
  | none => none
def fieldR (P : Program) (t : Tm) (h : Hp) (ty : TypeId) (x : Operand) (f : Nat) : Option OR := match ev t x with
  | some (.g l) => match tiOf P ty with
    | some ⟨_, _, .struct fs⟩ => fdR h l fs[f]?
    | _ => none
  | _ => none
def ixR (h : Hp) (j off len es : Nat) (i : Int) : Option OR := some (.need (0 ≤ i ∧ i < (len : Int)) (.val (.s (.p j (off + i.toNat * es))) h))
def indexAddrR (P : Program) (t : Tm) (h : Hp) (ty : TypeId) (x y : Operand) : Option OR := match ev t y with
  | some (.s (.a (.int _ i))) => match tiOf P ty with
    | some ⟨_, _, .slice _ es _ _⟩ => match ev t x with
      | some (.s (.sl j off len)) => ixR h j off len es i
      | some (.s (.so j len _ _)) => ixR h j 0 len es i
      | _ => none
    | some ⟨_, _, .array n es _⟩ => match ev t x with
      | some (.s (.p j off)) => ixR h j off n es i
      | _ => none
    | _ => none
  | _ => none
def extR (h : Hp) (v : Option PV) : Option OR := match v with
  | some (.s x) => some (.val (.s x) h)
  | some (.g l) => some (.val (.g l) h)
  | _ => none
def extractR (t : Tm) (h : Hp) (x : Operand) (n : Nat) : Option OR := match ev t x with
  | some (.t l) => extR h l[n]?
  | _ => none
def intR (h : Hp) (op : BinOp) (k : IntKind) (a b : Int) : Option OR := match op with
  | .add => some (.val (.s (.a (.int k (k.wrap (a + b))))) h)
  | .sub => some (.val (.s (.a (.int k (k.wrap (a - b))))) h)
  | .mul => some (.val (.s (.a (.int k (k.wrap (a * b))))) h)
  | .quo => some (.need (b ≠ 0) (.val (.s (.a (.int k (k.wrap (a.tdiv b))))) h))
  | .rem => some (.need (b ≠ 0) (.val (.s (.a (.int k (a.tmod b)))) h))
  | .and => some (.val (.s (.a (.int k (k.wrap (BitVec.ofInt k.bits a &&& BitVec.ofInt k.bits b).toNat)))) h)
  | .or => some (.val (.s (.a (.int k (k.wrap (BitVec.ofInt k.bits a ||| BitVec.ofInt k.bits b).toNat)))) h)
  | .xor => some (.val (.s (.a (.int k (k.wrap (BitVec.ofInt k.bits a ^^^ BitVec.ofInt k.bits b).toNat)))) h)
  | .andNot => some (.val (.s (.a (.int k (k.wrap (BitVec.ofInt k.bits a &&& ~~~BitVec.ofInt k.bits b).toNat)))) h)
  | .eql => some (.val (.s (.a (.bool (a == b)))) h)
  | .neq => some (.val (.s (.a (.bool (a != b)))) h)
  | .lss => some (.val (.s (.a (.bool (decide (a < b))))) h)
  | .leq => some (.val (.s (.a (.bool (decide (a ≤ b))))) h)
  | .gtr => some (.val (.s (.a (.bool (decide (a > b))))) h)
  | .geq => some (.val (.s (.a (.bool (decide (a ≥ b))))) h)
  | _ => none
def shR (h : Hp) (op : BinOp) (k : IntKind) (a b : Int) : Option OR := match op with
  | .shl => some (.need (0 ≤ b) (.val (.s (.a (.int k (k.wrap (a * 2 ^ (min b.toNat k.bits)))))) h))
  | .shr => some (.need (0 ≤ b) (.val (.s (.a (.int k (a.fdiv (2 ^ (min b.toNat k.bits)))))) h))
  | _ => none
def isSh : BinOp → Bool
  | .shl => true
  | .shr => true
  | _ => false
def eqR (h : Hp) (op : BinOp) (b : Bool) : Option OR := match op with
  | .eql => some (.val (.s (.a (.bool b))) h)
  | .neq => some (.val (.s (.a (.bool (!b)))) h)
  | _ => none
/-- One of a structure's cells that are whole numbers. -/
def intsOf : List SV → Option (List Int)
  | [] => some []
  | .a (.int .i64 n) :: r => (intsOf r).map (n :: ·)
  | _ => none
def binR (P : Program) (t : Tm) (h : Hp) (op : BinOp) (ty : TypeId) (x y : Operand) : Option OR := match ev t x, ev t y with
  | some (.s (.a (.int k a))), some (.s (.a (.int k' b))) => if isSh op = true then shR h op k a b else if k = k' then intR h op k a b else none
  | some (.s (.a (.bool a))), some (.s (.a (.bool b))) => match tiOf P ty with
    | some ⟨_, _, .bool⟩ => eqR h op (a == b)
    | _ => none
  | some (.s (.p _ _)), some (.s (.a (.pointer none))) => match tiOf P ty with
    | some ⟨_, _, .ptr⟩ => eqR h op false
    | _ => none
  | _, _ => none
def unR (t : Tm) (h : Hp) (op : UnOp) (x : Operand) : Option OR := match op, ev t x with
  | .not, some (.s (.a (.bool b))) => some (.val (.s (.a (.bool (!b)))) h)
  | .neg, some (.s (.a (.int k n))) => some (.val (.s (.a (.int k (k.wrap (0 - n))))) h)
  | .xor, some (.s (.a (.int k n))) => some (.val (.s (.a (.int k (k.wrap (BitVec.ofInt k.bits (if k.signed then -1 else k.max) ^^^ BitVec.ofInt k.bits n).toNat)))) h)
  | _, _ => none
def convR (P : Program) (t : Tm) (h : Hp) (src dst : TypeId) (x : Operand) : Option OR := match ev t x, tiOf P src, tiOf P dst with
  | some (.s (.a (.int _ n))), some _, some ⟨_, _, .int k⟩ => some (.val (.s (.a (.int k (k.wrap n)))) h)
  | _, _, _ => none
def miR (P : Program) (t : Tm) (h : Hp) (ty : TypeId) (x : Operand) : Option OR := match tiOf P ty with
  | some i => match i.sh with
    | .iface => none
    | _ => match ev t x with
      | some (.s (.p j off)) => some (.val (.s (.ip ty j off)) h)
      | some (.s (.a v)) => some (.val (.s (.a (.iface ty v))) h)
      | some (.g []) => some (.val (.s (.a (.iface ty (.agg #[])))) h)
      | _ => none
  | none => none
def panR (t : Tm) (h : Hp) (x : Operand) : Option OR := match ev t x with
  | some (.s (.a (.iface ty v))) => some (.pan (.a (.iface ty v)) h)
  | some (.s (.ip ty j off)) => some (.pan (.ip ty j off) h)
  | _ => none
end Go.Proofs.Ytahepinbmcgbnaa.Vm
end
section
/- Small memories: each operation does in the machine what it does over them. No condition. -/
set_option linter.unusedVariables false
set_option linter.unusedSimpArgs false
namespace Go.Proofs.Ytahepinbmcgbnaa.Vm
open Go.RowKit
section
variable {P : Program} {N : Nat} {B : Bs} {h : Hp} {w : World} {t : Tm} {a : Act} {o : Oper} {r : OR}

theorem exV {s : Sem Value} {w' : World} {x : Value} (e : s.run P w = .ok x w') : ((do pure (.value (← s)) : Sem Next)).run P w = .ok (.value x) w' := by
  simp [e]
theorem exU {s : Sem Unit} {w' : World} (e : s.run P w = .ok () w') : ((do s; pure .skip : Sem Next)).run P w = .ok .skip w' := by
  simp [e]
theorem exP {s : Sem Value} {w' : World} {x : Value} (e : s.run P w = .halt (.panic x) w') : ((do pure (.value (← s)) : Sem Next)).run P w = .halt (.panic x) w' := by
  simp [e]

theorem move_sound (m : Mt B h w) (k : TR N B t a.tmps) {x : Operand} (ho : o.op = .move x ∨ o.op = .assign x) (e : moveR t h x = some r) : OS P B h w a o r := by
  unfold moveR at e
  split at e
  · rename_i v hv; cases e
    refine os_val m ?_ (ev_sound k hv)
    rcases ho with ho | ho <;> simp [execOp, ho]
  · cases e
theorem pick_sound (m : Mt B h w) (k : TR N B t a.tmps) {c x y : Operand} (ho : o.op = .pick c x y) (e : pickR t h c x y = some r) : OS P B h w a o r := by
  unfold pickR at e
  split at e
  · rename_i hc
    have hb := ev_sound k hc
    have hb' : a.eval c = .bool true := hb
    unfold moveR at e
    split at e
    · rename_i v hv; cases e
      exact os_val m (by simp [execOp, ho, hb', asBool]) (ev_sound k hv)
    · cases e
  · rename_i hc
    have hb := ev_sound k hc
    have hb' : a.eval c = .bool false := hb
    unfold moveR at e
    split at e
    · rename_i v hv; cases e
      exact os_val m (by simp [execOp, ho, hb', asBool]) (ev_sound k hv)
    · cases e
  · cases e
theorem ptr_new (B : Bs) (n : Nat) (d : Bd) (h0 : d.a.spot = none) (h1 : d.a.off = 0) : PR (put B n d) (.s (.p n 0)) (.pointer (some d.a)) := by
  refine ⟨d, by simp [put], ?_⟩
  rw [add_eq h0]; cases d with | mk a r ty => cases a; simp_all
theorem newRow_run (w : World) (ty : TypeId) (c : Array Value) : (newRow ty c).run P w = .ok ⟨w.heap.size, 0, none⟩ (w.alloc (.cells c ty (0, 0))) := by
  rfl
theorem alloc_op_sound (m : Mt B h w) {ty : TypeId} (ho : o.op = .alloc ty) (e : allocR P h ty = some r) : OS P B h w a o r := by
  unfold allocR at e
  split at e
  · rename_i i hi; cases e
    obtain ⟨inf, d, z, h1, h2, h3, h4, h5, h6, h7⟩ := tiOf_spec hi
    have hl : LR B (i.zero.map .a) z.cells.toList := by rw [h6]; exact lr_atoms _
    obtain ⟨m', st⟩ := alloc_sound m ty hl
    refine ⟨.pointer (some ⟨w.heap.size, 0, none⟩), _, _, ?_, ptr_new B h.length ⟨⟨w.heap.size, 0, none⟩, z.cells.toList.length, ty⟩ rfl rfl, m', st⟩
    simp only [execOp, ho]
    refine exV ?_
    simp [Instr.alloc, zeroValue, typeInfo, h1, h3, newVar, newRow_run]
  · cases e
theorem box_sound (m : Mt B h w) (k : TR N B t a.tmps) {ty : TypeId} {x : Operand} (ho : o.op = .box ty x) (e : boxR t h x = some r) : OS P B h w a o r := by
  unfold boxR at e
  split at e
  · rename_i v hv
    split at e
    · rename_i l hl; cases e
      obtain ⟨vs, hc, hr, h1⟩ := cellsOf_sound (ev_sound k hv) hl
      obtain ⟨m', st⟩ := alloc_sound m ty hr
      refine ⟨.pointer (some ⟨w.heap.size, 0, none⟩), _, _, ?_, ptr_new B h.length ⟨⟨w.heap.size, 0, none⟩, vs.length, ty⟩ rfl rfl, m', st⟩
      simp only [execOp, ho]
      refine exV ?_
      simp [Instr.box, newVar, newRow_run, hc]
    · cases e
  · cases e
theorem isAgg_run {ty : TypeId} {ti : TI} (hi : tiOf P ty = some ti) : (isAgg ty).run P w = .ok ti.agg w := by
  obtain ⟨inf, d, z, h1, h2, h3, h4, h5, h6, h7⟩ := tiOf_spec hi
  have := agg_spec h4
  unfold TI.agg
  rw [this]
  simp only [isAgg, Sem.run_bind, run_underlying h2, Result.andThen_ok]
  cases d <;> rfl
theorem sizeOf_run {ty : TypeId} {ti : TI} (hi : tiOf P ty = some ti) : (sizeOf ty).run P w = .ok ti.size w := by
  obtain ⟨inf, d, z, h1, h2, h3, h4, h5, h6, h7⟩ := tiOf_spec hi
  simp [sizeOf, typeInfo, h1, h5]
theorem loadVar_run (m : Mt B h w) {ty : TypeId} {ti : TI} (hi : tiOf P ty = some ti) {j off : Nat} {r : OR} (e : ldR h j off ti.size ti.agg = some r) {p : Value} (hp : PM B j off p) :
    ∃ ad v x, p = .pointer (some ad) ∧ r = .val v h ∧ (loadVar ty ad).run P w = .ok x w ∧ PR B v x := by
  obtain ⟨d, hB, rfl⟩ := hp
  refine ⟨d.a.add off, ?_⟩
  unfold ldR at e
  split at e
  · rename_i hag
    unfold ld1R at e
    split at e
    · rename_i x hx; cases e
      obtain ⟨hl, d', vs, hB', hs, hr, hc⟩ := ldN_sound m hx (by omega)
      obtain rfl : d = d' := Option.some.inj (hB.symm.trans hB')
      cases vs with
      | nil => exact hr.elim
      | cons v vs =>
        refine ⟨.s x, v, rfl, rfl, ?_, hr.1⟩
        have h0 := hc 0 v rfl
        have h0' : w.cell? (d.a.add off) = some v := by simpa [Addr.add] using h0
        simp [loadVar, isAgg_run hi, hag, h0']
    · cases e
  · rename_i hag
    split at e
    · rename_i hpos
      unfold ldgR at e
      split at e
      · rename_i l hx; cases e
        obtain ⟨hl, d', vs, hB', hs, hr, hc⟩ := ldN_sound m hx hpos
        obtain rfl : d = d' := Option.some.inj (hB.symm.trans hB')
        refine ⟨.g l, .agg vs.toArray, rfl, rfl, ?_, ⟨vs, rfl, hr⟩⟩
        have hlen := hr.len
        have := run_loadCells_list (P := P) w (d.a.add off) vs hc
        simp only [loadVar, Sem.run_bind, isAgg_run hi, hag, Result.andThen_ok, if_true, sizeOf_run hi, ← hl, hlen, this, Sem.run_pure]
      · cases e
    · cases e
theorem load_sound (m : Mt B h w) (k : TR N B t a.tmps) {ty : TypeId} {x : Operand} (ho : o.op = .load ty x) (e : loadR P t h ty x = some r) : OS P B h w a o r := by
  unfold loadR at e
  split at e
  · rename_i j off hv
    split at e
    · rename_i i hi
      obtain ⟨ad, v, u, hp, rfl, hrun, hr⟩ := loadVar_run m hi e (ev_sound k hv)
      refine os_val m ?_ hr
      simp only [execOp, ho]
      refine exV ?_
      simp [Instr.loadAt, hp, Instr.sureAddr, hrun]
    · cases e
  · cases e
theorem store_sound (m : Mt B h w) (k : TR N B t a.tmps) {ty : TypeId} {x y : Operand} (ho : o.op = .store ty x y) (e : storeR P t h ty x y = some r) : OS P B h w a o r := by
  unfold storeR at e
  split at e
  · rename_i j off hx
    split at e
    · rename_i v hy
      split at e
      · rename_i i hi
        unfold st1R at e
        split at e
        · rename_i l hl
          split at e
          · rename_i hn
            unfold st2R at e
            split at e
            · rename_i h' hst; cases e
              obtain ⟨vs, hc, hr, h1⟩ := cellsOf_sound (ev_sound k hy) hl
              obtain ⟨d, w', hB, hs, hrun, m', st⟩ := stN_sound (P := P) m hst hr h1
              obtain ⟨d', hB', hp⟩ : PM B j off (a.eval x) := ev_sound k hx
              obtain rfl : d = d' := Option.some.inj (hB.symm.trans hB')
              refine ⟨w', B, ?_, m', st⟩
              simp only [execOp, ho]
              refine exU ?_
              have hlen := hr.len
              have hsz : (a.eval y).cells.size = i.size := by rw [hc]; simp; omega
              simp [Instr.storeAt, hp, Instr.sureAddr, storeVar, sizeOf_run hi, hsz, hc, hrun]
              omega
            · cases e
          · cases e
        · cases e
      · cases e
    · cases e
  · cases e
theorem nil_sound (m : Mt B h w) (k : TR N B t a.tmps) {x : Operand} (ho : o.op = .nilCheck x) (e : nilR t h x = some r) : OS P B h w a o r := by
  unfold nilR at e
  split at e
  · rename_i j off hv; cases e
    obtain ⟨d, hB, hp⟩ : PM B j off (a.eval x) := ev_sound k hv
    exact os_val m (by simp [execOp, ho, hp]) ⟨d, hB, rfl⟩
  · rename_i ty j off hv; cases e
    obtain ⟨v, hp, q⟩ : ∃ v, a.eval x = .iface ty v ∧ PM B j off v := ev_sound k hv
    exact os_val m (by simp [execOp, ho, hp]) ⟨v, rfl, q⟩
  · rename_i f cs hv; cases e
    obtain ⟨vs, hp, q⟩ : ∃ vs : List Value, a.eval x = .func (.func f) #[] vs.toArray ∧ CL B cs vs := ev_sound k hv
    exact os_val m (by simp [execOp, ho, hp]) ⟨vs, rfl, q⟩
  · cases e
theorem mapM_fields : ∀ {l : List Field} {fs : List (Nat × Nat × Bool)}, l.mapM (fOf P) = some fs → ∀ (n : Nat) (q : Nat × Nat × Bool), fs[n]? = some q → ∃ f, l[n]? = some f ∧ fOf P f = some q
  | [], fs, e => by simp at e; subst e; intro n q hq; simp at hq
  | f :: l, fs, e => by
    rw [List.mapM_cons] at e
    cases hi : fOf P f with
    | none => simp [hi] at e
    | some i =>
      cases hr : l.mapM (fOf P) with
      | none => simp [hi, hr] at e
      | some fs' =>
        simp [hi, hr] at e
        subst e
        intro n q hq
        cases n with
        | zero => simp at hq; subst hq; exact ⟨f, rfl, hi⟩
        | succ n => simpa using mapM_fields hr n q (by simpa using hq)
theorem struct_spec {ty : TypeId} {s : Nat} {z : List Value} {fs : List (Nat × Nat × Bool)} (hi : tiOf P ty = some ⟨s, z, .struct fs⟩) :
    ∃ fl : Array Field, P.underlying ty = some (.struct fl) ∧ ∀ (n : Nat) (q : Nat × Nat × Bool), fs[n]? = some q → ∃ f i, fl[n]? = some f ∧ P.info? f.type = some i ∧ i.size ≠ 0 ∧ (P.underlying f.type).isSome = true ∧ q = (f.offset, i.size, aggB (P.underlying f.type)) := by
  obtain ⟨inf, d, z', h1, h2, h3, h4, h5, h6, h7⟩ := tiOf_spec hi
  cases d with
  | struct fl =>
    simp only [shOf, Option.map_eq_some_iff] at h4
    obtain ⟨l, hl, he⟩ := h4
    cases he
    refine ⟨fl, h2, fun n q hq => ?_⟩
    obtain ⟨f, e1, e2⟩ := mapM_fields hl n q hq
    obtain ⟨i, e3⟩ := fOf_spec e2
    exact ⟨f, i, by simpa using e1, e3⟩
  | slice e => simp only [shOf] at h4; split at h4; (split at h4 <;> cases h4); cases h4
  | array n e => simp only [shOf] at h4; split at h4 <;> cases h4
  | _ => simp [shOf] at h4
theorem slice_spec {ty : TypeId} {s : Nat} {z : List Value} {el : TypeId} {es eb : Nat} {ez : List Value} (hi : tiOf P ty = some ⟨s, z, .slice el es eb ez⟩) :
    ∃ i z', P.underlying ty = some (.slice el) ∧ P.info? el = some i ∧ i.zero = some z' ∧ z'.cells.toList = ez ∧ i.size = es ∧ i.bytes = eb := by
  obtain ⟨inf, d, z', h1, h2, h3, h4, h5, h6, h7⟩ := tiOf_spec hi
  cases d with
  | struct fl => simp only [shOf, Option.map_eq_some_iff] at h4; obtain ⟨l, hl, he⟩ := h4; cases he
  | slice e =>
    simp only [shOf] at h4
    split at h4
    · rename_i i hq
      split at h4
      · rename_i z1 hz; cases h4
        exact ⟨i, z1, h2, hq, hz, rfl, rfl, rfl⟩
      · cases h4
    · cases h4
  | array n e => simp only [shOf] at h4; split at h4 <;> cases h4
  | _ => simp [shOf] at h4
theorem array_spec {ty : TypeId} {s : Nat} {z : List Value} {n es : Nat} {g : Bool} (hi : tiOf P ty = some ⟨s, z, .array n es g⟩) :
    ∃ el i, P.underlying ty = some (.array n el) ∧ P.info? el = some i ∧ i.size = es ∧ g = aggB (P.underlying el) ∧ (P.underlying el).isSome = true := by
  obtain ⟨inf, d, z', h1, h2, h3, h4, h5, h6, h7⟩ := tiOf_spec hi
  cases d with
  | struct fl => simp only [shOf, Option.map_eq_some_iff] at h4; obtain ⟨l, hl, he⟩ := h4; cases he
  | slice e => simp only [shOf] at h4; split at h4; (split at h4 <;> cases h4); cases h4
  | array n e =>
    simp only [shOf] at h4
    split at h4
    · rename_i i dd hq hdd; cases h4; exact ⟨e, i, h2, hq, rfl, by rw [hdd], by rw [hdd]; rfl⟩
    · cases h4
  | _ => simp [shOf] at h4
theorem int_spec {ty : TypeId} {s : Nat} {z : List Value} {k : IntKind} (hi : tiOf P ty = some ⟨s, z, .int k⟩) : P.underlying ty = some (.int k) := by
  obtain ⟨inf, d, z', h1, h2, h3, h4, h5, h6, h7⟩ := tiOf_spec hi
  cases d with
  | struct fl => simp only [shOf, Option.map_eq_some_iff] at h4; obtain ⟨l, hl, he⟩ := h4; cases he
  | slice e => simp only [shOf] at h4; split at h4; (split at h4 <;> cases h4); cases h4
  | array n e => simp only [shOf] at h4; split at h4 <;> cases h4
  | int k' => simp [shOf] at h4; subst h4; exact h2
  | _ => simp [shOf] at h4
theorem bool_spec {ty : TypeId} {s : Nat} {z : List Value} (hi : tiOf P ty = some ⟨s, z, .bool⟩) : P.underlying ty = some .bool := by
  obtain ⟨inf, d, z', h1, h2, h3, h4, h5, h6, h7⟩ := tiOf_spec hi
  cases d with
  | struct fl => simp only [shOf, Option.map_eq_some_iff] at h4; obtain ⟨l, hl, he⟩ := h4; cases he
  | slice e => simp only [shOf] at h4; split at h4; (split at h4 <;> cases h4); cases h4
  | array n e => simp only [shOf] at h4; split at h4 <;> cases h4
  | bool => exact h2
  | _ => simp [shOf] at h4
theorem ptr_spec {ty : TypeId} {s : Nat} {z : List Value} (hi : tiOf P ty = some ⟨s, z, .ptr⟩) : ∃ e, P.underlying ty = some (.pointer e) := by
  obtain ⟨inf, d, z', h1, h2, h3, h4, h5, h6, h7⟩ := tiOf_spec hi
  cases d with
  | struct fl => simp only [shOf, Option.map_eq_some_iff] at h4; obtain ⟨l, hl, he⟩ := h4; cases he
  | slice e => simp only [shOf] at h4; split at h4; (split at h4 <;> cases h4); cases h4
  | array n e => simp only [shOf] at h4; split at h4 <;> cases h4
  | pointer e => exact ⟨e, h2⟩
  | _ => simp [shOf] at h4
theorem fieldAddr_sound (m : Mt B h w) (k : TR N B t a.tmps) {ty : TypeId} {x : Operand} {f : Nat} (ho : o.op = .fieldAddr ty x f) (e : fieldAddrR P t h ty x f = some r) : OS P B h w a o r := by
  unfold fieldAddrR at e
  split at e
  · rename_i j off hv
    split at e
    · rename_i s z fs hi
      unfold faR at e
      split at e
      · rename_i q hq; cases e
        obtain ⟨fl, hu, hf⟩ := struct_spec hi
        obtain ⟨f', i, e1, e2, e3, e4, rfl⟩ := hf _ _ hq
        obtain ⟨d, hB, hp⟩ : PM B j off (a.eval x) := ev_sound k hv
        refine os_val m ?_ (⟨d, hB, rfl⟩ : PM B j (off + f'.offset) _)
        simp only [execOp, ho]
        refine exV ?_
        simp [Instr.fieldAt, run_underlying hu, e1, hp, Instr.sureAddr, fieldPlace, sizeOf, typeInfo, e2, e3, add_add (m.spt _ _ hB)]
      · cases e
    · cases e
  · cases e
theorem part_run {ty : TypeId} {i : TypeInfo} (hi : P.info? ty = some i) {l : List SV} {vs : List Value} (hl : LR B l vs) {off : Nat} {r : OR} (e : fdR h l (some (off, i.size, aggB (P.underlying ty))) = some r) (hd : (P.underlying ty).isSome = true) :
    ∃ v x, r = .val v h ∧ (part ty vs.toArray off).run P w = .ok x w ∧ PR B v x := by
  obtain ⟨d, hd⟩ := Option.isSome_iff_exists.1 hd
  have hag : (isAgg ty).run P w = .ok (aggB (P.underlying ty)) w := by
    rw [hd]
    simp only [isAgg, Sem.run_bind, run_underlying hd, Result.andThen_ok]
    cases d <;> rfl
  cases hb : aggB (P.underlying ty) with
  | true =>
    rw [hb] at e
    simp only [fdR] at e
    split at e
    · rename_i hle; cases e
      refine ⟨_, .agg (vs.toArray.extract off (off + i.size)), rfl, ?_, ⟨(vs.drop off).take i.size, ?_, (hl.drop off).take i.size⟩⟩
      · simp [part, hag, hb, sizeOf, typeInfo, hi]
      · simp [List.extract_eq_take_drop]
    · cases e
  | false =>
    rw [hb] at e
    simp only [fdR] at e
    cases hx : l[off]? with
    | none => rw [hx] at e; simp [ld1R] at e
    | some x =>
      rw [hx] at e
      simp only [Option.map_some, ld1R, Option.some.injEq] at e
      subst e
      obtain ⟨v, hv, hr⟩ := hl.get _ _ hx
      exact ⟨_, v, rfl, by simp [part, hag, hb, hv], hr⟩
theorem extract_sound (m : Mt B h w) (k : TR N B t a.tmps) {x : Operand} {n : Nat} (ho : o.op = .extract x n) (e : extractR t h x n = some r) : OS P B h w a o r := by
  unfold extractR at e
  split at e
  · rename_i l hv
    obtain ⟨vs, hp, q⟩ : ∃ vs : List Value, a.eval x = .tuple vs.toArray ∧ PL B l vs := ev_sound k hv
    have hg : ∀ (l : List PV) (vs : List Value), PL B l vs → ∀ (n : Nat) (y : PV), l[n]? = some y → ∃ v, vs[n]? = some v ∧ PR1 B y v := by
      intro l
      induction l with
      | nil => intro vs _ n y hy; simp at hy
      | cons z l ih =>
        intro vs hq n y hy
        cases vs with
        | nil => exact hq.elim
        | cons u vs =>
          cases n with
          | zero => simp at hy; subst hy; exact ⟨u, rfl, hq.1⟩
          | succ n => simpa using ih vs hq.2 n y (by simpa using hy)
    unfold extR at e
    split at e
    · rename_i y hy; cases e
      obtain ⟨v, hv', hr⟩ := hg l vs q n _ hy
      refine os_val m ?_ hr
      simp only [execOp, ho]
      refine exV ?_
      simp [hp, Instr.extract, hv']
    · rename_i y hy; cases e
      obtain ⟨v, hv', hr⟩ := hg l vs q n _ hy
      refine os_val m ?_ hr
      simp only [execOp, ho]
      refine exV ?_
      simp [hp, Instr.extract, hv']
    · cases e
  · cases e
theorem indexAddr_sound (m : Mt B h w) (k : TR N B t a.tmps) {ty : TypeId} {x y : Operand} (ho : o.op = .indexAddr ty x y) (e : indexAddrR P t h ty x y = some r) : OS P B h w a o r := by
  unfold indexAddrR at e
  split at e
  · rename_i kk i hy
    have hi : a.eval y = .int kk i := ev_sound k hy
    split at e
    · rename_i s z el es eb ez ht
      obtain ⟨inf, z', h1, h2, h3, h4, h5, h6⟩ := slice_spec ht
      split at e
      · rename_i j off len hx
        cases e
        intro hb
        obtain ⟨q, cap, hp, hle, hq⟩ : ∃ q cap, a.eval x = .slice q len cap ∧ len ≤ cap ∧ (0 < len → ∃ d, B j = some d ∧ q = some (d.a.add off)) := ev_sound k hx
        obtain ⟨d, hB, rfl⟩ := hq (by omega)
        refine os_val m ?_ (⟨d, hB, rfl⟩ : PM B j (off + i.toNat * es) _)
        simp only [execOp, ho]
        refine exV ?_
        simp [Instr.indexAt, hi, asIntOf, run_underlying h1, hp, hb.1, hb.2, sizeOf, typeInfo, h2, h5, add_add (m.spt _ _ hB)]
      · rename_i j len es' ty' hx
        cases e
        intro hb
        obtain ⟨cap, d, hB, hp, hle, _⟩ : ∃ cap d, B j = some d ∧ a.eval x = .slice (some d.a) len cap ∧ len ≤ cap ∧ cap ≤ maxLen ∧ d.a.off = 0 ∧ d.r = cap * es' ∧ d.ty = ty' := ev_sound k hx
        refine os_val m ?_ (⟨d, hB, rfl⟩ : PM B j (0 + i.toNat * es) _)
        simp only [execOp, ho]
        refine exV ?_
        simp [Instr.indexAt, hi, asIntOf, run_underlying h1, hp, hb.1, hb.2, sizeOf, typeInfo, h2, h5]
      · cases e
    · rename_i s z n es g ht
      obtain ⟨el, inf, h1, h2, h3, h4⟩ := array_spec ht
      split at e
      · rename_i j off hx
        cases e
        intro hb
        obtain ⟨d, hB, hp⟩ : PM B j off (a.eval x) := ev_sound k hx
        refine os_val m ?_ (⟨d, hB, rfl⟩ : PM B j (off + i.toNat * es) _)
        simp only [execOp, ho]
        refine exV ?_
        simp [Instr.indexAt, hi, asIntOf, run_underlying h1, hp, Instr.sureAddr, hb.1, hb.2, sizeOf, typeInfo, h2, h3, add_add (m.spt _ _ hB)]
      · cases e
    · cases e
  · cases e
theorem int_sound (m : Mt B h w) {op : BinOp} {kk : IntKind} {x y : Int} {ty : TypeId} (e : intR h op kk x y = some r) (hsh : isSh op = false)
    (hrun : ∀ s, (binOp op ty (.int kk x) (.int kk y)).run P w = s → (execOp a.eval o).run P w = s.andThen fun v w' => .ok (.value v) w') : OS P B h w a o r := by
  have hb := hrun _ rfl
  cases op <;> simp only [intR, Option.some.injEq, reduceCtorEq] at e <;> subst e
  all_goals first
    | (intro hne
       refine os_val m ?_ rfl
       rw [hb]; simp [binOp, Op.intDiv, hne])
    | (refine os_val m ?_ rfl
       rw [hb]; simp [binOp, Op.intArith, Op.intBits, Op.intCmp])
theorem shift_sound (m : Mt B h w) {op : BinOp} {kk k2 : IntKind} {x y : Int} {ty : TypeId} (e : shR h op kk x y = some r)
    (hrun : ∀ s, (binOp op ty (.int kk x) (.int k2 y)).run P w = s → (execOp a.eval o).run P w = s.andThen fun v w' => .ok (.value v) w') : OS P B h w a o r := by
  have hb := hrun _ rfl
  cases op <;> simp only [shR, Option.some.injEq, reduceCtorEq] at e <;> subst e
  all_goals
    intro hne
    refine os_val m ?_ rfl
    rw [hb]; simp [binOp, Op.shift, Int.not_lt.2 hne]
theorem eq_sound (m : Mt B h w) {op : BinOp} {b : Bool} {ty : TypeId} {x y : Value} (e : eqR h op b = some r) (heq : (Op.equal ty x y).run P w = .ok b w)
    (hb : ∀ s, (do pure (.bool (← Op.equal ty x y)) : Sem Value).run P w = s → op = .eql → (execOp a.eval o).run P w = s.andThen fun v w' => .ok (.value v) w')
    (hb2 : ∀ s, (do pure (.bool (!(← Op.equal ty x y))) : Sem Value).run P w = s → op = .neq → (execOp a.eval o).run P w = s.andThen fun v w' => .ok (.value v) w') : OS P B h w a o r := by
  cases op <;> simp only [eqR, Option.some.injEq, reduceCtorEq] at e <;> subst e
  · refine os_val m ?_ rfl
    rw [hb _ rfl rfl]; simp [heq]
  · refine os_val m ?_ rfl
    rw [hb2 _ rfl rfl]; simp [heq]
end
end Go.Proofs.Ytahepinbmcgbnaa.Vm
end
section
/- Small memories: the other operations. No condition. -/
set_option linter.unusedVariables false
set_option linter.unusedSimpArgs false
namespace Go.Proofs.Ytahepinbmcgbnaa.Vm
open Go.RowKit

/-- Parts laid into a row. -/
def fillP (place : Nat → Option (Nat × Nat)) : List SV → List (Nat × List SV) → Option (List SV)
  | z, [] => some z
  | z, (i, l) :: r => match place i with
    | some (off, n) => if l.length = n ∧ off + n ≤ z.length then fillP place (z.take off ++ l ++ z.drop (off + n)) r else none
    | none => none
def partsR (t : Tm) : List (Nat × Operand) → Option (List (Nat × List SV))
  | [] => some []
  | (i, x) :: r => match ev t x with
    | some v => match cellsOf v, partsR t r with
      | some l, some q => some ((i, l) :: q)
      | _, _ => none
    | none => none
def bld2R (h : Hp) (r : Option (List SV)) : Option OR := match r with
  | some l => some (.val (.g l) h)
  | none => none
def bld1R (fs : List (Nat × Nat × Bool)) (z : List Value) (h : Hp) (q : Option (List (Nat × List SV))) : Option OR := match q with
  | some l => bld2R h (fillP (fun (i : Nat) => (fs[i]?).map fun (f : Nat × Nat × Bool) => (f.1, f.2.1)) (z.map .a) l)
  | none => none
def buildR (P : Program) (t : Tm) (h : Hp) (ty : TypeId) (parts : List (Nat × Operand)) : Option OR := match tiOf P ty with
  | some ⟨_, z, .struct fs⟩ => bld1R fs z h (partsR t parts)
  | _ => none
def zrow (ez : List Value) (n : Nat) : List SV := (List.replicate n (ez.map SV.a)).flatten
def bs2R (h : Hp) (len es : Nat) (el : TypeId) (r : Option (List SV)) : Option OR := match r with
  | some l => some (.need (len ≤ maxLen) (.val (.s (.so h.length len es el)) (h ++ [.rw l])))
  | none => none
def bs1R (h : Hp) (len es : Nat) (el : TypeId) (ez : List Value) (q : Option (List (Nat × List SV))) : Option OR := match q with
  | some l => bs2R h len es el (fillP (fun i => some (i * es, es)) (zrow ez len) l)
  | none => none
def buildSliceR (P : Program) (t : Tm) (h : Hp) (ty : TypeId) (len : Nat) (parts : List (Nat × Operand)) : Option OR := match tiOf P ty with
  | some ⟨_, _, .slice el es _ ez⟩ => if ez.length = es ∧ 0 < es ∧ len * es ≤ 2 ^ 24 then bs1R h len es el ez (partsR t parts) else none
  | _ => none
section
variable {P : Program} {N : Nat} {B : Bs} {h : Hp} {w : World} {t : Tm} {a : Act} {o : Oper} {r : OR}

theorem splice_one (cs : Array Value) (off : Nat) : ∀ (vs : List Value) (i : Nat) (cells : Array Value), off + i + vs.length ≤ cells.size →
    ((vs.zipIdx i).foldl (fun (cs : Array Value) (q : Value × Nat) => cs.setIfInBounds (off + q.2) q.1) cells).toList = cells.toList.take (off + i) ++ vs ++ cells.toList.drop (off + i + vs.length)
  | [], i, cells, _ => by simp
  | v :: vs, i, cells, hl => by
    simp only [List.zipIdx_cons, List.foldl_cons]
    rw [splice_one cs off vs (i + 1) _ (by simp at hl ⊢; omega)]
    simp only [Array.toList_setIfInBounds, List.length_cons]
    have := list_seg_step cells.toList (off + i) v vs (by simp at hl ⊢; omega)
    simpa [Nat.add_assoc] using this
def FR (B : Bs) : List (Nat × List SV) → List (Nat × Value) → Prop
  | [], [] => True
  | x :: xs, u :: us => (x.1 = u.1 ∧ ∃ vs : List Value, u.2.cells = vs.toArray ∧ LR B x.2 vs) ∧ FR B xs us
  | _, _ => False
theorem fillP_sound {place : Nat → Option (Nat × Nat)} : ∀ {q : List (Nat × List SV)} {z l : List SV} {us : List (Nat × Value)} {zs : Array Value}, fillP place z q = some l → LR B z zs.toList →
    FR B q us →
    ∃ cells : Array Value, Instr.fill place zs us = some cells ∧ LR B l cells.toList
  | [], z, l, us, zs, e, hz, hu => by
    cases us with
    | cons _ _ => exact hu.elim
    | nil =>
    simp only [fillP, Option.some.injEq] at e
    subst e
    exact ⟨zs, rfl, hz⟩
  | (i, x) :: q, z, l, us, zs, e, hz, hu => by
    cases us with
    | nil => exact hu.elim
    | cons u us =>
      obtain ⟨hx, hr⟩ := hu
      obtain ⟨i', u⟩ := u
      obtain ⟨hi, vs, hc, hl⟩ := hx
      simp only at hi hc
      subst hi
      simp only [fillP] at e
      split at e
      · rename_i off n hp
        split at e
        · rename_i hle
          have hlen : x.length = vs.length := hl.len
          have hzl := hz.len
          have hsz : off + 0 + vs.length ≤ zs.size := by simp at hzl; omega
          have hsp := splice_one #[] off vs 0 zs hsz
          have hz' : LR B (z.take off ++ x ++ z.drop (off + n)) (((vs.zipIdx 0).foldl (fun (cs : Array Value) (q : Value × Nat) => cs.setIfInBounds (off + q.2) q.1) zs)).toList := by
            rw [hsp]
            refine ((hz.take off).append hl).append ?_
            rw [show off + 0 + vs.length = off + n by omega]
            exact hz.drop _
          obtain ⟨cells, hf, hcl⟩ := fillP_sound e hz' hr
          refine ⟨cells, ?_, hcl⟩
          simp only [Instr.fill, hp, hc]
          rw [if_neg (by simp at hzl ⊢; omega)]
          rw [← hf]
          congr 1
          rw [← Array.foldl_toList]
          simp
        · cases e
      · cases e
theorem partsR_sound (k : TR N B t a.tmps) : ∀ {ps : List (Nat × Operand)} {q : List (Nat × List SV)}, partsR t ps = some q →
    FR B q (ps.map fun z => (z.1, a.eval z.2))
  | [], q, e => by simp [partsR] at e; subst e; trivial
  | (i, x) :: ps, q, e => by
    simp only [partsR] at e
    split at e
    · rename_i v hv
      split at e
      · rename_i l q' hl hq
        cases e
        obtain ⟨vs, hc, hr, _⟩ := cellsOf_sound (ev_sound k hv) hl
        exact ⟨⟨rfl, vs, hc, hr⟩, partsR_sound k hq⟩
      · cases e
    · cases e
theorem mapM_run {α β : Type} {f : α → Sem β} {g : α → Option β} (hf : ∀ x y, g x = some y → (f x).run P w = .ok y w) : ∀ (l : List α) (ys : List β), l.mapM g = some ys → (l.mapM f).run P w = .ok ys w
  | [], ys, e => by simp at e; subst e; simp
  | x :: l, ys, e => by
    rw [List.mapM_cons] at e
    cases hx : g x with
    | none => simp [hx] at e
    | some y =>
      cases hl : l.mapM g with
      | none => simp [hx, hl] at e
      | some ys' =>
        simp [hx, hl] at e
        subst e
        rw [List.mapM_cons]
        simp only [Sem.run_bind, hf x y hx, Result.andThen_ok, mapM_run hf l ys' hl, Sem.run_pure]
theorem places_run : ∀ {fl : List Field} {fs : List (Nat × Nat × Bool)}, fl.mapM (fOf P) = some fs → (fl.mapM fun (f : Field) => (do pure (f.offset, ← sizeOf f.type) : Sem (Nat × Nat))).run P w = .ok (fs.map fun f => (f.1, f.2.1)) w
  | [], fs, e => by simp at e; subst e; simp
  | f :: l, fs, e => by
    rw [List.mapM_cons] at e
    cases hi : fOf P f with
    | none => simp [hi] at e
    | some q =>
      cases hr : l.mapM (fOf P) with
      | none => simp [hi, hr] at e
      | some fs' =>
        simp [hi, hr] at e
        subst e
        obtain ⟨i, h1, _, _, rfl⟩ := fOf_spec hi
        have hs : (sizeOf f.type).run P w = .ok i.size w := by simp [sizeOf, typeInfo, h1]
        rw [List.mapM_cons]
        simp only [Sem.run_bind, hs, Result.andThen_ok, Sem.run_pure, places_run hr]
        simp
theorem build_sound (m : Mt B h w) (k : TR N B t a.tmps) {ty : TypeId} {ps : List (Nat × Operand)} (ho : o.op = .build ty ps.toArray) (e : buildR P t h ty ps = some r) : OS P B h w a o r := by
  unfold buildR at e
  split at e
  · rename_i s z fs hi
    obtain ⟨inf, d, z', h1, h2, h3, h4, h5, h6, h7⟩ := tiOf_spec hi
    obtain ⟨fl, hu, _⟩ := struct_spec hi
    obtain rfl : d = .struct fl := Option.some.inj (h2.symm.trans hu)
    simp only [shOf, Option.map_eq_some_iff] at h4
    obtain ⟨fs', hfs, he⟩ := h4
    cases he
    unfold bld1R at e
    split at e
    · rename_i q hq
      unfold bld2R at e
      split at e
      · rename_i l hl; cases e
        have hz : LR B (z.map .a) (z'.cells).toList := by rw [h6]; exact lr_atoms _
        obtain ⟨cells, hf, hr⟩ := fillP_sound hl hz (partsR_sound k hq)
        refine os_val m ?_ (⟨cells.toList, by simp, hr⟩ : PR B (.g l) (.agg cells))
        simp only [execOp, ho]
        refine exV ?_
        have hpl := places_run (P := P) (w := w) hfs
        have hpl' : (fl.mapM fun (f : Field) => (do pure (f.offset, ← sizeOf f.type) : Sem (Nat × Nat))).run P w = .ok (fs.map fun f => (f.1, f.2.1)).toArray w := by
          rw [Array.mapM_eq_mapM_toList]
          change ((fl.toList.mapM fun (f : Field) => (do pure (f.offset, ← sizeOf f.type) : Sem (Nat × Nat))) >>= (pure ∘ List.toArray)).run P w = _
          simp only [Sem.run_bind, hpl, Result.andThen_ok]
          rfl
        have hzv : (zeroValue ty).run P w = .ok z' w := by simp [zeroValue, typeInfo, h1, h3]
        simp only [Instr.build, Sem.run_bind, hzv, Result.andThen_ok, Sem.run_pure, run_underlying hu, hpl']
        have hpe : (fun (i : Nat) => ((fs.map fun (f : Nat × Nat × Bool) => (f.1, f.2.1)).toArray)[i]?) = (fun (i : Nat) => (fs[i]?).map fun (f : Nat × Nat × Bool) => (f.1, f.2.1)) := by funext i; simp
        simp only [hpe]
        have hmap : (Array.map (fun (x : Nat × Operand) => (x.1, a.eval x.2)) ps.toArray).toList = ps.map fun z => (z.1, a.eval z.2) := by simp
        rw [hmap, hf]
        simp
      · cases e
    · cases e
  · cases e
theorem zrow_range (z : Array Value) : ∀ (n : Nat), 0 < z.size → ((Array.range (n * z.size)).map fun (i : Nat) => z[i % z.size]!).toList = (List.replicate n z.toList).flatten
  | 0, _ => by simp
  | n + 1, hz => by
    have ih := zrow_range z n hz
    have e : (List.range ((n + 1) * z.size)) = List.range (n * z.size) ++ (List.range z.size).map (n * z.size + ·) := by
      rw [show (n + 1) * z.size = n * z.size + z.size by rw [Nat.add_mul, Nat.one_mul], List.range_add]
    rw [Array.toList_map, Array.toList_range] at ih ⊢
    rw [e, List.map_append, ih, List.replicate_succ', List.flatten_append]
    congr 1
    simp only [List.flatten_cons, List.flatten_nil, List.append_nil, List.map_map]
    apply List.ext_getElem?
    intro i
    simp only [List.getElem?_map]
    rcases Nat.lt_or_ge i z.size with hi | hi
    · rw [List.getElem?_range hi]
      simp only [Option.map_some, Function.comp]
      rw [Nat.add_comm, Nat.add_mul_mod_self_right, Nat.mod_eq_of_lt hi]
      simp [hi]
    · rw [List.getElem?_eq_none (by simpa using hi)]
      simp [hi]
theorem lr_zrow (ez : List Value) : ∀ n, LR B (zrow ez n) (List.replicate n ez).flatten
  | 0 => trivial
  | n + 1 => by
    simp only [zrow, List.replicate_succ, List.flatten_cons]
    exact (lr_atoms ez).append (lr_zrow ez n)
theorem so_new (B : Bs) (n : Nat) (len cap es r : Nat) (ty : TypeId) (b : Nat) (h1 : len ≤ cap) (h2 : cap ≤ maxLen) (h3 : r = cap * es) : PR (put B n ⟨⟨b, 0, none⟩, r, ty⟩) (.s (.so n len es ty)) (.slice (some ⟨b, 0, none⟩) len cap) :=
  ⟨cap, ⟨⟨b, 0, none⟩, r, ty⟩, by simp [put], rfl, h1, h2, rfl, h3, rfl⟩
theorem fillP_len {place : Nat → Option (Nat × Nat)} : ∀ {q : List (Nat × List SV)} {z l : List SV}, fillP place z q = some l → l.length = z.length
  | [], z, l, e => by simp [fillP] at e; subst e; rfl
  | (i, x) :: q, z, l, e => by
    simp only [fillP] at e
    split at e
    · split at e
      · rename_i hle
        rw [fillP_len e]; simp; omega
      · cases e
    · cases e
theorem zrow_len (ez : List Value) : ∀ n, (zrow ez n).length = n * ez.length
  | 0 => by simp [zrow]
  | n + 1 => by
    have := zrow_len ez n
    simp only [zrow, List.replicate_succ, List.flatten_cons, List.length_append, List.length_map] at this ⊢
    rw [this, Nat.add_mul]; omega
theorem buildSlice_sound (m : Mt B h w) (k : TR N B t a.tmps) {ty : TypeId} {len : Nat} {ps : List (Nat × Operand)} (ho : o.op = .buildSlice ty len ps.toArray) (e : buildSliceR P t h ty len ps = some r) : OS P B h w a o r := by
  unfold buildSliceR at e
  split at e
  · rename_i s z el es eb ez hi
    split at e
    · rename_i hc
      obtain ⟨hc1, hc2, hc3⟩ := hc
      obtain ⟨inf, z', hu, h1, h2, h3, h4, h5⟩ := slice_spec hi
      unfold bs1R at e
      split at e
      · rename_i q hq
        unfold bs2R at e
        split at e
        · rename_i l hl; cases e
          intro hmax
          have hzs : z'.cells.size = es := by rw [← Array.length_toList, h3]; exact hc1
          have hz : LR B (zrow ez len) ((Array.range (len * es)).map fun (i : Nat) => z'.cells[i % z'.cells.size]!).toList := by
            rw [← hzs, zrow_range _ _ (by omega), h3]; exact lr_zrow ez len
          obtain ⟨cells, hf, hr⟩ := fillP_sound hl hz (partsR_sound k hq)
          obtain ⟨m', st⟩ := alloc_sound m el hr
          have hcl : cells.toList.length = len * es := by
            rw [← hr.len, fillP_len hl, zrow_len, hc1]
          refine ⟨.slice (some ⟨w.heap.size, 0, none⟩) len len, _, _, ?_, so_new B h.length len len es cells.toList.length el w.heap.size (Nat.le_refl _) hmax hcl, m', st⟩
          simp only [execOp, ho]
          refine exV ?_
          have hs : (sizeOf el).run P w = .ok es w := by simp [sizeOf, typeInfo, h1, h4]
          have hzv : (zeroValue el).run P w = .ok z' w := by simp [zeroValue, typeInfo, h1, h2]
          have hmap : (Array.map (fun (x : Nat × Operand) => (x.1, a.eval x.2)) ps.toArray).toList = ps.map fun z => (z.1, a.eval z.2) := by simp
          have hng : ¬ (len * es > 2 ^ 24) := by omega
          by_cases h0 : len * es = 0
          · have hE : ∀ f : Nat → Value, (Array.range 0).map f = #[] := fun f => by simp [Array.range]
            have hf' := hf
            simp only [h0, hE] at hf'
            have hng0 : ¬ (0 > 2 ^ 24) := by omega
            simp only [Instr.buildSlice, Sem.run_bind, run_underlying hu, hs, Result.andThen_ok, hng0, if_false, h0, if_true, Sem.run_pure, hmap, hE, hf', newRow_run]
          · simp only [Instr.buildSlice, Sem.run_bind, run_underlying hu, hs, Result.andThen_ok, hng, if_false, h0, Sem.run_pure, hzv, hmap, hf, newRow_run]
            try simp
        · cases e
      · cases e
    · cases e
  · cases e
end
end Go.Proofs.Ytahepinbmcgbnaa.Vm
end
section
/- Small memories: the rest of the operations: words, interfaces, slices, calls. No condition. -/
set_option linter.unusedVariables false
set_option linter.unusedSimpArgs false
namespace Go.Proofs.Ytahepinbmcgbnaa.Vm
open Go.RowKit

def pvOf : Value → Option PV
  | .agg cs => some (.g (cs.toList.map .a))
  | .tuple _ => none
  | v => some (.s (.a v))
def okT (h : Hp) (ok : Bool) (v : Option PV) : Option OR := match v with
  | some u => some (.val (bif ok then .t [u, .s (.a (.bool true))] else u) h)
  | none => none
def zeroOf (P : Program) (ty : TypeId) : Option Value := (P.info? ty).bind (·.zero)
def no1T (h : Hp) (u : Option PV) : Option OR := match u with
  | some u => some (.val (.t [u, .s (.a (.bool false))]) h)
  | none => none
def noT (P : Program) (h : Hp) (ok : Bool) (ty : TypeId) : Option OR := match ok, zeroOf P ty with
  | true, some z => no1T h (pvOf z)
  | _, _ => none
/-- A concrete type is asked of an interface value. -/
def taR (P : Program) (t : Tm) (h : Hp) (x : Operand) (ty : TypeId) (ok : Bool) : Option OR := match tiOf P ty with
  | some i => match i.sh with
    | .iface => none
    | _ => match ev t x with
      | some (.s (.a (.iface ty' v))) => if ty' = ty then okT h ok (pvOf v) else noT P h ok ty
      | some (.s (.ip ty' j off)) => if ty' = ty then okT h ok (some (.s (.p j off))) else noT P h ok ty
      | some (.s (.a .nilIface)) => noT P h ok ty
      | _ => none
  | none => none
def mfR (t : Tm) (h : Hp) (fn : Fn) (first : List Operand) (cs : Option (List (Nat × Nat))) : Option OR := match fn, first, cs with
  | .func f, [], some l => some (.val (.s (.clo f l)) h)
  | _, _, _ => none
def ptrsR (t : Tm) : List Operand → Option (List (Nat × Nat))
  | [] => some []
  | x :: r => match ev t x, ptrsR t r with
    | some (.s (.p j off)), some q => some ((j, off) :: q)
    | _, _ => none
def ms1R (h : Hp) (n n' : Int) (el : TypeId) (es eb : Nat) (ez : List Value) : Option OR :=
  some (.need (n' = n ∧ 0 ≤ n ∧ n ≤ maxLen ∧ (eb : Int) * n ≤ 140737488355328) (.val (.s (.so h.length n.toNat es el)) (h ++ [.rw (zrow ez n.toNat)])))
/-- make of a length and the same capacity. -/
def makeSliceR (P : Program) (t : Tm) (h : Hp) (ty : TypeId) (x y : Operand) : Option OR := match tiOf P ty with
  | some ⟨_, _, .slice el es eb ez⟩ => if ez.length = es ∧ 0 < es then (match ev t x, ev t y with
    | some (.s (.a (.int .i64 n))), some (.s (.a (.int .i64 n'))) => ms1R h n n' el es eb ez
    | _, _ => none) else none
  | _ => none
def bnd (t : Tm) (d : Int) : Option Operand → Option Int
  | none => some d
  | some x => match ev t x with
    | some (.s (.a (.int _ i))) => some i
    | _ => none
def sl1R (h : Hp) (j off len es : Nat) (lo hi : Option Int) : Option OR := match lo, hi with
  | some l, some u => some (.need (0 ≤ l ∧ l ≤ u ∧ u ≤ (len : Int)) (.val (.s (.sl j (off + l.toNat * es) (u - l).toNat)) h))
  | _, _ => none
def so1R (h : Hp) (j len es : Nat) (ty : TypeId) (hi : Option Int) : Option OR := match hi with
  | some u => some (.need (0 ≤ u ∧ u ≤ (len : Int)) (.val (.s (.so j u.toNat es ty)) h))
  | _ => none
def sliceR (P : Program) (t : Tm) (h : Hp) (ty : TypeId) (x : Operand) (lo hi : Option Operand) : Option OR := match tiOf P ty with
  | some ⟨_, _, .slice _ es _ _⟩ => match ev t x, lo with
    | some (.s (.sl j off len)), _ => sl1R h j off len es (bnd t 0 lo) (bnd t len hi)
    | some (.s (.so j len es' ty')), none => so1R h j len es' ty' (bnd t len hi)
    | some (.s (.so j len _ _)), some _ => sl1R h j 0 len es (bnd t 0 lo) (bnd t len hi)
    | _, _ => none
  | _ => none
def fnOk (P : Program) (f : FuncId) : Bool := match P.funcs[f]? with
  | some fn => !(fn.name == "runtime.NumGoroutine") && !fn.body.isNone
  | none => false
def argsR (t : Tm) : List Operand → Option (List PV)
  | [] => some []
  | x :: r => match ev t x, argsR t r with
    | some v, some q => some (v :: q)
    | _, _ => none
def ca1R (P : Program) (h : Hp) (f : FuncId) (cs : List (Nat × Nat)) (q : Option (List PV)) : Option OR := match q with
  | some l => if fnOk P f = true then some (.call f (l ++ cs.map fun c => .s (.p c.1 c.2)) h) else none
  | none => none
def callR (P : Program) (t : Tm) (h : Hp) (f : Operand) (args : List Operand) : Option OR := match ev t f with
  | some (.s (.clo g cs)) => ca1R P h g cs (argsR t args)
  | _ => none
def lenR (P : Program) (t : Tm) (h : Hp) (ty : TypeId) (x : Operand) : Option OR := match tiOf P ty with
  | some ⟨_, _, .slice _ _ _ _⟩ => match ev t x with
    | some (.s (.sl _ _ len)) => some (.val (.s (.a (.int .i64 len))) h)
    | some (.s (.so _ len _ _)) => some (.val (.s (.a (.int .i64 len))) h)
    | some (.s (.a (.slice none len _))) => some (.val (.s (.a (.int .i64 len))) h)
    | _ => none
  | some ⟨_, _, .str⟩ => match ev t x with
    | some (.s (.a (.string s))) => some (.val (.s (.a (.int .i64 s.size))) h)
    | _ => none
  | some ⟨_, _, .array n _ _⟩ => match ev t x with
    | some _ => some (.val (.s (.a (.int .i64 n))) h)
    | _ => none
  | _ => none
section
variable {P : Program} {N : Nat} {B : Bs} {h : Hp} {w : World} {t : Tm} {a : Act} {o : Oper} {r : OR}

theorem guard_ne (op : BinOp) (ty : TypeId) (x y : Operand) {u v : Value} (h1 : u ≠ .nilIface ∨ v ≠ .nilIface) (h2 : ∀ cs, u ≠ .agg cs) : (eqGuard op ty x y u v).run P w = .ok () w := by
  unfold eqGuard
  cases op <;> (try rfl) <;> (cases u <;> first | exact absurd rfl (h2 _) | (cases v <;> first | rfl | (exfalso; rcases h1 with h1 | h1 <;> exact h1 rfl)))
theorem bin_run {op : BinOp} {ty ty2 : TypeId} {x y : Operand} (ho : o.op = .binOp op ty x y ty2) {s : Result Value} (h1 : a.eval x ≠ .nilIface ∨ a.eval y ≠ .nilIface) (h2 : ∀ cs, a.eval x ≠ .agg cs) (e : (binOp op ty (a.eval x) (a.eval y)).run P w = s) :
    (execOp a.eval o).run P w = s.andThen fun v w' => .ok (.value v) w' := by
  simp only [execOp, ho, Sem.run_bind, guard_ne op ty x y h1 h2, Result.andThen_ok, e]
  cases s <;> simp [Result.andThen]
theorem eq_bool {ty : TypeId} (hu : P.underlying ty = some .bool) (x y : Bool) (n : Nat) : (Op.equalIn (n + 1) ty (.bool x) (.bool y)).run P w = .ok (x == y) w := by
  unfold Op.equalIn
  simp only [Sem.run_bind, run_underlying hu, Result.andThen_ok]
  rfl
theorem eq_ptr {ty el : TypeId} (hu : P.underlying ty = some (.pointer el)) (x : Addr) (n : Nat) : (Op.equalIn (n + 1) ty (.pointer (some x)) (.pointer none)).run P w = .ok false w := by
  unfold Op.equalIn
  simp only [Sem.run_bind, run_underlying hu, Result.andThen_ok]
  rfl
theorem bin_sound (m : Mt B h w) (k : TR N B t a.tmps) {op : BinOp} {ty ty2 : TypeId} {x y : Operand} (ho : o.op = .binOp op ty x y ty2) (e : binR P t h op ty x y = some r) : OS P B h w a o r := by
  unfold binR at e
  split at e
  · rename_i k1 n1 k2 n2 hx hy
    have hx' : a.eval x = .int k1 n1 := ev_sound k hx
    have hy' : a.eval y = .int k2 n2 := ev_sound k hy
    split at e
    · rename_i hsh
      exact shift_sound (ty := ty) m e fun s hs => bin_run ho (by simp [hx']) (by simp [hx']) (by rw [hx', hy']; exact hs)
    · split at e
      · rename_i hsh hk; subst hk
        exact int_sound (ty := ty) m e (by simpa using hsh) fun s hs => bin_run ho (by simp [hx']) (by simp [hx']) (by rw [hx', hy']; exact hs)
      · cases e
  · rename_i b1 b2 hx hy
    have hx' : a.eval x = .bool b1 := ev_sound k hx
    have hy' : a.eval y = .bool b2 := ev_sound k hy
    split at e
    · rename_i s z hi
      have hu := bool_spec hi
      refine eq_sound (ty := ty) (x := .bool b1) (y := .bool b2) m e (eq_bool hu b1 b2 9999) (fun s hs he => ?_) (fun s hs he => ?_)
      · subst he; exact bin_run ho (by simp [hx']) (by simp [hx']) (by rw [hx', hy']; exact hs)
      · subst he; exact bin_run ho (by simp [hx']) (by simp [hx']) (by rw [hx', hy']; exact hs)
    · cases e
  · rename_i j off hx hy
    obtain ⟨d, hB, hx'⟩ : PM B j off (a.eval x) := ev_sound k hx
    have hy' : a.eval y = .pointer none := ev_sound k hy
    split at e
    · rename_i s z hi
      obtain ⟨el, hu⟩ := ptr_spec hi
      refine eq_sound (ty := ty) (x := a.eval x) (y := .pointer none) m e (by rw [hx']; exact eq_ptr hu _ 9999) (fun s hs he => ?_) (fun s hs he => ?_)
      · subst he; exact bin_run ho (by simp [hx']) (by simp [hx']) (by rw [hy']; rw [hx'] at hs ⊢; exact hs)
      · subst he; exact bin_run ho (by simp [hx']) (by simp [hx']) (by rw [hy']; rw [hx'] at hs ⊢; exact hs)
    · cases e
  · cases e
theorem un_sound (m : Mt B h w) (k : TR N B t a.tmps) {op : UnOp} {ty : TypeId} {x : Operand} (ho : o.op = .unOp op ty x) (e : unR t h op x = some r) : OS P B h w a o r := by
  unfold unR at e
  split at e
  · rename_i b hx; cases e
    have hx' : a.eval x = .bool b := ev_sound k hx
    exact os_val m (by simp [execOp, ho, hx', Op.unary]) rfl
  · rename_i kk n hx; cases e
    have hx' : a.eval x = .int kk n := ev_sound k hx
    exact os_val m (by simp [execOp, ho, hx', Op.unary, Op.intArith]) rfl
  · rename_i kk n hx; cases e
    have hx' : a.eval x = .int kk n := ev_sound k hx
    exact os_val m (by simp [execOp, ho, hx', Op.unary, Op.intBits]) rfl
  · cases e
theorem conv_sound (m : Mt B h w) (k : TR N B t a.tmps) {src dst : TypeId} {x : Operand} (ho : o.op = .convert src dst x) (e : convR P t h src dst x = some r) : OS P B h w a o r := by
  unfold convR at e
  split at e
  · rename_i k0 n i s z kk hx hsrc hdst; cases e
    have hx' : a.eval x = .int k0 n := ev_sound k hx
    obtain ⟨inf, d, z', h1, h2, _⟩ := tiOf_spec hsrc
    have hu := int_spec hdst
    refine os_val m ?_ (rfl : SR B (.a _) _)
    simp only [execOp, ho]
    refine exV ?_
    simp only [convert, Sem.run_bind, run_underlying h2, run_underlying hu, Result.andThen_ok, hx']
    rfl
  · cases e
theorem atoms_of {B : Bs} : ∀ {l : List Value} {vs : List Value}, LR B (l.map .a) vs → vs = l
  | [], [], _ => rfl
  | [], _ :: _, k => k.elim
  | _ :: _, [], k => k.elim
  | _ :: _, _ :: _, k => by rw [atoms_of k.2]; congr 1; exact k.1
theorem mi_sound (m : Mt B h w) (k : TR N B t a.tmps) {ty : TypeId} {x : Operand} (ho : o.op = .makeInterface ty x) (e : miR P t h ty x = some r) : OS P B h w a o r := by
  unfold miR at e
  split at e
  · rename_i i hi
    obtain ⟨inf, d, z', h1, h2, h3, h4, _⟩ := tiOf_spec hi
    have hrun : ∀ v, i.sh ≠ .iface → (Instr.makeInterface ty v).run P w = .ok (.iface ty v) w := fun v hne => by
      simp only [Instr.makeInterface, Sem.run_bind, run_underlying h2, Result.andThen_ok]
      cases d <;> first | rfl | (simp only [shOf, Option.some.injEq] at h4; exact absurd h4.symm hne)
    split at e
    · cases e
    · rename_i hne
      split at e
      · rename_i j off hx; cases e
        exact os_val m (by simp only [execOp, ho]; exact exV (hrun _ hne)) (⟨_, rfl, ev_sound k hx⟩ : SR B (.ip ty j off) _)
      · rename_i v hx; cases e
        have hx' : a.eval x = v := ev_sound k hx
        exact os_val m (by simp only [execOp, ho]; exact exV (hrun _ hne)) (by rw [hx']; rfl)
      · rename_i hx; cases e
        obtain ⟨vs, hx', hr⟩ : ∃ vs : List Value, a.eval x = .agg vs.toArray ∧ LR B [] vs := ev_sound k hx
        have : vs = [] := by cases vs; rfl; exact hr.elim
        subst this
        exact os_val m (by simp only [execOp, ho]; exact exV (hrun _ hne)) (by rw [hx']; rfl)
      · cases e
  · cases e
theorem pan_sound (m : Mt B h w) (k : TR N B t a.tmps) {x : Operand} (ho : o.op = .panic x) (e : panR t h x = some r) : OS P B h w a o r := by
  unfold panR at e
  split at e
  · rename_i ty v hx; cases e
    have hx' : a.eval x = .iface ty v := ev_sound k hx
    refine ⟨.iface ty v, ?_, rfl, rfl⟩
    simp only [execOp, ho]
    refine exP ?_
    rw [hx']; rfl
  · rename_i ty j off hx; cases e
    obtain ⟨v, hx', q⟩ : ∃ v, a.eval x = .iface ty v ∧ PM B j off v := ev_sound k hx
    refine ⟨.iface ty v, ?_, ⟨v, rfl, q⟩, rfl⟩
    simp only [execOp, ho]
    refine exP ?_
    rw [hx']; rfl
  · cases e
theorem field_sound (m : Mt B h w) (k : TR N B t a.tmps) {ty : TypeId} {x : Operand} {f : Nat} (ho : o.op = .field ty x f) (e : fieldR P t h ty x f = some r) : OS P B h w a o r := by
  unfold fieldR at e
  split at e
  · rename_i l hx
    split at e
    · rename_i s z fs hi
      obtain ⟨fl, hu, hf⟩ := struct_spec hi
      cases hq : fs[f]? with
      | none => rw [hq] at e; simp [fdR] at e
      | some q =>
        obtain ⟨f', i, e1, e2, e3, hd, rfl⟩ := hf _ _ hq
        rw [hq] at e
        obtain ⟨vs, hx', hr⟩ : ∃ vs : List Value, a.eval x = .agg vs.toArray ∧ LR B l vs := ev_sound k hx
        obtain ⟨v, u, rfl, hrun, hr'⟩ := part_run (P := P) (w := w) e2 hr e hd
        refine os_val m ?_ hr'
        simp only [execOp, ho]
        refine exV ?_
        simp [Instr.field, run_underlying hu, e1, hx', asAgg, hrun]
    · cases e
  · cases e
end
end Go.Proofs.Ytahepinbmcgbnaa.Vm
end
section
/- Small memories: closures, makes, slices, calls, append; every operation at once. No condition. -/
set_option linter.unusedVariables false
set_option linter.unusedSimpArgs false
namespace Go.Proofs.Ytahepinbmcgbnaa.Vm
open Go.RowKit
section
variable {P : Program} {N : Nat} {B : Bs} {h : Hp} {w : World} {t : Tm} {a : Act} {o : Oper} {r : OR}

theorem ptrsR_sound (k : TR N B t a.tmps) : ∀ {l : List Operand} {q : List (Nat × Nat)}, ptrsR t l = some q → CL B q (l.map a.eval)
 | [], q, e => by simp [ptrsR] at e; subst e; trivial
 | x :: l, q, e => by
  simp only [ptrsR] at e
  split at e
  ·rename_i j off q' hx hq; cases e
   exact ⟨ev_sound k hx, ptrsR_sound k hq⟩
  ·cases e
theorem mf_sound (m : Mt B h w) (k : TR N B t a.tmps) {fn : Fn} {first cs : List Operand} (ho : o.op = .makeFunc fn first.toArray cs.toArray) (e : mfR t h fn first (ptrsR t cs) = some r) : OS P B h w a o r := by
 unfold mfR at e
 split at e
 ·rename_i f q hq; cases e
  refine os_val m ?_ (⟨cs.map a.eval, rfl, ptrsR_sound k hq⟩ : SR B (.clo _ _) _)
  simp only [execOp, ho]
  refine exV ?_
  simp [Instr.makeFunc]
 ·cases e
theorem makeSlice_sound (m : Mt B h w) (k : TR N B t a.tmps) {ty : TypeId} {x y : Operand} (ho : o.op = .makeSlice ty x y) (e : makeSliceR P t h ty x y = some r) : OS P B h w a o r := by
 unfold makeSliceR at e
 split at e
 ·rename_i s z el es eb ez hi
  split at e
  ·rename_i hc
   obtain ⟨inf, z', hu, h1, h2, h3, h4, h5⟩ := slice_spec hi
   split at e
   ·rename_i n n' hx hy
    cases e
    rintro ⟨rfl, hn0, hn1, hn2⟩
    have hx' : a.eval x = .int .i64 n' := ev_sound k hx
    have hy' : a.eval y = .int .i64 n' := ev_sound k hy
    have hzs : z'.cells.size = es := by rw [← Array.length_toList, h3]; exact hc.1
    have hz : LR B (zrow ez n'.toNat) ((Array.range (n'.toNat * es)).map fun (i : Nat) => z'.cells[i % z'.cells.size]!).toList := by
     rw [← hzs, zrow_range _ _ (by omega), h3]; exact lr_zrow ez _
    obtain ⟨m', st⟩ := alloc_sound m el hz
    have hcl : ((Array.range (n'.toNat * es)).map fun (i : Nat) => z'.cells[i % z'.cells.size]!).toList.length = n'.toNat * es := by simp
    refine ⟨.slice (some ⟨w.heap.size, 0, none⟩) n'.toNat n'.toNat, _, _, ?_, so_new B h.length n'.toNat n'.toNat es _ el w.heap.size (Nat.le_refl _) (by omega) hcl, m', st⟩
    simp only [execOp, ho]
    refine exV ?_
    have hml : (maxLen : Int) ≤ 9223372036854775807 := by unfold maxLen; omega
    have hwr : IntKind.i64.wrap n' = n' := IntWalk.i64_in n' ⟨by omega, by omega⟩
    have hti : (typeInfo el).run P w = .ok inf w := by simp [typeInfo, h1]
    have hs : (sizeOf el).run P w = .ok es w := by simp [sizeOf, typeInfo, h1, h4]
    have hzv : (zeroValue el).run P w = .ok z' w := by simp [zeroValue, typeInfo, h1, h2]
    have hai : (asInt (.int .i64 n')).run P w = .ok n' w := by rfl
    have hb1 : (decide (n' < 0) || decide ((inf.bytes : Int) * n' > 2 ^ 48)) = false := by
     rw [h5]; simp; omega
    have hb2 : (decide (n' < 0) || decide (n' > n')) = false := by simp; omega
    have hroom : n'.toNat * inf.bytes ≤ roomBytes := by
     rw [h5]; unfold roomBytes
     have : ((n'.toNat * eb : Nat) : Int) ≤ 140737488355328 := by
      push_cast
      rw [Int.toNat_of_nonneg hn0, Int.mul_comm]; exact hn2
     omega
    have har : (askRoom (n'.toNat * inf.bytes)).run P w = .ok () w := by
     unfold askRoom; rw [if_neg (by omega)]; rfl
    have hcond : ((decide (n' < 0) || decide ((inf.bytes : Int) * n' > 2 ^ 48)) || decide (n' < 0) || decide (n' > n')) = false := by
     rw [Bool.or_assoc, hb1, hb2]; rfl
    simp only [Instr.makeSlice, Sem.run_bind, run_underlying hu, hx', hy', hai, Result.andThen_ok, hti, hwr, hcond, Bool.false_eq_true, if_false, har, hs]
    by_cases h0 : n'.toNat * es = 0
    ·have hE : ∀ f : Nat → Value, (Array.range 0).map f = #[] := fun f => by simp [Array.range]
     simp only [h0, if_true, Sem.run_bind, Sem.run_pure, Result.andThen_ok, hE, newRow_run]
    ·simp only [h0, if_false, Sem.run_bind, hzv, Sem.run_pure, Result.andThen_ok, newRow_run]
     try simp
   ·cases e
  ·cases e
 ·cases e
theorem bnd_sound (k : TR N B t a.tmps) {d : Int} {x : Operand} {l : Int} (e : bnd t d (some x) = some l) : ∃ kk, a.eval x = .int kk l := by
 simp only [bnd] at e
 split at e
 ·rename_i kk i hx; cases e; exact ⟨kk, ev_sound k hx⟩
 ·cases e
theorem sb_run {kk : IntKind} {i : Int} {y : Nat} {c : BoundsCode} (h0 : 0 ≤ i) (h1 : i ≤ (y : Int)) : (Instr.sliceBound (.int kk i) y c).run P w = .ok i.toNat w := by
 simp [Instr.sliceBound, asIntOf, h0, h1]
theorem sbs_run (k : TR N B t a.tmps) {lo hi : Option Operand} {len cap : Nat} {l u : Int} (hl : bnd t 0 lo = some l) (hu : bnd t len hi = some u) (h0 : 0 ≤ l) (h1 : l ≤ u) (h2 : u ≤ (len : Int)) (hc : len ≤ cap) :
  (Instr.sliceBounds true len cap (lo.map a.eval) (hi.map a.eval) none).run P w = .ok (l.toNat, u.toNat, cap) w := by
 cases hi with
 | none =>
  simp only [bnd, Option.some.injEq] at hu
  subst hu
  cases lo with
  | none => simp only [bnd, Option.some.injEq] at hl; subst hl; simp [Instr.sliceBounds]
  | some x =>
   obtain ⟨kk, hx⟩ := bnd_sound k hl
   have := sb_run (P := P) (w := w) (kk := kk) (y := len) (c := .sliceB) h0 h1
   simp [Instr.sliceBounds, hx, this]
 | some y =>
  obtain ⟨k2, hy⟩ := bnd_sound k hu
  have e2 := sb_run (P := P) (w := w) (kk := k2) (y := cap) (c := .sliceAcap) (i := u) (by omega) (by omega)
  cases lo with
  | none => simp only [bnd, Option.some.injEq] at hl; subst hl; simp [Instr.sliceBounds, hy, e2]
  | some x =>
   obtain ⟨kk, hx⟩ := bnd_sound k hl
   have e3 := sb_run (P := P) (w := w) (kk := kk) (y := u.toNat) (c := .sliceB) (i := l) h0 (by omega)
   simp [Instr.sliceBounds, hx, hy, e2, e3]
theorem slice_sound (m : Mt B h w) (k : TR N B t a.tmps) {ty : TypeId} {x : Operand} {lo hi : Option Operand} (ho : o.op = .slice ty x lo hi none) (e : sliceR P t h ty x lo hi = some r) : OS P B h w a o r := by
 unfold sliceR at e
 split at e
 ·rename_i s z el es eb ez ht
  obtain ⟨inf, z', hu, h1, h2, h3, h4, h5⟩ := slice_spec ht
  have hs : (sizeOf el).run P w = .ok es w := by simp [sizeOf, typeInfo, h1, h4]
  split at e
  ·rename_i j off len hx
   unfold sl1R at e
   split at e
   ·rename_i l u hl hh; cases e
    rintro ⟨b0, b1, b2⟩
    obtain ⟨q, cap, hp, hle, hq⟩ : ∃ q cap, a.eval x = .slice q len cap ∧ len ≤ cap ∧ (0 < len → ∃ d, B j = some d ∧ q = some (d.a.add off)) := ev_sound k hx
    have hb := sbs_run (P := P) (w := w) k hl hh b0 b1 b2 hle
    refine os_val m (x := .slice (if cap = l.toNat then q else q.map (·.add (l.toNat * es))) (u.toNat - l.toNat) (cap - l.toNat)) ?_ ⟨_, cap - l.toNat, by rw [show (u - l).toNat = u.toNat - l.toNat by omega], by omega, fun hpos => ?_⟩
    ·simp only [execOp, ho]
     refine exV ?_
     simp only [Instr.sliceAt, Sem.run_bind, run_underlying hu, Result.andThen_ok, Instr.slice, hp, Option.map_none, hb, hs, Sem.run_pure]
    ·obtain ⟨d, hB, rfl⟩ := hq (by omega)
     refine ⟨d, hB, ?_⟩
     rw [if_neg (by omega)]
     simp [add_add (m.spt _ _ hB)]
   ·cases e
  ·rename_i j len es' ty' hx
   unfold so1R at e
   split at e
   ·rename_i u hh; cases e
    rintro ⟨b1, b2⟩
    obtain ⟨cap, d, hB, hp, hle, hmx, h7, h8, h9⟩ : ∃ cap d, B j = some d ∧ a.eval x = .slice (some d.a) len cap ∧ len ≤ cap ∧ cap ≤ maxLen ∧ d.a.off = 0 ∧ d.r = cap * es' ∧ d.ty = ty' := ev_sound k hx
    have hb := sbs_run (P := P) (w := w) (lo := none) (l := 0) k rfl hh (by omega) b1 b2 hle
    refine os_val m (x := .slice (some d.a) u.toNat cap) ?_ ⟨cap, d, hB, rfl, by omega, hmx, h7, h8, h9⟩
    simp only [execOp, ho]
    refine exV ?_
    simp only [Instr.sliceAt, Sem.run_bind, run_underlying hu, Result.andThen_ok, Instr.slice, hp, Option.map_none, hs, Sem.run_pure]
    rw [show (none : Option Operand).map a.eval = none from rfl] at hb
    simp only [hb, Result.andThen_ok, hs, Sem.run_pure]
    simp [Addr.add]
   ·cases e
  ·rename_i j len es' ty' xl hx
   unfold sl1R at e
   split at e
   ·rename_i l u hl hh; cases e
    rintro ⟨b0, b1, b2⟩
    obtain ⟨cap, d, hB, hp, hle, hmx, h7, h8, h9⟩ : ∃ cap d, B j = some d ∧ a.eval x = .slice (some d.a) len cap ∧ len ≤ cap ∧ cap ≤ maxLen ∧ d.a.off = 0 ∧ d.r = cap * es' ∧ d.ty = ty' := ev_sound k hx
    have hb := sbs_run (P := P) (w := w) k hl hh b0 b1 b2 hle
    refine os_val m (x := .slice (if cap = l.toNat then some d.a else (some d.a).map (·.add (l.toNat * es))) (u.toNat - l.toNat) (cap - l.toNat)) ?_ ⟨_, cap - l.toNat, by rw [show (u - l).toNat = u.toNat - l.toNat by omega], by omega, fun hpos => ?_⟩
    ·simp only [execOp, ho]
     refine exV ?_
     simp only [Instr.sliceAt, Sem.run_bind, run_underlying hu, Result.andThen_ok, Instr.slice, hp, Option.map_none, hb, hs, Sem.run_pure]
    ·refine ⟨d, hB, ?_⟩
     rw [if_neg (by omega)]
     simp
   ·cases e
  ·cases e
 ·cases e
theorem args_sound (k : TR N B t a.tmps) : ∀ {l : List Operand} {q : List PV}, argsR t l = some q → AR B q (l.map a.eval)
 | [], q, e => by simp [argsR] at e; subst e; trivial
 | x :: l, q, e => by
  simp only [argsR] at e
  split at e
  ·rename_i v q' hx hq; cases e
   exact ⟨ev_sound k hx, args_sound k hq⟩
  ·cases e
theorem AR.append : ∀ {l l' : List PV} {vs vs' : List Value}, AR B l vs → AR B l' vs' → AR B (l ++ l') (vs ++ vs')
 | [], _, [], _, _, k => k
 | [], _, _ :: _, _, h, _ => h.elim
 | _ :: _, _, [], _, h, _ => h.elim
 | _ :: _, _, _ :: _, _, h, k => ⟨h.1, AR.append h.2 k⟩
theorem cl_args : ∀ {l : List (Nat × Nat)} {vs : List Value}, CL B l vs → AR B (l.map fun c => PV.s (.p c.1 c.2)) vs
 | [], [], _ => trivial
 | [], _ :: _, h => h.elim
 | _ :: _, [], h => h.elim
 | _ :: _, _ :: _, h => ⟨h.1, cl_args h.2⟩
theorem callFunc_run {f : FuncId} (hf : fnOk P f = true) (args : Array Value) : (callFunc f args).run P w = .ok (.enter f args) w := by
 unfold fnOk at hf
 split at hf
 ·rename_i fn hfn
  simp only [Bool.and_eq_true, Bool.not_eq_true'] at hf
  have h1 : (fn.name == "runtime.NumGoroutine") = false := hf.1
  have h2 : fn.body.isNone = false := hf.2
  have hp : program.run P w = .ok P w := rfl
  simp only [callFunc, Sem.run_bind, hp, Result.andThen_ok, hfn, h1, h2, Bool.false_eq_true, if_false, Sem.run_pure]
 ·cases hf
theorem call_sound (m : Mt B h w) (k : TR N B t a.tmps) {f : Operand} {args : List Operand} {tys : Array TypeId} (ho : o.op = .call { callee := .value f, args := args.toArray, argTypes := tys }) (e : callR P t h f args = some r) : OS P B h w a o r := by
 unfold callR at e
 split at e
 ·rename_i g cs hf
  unfold ca1R at e
  split at e
  ·rename_i q hq
   split at e
   ·rename_i hok; cases e
    obtain ⟨vs, hf', hcl⟩ : ∃ vs : List Value, a.eval f = .func (.func g) #[] vs.toArray ∧ CL B cs vs := ev_sound k hf
    refine ⟨args.map a.eval ++ vs, ?_, (args_sound k hq).append (cl_args hcl), rfl⟩
    simp only [execOp, ho, resolve, Sem.run_bind, hf', Deferred.ofValue, Sem.run_pure, Result.andThen_ok, invoke]
    rw [callFunc_run hok]
    simp
   ·cases e
  ·cases e
 ·cases e
theorem len_sound (m : Mt B h w) (k : TR N B t a.tmps) {x : Operand} {ty : TypeId} {tys : List TypeId} (ho : o.op = .call { callee := .builtin .len, args := #[x], argTypes := (ty :: tys).toArray }) (e : lenR P t h ty x = some r) : OS P B h w a o r := by
 have hrun : ∀ v, (Builtin.len_ (ty :: tys).toArray o.type #[a.eval x]).run P w = .ok v w → (execOp a.eval o).run P w = .ok (.value v) w := fun v hv => by
  simp only [execOp, ho, resolve, Sem.run_bind, Sem.run_pure, Result.andThen_ok, invoke, builtin, List.map_toArray, List.map_cons, List.map_nil, hv]
 unfold lenR at e
 split at e
 ·rename_i s z el es eb ez ht
  obtain ⟨inf, z', hu, h1, h2, h3, h4, h5⟩ := slice_spec ht
  split at e
  ·rename_i j off len hx; cases e
   obtain ⟨q, cap, hp, _⟩ : ∃ q cap, a.eval x = .slice q len cap ∧ len ≤ cap ∧ (0 < len → ∃ d, B j = some d ∧ q = some (d.a.add off)) := ev_sound k hx
   exact os_val m (hrun _ (by simp [Builtin.len_, run_underlying hu, hp, goInt])) rfl
  ·rename_i j len es' ty' hx; cases e
   obtain ⟨cap, d, hB, hp, _⟩ : ∃ cap d, B j = some d ∧ a.eval x = .slice (some d.a) len cap ∧ len ≤ cap ∧ cap ≤ maxLen ∧ d.a.off = 0 ∧ d.r = cap * es' ∧ d.ty = ty' := ev_sound k hx
   exact os_val m (hrun _ (by simp [Builtin.len_, run_underlying hu, hp, goInt])) rfl
  ·rename_i len cap hx; cases e
   have hp : a.eval x = .slice none len cap := ev_sound k hx
   exact os_val m (hrun _ (by simp [Builtin.len_, run_underlying hu, hp, goInt])) rfl
  ·cases e
 ·rename_i s z ht
  obtain ⟨inf, d, z', h1, h2, h3, h4, h5, h6, h7⟩ := tiOf_spec ht
  have hu : P.underlying ty = some .string := by
   cases d with
   | struct fl => simp only [shOf, Option.map_eq_some_iff] at h4; obtain ⟨l, hl, he⟩ := h4; cases he
   | slice e => simp only [shOf] at h4; split at h4; (split at h4 <;> cases h4); cases h4
   | array n e => simp only [shOf] at h4; split at h4 <;> cases h4
   | string => exact h2
   | _ => simp [shOf] at h4
  split at e
  ·rename_i str hx; cases e
   have hp : a.eval x = .string str := ev_sound k hx
   exact os_val m (hrun _ (by simp [Builtin.len_, run_underlying hu, hp, goInt])) rfl
  ·cases e
 ·rename_i s z n es g ht
  obtain ⟨el, inf, hu, _⟩ := array_spec ht
  split at e
  ·cases e
   exact os_val m (hrun _ (by simp [Builtin.len_, run_underlying hu, goInt])) rfl
  ·cases e
 ·cases e
end
end Go.Proofs.Ytahepinbmcgbnaa.Vm
end
section
/- Small memories: append, type assertions; every operation at once. No condition. -/
set_option linter.unusedVariables false
set_option linter.unusedSimpArgs false
namespace Go.Proofs.Ytahepinbmcgbnaa.Vm
open Go.RowKit

def ap2R (h : Hp) (h' : Hp) (len m es eb : Nat) (el : TypeId) (old news : Option (List SV)) : Option OR := match old, news with
  | some xs, some ys => if ys.all scell = true then some (.need (len + m ≤ maxLen ∧ (len + m) * eb ≤ 140737488355328) (.val (.s (.so h.length (len + m) es el)) (h' ++ [.rw (xs ++ ys)]))) else none
  | _, _ => none
def srcR : Option PV → Option (Nat × Nat × Nat)
  | some (.s (.sl j off m)) => some (j, off, m)
  | some (.s (.so j m _ _)) => some (j, 0, m)
  | some (.s (.a (.slice none 0 _))) => some (0, 0, 0)
  | _ => none
def ap1R (h : Hp) (es eb : Nat) (el : TypeId) (s : Option PV) (src : Option (Nat × Nat × Nat)) : Option OR := match s, src with
  | some (.s (.so j len es' ty)), some (j2, off, m) => if m = 0 then some (.val (.s (.so j len es' ty)) h) else (match h[j]? with
    | some (.rw cs) => if es' = es ∧ ty = el ∧ len * es ≤ cs.length then ap2R h (h.set j .dead) len m es eb el (some (cs.take (len * es))) (ldN h j2 off (m * es)) else none
    | _ => none)
  | some (.s (.a (.slice none 0 0))), some (j2, off, m) => if m = 0 then some (.val (.s (.a (.slice none 0 0))) h) else ap2R h h 0 m es eb el (some []) (ldN h j2 off (m * es))
  | _, _ => none
def appendR (P : Program) (t : Tm) (h : Hp) (ty ty2 : TypeId) (x y : Operand) : Option OR := if ty2 = ty then (match tiOf P ty with
  | some ⟨_, _, .slice el es eb ez⟩ => if ez.length = es ∧ 0 < es then ap1R h es eb el (ev t x) (srcR (ev t y)) else none
  | _ => none) else none
section
variable {P : Program} {N : Nat} {B : Bs} {h : Hp} {w : World} {t : Tm} {a : Act} {o : Oper} {r : OR}

/-- A block that is not looked at any more. -/
theorem Mt.kill (m : Mt B h w) (j : Nat) : Mt B (h.set j .dead) w := by
  have back : ∀ i b, (h.set j Blk.dead)[i]? = some b → b ≠ Blk.dead → h[i]? = some b := fun i b e hn => by
    rw [List.getElem?_set] at e
    split at e
    · split at e
      · exact absurd (Option.some.inj e).symm hn
      · cases e
    · exact e
  refine ⟨fun i b e => ?_, fun i hi => m.dom i (by simpa using hi), m.spt, fun i k ci ck di dk ei ek => m.sep i k ci ck di dk (back _ _ ei (by simp)) (back _ _ ek (by simp)), fun i k ci ck di dk ei ek => m.sepr i k ci ck di dk (back _ _ ei (by simp)) (back _ _ ek (by simp))⟩
  cases b with
  | dead => trivial
  | rw c => exact m.blk i _ (back _ _ e (by simp))
  | ro c => exact m.blk i _ (back _ _ e (by simp))
theorem own_kill (j : Nat) {b : Nat} : Own B (h.set j .dead) b → Own B h b := by
  rintro ⟨i, c, d, e, f, g⟩
  refine ⟨i, c, d, ?_, f, g⟩
  rw [List.getElem?_set] at e
  split at e
  · split at e <;> cases e
  · exact e
theorem kill_step (m : Mt B h w) (j : Nat) : Step B h w B (h.set j .dead) w :=
  ⟨Ext.refl B, ⟨rfl, rfl, rfl, Nat.le_refl _, fun _ _ _ => rfl⟩, fun b o => .inl (own_kill j o), by simp, fun _ _ => rfl, rok_set (by simp)⟩
/-- A block under a new number. -/
theorem Mt.mv (m : Mt B h w) {j : Nat} {cs : List SV} {d : Bd} (hj : h[j]? = some (.rw cs)) (hB : B j = some d) :
    Mt (put B h.length d) (h.set j .dead ++ [.rw cs]) w ∧ Step B h w (put B h.length d) (h.set j .dead ++ [.rw cs]) w := by
  have hx : Ext B (put B h.length d) := put_ext (m.dom _ (Nat.le_refl _))
  have hjl : j < h.length := (List.getElem?_eq_some_iff.1 hj).1
  have back : ∀ i b, (h.set j Blk.dead ++ [Blk.rw cs])[i]? = some b → b ≠ Blk.dead → (i ≠ j ∧ i < h.length ∧ h[i]? = some b ∧ put B h.length d i = B i) ∨ (i = h.length ∧ b = Blk.rw cs ∧ put B h.length d i = some d) := fun i b e hn => by
    rcases Nat.lt_or_ge i h.length with hi | hi
    · rw [List.getElem?_append_left (by simpa using hi), List.getElem?_set] at e
      split at e
      · rename_i q; subst q
        first
          | (split at e
             · exact absurd (Option.some.inj e).symm hn
             · cases e)
          | exact absurd (Option.some.inj e).symm hn
      · rename_i hne
        exact .inl ⟨fun q => hne q.symm, hi, e, by simp [put, Nat.ne_of_lt hi]⟩
    · rw [List.getElem?_append_right (by simpa using hi)] at e
      by_cases hi2 : i = h.length
      · subst hi2
        simp at e
        exact .inr ⟨rfl, e.symm, by simp [put]⟩
      · rw [List.getElem?_eq_none (by simp; omega)] at e; cases e
  refine ⟨⟨fun i b e => ?_, fun i hi => ?_, fun i e q => ?_, fun i k ci ck di dk ei ek bi bk q => ?_, fun i k ci ck di dk ei ek hne bi bk => ?_⟩, ?_⟩
  · cases b with
    | dead => trivial
    | rw c =>
      rcases back i _ e (by simp) with ⟨h1, h2, h3, h4⟩ | ⟨h1, h2, h3⟩
      · obtain ⟨d', c', e1, e2, e3, e4, e5⟩ := m.blk i _ h3
        exact ⟨d', c', h4.trans e1, e2, e3, e4, fun k x hk => let ⟨v, q1, q2⟩ := e5 k x hk; ⟨v, q1, q2.mono hx⟩⟩
      · cases h2
        obtain ⟨d', c', e1, e2, e3, e4, e5⟩ := m.blk j _ hj
        obtain rfl : d = d' := Option.some.inj (hB.symm.trans e1)
        exact ⟨d, c', h3, e2, e3, e4, fun k x hk => let ⟨v, q1, q2⟩ := e5 k x hk; ⟨v, q1, q2.mono hx⟩⟩
    | ro c =>
      rcases back i _ e (by simp) with ⟨h1, h2, h3, h4⟩ | ⟨h1, h2, h3⟩
      · intro k x hk
        obtain ⟨d', v, e1, e2, e3, e4⟩ := m.blk i _ h3 k x hk
        exact ⟨d', v, h4.trans e1, e2, e3, e4.mono hx⟩
      · cases h2
  · simp at hi
    have : i ≠ h.length := by omega
    simp only [put, if_neg this]
    exact m.dom i (by omega)
  · unfold put at q
    split at q
    · cases q; exact m.spt _ _ hB
    · exact m.spt _ _ q
  · rcases back i _ ei (by simp) with ⟨h1, h2, h3, h4⟩ | ⟨h1, h2, h3⟩ <;> rcases back k _ ek (by simp) with ⟨g1, g2, g3, g4⟩ | ⟨g1, g2, g3⟩
    · exact m.sep i k ci ck di dk h3 g3 (h4.symm.trans bi) (g4.symm.trans bk) q
    · obtain rfl : d = dk := Option.some.inj (g3.symm.trans bk)
      exact absurd (m.sep i j ci cs di d h3 hj (h4.symm.trans bi) hB q) h1
    · obtain rfl : d = di := Option.some.inj (h3.symm.trans bi)
      exact absurd (m.sep k j ck cs dk d g3 hj (g4.symm.trans bk) hB q.symm) g1
    · omega
  · rcases back k _ ek (by simp) with ⟨g1, g2, g3, g4⟩ | ⟨g1, g2, g3⟩
    · rcases back i _ ei (by simp) with ⟨h1, h2, h3, h4⟩ | ⟨h1, h2, h3⟩
      · exact m.sepr i k ci ck di dk h3 g3 hne (h4.symm.trans bi) (g4.symm.trans bk)
      · obtain rfl : d = di := Option.some.inj (h3.symm.trans bi)
        exact m.sepr j k cs ck d dk hj g3 hne hB (g4.symm.trans bk)
    · cases g2
  · refine ⟨hx, ⟨rfl, rfl, rfl, Nat.le_refl _, fun _ _ _ => rfl⟩, ?_, by simp, fun i hi => by simp [put, Nat.ne_of_lt hi], rok_app (rok_set (by simp))⟩
    rintro b ⟨i, c, di, e, f, g⟩
    rcases back i _ e (by simp) with ⟨h1, h2, h3, h4⟩ | ⟨h1, h2, h3⟩
    · exact .inl ⟨i, c, di, h3, h4.symm.trans f, g⟩
    · obtain rfl : d = di := Option.some.inj (h3.symm.trans f)
      exact .inl ⟨j, cs, d, hj, hB, g⟩
theorem Mt.drew (m : Mt B h w) : Mt B h w.drew :=
  ⟨fun j b e => by have := m.blk j b e; cases b <;> exact this, m.dom, m.spt, m.sep, m.sepr⟩
theorem app0_run {ty el : TypeId} {inf : TypeInfo} (hu : P.underlying ty = some (.slice el)) (h1 : P.info? el = some inf) (ty2 : TypeId) (q p : Option Addr) (len cap c : Nat) (hle : len ≤ cap) :
    (Builtin.append_ #[ty, ty] ty2 #[.slice p len cap, .slice q 0 c]).run P w = .ok (.slice p len cap) w := by
  cases q <;> cases p <;> simp [Builtin.append_, run_underlying hu, sizeOf, typeInfo, h1, Builtin.lenOf, hle, Builtin.firstCells, loadCells, loadCellsFrom, storeCells]
theorem append_sound (m : Mt B h w) (k : TR N B t a.tmps) {x y : Operand} {ty ty2 : TypeId} (ho : o.op = .call { callee := .builtin .append, args := #[x, y], argTypes := #[ty, ty2] }) (e : appendR P t h ty ty2 x y = some r) : OS P B h w a o r := by
  have hrun : ∀ v w', (Builtin.append_ #[ty, ty2] o.type #[a.eval x, a.eval y]).run P w = .ok v w' → (execOp a.eval o).run P w = .ok (.value v) w' := fun v w' hv => by
    simp only [execOp, ho, resolve, Sem.run_bind, Sem.run_pure, Result.andThen_ok, invoke, builtin, List.map_toArray, List.map_cons, List.map_nil, hv]
  unfold appendR at e
  split at e
  · rename_i hty; subst hty
    split at e
    · rename_i s z el es eb ez hi
      obtain ⟨inf, z', hu, h1, h2, h3, h4, h5⟩ := slice_spec hi
      split at e
      · rename_i hes
        have hzs : z'.cells.size = es := by rw [← Array.length_toList, h3]; exact hes.1
        -- the source
        have hsrc : ∀ j2 off n, srcR (ev t y) = some (j2, off, n) → ∃ q c, a.eval y = .slice q n c ∧ (0 < n → ∃ d, B j2 = some d ∧ q = some (d.a.add off)) := by
          intro j2 off n hs
          unfold srcR at hs
          split at hs
          · rename_i j o n' hv; cases hs
            obtain ⟨q, cap, hp, _, hq⟩ : ∃ q cap, a.eval y = .slice q n cap ∧ n ≤ cap ∧ (0 < n → ∃ d, B j2 = some d ∧ q = some (d.a.add off)) := ev_sound k hv
            exact ⟨q, cap, hp, hq⟩
          · rename_i j n' es' ty' hv; cases hs
            obtain ⟨cap, d, hB, hp, _⟩ : ∃ cap d, B j2 = some d ∧ a.eval y = .slice (some d.a) n cap ∧ n ≤ cap ∧ cap ≤ maxLen ∧ d.a.off = 0 ∧ d.r = cap * es' ∧ d.ty = ty' := ev_sound k hv
            exact ⟨_, cap, hp, fun _ => ⟨d, hB, by simp [Addr.add]⟩⟩
          · rename_i c hv; cases hs
            have hp : a.eval y = .slice none 0 c := ev_sound k hv
            exact ⟨none, c, hp, fun q => by omega⟩
          · cases hs
        unfold ap1R at e
        split at e
        · rename_i j len es' ty' j2 off n hx hs
          obtain ⟨cap, d, hB, hp, hle, hcm, hoff, hr, hdt⟩ : ∃ cap d, B j = some d ∧ a.eval x = .slice (some d.a) len cap ∧ len ≤ cap ∧ cap ≤ maxLen ∧ d.a.off = 0 ∧ d.r = cap * es' ∧ d.ty = ty' := ev_sound k hx
          obtain ⟨q, c, hq, hqd⟩ := hsrc _ _ _ hs
          split at e
          · rename_i h0; subst h0; cases e
            exact os_val m (hrun _ _ (by rw [hp, hq]; exact app0_run hu h1 _ _ _ _ _ _ hle)) ⟨cap, d, hB, rfl, hle, hcm, hoff, hr, hdt⟩
          · rename_i h0
            split at e
            · rename_i cs hj
              split at e
              · rename_i hee
                obtain ⟨rfl, rfl, hcs⟩ := hee
                subst hdt
                unfold ap2R at e
                split at e
                · rename_i xs ys hold hnew
                  cases hold
                  split at e
                  · rename_i hone; cases e
                    rintro ⟨hmx, hby⟩
                    obtain ⟨d2, hB2, rfl⟩ := hqd (by omega)
                    have hnpos : 0 < n * es' := Nat.mul_pos (by omega) hes.2
                    obtain ⟨l2, d2', vs, hB2', hs2, lv, hvs⟩ := ldN_sound m hnew hnpos
                    obtain rfl : d2 = d2' := Option.some.inj (hB2.symm.trans hB2')
                    have hvl : vs.length = n * es' := by rw [← lv.len]; exact l2
                    obtain ⟨d', c0, hB', hsp, hh, hcr, hwn⟩ := m.blk j _ hj
                    obtain rfl : d = d' := Option.some.inj (hB.symm.trans hB')
                    have hda : d.a = ⟨d.a.block, 0, none⟩ := by rcases hdd : d.a with ⟨b0, o0, s0⟩; rw [hdd] at hoff hsp; simp_all
                    -- the old cells
                    have hcl : len * es' ≤ c0.size := by rw [hcr, hr]; exact Nat.mul_le_mul_right _ hle
                    have hol : LR B (cs.take (len * es')) (c0.toList.take (len * es')) := by
                      refine LR.of (by simp; omega) fun i x hx => ?_
                      rw [List.getElem?_take] at hx ⊢
                      split at hx
                      · rename_i hi
                        obtain ⟨v, hv, hr'⟩ := hwn i x hx
                        rw [hoff, Nat.zero_add] at hv
                        rw [if_pos hi]
                        exact ⟨v, by simpa using hv, hr'⟩
                      · cases hx
                    by_cases hroom : len + n ≤ cap
                    · -- in place
                      have hfit : len * inf.size + vs.length ≤ c0.size := by
                        rw [h4, hvl, hcr, hr, ← Nat.add_mul]; exact Nat.mul_le_mul_right _ hroom
                      have hw := run_append_room (P := P) w ty2 o.type d.ty inf hu h1 d.a.block len cap c0 hh (d2.a.add off) n c vs (by rw [hvl, h4]) hvs (lv.one hone) hroom hfit
                      rw [← hda] at hw
                      have m1 : Mt B (h.set j (.rw (cs.take (len * es') ++ ys))) (w.setRow d.a.block (c0.toList.take (len * inf.size) ++ vs ++ c0.toList.drop (len * inf.size + vs.length)).toArray) := by
                        refine m.upd hj hB (setRow_heap w _ c0 _ _ _ hh) ?_ ?_ (fun k hk => setRow_other' w _ k _ hk)
                        · simp; omega
                        · intro i x hx
                          have hl3 := hol.append lv
                          obtain ⟨v, hv, hr'⟩ := hl3.get i x hx
                          refine ⟨v, ?_, hr'⟩
                          rw [hoff, Nat.zero_add, List.getElem?_toArray, h4]
                          rw [List.getElem?_append_left (List.getElem?_eq_some_iff.1 hv).1]
                          exact hv
                      have hj1 : (h.set j (.rw (cs.take (len * es') ++ ys)))[j]? = some (.rw (cs.take (len * es') ++ ys)) := List.getElem?_set_self (List.getElem?_eq_some_iff.1 hj).1
                      obtain ⟨m2, st2⟩ := m1.mv hj1 hB
                      rw [List.set_set, List.length_set] at m2 st2
                      have st1 : Step B h w B (h.set j (.rw (cs.take (len * es') ++ ys))) (w.setRow d.a.block (c0.toList.take (len * inf.size) ++ vs ++ c0.toList.drop (len * inf.size + vs.length)).toArray) :=
                        ⟨Ext.refl B, ⟨rfl, rfl, rfl, Nat.le_of_eq (setRow_size _ _ _).symm, fun k hk hn => setRow_other' w _ k _ (fun q => hn ⟨j, cs, d, hj, hB, q.symm⟩)⟩, fun b o => .inl (own_set hj o), by simp, fun _ _ => rfl, rok_set (by simp)⟩
                      refine ⟨.slice (some d.a) (len + n) cap, _, _, hrun _ _ (by rw [hp, hq]; exact hw), ?_, m2, st1.trans st2⟩
                      exact ⟨cap, d, by simp [put], rfl, hroom, hcm, hoff, hr, rfl⟩
                    · -- a new row
                      have hold' : ∀ i v, (c0.toList.take (len * es'))[i]? = some v → w.cell? (d.a.add i) = some v := fun i v hv => by
                        rw [add_eq hsp, hoff, Nat.zero_add]
                        rw [List.getElem?_take] at hv
                        split at hv
                        · simp [World.cell?, hh]; simpa using hv
                        · cases hv
                      have hw := run_append_grow (P := P) w ty2 o.type d.ty inf z' hu h1 h2 d.a len cap (c0.toList.take (len * es')) (by rw [h4]; simp; omega) hold' (d2.a.add off) n c vs (by rw [hvl, h4]) hvs (by omega)
                        (by unfold maxLen at hmx; omega) (growslice_fits (by omega) (by rw [h5]; exact hby))
                      have hge := grownCap_ge w (len + n) cap d.ty
                      have hcm' : grownCap w (len + n) cap d.ty ≤ maxLen := grownCap_le_maxLen w (len + n) cap d.ty hmx
                      have mk := (m.kill j).drew
                      have hlen2 : (h.set j Blk.dead).length = h.length := by simp
                      have hsz : (((c0.toList.take (len * es')).toArray ++ vs.toArray ++ Builtin.zeroCells z'.cells (grownCap w (len + n) cap d.ty - (len + n))) : Array Value).size = grownCap w (len + n) cap d.ty * es' := by
                        simp only [Array.size_append, List.size_toArray, size_zeroCells, hzs, hvl, List.length_take, Array.length_toList]
                        rw [Nat.min_eq_left hcl, ← Nat.add_mul, ← Nat.add_mul]; congr 1; omega
                      have m2 := mk.new (d := ⟨⟨w.heap.size, 0, none⟩, grownCap w (len + n) cap d.ty * es', d.ty⟩) (cs := cs.take (len * es') ++ ys)
                        (c := (c0.toList.take (len * es')).toArray ++ vs.toArray ++ Builtin.zeroCells z'.cells (grownCap w (len + n) cap d.ty - (len + n)))
                        (w' := w.drew.alloc (.cells ((c0.toList.take (len * es')).toArray ++ vs.toArray ++ Builtin.zeroCells z'.cells (grownCap w (len + n) cap d.ty - (len + n))) d.ty (0, 0)))
                        rfl rfl hsz (by show (w.heap.push _)[w.heap.size]? = _; simp) (fun i x hx => by
                          have hl3 := (hol.append lv).mono (put_ext (d := ⟨⟨w.heap.size, 0, none⟩, grownCap w (len + n) cap d.ty * es', d.ty⟩) (mk.dom _ (Nat.le_refl _)))
                          obtain ⟨v, hv, hr'⟩ := hl3.get i x hx
                          refine ⟨v, ?_, hr'⟩
                          rw [Nat.zero_add, Array.getElem?_append_left (by have := (List.getElem?_eq_some_iff.1 hv).1; simp at this ⊢; omega)]
                          rw [← Array.getElem?_toList]
                          simpa using hv) (fun k hk => Below.heap_alloc w.drew _ k hk)
                      rw [hlen2] at m2
                      refine ⟨.slice (some ⟨w.heap.size, 0, none⟩) (len + n) (grownCap w (len + n) cap d.ty), _, _, hrun _ _ (by rw [hp, hq]; exact hw), ?_, m2, ?_⟩
                      · exact so_new B h.length (len + n) _ es' _ d.ty w.heap.size hge hcm' rfl
                      · refine (kill_step m j).trans ⟨?_, ⟨rfl, rfl, rfl, by show w.heap.size ≤ (w.heap.push _).size; simp, fun k hk _ => Below.heap_alloc w.drew _ k hk⟩, ?_, by simp, fun i hi => by simp at hi; simp [put, Nat.ne_of_lt hi], rok_app fun _ _ e => e⟩
                        · exact put_ext (m.dom _ (Nat.le_refl _))
                        · have := own_new (m.kill j) (d := ⟨⟨w.heap.size, 0, none⟩, grownCap w (len + n) cap d.ty * es', d.ty⟩) (cs := cs.take (len * es') ++ ys) rfl
                          rw [hlen2] at this
                          exact this
                  · cases e
                · cases e
              · cases e
            · cases e
        · rename_i j2 off n hx hs
          have hp : a.eval x = .slice none 0 0 := ev_sound k hx
          obtain ⟨q, c, hq, hqd⟩ := hsrc _ _ _ hs
          split at e
          · rename_i h0; subst h0; cases e
            exact os_val m (hrun _ _ (by rw [hp, hq]; exact app0_run hu h1 _ _ _ _ _ _ (Nat.le_refl _))) rfl
          · rename_i h0
            unfold ap2R at e
            split at e
            · rename_i xs ys hold hnew
              cases hold
              split at e
              · rename_i hone; cases e
                rintro ⟨hmx, hby⟩
                simp only [Nat.zero_add, List.nil_append] at hmx hby ⊢
                obtain ⟨d2, hB2, rfl⟩ := hqd (by omega)
                have hnpos : 0 < n * es := Nat.mul_pos (by omega) hes.2
                obtain ⟨l2, d2', vs, hB2', hs2, lv, hvs⟩ := ldN_sound m hnew hnpos
                obtain rfl : d2 = d2' := Option.some.inj (hB2.symm.trans hB2')
                have hvl : vs.length = n * es := by rw [← lv.len]; exact l2
                have hw := run_append_nil (P := P) w ty2 o.type el inf z' hu h1 h2 (d2.a.add off) n c vs (by rw [hvl, h4]) hvs (by omega) (by unfold maxLen at hmx; omega) (by rw [h5]; omega)
                have hge := grownCap_ge w n 0 el
                have hcm' : grownCap w n 0 el ≤ maxLen := grownCap_le_maxLen w n 0 el hmx
                have hsz : ((vs.toArray ++ Builtin.zeroCells z'.cells (grownCap w n 0 el - n)) : Array Value).size = grownCap w n 0 el * es := by
                  simp only [Array.size_append, List.size_toArray, size_zeroCells, hzs, hvl]
                  rw [← Nat.add_mul]; congr 1; omega
                have m2 := m.drew.new (d := ⟨⟨w.heap.size, 0, none⟩, grownCap w n 0 el * es, el⟩) (cs := ys)
                  (c := vs.toArray ++ Builtin.zeroCells z'.cells (grownCap w n 0 el - n))
                  (w' := w.drew.alloc (.cells (vs.toArray ++ Builtin.zeroCells z'.cells (grownCap w n 0 el - n)) el (0, 0)))
                  rfl rfl hsz (by show (w.heap.push _)[w.heap.size]? = _; simp) (fun i x hx => by
                    have hl3 := lv.mono (put_ext (d := ⟨⟨w.heap.size, 0, none⟩, grownCap w n 0 el * es, el⟩) (m.dom _ (Nat.le_refl _)))
                    obtain ⟨v, hv, hr'⟩ := hl3.get i x hx
                    refine ⟨v, ?_, hr'⟩
                    rw [Nat.zero_add, Array.getElem?_append_left (by have := (List.getElem?_eq_some_iff.1 hv).1; simpa using this)]
                    rw [← Array.getElem?_toList]
                    simpa using hv) (fun k hk => Below.heap_alloc w.drew _ k hk)
                refine ⟨.slice (some ⟨w.heap.size, 0, none⟩) n (grownCap w n 0 el), _, _, hrun _ _ (by rw [hp, hq]; exact hw), ?_, m2, ?_⟩
                · exact so_new B h.length n _ es _ el w.heap.size hge hcm' rfl
                · exact ⟨put_ext (m.dom _ (Nat.le_refl _)), ⟨rfl, rfl, rfl, by show w.heap.size ≤ (w.heap.push _).size; simp, fun k hk _ => Below.heap_alloc w.drew _ k hk⟩, own_new m rfl, by simp, fun j hj => by simp [put, Nat.ne_of_lt hj], rok_app fun _ _ e => e⟩
              · cases e
            · cases e
        · cases e
      · cases e
    · cases e
  · cases e
end
end Go.Proofs.Ytahepinbmcgbnaa.Vm
end
section
/- Small memories: type assertions, structures compared; every operation at once. No condition. -/
set_option linter.unusedVariables false
set_option linter.unusedSimpArgs false
namespace Go.Proofs.Ytahepinbmcgbnaa.Vm
open Go.RowKit

def i64B : Option TypeDesc → Bool
  | some (.int .i64) => true
  | _ => false
/-- A structure of whole numbers, one behind the other. -/
def intFields (P : Program) : List Field → Nat → Bool
  | [], _ => true
  | f :: r, i => (f.offset == i) && !(f.name == "_") && i64B (P.underlying f.type) && intFields P r (i + 1)
def structInts (P : Program) (ty : TypeId) (n : Nat) : Bool := match P.underlying ty with
  | some (.struct fs) => (fs.size == n) && intFields P fs.toList 0 && !P.stoodInHeld ty && !P.eqGuardType P.depth ty
  | _ => false
def sEqR (P : Program) (h : Hp) (op : BinOp) (ty : TypeId) (a b : Option (List Int)) : Option OR := match a, b with
  | some xs, some ys => if xs.length = ys.length ∧ structInts P ty xs.length = true then eqR h op (xs == ys) else none
  | _, _ => none
def bin2R (P : Program) (t : Tm) (h : Hp) (op : BinOp) (ty : TypeId) (x y : Operand) : Option OR := match ev t x, ev t y with
  | some (.g xs), some (.g ys) => sEqR P h op ty (intsOf xs) (intsOf ys)
  | _, _ => binR P t h op ty x y
def bldAR (es : Nat) (z : List Value) (h : Hp) (q : Option (List (Nat × List SV))) : Option OR := match q with
  | some l => bld2R h (fillP (fun i => some (i * es, es)) (z.map .a) l)
  | none => none
def build2R (P : Program) (t : Tm) (h : Hp) (ty : TypeId) (ps : List (Nat × Operand)) : Option OR := match tiOf P ty with
  | some ⟨_, z, .array _ es _⟩ => bldAR es z h (partsR t ps)
  | _ => buildR P t h ty ps
def ix1R (h : Hp) (l : List SV) (n : Nat) (i : Int) (es : Nat) : Option OR := match l[i.toNat]? with
  | some x => if es = 1 then some (.need (0 ≤ i ∧ i < (n : Int)) (.val (.s x) h)) else none
  | none => none
def indexR (P : Program) (t : Tm) (h : Hp) (ty : TypeId) (x y : Operand) : Option OR := match ev t x, ev t y with
  | some (.g l), some (.s (.a (.int _ i))) => match tiOf P ty with
    | some ⟨_, _, .array n es false⟩ => ix1R h l n i es
    | _ => none
  | _, _ => none
def mxR (h : Hp) (mx : Bool) (a b : Option PV) : Option OR := match a, b with
  | some (.s (.a (.int k x))), some (.s (.a (.int _ y))) => some (.val (.s (.a (.int k (bif mx then (if y > x then y else x) else (if y < x then y else x))))) h)
  | _, _ => none
def mmR (t : Tm) (h : Hp) (mx : Bool) : List Operand → Option OR
  | [x, y] => mxR h mx (ev t x) (ev t y)
  | _ => none
section
variable {P : Program} {N : Nat} {B : Bs} {h : Hp} {w : World} {t : Tm} {a : Act} {o : Oper} {r : OR}

theorem intsOf_lr : ∀ {l : List SV} {ns : List Int} {vs : List Value}, intsOf l = some ns → LR B l vs → vs = ns.map (Value.int .i64)
  | [], ns, vs, e, k => by simp [intsOf] at e; subst e; cases vs; rfl; exact k.elim
  | .a (.int .i64 n) :: l, ns, vs, e, k => by
    simp only [intsOf, Option.map_eq_some_iff] at e
    obtain ⟨m, hm, rfl⟩ := e
    cases vs with
    | nil => exact k.elim
    | cons v vs => rw [intsOf_lr hm k.2, show v = .int .i64 n from k.1]; rfl
  | .a (.int .i8 n) :: l, ns, vs, e, k => by simp [intsOf] at e
  | .a (.int .i16 n) :: l, ns, vs, e, k => by simp [intsOf] at e
  | .a (.int .i32 n) :: l, ns, vs, e, k => by simp [intsOf] at e
  | .a (.int .u8 n) :: l, ns, vs, e, k => by simp [intsOf] at e
  | .a (.int .u16 n) :: l, ns, vs, e, k => by simp [intsOf] at e
  | .a (.int .u32 n) :: l, ns, vs, e, k => by simp [intsOf] at e
  | .a (.int .u64 n) :: l, ns, vs, e, k => by simp [intsOf] at e
  | .a (.bool _) :: l, ns, vs, e, k => by simp [intsOf] at e
  | .a (.float _ _) :: l, ns, vs, e, k => by simp [intsOf] at e
  | .a (.complex _ _ _) :: l, ns, vs, e, k => by simp [intsOf] at e
  | .a (.string _) :: l, ns, vs, e, k => by simp [intsOf] at e
  | .a (.pointer _) :: l, ns, vs, e, k => by simp [intsOf] at e
  | .a (.slice _ _ _) :: l, ns, vs, e, k => by simp [intsOf] at e
  | .a (.map _) :: l, ns, vs, e, k => by simp [intsOf] at e
  | .a (.chan _) :: l, ns, vs, e, k => by simp [intsOf] at e
  | .a (.func _ _ _) :: l, ns, vs, e, k => by simp [intsOf] at e
  | .a .nilFunc :: l, ns, vs, e, k => by simp [intsOf] at e
  | .a (.iface _ _) :: l, ns, vs, e, k => by simp [intsOf] at e
  | .a .nilIface :: l, ns, vs, e, k => by simp [intsOf] at e
  | .a (.agg _) :: l, ns, vs, e, k => by simp [intsOf] at e
  | .a (.tuple _) :: l, ns, vs, e, k => by simp [intsOf] at e
  | .p _ _ :: l, ns, vs, e, k => by simp [intsOf] at e
  | .sl _ _ _ :: l, ns, vs, e, k => by simp [intsOf] at e
  | .so _ _ _ _ :: l, ns, vs, e, k => by simp [intsOf] at e
  | .ip _ _ _ :: l, ns, vs, e, k => by simp [intsOf] at e
  | .clo _ _ :: l, ns, vs, e, k => by simp [intsOf] at e
theorem eq_int {ty : TypeId} (hu : P.underlying ty = some (.int .i64)) (x y : Int) (n : Nat) : (Op.equalIn (n + 1) ty (.int .i64 x) (.int .i64 y)).run P w = .ok (x == y) w := by
  unfold Op.equalIn
  simp only [Sem.run_bind, run_underlying hu, Result.andThen_ok]
  rfl
theorem i64B_spec {d : Option TypeDesc} (h : i64B d = true) : d = some (.int .i64) := by
  unfold i64B at h; split at h; rfl; cases h
theorem part_int {ty : TypeId} (hu : P.underlying ty = some (.int .i64)) {cs : Array Value} {off : Nat} {v : Value} (hv : cs[off]? = some v) : (part ty cs off).run P w = .ok v w := by
  have hag : (isAgg ty).run P w = .ok false w := by
    simp only [isAgg, Sem.run_bind, run_underlying hu, Result.andThen_ok]; rfl
  simp [part, hag, hv]
theorem eqFields_run (n : Nat) : ∀ (fs : List Field) (i : Nat) (xs ys : List Int), intFields P fs i = true → xs.length = i + fs.length → ys.length = i + fs.length →
    (Op.eqFields (n + 1) (xs.map (Value.int .i64)).toArray (ys.map (Value.int .i64)).toArray fs).run P w = .ok (xs.drop i == ys.drop i) w
  | [], i, xs, ys, _, hx, hy => by
    have h1 : xs.drop i = [] := List.drop_eq_nil_of_le (by simp at hx; omega)
    have h2 : ys.drop i = [] := List.drop_eq_nil_of_le (by simp at hy; omega)
    rw [h1, h2]; simp [Op.eqFields]
  | f :: fs, i, xs, ys, hf, hx, hy => by
    simp only [intFields, Bool.and_eq_true] at hf
    obtain ⟨⟨⟨h1, h2⟩, h3⟩, h4⟩ := hf
    have hoff : f.offset = i := by simpa using h1
    have hn : f.name ≠ "_" := by simpa using h2
    have hu := i64B_spec h3
    have hxi : i < xs.length := by simp at hx; omega
    have hyi : i < ys.length := by simp at hy; omega
    have ih := eqFields_run n fs (i + 1) xs ys h4 (by simp at hx; omega) (by simp at hy; omega)
    have e1 : (part f.type (xs.map (Value.int .i64)).toArray f.offset).run P w = .ok (.int .i64 xs[i]) w := part_int hu (by simp [hoff, hxi])
    have e2 : (part f.type (ys.map (Value.int .i64)).toArray f.offset).run P w = .ok (.int .i64 ys[i]) w := part_int hu (by simp [hoff, hyi])
    have e3 := eq_int (P := P) (w := w) hu xs[i] ys[i] n
    rw [List.drop_eq_getElem_cons hxi, List.drop_eq_getElem_cons hyi, Op.eqFields, if_pos hn]
    simp only [Sem.run_bind, e1, e2, e3, Result.andThen_ok]
    cases hq : (xs[i] == ys[i]) with
    | false =>
      rw [show ((xs[i] :: xs.drop (i + 1)) == (ys[i] :: ys.drop (i + 1))) = false by show ((xs[i] == ys[i]) && (xs.drop (i + 1) == ys.drop (i + 1))) = _; rw [hq, Bool.false_and]]
      simp
    | true =>
      rw [show ((xs[i] :: xs.drop (i + 1)) == (ys[i] :: ys.drop (i + 1))) = (xs.drop (i + 1) == ys.drop (i + 1)) by show ((xs[i] == ys[i]) && (xs.drop (i + 1) == ys.drop (i + 1))) = _; rw [hq, Bool.true_and]]
      simp [ih]
theorem guard_struct {op : BinOp} {ty : TypeId} {x y : Operand} {xs ys : Array Value} (hg : P.eqGuardType P.depth ty = false) : (eqGuard op ty x y (.agg xs) (.agg ys)).run P w = .ok () w := by
  cases op <;> simp [eqGuard, hg]
theorem bin2_sound (m : Mt B h w) (k : TR N B t a.tmps) {op : BinOp} {ty ty2 : TypeId} {x y : Operand} (ho : o.op = .binOp op ty x y ty2) (e : bin2R P t h op ty x y = some r) : OS P B h w a o r := by
  unfold bin2R at e
  split at e
  · rename_i xs ys hx hy
    unfold sEqR at e
    split at e
    · rename_i ns ms hn hm
      split at e
      · rename_i hc
        obtain ⟨vs, hx', hvx⟩ : ∃ vs : List Value, a.eval x = .agg vs.toArray ∧ LR B xs vs := ev_sound k hx
        obtain ⟨us, hy', hvy⟩ : ∃ vs : List Value, a.eval y = .agg vs.toArray ∧ LR B ys vs := ev_sound k hy
        obtain rfl := intsOf_lr hn hvx
        obtain rfl := intsOf_lr hm hvy
        obtain ⟨hl, hs⟩ := hc
        unfold structInts at hs
        split at hs
        · rename_i fs hu
          simp only [Bool.and_eq_true, Bool.not_eq_true'] at hs
          obtain ⟨⟨⟨h1, h2⟩, h3⟩, h4⟩ := hs
          have hfl : P.fieldsOf ty = fs := by simp [Program.fieldsOf, hu]
          have hsz : fs.toList.length = ns.length := by simpa using h1
          have hrun : (Op.equal ty (.agg (ns.map (Value.int .i64)).toArray) (.agg (ms.map (Value.int .i64)).toArray)).run P w = .ok (ns == ms) w := by
            show (Op.equalIn (9999 + 1) ty _ _).run P w = _
            rw [run_equalIn_struct (P := P) w 9999 ty _ _ (by rw [hfl]; exact hu) h3, hfl]
            have := eqFields_run (P := P) (w := w) 9998 fs.toList 0 ns ms h2 (by omega) (by omega)
            simpa using this
          have hb : ∀ s, (binOp op ty (a.eval x) (a.eval y)).run P w = s → (execOp a.eval o).run P w = s.andThen fun v w' => .ok (.value v) w' := fun s hs => by
            rw [hx', hy'] at hs
            simp only [execOp, ho, Sem.run_bind, hx', hy', guard_struct h4, Result.andThen_ok, hs]
            cases s <;> simp [Result.andThen]
          refine eq_sound (ty := ty) (x := a.eval x) (y := a.eval y) m e (by rw [hx', hy']; exact hrun) (fun s hs he => ?_) (fun s hs he => ?_)
          · subst he; exact hb s (by rw [← hs, hx', hy']; rfl)
          · subst he; exact hb s (by rw [← hs, hx', hy']; rfl)
        · cases hs
      · cases e
    · cases e
  · exact bin_sound m k ho e
theorem pvOf_sound {v : Value} {u : PV} (e : pvOf v = some u) : PR1 B u v := by
  cases v <;> simp only [pvOf, Option.some.injEq, reduceCtorEq] at e <;> subst e <;> first | rfl | exact ⟨_, by simp, lr_atoms _⟩
theorem ta_sound (m : Mt B h w) (k : TR N B t a.tmps) {x : Operand} {xty ty : TypeId} {ok : Bool} (ho : o.op = .typeAssert x xty ty ok) (e : taR P t h x ty ok = some r) : OS P B h w a o r := by
  unfold taR at e
  split at e
  · rename_i i hi
    obtain ⟨inf, d, z, h1, h2, h3, h4, h5, h6, h7⟩ := tiOf_spec hi
    have hzv : (zeroValue ty).run P w = .ok z w := by simp [zeroValue, typeInfo, h1, h3]
    have hyes : ∀ v, i.sh ≠ .iface → (Instr.typeAssert (.iface ty v) xty ty ok).run P w = .ok (if ok then .tuple #[v, .bool true] else v) w := fun v hne => by
      simp only [Instr.typeAssert, Sem.run_bind, run_underlying h2, Result.andThen_ok]
      cases d <;> first | (simp only [if_true]; rfl) | (simp only [shOf, Option.some.injEq] at h4; exact absurd h4.symm hne)
    have hno : ∀ v, i.sh ≠ .iface → ok = true → (v = .nilIface ∨ ∃ ty' u, ty' ≠ ty ∧ v = .iface ty' u) → (Instr.typeAssert v xty ty ok).run P w = .ok (.tuple #[z, .bool false]) w := fun v hne hok hv => by
      subst hok
      simp only [Instr.typeAssert, Sem.run_bind, run_underlying h2, Result.andThen_ok]
      rcases hv with rfl | ⟨ty', u, hty, rfl⟩
      · cases d <;> first | (simp only [if_true, Sem.run_bind, hzv, Result.andThen_ok]; rfl) | (simp only [shOf, Option.some.injEq] at h4; exact absurd h4.symm hne)
      · cases d <;> first | (simp only [if_true, if_neg hty, Sem.run_bind, hzv, Result.andThen_ok]; rfl) | (simp only [shOf, Option.some.injEq] at h4; exact absurd h4.symm hne)
    have hnoT : ∀ {r : OR}, noT P h ok ty = some r → i.sh ≠ .iface → (∃ v, a.eval x = v ∧ (v = .nilIface ∨ ∃ ty' u, ty' ≠ ty ∧ v = .iface ty' u)) → OS P B h w a o r := by
      intro r' e' hne ⟨v, hx, hv⟩
      unfold noT at e'
      split at e'
      · rename_i zz hz
        have hzz : zeroOf P ty = some z := by simp [zeroOf, h1, h3]
        obtain rfl : z = zz := Option.some.inj (hzz.symm.trans hz)
        unfold no1T at e'
        split at e'
        · rename_i u hu; cases e'
          refine os_val m (x := .tuple #[z, .bool false]) ?_ ⟨[z, .bool false], rfl, pvOf_sound hu, rfl, trivial⟩
          simp only [execOp, ho]; exact exV (by rw [hx]; exact hno v hne rfl hv)
        · cases e'
      · cases e'
    split at e
    · cases e
    · rename_i hne
      split at e
      · rename_i ty' v hx
        have hx' : a.eval x = .iface ty' v := ev_sound k hx
        split at e
        · rename_i hty; subst hty
          unfold okT at e
          split at e
          · rename_i u hu; cases e
            refine os_val m (x := if ok then .tuple #[v, .bool true] else v) ?_ ?_
            · simp only [execOp, ho]; exact exV (by rw [hx']; exact hyes v hne)
            · have hp := pvOf_sound (B := B) hu
              cases ok with
              | true => exact ⟨[v, .bool true], rfl, hp, rfl, trivial⟩
              | false =>
                cases u with
                | s y => exact hp
                | g l => exact hp
                | t l => exact hp.elim
          · cases e
        · rename_i hty
          exact hnoT e hne ⟨_, hx', .inr ⟨ty', v, hty, rfl⟩⟩
      · rename_i ty' j off hx
        obtain ⟨v, hx', hv⟩ : ∃ v, a.eval x = .iface ty' v ∧ PM B j off v := ev_sound k hx
        split at e
        · rename_i hty; subst hty
          simp only [okT, Option.some.injEq] at e
          subst e
          refine os_val m (x := if ok then .tuple #[v, .bool true] else v) ?_ ?_
          · simp only [execOp, ho]; exact exV (by rw [hx']; exact hyes v hne)
          · cases ok with
            | true => exact ⟨[v, .bool true], rfl, hv, rfl, trivial⟩
            | false => exact hv
        · rename_i hty
          exact hnoT e hne ⟨_, hx', .inr ⟨ty', v, hty, rfl⟩⟩
      · rename_i hx
        have hx' : a.eval x = .nilIface := ev_sound k hx
        exact hnoT e hne ⟨_, hx', .inl rfl⟩
      · cases e
  · cases e
theorem build2_sound (m : Mt B h w) (k : TR N B t a.tmps) {ty : TypeId} {ps : List (Nat × Operand)} (ho : o.op = .build ty ps.toArray) (e : build2R P t h ty ps = some r) : OS P B h w a o r := by
  unfold build2R at e
  split at e
  · rename_i s z n es g hi
    obtain ⟨inf, d, z', h1, h2, h3, h4, h5, h6, h7⟩ := tiOf_spec hi
    obtain ⟨el, i2, hu, g1, g2, g3⟩ := array_spec hi
    unfold bldAR at e
    split at e
    · rename_i q hq
      unfold bld2R at e
      split at e
      · rename_i l hl; cases e
        have hz : LR B (z.map .a) (z'.cells).toList := by rw [h6]; exact lr_atoms _
        obtain ⟨cells, hf, hr⟩ := fillP_sound hl hz (partsR_sound k hq)
        refine os_val m ?_ (⟨cells.toList, by simp, hr⟩ : PR B (.g l) (.agg cells))
        simp only [execOp, ho]
        refine exV ?_
        have hzv : (zeroValue ty).run P w = .ok z' w := by simp [zeroValue, typeInfo, h1, h3]
        have hs : (sizeOf el).run P w = .ok es w := by simp [sizeOf, typeInfo, g1, g2]
        have hmap : (Array.map (fun (x : Nat × Operand) => (x.1, a.eval x.2)) ps.toArray).toList = ps.map fun z => (z.1, a.eval z.2) := by simp
        simp only [Instr.build, Sem.run_bind, hzv, Result.andThen_ok, run_underlying hu, hs, hmap, hf]
        simp
      · cases e
    · cases e
  · exact build_sound m k ho e
theorem index_sound (m : Mt B h w) (k : TR N B t a.tmps) {ty : TypeId} {x y : Operand} (ho : o.op = .index ty x y) (e : indexR P t h ty x y = some r) : OS P B h w a o r := by
  unfold indexR at e
  split at e
  · rename_i l kk i hx hy
    obtain ⟨vs, hx', hr⟩ : ∃ vs : List Value, a.eval x = .agg vs.toArray ∧ LR B l vs := ev_sound k hx
    have hy' : a.eval y = .int kk i := ev_sound k hy
    split at e
    · rename_i s z n es hi
      obtain ⟨el, i2, hu, g1, g2, g3, g4⟩ := array_spec hi
      unfold ix1R at e
      split at e
      · rename_i u hl
        split at e
        · rename_i hes; subst hes; cases e
          rintro ⟨b1, b2⟩
          obtain ⟨v, hv, hvr⟩ := hr.get _ _ hl
          refine os_val m ?_ hvr
          simp only [execOp, ho]
          refine exV ?_
          have hag : (isAgg el).run P w = .ok false w := by
            cases hd : P.underlying el with
            | none => rw [hd] at g4; cases g4
            | some d =>
              simp only [isAgg, Sem.run_bind, run_underlying hd, Result.andThen_ok]
              rw [hd] at g3
              cases d <;> first | rfl | cases g3
          simp [Instr.index, hy', asIntOf, run_underlying hu, hx', b1, b2, sizeOf, typeInfo, g1, g2, part, hag, hv]
        · cases e
      · cases e
    · cases e
  · cases e
theorem mm_sound (m : Mt B h w) (k : TR N B t a.tmps) {b : Bool} {l : List Operand} {tys : Array TypeId} (ho : o.op = .call { callee := .builtin (bif b then .max else .min), args := l.toArray, argTypes := tys }) (e : mmR t h b l = some r) : OS P B h w a o r := by
  unfold mmR at e
  split at e
  · rename_i x y
    unfold mxR at e
    split at e
    · rename_i kk n k2 n2 hx hy; cases e
      have hx' : a.eval x = .int kk n := ev_sound k hx
      have hy' : a.eval y = .int k2 n2 := ev_sound k hy
      cases b with
      | true =>
        refine os_val m ?_ rfl
        simp only [cond_true] at ho ⊢
        simp [execOp, ho, resolve, invoke, builtin, hx', hy', Builtin.max_, Builtin.max2]
      | false =>
        refine os_val m ?_ rfl
        simp only [cond_false] at ho ⊢
        simp [execOp, ho, resolve, invoke, builtin, hx', hy', Builtin.min_, Builtin.min2]
    · cases e
  · cases e
end
end Go.Proofs.Ytahepinbmcgbnaa.Vm
end
