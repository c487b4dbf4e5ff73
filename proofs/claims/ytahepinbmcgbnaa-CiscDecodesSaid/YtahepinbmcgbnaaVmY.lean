/- Several texts in one: VmP VmI VmJ VmK VmL VmM VmN VmQ VmR VmS VmT VmU VmV. No condition. -/
import Derived.Test.YtahepinbmcgbnaaVmX
import Derived.LoopN
import Derived.Orders
import Derived.Recover
section
/- Small memories: strings; an interface and nil. No condition. -/
set_option linter.unusedVariables false
set_option linter.unusedSimpArgs false
namespace Go.Proofs.Ytahepinbmcgbnaa.Vm
open Go.RowKit

/-- A string's byte. -/
def sAt (s : ByteArray) (i : Int) : Int := ((s[i.toNat]?).getD 0).toNat
def strIxR (h : Hp) (s : ByteArray) (i : Int) : Option OR := some (.need (0 ≤ i ∧ i < (s.size : Int)) (.val (.s (.a (.int .u8 (sAt s i)))) h))
def index2R (P : Program) (t : Tm) (h : Hp) (ty : TypeId) (x y : Operand) : Option OR := match ev t x, ev t y with
  | some (.s (.a (.string s))), some (.s (.a (.int _ i))) => match tiOf P ty with
    | some ⟨_, _, .str⟩ => strIxR h s i
    | _ => none
  | _, _ => indexR P t h ty x y
def ifR (h : Hp) (op : BinOp) (b : Bool) (i : Option TI) : Option OR := match i with
  | some ⟨_, _, .iface⟩ => eqR h op b
  | _ => none
def nnR (h : Hp) (op : BinOp) (i : Option TI) (y : Operand) : Option OR := match y with
  | .const _ => ifR h op true i
  | _ => none
def stR (h : Hp) (op : BinOp) (s s2 : ByteArray) (i : Option TI) : Option OR := match i with
  | some ⟨_, _, .str⟩ => eqR h op (s.toList == s2.toList)
  | _ => none
def bin3R (P : Program) (t : Tm) (h : Hp) (op : BinOp) (ty : TypeId) (x y : Operand) : Option OR := match ev t x, ev t y with
  | some (.s (.a (.string s))), some (.s (.a (.string s2))) => stR h op s s2 (tiOf P ty)
  | some (.s (.a (.iface _ _))), some (.s (.a .nilIface)) => ifR h op false (tiOf P ty)
  | some (.s (.ip _ _ _)), some (.s (.a .nilIface)) => ifR h op false (tiOf P ty)
  | some (.s (.a .nilIface)), some (.s (.a .nilIface)) => nnR h op (tiOf P ty) y
  | _, _ => bin2R P t h op ty x y
section
variable {P : Program} {N : Nat} {B : Bs} {h : Hp} {w : World} {t : Tm} {a : Act} {o : Oper} {r : OR}
theorem str_spec {ty : TypeId} {s : Nat} {z : List Value} (ht : tiOf P ty = some ⟨s, z, .str⟩) : P.underlying ty = some .string := by
  obtain ⟨inf, d, z', h1, h2, h3, h4, h5, h6, h7⟩ := tiOf_spec ht
  cases d with
  | struct fl => simp only [shOf, Option.map_eq_some_iff] at h4; obtain ⟨l, hl, he⟩ := h4; cases he
  | slice e => simp only [shOf] at h4; split at h4; (split at h4 <;> cases h4); cases h4
  | array n e => simp only [shOf] at h4; split at h4 <;> cases h4
  | string => exact h2
  | _ => simp [shOf] at h4
theorem iface_spec {ty : TypeId} {s : Nat} {z : List Value} (ht : tiOf P ty = some ⟨s, z, .iface⟩) : ∃ ms, P.underlying ty = some (.interface ms) := by
  obtain ⟨inf, d, z', h1, h2, h3, h4, h5, h6, h7⟩ := tiOf_spec ht
  cases d with
  | struct fl => simp only [shOf, Option.map_eq_some_iff] at h4; obtain ⟨l, hl, he⟩ := h4; cases he
  | slice e => simp only [shOf] at h4; split at h4; (split at h4 <;> cases h4); cases h4
  | array n e => simp only [shOf] at h4; split at h4 <;> cases h4
  | interface ms => exact ⟨_, h2⟩
  | _ => simp [shOf] at h4
theorem eq_if {ty : TypeId} {ms} (hu : P.underlying ty = some (.interface ms)) (c : TypeId) (v : Value) (n : Nat) : (Op.equalIn (n + 1) ty (.iface c v) .nilIface).run P w = .ok false w := by
  unfold Op.equalIn
  simp only [Sem.run_bind, run_underlying hu, Result.andThen_ok]
  rfl
theorem eq_nn {ty : TypeId} {ms} (hu : P.underlying ty = some (.interface ms)) (n : Nat) : (Op.equalIn (n + 1) ty .nilIface .nilIface).run P w = .ok true w := by
  unfold Op.equalIn
  simp only [Sem.run_bind, run_underlying hu, Result.andThen_ok]
  rfl
theorem index2_sound (m : Mt B h w) (k : TR N B t a.tmps) {ty : TypeId} {x y : Operand} (ho : o.op = .index ty x y) (e : index2R P t h ty x y = some r) : OS P B h w a o r := by
  unfold index2R at e
  split at e
  · rename_i s kk i hx hy
    have hx' : a.eval x = .string s := ev_sound k hx
    have hy' : a.eval y = .int kk i := ev_sound k hy
    split at e
    · rename_i sz z hi
      have hu := str_spec hi
      unfold strIxR at e
      cases e
      rintro ⟨b1, b2⟩
      have hlt : i.toNat < s.size := by omega
      refine os_val m (x := .int .u8 (sAt s i)) ?_ rfl
      simp only [execOp, ho]
      refine exV ?_
      have hb : s[i.toNat]? = some s[i.toNat] := by simp [hlt]
      simp only [Instr.index, hy', asIntOf, Sem.run_bind, Sem.run_pure, Result.andThen_ok, run_underlying hu, hx', if_pos b1, hb]
      simp [sAt, hb]
    · cases e
  · exact index_sound m k ho e
theorem bin3_sound (m : Mt B h w) (k : TR N B t a.tmps) {op : BinOp} {ty ty2 : TypeId} {x y : Operand} (ho : o.op = .binOp op ty x y ty2) (e : bin3R P t h op ty x y = some r) : OS P B h w a o r := by
  unfold bin3R at e
  split at e
  · rename_i s s2 hx hy
    have hx' : a.eval x = .string s := ev_sound k hx
    have hy' : a.eval y = .string s2 := ev_sound k hy
    unfold stR at e
    split at e
    · have hb : ∀ s0, (binOp op ty (.string s) (.string s2)).run P w = s0 → (execOp a.eval o).run P w = s0.andThen fun v w' => .ok (.value v) w' := fun s0 hs => bin_run ho (by simp [hx']) (by simp [hx']) (by rw [hx', hy']; exact hs)
      cases op <;> simp only [eqR, Option.some.injEq, reduceCtorEq] at e <;> subst e
      · exact os_val m (by rw [hb _ rfl]; simp [binOp, Op.stringOp]) rfl
      · exact os_val m (by rw [hb _ rfl]; simp [binOp, Op.stringOp]) rfl
    · cases e
  · rename_i c v hx hy
    have hx' : a.eval x = .iface c v := ev_sound k hx
    have hy' : a.eval y = .nilIface := ev_sound k hy
    unfold ifR at e
    split at e
    · rename_i sz z hi
      obtain ⟨ms, hu⟩ := iface_spec hi
      refine eq_sound (ty := ty) (x := a.eval x) (y := .nilIface) m e (by rw [hx']; exact eq_if hu _ _ 9999) (fun s hs he => ?_) (fun s hs he => ?_)
      · subst he; exact bin_run ho (by simp [hx']) (by simp [hx']) (by rw [hy']; rw [hx'] at hs ⊢; exact hs)
      · subst he; exact bin_run ho (by simp [hx']) (by simp [hx']) (by rw [hy']; rw [hx'] at hs ⊢; exact hs)
    · cases e
  · rename_i c j off hx hy
    obtain ⟨v, hx', hv⟩ : ∃ v, a.eval x = .iface c v ∧ PM B j off v := ev_sound k hx
    have hy' : a.eval y = .nilIface := ev_sound k hy
    unfold ifR at e
    split at e
    · rename_i sz z hi
      obtain ⟨ms, hu⟩ := iface_spec hi
      refine eq_sound (ty := ty) (x := a.eval x) (y := .nilIface) m e (by rw [hx']; exact eq_if hu _ _ 9999) (fun s hs he => ?_) (fun s hs he => ?_)
      · subst he; exact bin_run ho (by simp [hx']) (by simp [hx']) (by rw [hy']; rw [hx'] at hs ⊢; exact hs)
      · subst he; exact bin_run ho (by simp [hx']) (by simp [hx']) (by rw [hy']; rw [hx'] at hs ⊢; exact hs)
    · cases e
  · rename_i hx hy
    have hx' : a.eval x = .nilIface := ev_sound k hx
    have hy' : a.eval y = .nilIface := ev_sound k hy
    unfold nnR at e
    split at e
    · rename_i yc
      unfold ifR at e
      split at e
      · rename_i sz z hi
        obtain ⟨ms, hu⟩ := iface_spec hi
        have hg : (eqGuard op ty x (.const yc) .nilIface .nilIface).run P w = .ok () w := by
          unfold eqGuard
          cases op <;> first | rfl | (simp; done) | (cases x <;> rfl)
        have hb : ∀ s0, (binOp op ty .nilIface .nilIface).run P w = s0 → (execOp a.eval o).run P w = s0.andThen fun v w' => .ok (.value v) w' := fun s0 hs => by
          simp only [execOp, ho, Sem.run_bind, hx', hy', hg, Result.andThen_ok, hs]
          cases s0 <;> simp [Result.andThen]
        refine eq_sound (ty := ty) (x := .nilIface) (y := .nilIface) m e (eq_nn hu 9999) (fun s hs he => ?_) (fun s hs he => ?_)
        · subst he; exact hb s hs
        · subst he; exact hb s hs
      · cases e
    · cases e
  · exact bin2_sound m k ho e
end
end Go.Proofs.Ytahepinbmcgbnaa.Vm
end
section
/- Small memories: code, calls, and that what is reckoned over them holds of the machine. No condition. -/
set_option linter.unusedVariables false
set_option linter.unusedSimpArgs false
namespace Go.Proofs.Ytahepinbmcgbnaa.Vm
open Go.RowKit

def lenA (P : Program) (t : Tm) (h : Hp) : List Operand → List TypeId → Option OR
 | [x], ty :: _ => lenR P t h ty x
 | _, _ => none
def appA (P : Program) (t : Tm) (h : Hp) : List Operand → List TypeId → Option OR
 | [x, y], [ty, ty2] => appendR P t h ty ty2 x y
 | _, _ => none
def calR (P : Program) (t : Tm) (h : Hp) (args : List Operand) (tys : List TypeId) : Callee → Option OR
 | .value f => callR P t h f args
 | .builtin .len => lenA P t h args tys
 | .builtin .append => appA P t h args tys
 | .builtin .max => mmR t h true args
 | .builtin .min => mmR t h false args
 | _ => none
def opR (P : Program) (t : Tm) (h : Hp) : Op → Option OR
 | .move x => moveR t h x
 | .assign x => moveR t h x
 | .pick c x y => pickR t h c x y
 | .alloc ty => allocR P h ty
 | .box _ x => boxR t h x
 | .build ty ps => build2R P t h ty ps.toList
 | .buildSlice ty n ps => buildSliceR P t h ty n ps.toList
 | .load ty x => loadR P t h ty x
 | .store ty x y => storeR P t h ty x y
 | .nilCheck x => nilR t h x
 | .binOp op ty x y _ => bin3R P t h op ty x y
 | .unOp op _ x => unR t h op x
 | .convert s d x => convR P t h s d x
 | .makeInterface ty x => miR P t h ty x
 | .makeFunc fn first cs => mfR t h fn first.toList (ptrsR t cs.toList)
 | .makeSlice ty x y => makeSliceR P t h ty x y
 | .slice ty x lo hi none => sliceR P t h ty x lo hi
 | .fieldAddr ty x f => fieldAddrR P t h ty x f
 | .field ty x f => fieldR P t h ty x f
 | .indexAddr ty x y => indexAddrR P t h ty x y
 | .index ty x y => index2R P t h ty x y
 | .extract x n => extractR t h x n
 | .typeAssert x _ ty ok => taR P t h x ty ok
 | .call c => calR P t h c.args.toList c.argTypes.toList c.callee
 | .panic x => panR t h x
 | _ => none
section
variable {P : Program} {N : Nat} {B : Bs} {h : Hp} {w : World} {t : Tm} {a : Act} {o : Oper} {r : OR}
theorem opR_sound (m : Mt B h w) (k : TR N B t a.tmps) (e : opR P t h o.op = some r) : OS P B h w a o r := by
 cases ho : o.op with
 | move x => rw [ho] at e; exact move_sound m k (.inl ho) e
 | assign x => rw [ho] at e; exact move_sound m k (.inr ho) e
 | pick c x y => rw [ho] at e; exact pick_sound m k ho e
 | alloc ty => rw [ho] at e; exact alloc_op_sound m ho e
 | box ty x => rw [ho] at e; exact box_sound m k ho e
 | build ty ps => rw [ho] at e; exact build2_sound m k (by rw [ho]) e
 | buildSlice ty n ps => rw [ho] at e; exact buildSlice_sound m k (by rw [ho]) e
 | load ty x => rw [ho] at e; exact load_sound m k ho e
 | store ty x y => rw [ho] at e; exact store_sound m k ho e
 | nilCheck x => rw [ho] at e; exact nil_sound m k ho e
 | binOp op ty x y ty2 => rw [ho] at e; exact bin3_sound m k ho e
 | unOp op ty x => rw [ho] at e; exact un_sound m k ho e
 | convert s d x => rw [ho] at e; exact conv_sound m k ho e
 | makeInterface ty x => rw [ho] at e; exact mi_sound m k ho e
 | makeFunc fn first cs => rw [ho] at e; exact mf_sound m k (by rw [ho]) e
 | makeSlice ty x y => rw [ho] at e; exact makeSlice_sound m k ho e
 | slice ty x lo hi mx =>
  rw [ho] at e
  cases mx with
  | none => exact slice_sound m k ho e
  | some _ => simp [opR] at e
 | fieldAddr ty x f => rw [ho] at e; exact fieldAddr_sound m k ho e
 | field ty x f => rw [ho] at e; exact field_sound m k ho e
 | indexAddr ty x y => rw [ho] at e; exact indexAddr_sound m k ho e
 | index ty x y => rw [ho] at e; exact index2_sound m k ho e
 | extract x n => rw [ho] at e; exact extract_sound m k ho e
 | typeAssert x xty ty ok => rw [ho] at e; exact ta_sound m k ho e
 | panic x => rw [ho] at e; exact pan_sound m k ho e
 | call c =>
  rw [ho] at e
  simp only [opR] at e
  obtain ⟨callee, args, tys⟩ := c
  obtain ⟨args⟩ := args
  obtain ⟨tys⟩ := tys
  simp only at e ho
  cases callee with
  | value f => exact call_sound m k ho e
  | invoke r n => simp [calR] at e
  | builtin b =>
   cases b <;> simp only [calR, reduceCtorEq] at e
   ·unfold appA at e
    split at e
    ·exact append_sound m k ho e
    ·cases e
   ·unfold lenA at e
    split at e
    ·exact len_sound m k ho e
    ·cases e
   ·exact mm_sound (b := true) m k ho e
   ·exact mm_sound (b := false) m k ho e
 | _ => rw [ho] at e; simp [opR] at e
end

/-- How code ends; how a call ends. -/
inductive Ex where
 | nor
 | exit (id : Nat)
 | ret
 | pan (x : SV)
inductive Out where
 | ret (v : PV)
 | pan (x : SV)
abbrev Cont := Ex → Tm → Hp → Prop
def ExR (B : Bs) : Ex → Exit → Prop
 | .nor, .normal => True
 | .exit n, .exit m => n = m
 | .ret, .ret => True
 | .pan s, .panic chain => ∃ x, chain = [{ v := x, recovered := false }] ∧ SR B s x
 | _, _ => False
def OutR (B : Bs) : Out → Ending → Prop
 | .ret v, .returned x => PR B v x
 | .pan s, .panicked chain => ∃ x, chain = [{ v := x, recovered := false }] ∧ SR B s x
 | _, _ => False
/-- A call's contract over small memories. -/
def WC (P : Program) (f : FuncId) (args : List PV) (h : Hp) (K : Out → Hp → Prop) : Prop :=
 ∀ (B : Bs) (w : World) (vs : List Value), Mt B h w → AR B args vs → Calls P f vs.toArray w fun e w' => ∃ o h' B', K o h' ∧ OutR B' o e ∧ Mt B' h' w' ∧ Step B h w B' h' w'
theorem WC.mono {P : Program} {f : FuncId} {args : List PV} {h : Hp} {K K' : Out → Hp → Prop} (hk : ∀ o h', K o h' → K' o h') (c : WC P f args h K) : WC P f args h K' :=
 fun B w vs m r => (c B w vs m r).mono fun e w' ⟨o, h', B', k, q⟩ => ⟨o, h', B', hk _ _ k, q⟩
def QK (D : List Deferred) (N : Nat) (B : Bs) (h : Hp) (w : World) (K : Cont) : Exit → Act → World → Prop := fun e a' w' =>
 ∃ x t' h' B', K x t' h' ∧ ExR B' x e ∧ TR N B' t' a'.tmps ∧ a'.defers = D ∧ Mt B' h' w' ∧ Step B h w B' h' w'
/-- What holds of code, in the machine. -/
def SW (P : Program) (N : Nat) (c : Code) (t : Tm) (h : Hp) (K : Cont) : Prop :=
 ∀ (D : List Deferred) (B : Bs) (w : World) (a : Act), Mt B h w → TR N B t a.tmps → a.defers = D → c.wp P (QK D N B h w K) a w
theorem QK.trans {D : List Deferred} {N : Nat} {B h w B' h' w' K} (s : Step B h w B' h' w') {e a w''} (q : QK D N B' h' w' K e a w'') : QK D N B h w K e a w'' :=
 let ⟨x, t', h'', B'', k, e1, e2, e3, e4, e5⟩ := q; ⟨x, t', h'', B'', k, e1, e2, e3, e4, s.trans e5⟩

def kC (dst : Option Tmp) (t : Tm) (F : Tm → Hp → Prop) (K : Cont) : Out → Hp → Prop
 | .ret v, h' => F (pt t dst v) h'
 | .pan x, h' => K (.pan x) t h'
def stO (P : Program) (dst : Option Tmp) (t : Tm) (F : Tm → Hp → Prop) (K : Cont) : OR → Prop
 | .val v h' => F (pt t dst v) h'
 | .skip h' => F (rmO t dst) h'
 | .pan x h' => K (.pan x) t h'
 | .call f args h' => WC P f args h' (kC dst t F K)
 | .need p r => p ∧ stO P dst t F K r
def stW (P : Program) (r : Option OR) (dst : Option Tmp) (t : Tm) (F : Tm → Hp → Prop) (K : Cont) : Prop := match r with
 | some r => stO P dst t F K r
 | none => False
def gval (all : List Oper) (t : Tm) (j : Nat) : Option PV := match all[j]? with
 | some o => match o.dst with
  | some d => lk t d
  | none => none
 | none => none
def gd2 (b : Option PV) (want : Bool) (A B : Prop) : Prop := match b with
 | some (.s (.a (.bool true))) => if want = true then A else B
 | some (.s (.a (.bool false))) => if want = true then B else A
 | some (.s (.a (.tuple _))) => B
 | _ => False
def gdW (all : List Oper) (t : Tm) (g : Option (Nat × Bool)) (A B : Prop) : Prop := match g with
 | none => A
 | some (j, want) => gd2 (gval all t j) want A B
def WO (P : Program) (all : List Oper) (K : Cont) : List Oper → Tm → Hp → Prop
 | [], t, h => K .nor t h
 | o :: r, t, h => gdW all t o.guard (stW P (opR P t h o.op) o.dst t (WO P all K r) K) (WO P all K r (rmO t o.dst) h)
def cdW (v : Option PV) (A B : Prop) : Prop := match v with
 | some (.s (.a (.bool true))) => A
 | some (.s (.a (.bool false))) => B
 | _ => False
def blK (id : Nat) (K : Cont) : Cont := fun e t h => match e with
 | .exit n => if n = id then K .nor t h else K (.exit n) t h
 | e => K e t h
def sqK (F : Tm → Hp → Prop) (K : Cont) : Cont := fun e t h => match e with
 | .nor => F t h
 | e => K e t h
def W (P : Program) (N : Nat) : Code → Cont → Tm → Hp → Prop
 | .skip, K, t, h => K .nor t h
 | .seq x y, K, t, h => W P N x (sqK (W P N y K) K) t h
 | .cond c x y, K, t, h => cdW (ev t c) (W P N x K t h) (W P N y K t h)
 | .block id c, K, t, h => W P N c (blK id K) t h
 | .exit id, K, t, h => K (.exit id) t h
 | .ret, K, t, h => K .ret t h
 | .region _ ops false, K, t, h => WO P ops.toList K ops.toList t h
 | .region id ops true, K, t, h => SW P N (.region id ops true) t h K
 | .loop c, K, t, h => SW P N (.loop c) t h K
 | _, _, _, _ => False
/-- Every temporary is there. -/
def cOk (N : Nat) : Code → Bool
 | .seq x y => cOk N x && cOk N y
 | .cond _ x y => cOk N x && cOk N y
 | .block _ c => cOk N c
 | .loop c => cOk N c
 | .region _ ops _ => ops.toList.all fun o => dOk N o.dst
 | _ => true
section
variable {P : Program} {N : Nat}
theorem wo_sound {D : List Deferred} {all : List Oper} {K : Cont} {B0 : Bs} {h0 : Hp} {w0 : World} : ∀ (l : List Oper) (t : Tm) (h : Hp), (∀ o ∈ l, dOk N o.dst = true) → WO P all K l t h →
  ∀ (B : Bs) (w : World) (a : Act), Mt B h w → TR N B t a.tmps → a.defers = D → Step B0 h0 w0 B h w → wpList P all.toArray (QK D N B0 h0 w0 K) l a w
 | [], t, h, _, hw, B, w, a, m, k, hd, st => ⟨.nor, t, h, B, hw, trivial, k, hd, m, st⟩
 | o :: l, t, h, hok, hw, B, w, a, m, k, hd, st => by
  have hok' : ∀ x ∈ l, dOk N x.dst = true := fun x hx => hok x (List.mem_cons_of_mem _ hx)
  have hdo : dOk N o.dst = true := hok o List.mem_cons_self
  have step : stW P (opR P t h o.op) o.dst t (WO P all K l) K → o.wp P a w (wpList P all.toArray (QK D N B0 h0 w0 K) l) (QK D N B0 h0 w0 K) := by
   intro hs
   unfold stW at hs
   split at hs
   ·rename_i r hr
    have os := opR_sound m k hr
    clear hr
    unfold Oper.wp
    induction r with
    | val v h' =>
     obtain ⟨x, w', B', e, q, m', s'⟩ := os
     rw [e]
     show wpList P all.toArray _ l (a.put o.dst x) w'
     exact wo_sound l _ _ hok' hs B' w' _ m' ((k.mono s'.ext).put hdo q) (by cases o.dst <;> exact hd) (st.trans s')
    | skip h' =>
     obtain ⟨w', B', e, m', s'⟩ := os
     rw [e]
     show wpList P all.toArray _ l (a.put o.dst undef) w'
     exact wo_sound l _ _ hok' hs B' w' _ m' ((k.mono s'.ext).rmO) (by cases o.dst <;> exact hd) (st.trans s')
    | pan s h' =>
     obtain ⟨x, e, q, rfl⟩ := os
     rw [e]
     exact ⟨.pan s, t, h', B, hs, ⟨x, rfl, q⟩, k, hd, m, st⟩
    | call f args h' =>
     obtain ⟨vs, e, q, rfl⟩ := os
     rw [e]
     show Calls P f vs.toArray w _
     refine (hs B w vs m q).mono fun e w' ⟨out, h'', B', kk, eo, m', s'⟩ => ?_
     cases e with
     | returned v =>
      cases out with
      | ret u => exact wo_sound l _ _ hok' kk B' w' _ m' ((k.mono s'.ext).put hdo eo) (by cases o.dst <;> exact hd) (st.trans s')
      | pan u => exact eo.elim
     | panicked chain =>
      cases out with
      | ret u => exact eo.elim
      | pan u => exact ⟨.pan u, t, h'', B', kk, eo, k.mono s'.ext, hd, m', st.trans s'⟩
     | outgrown => cases out <;> exact eo.elim
    | need p r ih => exact ih hs.2 (os hs.1)
   ·exact hs.elim
  have skipped : WO P all K l (rmO t o.dst) h → wpList P all.toArray (QK D N B0 h0 w0 K) l (a.put o.dst undef) w := fun hs =>
   wo_sound l _ _ hok' hs B w _ m k.rmO (by cases o.dst <;> exact hd) st
  unfold WO gdW at hw
  unfold wpList
  split at hw
  ·rename_i hg
   rw [if_pos (by simp [Region.wanted, hg])]
   exact .inl (step hw)
  ·rename_i j want hg
   have hu : ∀ l, gval all t j = some (.s (.a (.tuple l))) → yielded all.toArray a.tmps j = none := fun l hb => by
    unfold gval at hb
    split at hb
    ·rename_i o' ho'
     split at hb
     ·rename_i d hd'
      have hv : a.tmps.getD d undef = .tuple l := k.get d _ hb
      unfold yielded
      have h1 : all.toArray[j]? = some o' := by simpa using ho'
      rw [h1]
      simp only [Option.bind_some, hd']
      rw [Array.getD_eq_getD_getElem?] at hv
      cases hq : a.tmps[d]? with
      | none => rfl
      | some v => rw [hq] at hv; simp at hv; subst hv; rfl
     ·cases hb
    ·cases hb
   have hy : ∀ b, gval all t j = some (.s (.a (.bool b))) → yielded all.toArray a.tmps j = some b := fun b hb => by
    unfold gval at hb
    split at hb
    ·rename_i o' ho'
     split at hb
     ·rename_i d hd'
      have hv : a.tmps.getD d undef = .bool b := k.get d _ hb
      unfold yielded
      have h1 : all.toArray[j]? = some o' := by simpa using ho'
      rw [h1]
      simp only [Option.bind_some, hd']
      rw [Array.getD_eq_getD_getElem?] at hv
      cases hq : a.tmps[d]? with
      | none => rw [hq] at hv; simp [undef] at hv
      | some v => rw [hq] at hv; simp at hv; subst hv; rfl
     ·cases hb
    ·cases hb
   unfold gd2 at hw
   split at hw
   ·rename_i hb
    have hyb := hy true hb
    by_cases hwant : want = true
    ·rw [if_pos hwant] at hw
     rw [if_pos (by simp [Region.wanted, hg, hyb, hwant])]
     exact .inl (step hw)
    ·rw [if_neg hwant] at hw
     have hwf : want = false := by simpa using hwant
     rw [if_neg (by simp [Region.wanted, hg, hyb, hwf])]
     exact skipped hw
   ·rename_i hb
    have hyb := hy false hb
    by_cases hwant : want = true
    ·rw [if_pos hwant] at hw
     rw [if_neg (by simp [Region.wanted, hg, hyb, hwant])]
     exact skipped hw
    ·rw [if_neg hwant] at hw
     have hwf : want = false := by simpa using hwant
     rw [if_pos (by simp [Region.wanted, hg, hyb, hwf])]
     exact .inl (step hw)
   ·rename_i l hb
    have hyb := hu l hb
    rw [if_neg (by simp [Region.wanted, hg, hyb])]
    exact skipped hw
   ·exact hw.elim
theorem W_sound : ∀ (c : Code) (K : Cont) (t : Tm) (h : Hp), cOk N c = true → W P N c K t h → SW P N c t h K
 | .skip, K, t, h, _, hw => fun D B w a m k hd => wp_skip ⟨.nor, t, h, B, hw, trivial, k, hd, m, Step.refl B h w⟩
 | .seq x y, K, t, h, hc, hw => fun D B w a m k hd => by
  simp only [cOk, Bool.and_eq_true] at hc
  refine wp_seq (Code.wp_mono ?_ (W_sound x _ t h hc.1 hw D B w a m k hd))
  intro e a' w' ⟨x', t', h', B', kk, e1, e2, e3, e4, e5⟩
  cases x' with
  | nor =>
   cases e <;> first | exact e1.elim | skip
   exact Code.wp_mono (fun _ _ _ q => q.trans e5) (W_sound y K t' h' hc.2 kk D B' w' a' e4 e2 e3)
  | exit n => cases e <;> first | exact e1.elim | exact ⟨.exit n, t', h', B', kk, e1, e2, e3, e4, e5⟩
  | ret => cases e <;> first | exact e1.elim | exact ⟨.ret, t', h', B', kk, e1, e2, e3, e4, e5⟩
  | pan s => cases e <;> first | exact e1.elim | exact ⟨.pan s, t', h', B', kk, e1, e2, e3, e4, e5⟩
 | .cond c x y, K, t, h, hc, hw => fun D B w a m k hd => by
  simp only [cOk, Bool.and_eq_true] at hc
  simp only [W] at hw
  unfold cdW at hw
  split at hw
  ·rename_i hv
   exact wp_cond_true (ev_sound k hv) (W_sound x K t h hc.1 hw D B w a m k hd)
  ·rename_i hv
   exact wp_cond_false (ev_sound k hv) (W_sound y K t h hc.2 hw D B w a m k hd)
  ·exact hw.elim
 | .block id c, K, t, h, hc, hw => fun D B w a m k hd => by
  refine wp_block (Code.wp_mono ?_ (W_sound c _ t h hc hw D B w a m k hd))
  intro e a' w' ⟨x', t', h', B', kk, e1, e2, e3, e4, e5⟩
  cases x' with
  | nor => cases e <;> first | exact e1.elim | exact ⟨.nor, t', h', B', kk, trivial, e2, e3, e4, e5⟩
  | exit n =>
   cases e <;> first | exact e1.elim | skip
   rename_i n'
   have hn : n = n' := e1
   subst hn
   simp only [blK] at kk
   simp only [Exit.inBlock]
   split
   ·rename_i q; rw [if_pos q] at kk; exact ⟨.nor, t', h', B', kk, trivial, e2, e3, e4, e5⟩
   ·rename_i q; rw [if_neg q] at kk; exact ⟨.exit n, t', h', B', kk, rfl, e2, e3, e4, e5⟩
  | ret => cases e <;> first | exact e1.elim | exact ⟨.ret, t', h', B', kk, e1, e2, e3, e4, e5⟩
  | pan s => cases e <;> first | exact e1.elim | exact ⟨.pan s, t', h', B', kk, e1, e2, e3, e4, e5⟩
 | .exit id, K, t, h, _, hw => fun D B w a m k hd => wp_exit ⟨.exit id, t, h, B, hw, rfl, k, hd, m, Step.refl B h w⟩
 | .ret, K, t, h, _, hw => fun D B w a m k hd => wp_ret ⟨.ret, t, h, B, hw, trivial, k, hd, m, Step.refl B h w⟩
 | .region id ops false, K, t, h, hc, hw => fun D B w a m k hd => by
  refine wp_region_list ?_
  have := wo_sound (N := N) (all := ops.toList) (B0 := B) (h0 := h) (w0 := w) ops.toList t h (fun o ho => List.all_eq_true.1 hc o ho) hw B w a m k hd (Step.refl B h w)
  simpa using this
 | .region id ops true, K, t, h, _, hw => hw
 | .loop c, K, t, h, _, hw => hw
 | .rangeFunc _ _ _ _, _, _, _, _, hw => hw.elim
 | .scope _, _, _, _, _, hw => hw.elim
 | .label _, _, _, _, _, hw => hw.elim
 | .goto _, _, _, _, _, hw => hw.elim
 | .refuse _, _, _, _, _, hw => hw.elim
end
end Go.Proofs.Ytahepinbmcgbnaa.Vm
end
section
/- Small memories: bodies, loops, a call's own numbering of blocks. No condition. -/
set_option linter.unusedVariables false
set_option linter.unusedSimpArgs false
namespace Go.Proofs.Ytahepinbmcgbnaa.Vm
open Go.RowKit

def ent : List PV → Nat → Tm
  | [], _ => []
  | v :: r, i => (i, v) :: ent r (i + 1)
def re1 (r : Option OR) : Option PV := match r with
  | some (.val v _) => some v
  | _ => none
def res1 (P : Program) (t : Tm) (h : Hp) : ResultVar → Option PV
  | .tmp n => lk t n
  | .cell n ty => match lk t n with
    | some (.s (.p j off)) => match tiOf P ty with
      | some i => re1 (ldR h j off i.size i.agg)
      | none => none
    | _ => none
def resR (P : Program) (t : Tm) (h : Hp) : List ResultVar → Option (List PV)
  | [] => some []
  | x :: r => match res1 P t h x, resR P t h r with
    | some v, some q => some (v :: q)
    | _, _ => none
def is1 : PV → Bool
  | .t _ => false
  | _ => true
def resK (l : Option (List PV)) (K : Out → Hp → Prop) (h : Hp) : Prop := match l with
  | some [v] => K (.ret v) h
  | some l => if l.all is1 = true then K (.ret (.t l)) h else False
  | none => False
def enK (P : Program) (rs : List ResultVar) (K : Out → Hp → Prop) : Cont := fun e t h => match e with
  | .nor => resK (resR P t h rs) K h
  | .ret => resK (resR P t h rs) K h
  | .pan x => K (.pan x) h
  | .exit _ => False
section
variable {P : Program} {N : Nat} {B : Bs} {h : Hp} {w : World} {t : Tm} {a : Act}

theorem AR.len : ∀ {l : List PV} {vs : List Value}, AR B l vs → l.length = vs.length
  | [], [], _ => rfl
  | [], _ :: _, k => k.elim
  | _ :: _, [], k => k.elim
  | _ :: _, _ :: _, k => congrArg (· + 1) (AR.len k.2)
theorem ent_lk : ∀ {l : List PV} {vs : List Value} (i : Nat), AR B l vs → ∀ n v, lk (ent l i) n = some v → i ≤ n ∧ ∃ u, vs[n - i]? = some u ∧ PR B v u
  | [], vs, i, _, n, v, e => by simp [ent, lk] at e
  | x :: l, [], i, k, _, _, _ => k.elim
  | x :: l, u :: vs, i, k, n, v, e => by
    simp only [ent, lk] at e
    split at e
    · rename_i q; subst q; cases e
      exact ⟨Nat.le_refl _, u, by simp, k.1⟩
    · obtain ⟨h1, u', h2, h3⟩ := ent_lk (i + 1) k.2 n v e
      refine ⟨by omega, u', ?_, h3⟩
      rw [show n - i = (n - (i + 1)) + 1 by omega]
      simpa using h2
theorem ent_TR {args : List PV} {vs : List Value} (hr : AR B args vs) (ha : args.length ≤ N) : TR N B (ent args 0) (vs.toArray ++ Array.replicate (N - vs.toArray.size) undef) := by
  have hl := hr.len
  refine ⟨by simp; omega, fun n v e => ?_⟩
  obtain ⟨_, u, h2, h3⟩ := ent_lk 0 hr n v e
  have hn : n < vs.length := by simpa using (List.getElem?_eq_some_iff.1 h2).1
  rw [Array.getD_eq_getD_getElem?, Array.getElem?_append_left (by simpa using hn)]
  simp at h2
  simp [h2, h3]
theorem res1_sound (m : Mt B h w) (k : TR N B t a.tmps) : ∀ {x : ResultVar} {v : PV}, res1 P t h x = some v → ∃ u, (match x with | .tmp t => pure (a.tmps.getD t undef) | .cell c ty => (do loadVar ty (← asAddr (a.tmps.getD c undef)) : Sem Value)).run P w = .ok u w ∧ PR B v u
  | .tmp n, v, e => ⟨_, rfl, k.get n v e⟩
  | .cell n ty, v, e => by
    simp only [res1] at e
    split at e
    · rename_i j off hv
      split at e
      · rename_i i hi
        cases hl : ldR h j off i.size i.agg with
        | none => rw [hl] at e; simp [re1] at e
        | some r =>
          rw [hl] at e
          obtain ⟨ad, v', u, hp, rfl, hrun, hr⟩ := loadVar_run m hi hl (k.get n _ hv)
          simp only [re1, Option.some.injEq] at e
          subst e
          refine ⟨u, ?_, hr⟩
          show ((do loadVar ty (← asAddr (a.tmps.getD n undef)) : Sem Value)).run P w = _
          rw [hp]
          simp [asAddr, hrun]
      · cases e
    · cases e
theorem resR_sound (m : Mt B h w) (k : TR N B t a.tmps) : ∀ {l : List ResultVar} {q : List PV}, resR P t h l = some q →
    ∃ us : List Value, (l.mapM fun (x : ResultVar) => (match x with | .tmp t => pure (a.tmps.getD t undef) | .cell c ty => (do loadVar ty (← asAddr (a.tmps.getD c undef)) : Sem Value))).run P w = .ok us w ∧ AR B q us
  | [], q, e => by simp [resR] at e; subst e; exact ⟨[], by simp, trivial⟩
  | x :: l, q, e => by
    simp only [resR] at e
    split at e
    · rename_i v q' hv hq; cases e
      obtain ⟨u, h1, h2⟩ := res1_sound (P := P) m k hv
      obtain ⟨us, h3, h4⟩ := resR_sound m k hq
      refine ⟨u :: us, ?_, h2, h4⟩
      rw [List.mapM_cons]
      simp only [Sem.run_bind, h1, Result.andThen_ok, h3, Sem.run_pure]
    · cases e
theorem AR.pl : ∀ {l : List PV} {us : List Value}, AR B l us → l.all is1 = true → PL B l us
  | [], [], _, _ => trivial
  | [], _ :: _, k, _ => k.elim
  | _ :: _, [], k, _ => k.elim
  | x :: l, u :: us, k, hl => by
    simp only [List.all_cons, Bool.and_eq_true] at hl
    refine ⟨?_, AR.pl k.2 hl.2⟩
    cases x with
    | s _ => exact k.1
    | g _ => exact k.1
    | t _ => simp [is1] at hl
theorem results_run {fn : Func} {us : List Value} (e : (fn.results.toList.mapM fun (x : ResultVar) => (match x with | .tmp t => pure (a.tmps.getD t undef) | .cell c ty => (do loadVar ty (← asAddr (a.tmps.getD c undef)) : Sem Value))).run P w = .ok us w) :
    (results fn a.tmps).run P w = .ok (match us with | [v] => v | us => .tuple us.toArray) w := by
  have e2 : (fn.results.mapM fun (x : ResultVar) => (match x with | .tmp t => pure (a.tmps.getD t undef) | .cell c ty => (do loadVar ty (← asAddr (a.tmps.getD c undef)) : Sem Value))).run P w = .ok us.toArray w := by
    rw [Array.mapM_eq_mapM_toList]
    change ((fn.results.toList.mapM fun (x : ResultVar) => (match x with | .tmp t => pure (a.tmps.getD t undef) | .cell c ty => (do loadVar ty (← asAddr (a.tmps.getD c undef)) : Sem Value))) >>= (pure ∘ List.toArray)).run P w = _
    simp only [Sem.run_bind, e, Result.andThen_ok]
    rfl
  unfold results
  rw [Sem.run_bind]
  refine (congrArg (fun r => Result.andThen r _) e2).trans ?_
  simp only [Result.andThen_ok, Sem.run_pure]
  congr 1
  cases us with
  | nil => simp
  | cons v us =>
    cases us with
    | nil => simp
    | cons v2 us => simp
/-- A function by its body. -/
theorem wc_intro {f : FuncId} {fn : Func} {c : Code} {args : List PV} {K : Out → Hp → Prop} (hf : P.funcs[f]? = some fn) (hb : fn.body = some c) (hn : fn.ntmps = N) (hc : cOk N c = true) (ha : args.length ≤ N)
    (hw : W P N c (enK P fn.results.toList K) (ent args 0) h) : WC P f args h K := by
  intro B w vs m hr
  refine calls_of_wp hf hb ?_
  rw [hn]
  refine Code.wp_mono ?_ (W_sound c _ _ _ hc hw [] B w _ m (ent_TR hr ha) rfl)
  intro e a' w' ⟨x, t', h', B', kk, e1, e2, e3, e4, e5⟩
  have fin : resK (resR P t' h' fn.results.toList) K h' → a'.defers = [] ∧ ∃ v, (results fn a'.tmps).run P w' = .ok v w' ∧ ∃ o h' B', K o h' ∧ OutR B' o (.returned v) ∧ Mt B' h' w' ∧ Step B h w B' h' w' := by
    intro hk
    refine ⟨e3, ?_⟩
    unfold resK at hk
    split at hk
    · rename_i v hv
      obtain ⟨us, h1, h2⟩ := resR_sound (P := P) e4 e2 hv
      cases us with
      | nil => exact h2.elim
      | cons u us =>
        cases us with
        | nil => exact ⟨u, results_run h1, .ret v, h', B', hk, h2.1, e4, e5⟩
        | cons _ _ => exact h2.2.elim
    · rename_i l hne hv
      split at hk
      · rename_i hall
        obtain ⟨us, h1, h2⟩ := resR_sound (P := P) e4 e2 hv
        have hl := h2.len
        refine ⟨_, results_run h1, .ret (.t l), h', B', hk, ?_, e4, e5⟩
        refine ⟨us, ?_, h2.pl hall⟩
        cases us with
        | nil => rfl
        | cons u us =>
          cases us with
          | nil =>
            cases l with
            | nil => simp at hl
            | cons y l =>
              cases l with
              | nil => exact absurd rfl (hne y)
              | cons _ _ => simp at hl
          | cons _ _ => rfl
      · exact hk.elim
    · exact hk.elim
  cases x with
  | nor => cases e <;> first | exact e1.elim | exact fin kk
  | ret => cases e <;> first | exact e1.elim | exact fin kk
  | exit n => exact (kk : False).elim
  | pan s => cases e <;> first | exact e1.elim | exact ⟨e3, .pan s, h', B', kk, e1, e4, e5⟩

/-- The temporaries that are kept. -/
def subT : Tm → Tm → Prop
  | [], _ => True
  | (n, v) :: r, t => lk t n = some v ∧ subT r t
theorem subT.lk : ∀ {s t : Tm}, subT s t → ∀ n v, lk s n = some v → lk t n = some v
  | [], t, _, n, v, e => by simp [Vm.lk] at e
  | (m, u) :: s, t, k, n, v, e => by
    simp only [Vm.lk] at e
    split at e
    · rename_i q; subst q; cases e; exact k.1
    · exact subT.lk k.2 n v e
theorem TR.sub {s t : Tm} {tmps : Array Value} (k : TR N B t tmps) (q : subT s t) : TR N B s tmps := ⟨k.size, fun n v e => k.get n v (q.lk n v e)⟩
def lpK {ι : Type} (J : ι → Prop) (S : ι → Tm) (H : ι → Hp) (μ : ι → Nat) (i : ι) (K : Cont) : Cont := fun e t h => match e with
  | .nor => ∃ j, J j ∧ μ j < μ i ∧ subT (S j) t ∧ h = H j
  | e => K e t h
theorem sw_loop {c : Code} {K : Cont} {ι : Type} (J : ι → Prop) (S : ι → Tm) (H : ι → Hp) (μ : ι → Nat) (i0 : ι) (hc : cOk N c = true) (hj : J i0) (ht : subT (S i0) t) (hh : h = H i0)
    (round : ∀ i, J i → W P N c (lpK J S H μ i K) (S i) (H i)) : SW P N (.loop c) t h K := by
  intro D B0 w0 a0 m0 k0 hd0
  have key : ∀ n i, J i → μ i < n → ∀ (B : Bs) (w : World) (a : Act), Mt B (H i) w → TR N B (S i) a.tmps → a.defers = D → Step B0 h w0 B (H i) w → Code.rounds P c (QK D N B0 h w0 K) n a w := by
    intro n
    induction n with
    | zero => intro i _ hi; omega
    | succ n ih =>
      intro i hJ hi B w a m k hd st
      rw [rounds_succ]
      refine Code.wp_mono ?_ (W_sound c _ _ _ hc (round i hJ) D B w a m k hd)
      intro e a' w' ⟨x, t', h', B', kk, e1, e2, e3, e4, e5⟩
      cases x with
      | nor =>
        cases e <;> first | exact e1.elim | skip
        obtain ⟨j, h0, h1, h2, rfl⟩ := kk
        exact ih j h0 (by omega) B' w' a' e4 (e2.sub h2) e3 (st.trans e5)
      | exit n => cases e <;> first | exact e1.elim | exact ⟨.exit n, t', h', B', kk, e1, e2, e3, e4, st.trans e5⟩
      | ret => cases e <;> first | exact e1.elim | exact ⟨.ret, t', h', B', kk, e1, e2, e3, e4, st.trans e5⟩
      | pan s => cases e <;> first | exact e1.elim | exact ⟨.pan s, t', h', B', kk, e1, e2, e3, e4, st.trans e5⟩
  subst hh
  exact wp_loop_rounds (μ i0 + 1) (key _ i0 hj (Nat.lt_succ_self _) B0 w0 a0 m0 (k0.sub ht) hd0 (Step.refl _ _ _))
end
end Go.Proofs.Ytahepinbmcgbnaa.Vm
end
section
/- Small memories: a callee numbers its blocks in its own way. No condition. -/
set_option linter.unusedVariables false
set_option linter.unusedSimpArgs false
namespace Go.Proofs.Ytahepinbmcgbnaa.Vm
open Go.RowKit

/-- The caller's number of a callee's block. -/
def ix (σ : List Nat) (n : Nat) (j : Nat) : Nat := match σ[j]? with
 | some i => i
 | none => n + (j - σ.length)
def rnS (τ : Nat → Nat) : SV → SV
 | .a v => .a v
 | .p j off => .p (τ j) off
 | .sl j off len => .sl (τ j) off len
 | .so j len es ty => .so (τ j) len es ty
 | .ip t j off => .ip t (τ j) off
 | .clo f cs => .clo f (cs.map fun c => (τ c.1, c.2))
def rnP (τ : Nat → Nat) : PV → PV
 | .s x => .s (rnS τ x)
 | .g l => .g (l.map (rnS τ))
 | .t l => .t (l.map fun x => match x with
  | .s x => .s (rnS τ x)
  | .g l => .g (l.map (rnS τ))
  | .t l => .t [])
def rnB (τ : Nat → Nat) : Blk → Blk
 | .rw c => .rw (c.map (rnS τ))
 | .ro c => .ro (c.map (rnS τ))
 | .dead => .dead
def rnO (τ : Nat → Nat) : Out → Out
 | .ret v => .ret (rnP τ v)
 | .pan x => .pan (rnS τ x)
def setAll : List Nat → List Blk → Hp → Hp
 | j :: js, b :: bs, H => setAll js bs (H.set j b)
 | _, _, H => H
/-- The caller's memory behind a call. -/
def mrg (σ : List Nat) (H hc : Hp) : Hp := setAll σ ((hc.take σ.length).map (rnB (ix σ H.length))) H ++ (hc.drop σ.length).map (rnB (ix σ H.length))
/-- The callee's blocks are the caller's. -/
def same (σ : List Nat) (H : Hp) : List Nat → List Blk → Prop
 | j :: js, b :: bs => H[j]? = some (rnB (ix σ H.length) b) ∧ same σ H js bs
 | [], [] => True
 | _, _ => False
def nodup : List Nat → Bool
 | [] => true
 | j :: js => !js.contains j && nodup js
section
variable {P : Program} {B B' : Bs} {h : Hp} {w : World}

theorem same_get {σ0 : List Nat} {H : Hp} : ∀ {σ : List Nat} {hc : List Blk}, same σ0 H σ hc → σ.length = hc.length ∧ ∀ (j : Nat) (i : Nat), σ[j]? = some i → ∃ b, hc[j]? = some b ∧ H[i]? = some (rnB (ix σ0 H.length) b)
 | [], [], _ => ⟨rfl, fun j i e => by simp at e⟩
 | [], _ :: _, k => k.elim
 | _ :: _, [], k => k.elim
 | s :: σ, b :: hc, k => by
  obtain ⟨h1, h2⟩ := same_get k.2
  refine ⟨by simp [h1], fun j i e => ?_⟩
  cases j with
  | zero => simp at e; subst e; exact ⟨b, rfl, k.1⟩
  | succ j => simpa using h2 j i (by simpa using e)
theorem nodup_inj : ∀ {σ : List Nat}, nodup σ = true → ∀ (i j k : Nat), σ[i]? = some k → σ[j]? = some k → i = j
 | [], _, i, j, k, e, _ => by simp at e
 | s :: σ, hn, i, j, k, e, f => by
  simp only [nodup, Bool.and_eq_true, Bool.not_eq_true', List.contains_eq_mem, decide_eq_false_iff_not] at hn
  cases i with
  | zero =>
   cases j with
   | zero => rfl
   | succ j => simp at e f; subst e; exact absurd (List.mem_of_getElem? f) hn.1
  | succ i =>
   cases j with
   | zero => simp at e f; subst f; exact absurd (List.mem_of_getElem? e) hn.1
   | succ j => rw [nodup_inj hn.2 i j k (by simpa using e) (by simpa using f)]
theorem setAll_len : ∀ (σ : List Nat) (bs : List Blk) (H : Hp), (setAll σ bs H).length = H.length
 | [], _, H => by simp [setAll]
 | _ :: _, [], H => by simp [setAll]
 | j :: σ, b :: bs, H => by simp [setAll, setAll_len σ bs]
theorem setAll_out : ∀ (σ : List Nat) (bs : List Blk) (H : Hp) (i : Nat), i ∉ σ → (setAll σ bs H)[i]? = H[i]?
 | [], _, H, i, _ => by simp [setAll]
 | _ :: _, [], H, i, _ => by simp [setAll]
 | j :: σ, b :: bs, H, i, hi => by
  simp only [List.mem_cons, not_or] at hi
  rw [setAll, setAll_out σ bs _ i hi.2, List.getElem?_set_ne (Ne.symm hi.1)]
theorem setAll_in : ∀ (σ : List Nat) (bs : List Blk) (H : Hp), nodup σ = true → σ.length = bs.length → ∀ (j i : Nat), σ[j]? = some i → i < H.length → (setAll σ bs H)[i]? = bs[j]?
 | [], _, H, _, _, j, i, e, _ => by simp at e
 | _ :: _, [], H, _, hl, _, _, _, _ => by simp at hl
 | s :: σ, b :: bs, H, hn, hl, j, i, e, hi => by
  have hn' := hn
  simp only [nodup, Bool.and_eq_true, Bool.not_eq_true', List.contains_eq_mem, decide_eq_false_iff_not] at hn'
  cases j with
  | zero =>
   simp at e; subst e
   rw [setAll, setAll_out σ bs _ s hn'.1, List.getElem?_set_self hi]; rfl
  | succ j =>
   rw [setAll, setAll_in σ bs _ hn'.2 (by simpa using hl) j i (by simpa using e) (by simpa using hi)]
   simp
/-- Where the callee's blocks lie. -/
def sub (B : Bs) (σ : List Nat) : Bs := fun j => match σ[j]? with
 | some i => B i
 | none => none
/-- Where the caller's blocks lie behind the call. -/
def back (B Bc : Bs) (n m : Nat) : Bs := fun i => if i < n then B i else Bc (i - n + m)
theorem pm_sub {σ : List Nat} (m : Mt B h w) {j off : Nat} {x : Value} (k : PM B (ix σ h.length j) off x) : PM (sub B σ) j off x := by
 obtain ⟨d, e, f⟩ := k
 unfold ix at e
 unfold PM sub
 cases hj : σ[j]? with
 | some i => rw [hj] at e; exact ⟨d, e, f⟩
 | none =>
  rw [hj] at e
  rw [m.dom _ (by show h.length ≤ h.length + (j - σ.length); omega)] at e; cases e
theorem sr_sub {σ : List Nat} (m : Mt B h w) : ∀ {x : SV} {v : Value}, SR B (rnS (ix σ h.length) x) v → SR (sub B σ) x v
 | .a _, _, k => k
 | .p _ _, _, k => pm_sub m k
 | .sl j off len, v, ⟨q, cap, e1, e2, e3⟩ => by
  refine ⟨q, cap, e1, e2, fun hl => ?_⟩
  obtain ⟨d, f1, f2⟩ := e3 hl
  obtain ⟨d', g1, g2⟩ := pm_sub (off := off) (x := .pointer (some (d.a.add off))) m ⟨d, f1, rfl⟩
  refine ⟨d', g1, ?_⟩
  simp at g2
  rw [f2, g2]
 | .so j len es ty, v, ⟨cap, d, e, f⟩ => by
  refine ⟨cap, d, ?_, f⟩
  unfold ix at e
  unfold sub
  cases hj : σ[j]? with
  | some i => rw [hj] at e; exact e
  | none => rw [hj] at e; rw [m.dom _ (by show h.length ≤ h.length + (j - σ.length); omega)] at e; cases e
 | .ip _ _ _, _, ⟨u, e, f⟩ => ⟨u, e, pm_sub m f⟩
 | .clo f cs, v, ⟨vs, e, k⟩ => by
  refine ⟨vs, e, ?_⟩
  clear e
  induction cs generalizing vs with
  | nil => cases vs; trivial; exact k.elim
  | cons c cs ih =>
   cases vs with
   | nil => exact k.elim
   | cons u vs => exact ⟨pm_sub m k.1, ih vs k.2⟩
theorem pm_back {σ : List Nat} {Bc : Bs} (ho : ∀ j, j < σ.length → Bc j = sub B σ j) (hs : ∀ (j i : Nat), σ[j]? = some i → i < h.length) {j off : Nat} {x : Value} (k : PM Bc j off x) : PM (back B Bc h.length σ.length) (ix σ h.length j) off x := by
 obtain ⟨d, e, f⟩ := k
 refine ⟨d, ?_, f⟩
 unfold ix back
 cases hj : σ[j]? with
 | some i =>
  simp only
  rw [if_pos (hs j i hj)]
  rw [ho j (List.getElem?_eq_some_iff.1 hj).1] at e
  unfold sub at e
  rw [hj] at e
  exact e
 | none =>
  have : σ.length ≤ j := by simpa using hj
  simp only
  rw [if_neg (by omega), show h.length + (j - σ.length) - h.length + σ.length = j by omega]
  exact e
theorem sr_back {σ : List Nat} {Bc : Bs} (ho : ∀ j, j < σ.length → Bc j = sub B σ j) (hs : ∀ (j i : Nat), σ[j]? = some i → i < h.length) : ∀ {x : SV} {v : Value}, SR Bc x v → SR (back B Bc h.length σ.length) (rnS (ix σ h.length) x) v
 | .a _, _, k => k
 | .p _ _, _, k => pm_back ho hs k
 | .sl j off len, v, ⟨q, cap, e1, e2, e3⟩ => by
  refine ⟨q, cap, e1, e2, fun hl => ?_⟩
  obtain ⟨d, f1, f2⟩ := e3 hl
  obtain ⟨d', g1, g2⟩ := pm_back (B := B) (h := h) (off := off) (x := .pointer (some (d.a.add off))) ho hs ⟨d, f1, rfl⟩
  refine ⟨d', g1, ?_⟩
  simp at g2
  rw [f2, g2]
 | .so j len es ty, v, ⟨cap, d, e, f⟩ => by
  have := pm_back (B := B) (h := h) (off := 0) (x := .pointer (some (d.a.add 0))) ho hs ⟨d, e, rfl⟩
  obtain ⟨d', g1, g2⟩ := this
  have hd : back B Bc h.length σ.length (ix σ h.length j) = some d := by
   unfold ix back
   cases hj : σ[j]? with
   | some i =>
    simp only
    rw [if_pos (hs j i hj)]
    rw [ho j (List.getElem?_eq_some_iff.1 hj).1] at e
    unfold sub at e
    rw [hj] at e
    exact e
   | none =>
    have : σ.length ≤ j := by simpa using hj
    simp only
    rw [if_neg (by omega), show h.length + (j - σ.length) - h.length + σ.length = j by omega]
    exact e
  exact ⟨cap, d, hd, f⟩
 | .ip _ _ _, _, ⟨u, e, f⟩ => ⟨u, e, pm_back ho hs f⟩
 | .clo f cs, v, ⟨vs, e, k⟩ => by
  refine ⟨vs, e, ?_⟩
  clear e
  induction cs generalizing vs with
  | nil => cases vs; trivial; exact k.elim
  | cons c cs ih =>
   cases vs with
   | nil => exact k.elim
   | cons u vs => exact ⟨pm_back ho hs k.1, ih vs k.2⟩
theorem lr_back {σ : List Nat} {Bc : Bs} (ho : ∀ j, j < σ.length → Bc j = sub B σ j) (hs : ∀ (j i : Nat), σ[j]? = some i → i < h.length) : ∀ {l : List SV} {vs : List Value}, LR Bc l vs → LR (back B Bc h.length σ.length) (l.map (rnS (ix σ h.length))) vs
 | [], [], _ => trivial
 | [], _ :: _, k => k.elim
 | _ :: _, [], k => k.elim
 | _ :: _, _ :: _, k => ⟨sr_back ho hs k.1, lr_back ho hs k.2⟩
theorem lr_sub {σ : List Nat} (m : Mt B h w) : ∀ {l : List SV} {vs : List Value}, LR B (l.map (rnS (ix σ h.length))) vs → LR (sub B σ) l vs
 | [], [], _ => trivial
 | [], _ :: _, k => k.elim
 | _ :: _, [], k => k.elim
 | _ :: _, _ :: _, k => ⟨sr_sub m k.1, lr_sub m k.2⟩
theorem pr_sub {σ : List Nat} (m : Mt B h w) : ∀ {x : PV} {v : Value}, PR B (rnP (ix σ h.length) x) v → (∀ l, x ≠ .t l) → PR (sub B σ) x v
 | .s _, _, k, _ => sr_sub m k
 | .g _, _, ⟨vs, e, k⟩, _ => ⟨vs, e, lr_sub m k⟩
 | .t l, _, _, hn => absurd rfl (hn l)
theorem ar_sub {σ : List Nat} (m : Mt B h w) : ∀ {l : List PV} {vs : List Value}, AR B (l.map (rnP (ix σ h.length))) vs → l.all is1 = true → AR (sub B σ) l vs
 | [], [], _, _ => trivial
 | [], _ :: _, k, _ => k.elim
 | _ :: _, [], k, _ => k.elim
 | x :: _, _ :: _, k, q => by
  simp only [List.all_cons, Bool.and_eq_true] at q
  exact ⟨pr_sub m k.1 (fun l e => by subst e; simp [is1] at q), ar_sub m k.2 q.2⟩
theorem pl_back {σ : List Nat} {Bc : Bs} (ho : ∀ j, j < σ.length → Bc j = sub B σ j) (hs : ∀ (j i : Nat), σ[j]? = some i → i < h.length) : ∀ {l : List PV} {vs : List Value}, PL Bc l vs → PL (back B Bc h.length σ.length) (l.map fun x => match x with
  | .s x => .s (rnS (ix σ h.length) x)
  | .g l => .g (l.map (rnS (ix σ h.length)))
  | .t l => .t []) vs
 | [], [], _ => trivial
 | [], _ :: _, k => k.elim
 | _ :: _, [], k => k.elim
 | .s _ :: _, _ :: _, k => ⟨sr_back ho hs k.1, pl_back ho hs k.2⟩
 | .g _ :: _, _ :: _, k => ⟨let ⟨vs, e, q⟩ := k.1; ⟨vs, e, lr_back ho hs q⟩, pl_back ho hs k.2⟩
 | .t _ :: _, _ :: _, k => k.1.elim
theorem pr_back {σ : List Nat} {Bc : Bs} (ho : ∀ j, j < σ.length → Bc j = sub B σ j) (hs : ∀ (j i : Nat), σ[j]? = some i → i < h.length) : ∀ {x : PV} {v : Value}, PR Bc x v → PR (back B Bc h.length σ.length) (rnP (ix σ h.length) x) v
 | .s _, _, k => sr_back ho hs k
 | .g _, _, ⟨vs, e, k⟩ => ⟨vs, e, lr_back ho hs k⟩
 | .t _, _, ⟨vs, e, k⟩ => ⟨vs, e, pl_back ho hs k⟩
theorem out_back {σ : List Nat} {Bc : Bs} (ho : ∀ j, j < σ.length → Bc j = sub B σ j) (hs : ∀ (j i : Nat), σ[j]? = some i → i < h.length) : ∀ {x : Out} {e : Ending}, OutR Bc x e → OutR (back B Bc h.length σ.length) (rnO (ix σ h.length) x) e
 | .ret _, .returned _, k => pr_back ho hs k
 | .pan _, .panicked _, ⟨x, e, k⟩ => ⟨x, e, sr_back ho hs k⟩
 | .ret _, .panicked _, k => k.elim
 | .ret _, .outgrown, k => k.elim
 | .pan _, .returned _, k => k.elim
 | .pan _, .outgrown, k => k.elim

theorem rnB_rw {τ : Nat → Nat} {b : Blk} {c : List SV} (e : rnB τ b = .rw c) : ∃ c', b = .rw c' ∧ c = c'.map (rnS τ) := by cases b <;> simp [rnB] at e; exact ⟨_, rfl, e.symm⟩
theorem rnB_ro {τ : Nat → Nat} {b : Blk} {c : List SV} (e : rnB τ b = .ro c) : ∃ c', b = .ro c' ∧ c = c'.map (rnS τ) := by cases b <;> simp [rnB] at e; exact ⟨_, rfl, e.symm⟩
/-- The callee's view of the memory. -/
theorem mt_sub {σ : List Nat} {hc : Hp} (m : Mt B h w) (hs : same σ h σ hc) (hn : nodup σ = true) : Mt (sub B σ) hc w := by
 obtain ⟨hl, hg⟩ := same_get hs
 have get : ∀ (j : Nat) (b : Blk), hc[j]? = some b → ∃ i, σ[j]? = some i ∧ h[i]? = some (rnB (ix σ h.length) b) ∧ sub B σ j = B i := fun j b e => by
  have hj : j < σ.length := by rw [hl]; exact (List.getElem?_eq_some_iff.1 e).1
  obtain ⟨b', h1, h2⟩ := hg j σ[j] (by simp [hj])
  obtain rfl : b = b' := Option.some.inj (e.symm.trans h1)
  exact ⟨σ[j], by simp [hj], h2, by simp [sub, hj]⟩
 refine ⟨fun j b e => ?_, fun j hj => ?_, fun j d e => ?_, fun i j ci cj di dj ei ej bi bj q => ?_, fun i j ci cj di dj ei ej hne bi bj => ?_⟩
 ·obtain ⟨i, h1, h2, h3⟩ := get j b e
  have hb := m.blk i _ h2
  cases b with
  | rw cs =>
   obtain ⟨d, c, e1, e2, e3, e4, e5⟩ := hb
   refine ⟨d, c, h3.trans e1, e2, e3, e4, fun k x hk => ?_⟩
   obtain ⟨v, q1, q2⟩ := e5 k (rnS (ix σ h.length) x) (by simp [hk])
   exact ⟨v, q1, sr_sub m q2⟩
  | ro cs =>
   intro k x hk
   obtain ⟨d, v, e1, e2, e3, e4⟩ := hb k (rnS (ix σ h.length) x) (by simp [hk])
   exact ⟨d, v, h3.trans e1, e2, e3, sr_sub m e4⟩
  | dead => trivial
 ·unfold sub
  rw [List.getElem?_eq_none (by rw [hl]; exact hj)]
 ·unfold sub at e
  split at e
  ·exact m.spt _ _ e
  ·cases e
 ·obtain ⟨i', a1, a2, a3⟩ := get i _ ei
  obtain ⟨j', b1, b2, b3⟩ := get j _ ej
  have := m.sep i' j' _ _ di dj a2 b2 (a3.symm.trans bi) (b3.symm.trans bj) q
  subst this
  exact nodup_inj hn _ _ _ a1 b1
 ·obtain ⟨i', a1, a2, a3⟩ := get i _ ei
  obtain ⟨j', b1, b2, b3⟩ := get j _ ej
  exact m.sepr i' j' _ _ di dj a2 b2 (by simpa using hne) (a3.symm.trans bi) (b3.symm.trans bj)
/-- A call over the callee's own numbers. -/
theorem wc_focus {f : FuncId} {args args' : List PV} {hc : Hp} {K : Out → Hp → Prop} (σ : List Nat) (hn : nodup σ = true) (hs : same σ h σ hc) (ha : args'.map (rnP (ix σ h.length)) = args) (h1 : args'.all is1 = true)
  (c : WC P f args' hc fun o hc' => K (rnO (ix σ h.length) o) (mrg σ h hc')) : WC P f args h K := by
 intro B w vs m hr
 subst ha
 obtain ⟨hl, hg⟩ := same_get hs
 have hlt : ∀ (j i : Nat), σ[j]? = some i → i < h.length := fun j i e => by
  obtain ⟨b, _, e2⟩ := hg j i e
  exact (List.getElem?_eq_some_iff.1 e2).1
 have ms := mt_sub m hs hn
 refine (c (sub B σ) w vs ms (ar_sub m hr h1)).mono ?_
 rintro e w' ⟨o, hc', Bc, kk, eo, m', st⟩
 have hcl : σ.length ≤ hc'.length := by rw [hl]; exact st.len
 have ho : ∀ j, j < σ.length → Bc j = sub B σ j := fun j hj => st.old j (by rw [← hl]; exact hj)
 have hle : (mrg σ h hc').length = h.length + (hc'.length - σ.length) := by simp [mrg, setAll_len]
 have gout : ∀ i, i ∉ σ → i < h.length → (mrg σ h hc')[i]? = h[i]? := fun i hi hil => by
  rw [mrg, List.getElem?_append_left (by rw [setAll_len]; exact hil), setAll_out _ _ _ _ hi]
 have gin : ∀ (j i : Nat), σ[j]? = some i → (mrg σ h hc')[i]? = (hc'[j]?).map (rnB (ix σ h.length)) := fun j i e => by
  have hj := (List.getElem?_eq_some_iff.1 e).1
  rw [mrg, List.getElem?_append_left (by rw [setAll_len]; exact hlt j i e), setAll_in σ _ h hn (by simp; omega) j i e (hlt j i e)]
  simp [hj]
 have gnew : ∀ i, h.length ≤ i → (mrg σ h hc')[i]? = (hc'[i - h.length + σ.length]?).map (rnB (ix σ h.length)) := fun i hi => by
  rw [mrg, List.getElem?_append_right (by rw [setAll_len]; exact hi), setAll_len]
  rw [List.getElem?_map, List.getElem?_drop, Nat.add_comm]
 have bold : ∀ i, i < h.length → back B Bc h.length σ.length i = B i := fun i hi => by simp [back, hi]
 have bnew : ∀ i, h.length ≤ i → back B Bc h.length σ.length i = Bc (i - h.length + σ.length) := fun i hi => by simp [back, Nat.not_lt.2 hi]
 have bin : ∀ (j i : Nat), σ[j]? = some i → B i = Bc j := fun j i e => by
  rw [ho j (List.getElem?_eq_some_iff.1 e).1]; simp [sub, e]
 -- each block behind the call is an old one or the callee's
 have parts : ∀ i b, (mrg σ h hc')[i]? = some b → (i < h.length ∧ i ∉ σ ∧ h[i]? = some b ∧ back B Bc h.length σ.length i = B i) ∨ (∃ j b', hc'[j]? = some b' ∧ b = rnB (ix σ h.length) b' ∧ back B Bc h.length σ.length i = Bc j ∧ (σ[j]? = some i ∨ (h.length ≤ i ∧ j = i - h.length + σ.length))) := fun i b e => by
  rcases Nat.lt_or_ge i h.length with hi | hi
  ·by_cases hm : i ∈ σ
   ·obtain ⟨j, hj, e2⟩ := List.getElem_of_mem hm
    have e3 : σ[j]? = some i := by simp [hj, e2]
    rw [gin j i e3] at e
    obtain ⟨b', q1, q2⟩ := Option.map_eq_some_iff.1 e
    exact .inr ⟨j, b', q1, q2.symm, (bold i hi).trans (bin j i e3), .inl e3⟩
   ·rw [gout i hm hi] at e
    exact .inl ⟨hi, hm, e, bold i hi⟩
  ·rw [gnew i hi] at e
   obtain ⟨b', q1, q2⟩ := Option.map_eq_some_iff.1 e
   exact .inr ⟨_, b', q1, q2.symm, bnew i hi, .inr ⟨hi, rfl⟩⟩
 have ownc : ∀ b, Own (sub B σ) hc b → ∃ j i cs d, σ[j]? = some i ∧ h[i]? = some (.rw cs) ∧ B i = some d ∧ d.a.block = b := fun b o => by
  obtain ⟨j, cs, d, e1, e2, e3⟩ := o
  have hj : j < σ.length := by rw [hl]; exact (List.getElem?_eq_some_iff.1 e1).1
  obtain ⟨b', q1, q2⟩ := hg j σ[j] (by simp [hj])
  obtain rfl : Blk.rw cs = b' := Option.some.inj (e1.symm.trans q1)
  exact ⟨j, σ[j], cs.map (rnS (ix σ h.length)), d, List.getElem?_eq_getElem hj, q2, by simpa [sub, hj] using e2, e3⟩
 have ext : Ext B (back B Bc h.length σ.length) := fun i d e => by
  rcases Nat.lt_or_ge i h.length with hi | hi
  ·rw [bold i hi]; exact e
  ·rw [m.dom i hi] at e; cases e
 have kept : ∀ i cs d, i ∉ σ → h[i]? = some (.rw cs) → B i = some d → ¬ Own (sub B σ) hc d.a.block := fun i cs d hi e1 e2 o => by
  obtain ⟨j, i', cs', d', q1, q2, q3, q4⟩ := ownc _ o
  have := m.sep i i' cs cs' d d' e1 q2 e2 q3 q4.symm
  subst this
  exact hi (List.mem_of_getElem? q1)
 have keptr : ∀ i cs d, h[i]? = some (.ro cs) → cs ≠ [] → B i = some d → ¬ Own (sub B σ) hc d.a.block := fun i cs d e1 hne e2 o => by
  obtain ⟨j, i', cs', d', q1, q2, q3, q4⟩ := ownc _ o
  exact m.sepr i' i cs' cs d' d q2 e1 hne q3 e2 q4
 have ltr : ∀ i cs d, h[i]? = some (.ro cs) → cs ≠ [] → B i = some d → d.a.block < w.heap.size := fun i cs d e1 hne e2 => by
  obtain ⟨x, r, rfl⟩ := List.exists_cons_of_ne_nil hne
  obtain ⟨d', v, e3, _, e4, _⟩ := m.blk i _ e1 0 x rfl
  obtain rfl : d = d' := Option.some.inj (e2.symm.trans e3)
  exact cell_lt e4
 have ltw : ∀ i cs d, h[i]? = some (.rw cs) → B i = some d → d.a.block < w.heap.size := fun i cs d e1 e2 => own_lt m ⟨i, cs, d, e1, e2, rfl⟩
 have inj : ∀ i i' j, (σ[j]? = some i ∨ (h.length ≤ i ∧ j = i - h.length + σ.length)) → (σ[j]? = some i' ∨ (h.length ≤ i' ∧ j = i' - h.length + σ.length)) → i = i' := fun i i' j p q => by
  rcases p with p | ⟨p1, p2⟩ <;> rcases q with q | ⟨q1, q2⟩
  ·exact Option.some.inj (p.symm.trans q)
  ·have := (List.getElem?_eq_some_iff.1 p).1; omega
  ·have := (List.getElem?_eq_some_iff.1 q).1; omega
  ·omega
 have M : Mt (back B Bc h.length σ.length) (mrg σ h hc') w' := by
  refine ⟨fun i b e => ?_, fun i hi => ?_, fun i d e => ?_, fun i k ci ck di dk ei ek bi bk q => ?_, fun i k ci ck di dk ei ek hne bi bk => ?_⟩
  ·rcases parts i b e with ⟨h1, h2, h3, h4⟩ | ⟨j, b', h1, rfl, h3, h4⟩
   ·have hb := m.blk i b h3
    cases b with
    | rw cs =>
     obtain ⟨d, c, e1, e2, e3, e4, e5⟩ := hb
     refine ⟨d, c, h4.trans e1, e2, ?_, e4, fun k x hk => let ⟨v, q1, q2⟩ := e5 k x hk; ⟨v, q1, q2.mono ext⟩⟩
     rw [st.fr.block _ (ltw i cs d h3 e1) (kept i cs d h2 h3 e1)]; exact e3
    | ro cs =>
     intro k x hk
     obtain ⟨d, v, e1, e2, e3, e4⟩ := hb k x hk
     have hne : cs ≠ [] := fun q => by simp [q] at hk
     refine ⟨d, v, h4.trans e1, e2, ?_, e4.mono ext⟩
     exact (World.cell?_of_block (w := w) (a := ⟨d.a.block, d.a.off + k, none⟩) (st.fr.block _ (cell_lt e3) (keptr i cs d h3 hne e1))).trans e3
    | dead => trivial
   ·have hb := m'.blk j b' h1
    cases b' with
    | rw cs =>
     obtain ⟨d, c, e1, e2, e3, e4, e5⟩ := hb
     refine ⟨d, c, h3.trans e1, e2, e3, e4, fun k x hk => ?_⟩
     rw [List.getElem?_map] at hk
     obtain ⟨y, q1, q2⟩ := Option.map_eq_some_iff.1 hk
     subst q2
     obtain ⟨v, q3, q4⟩ := e5 k y q1
     exact ⟨v, q3, sr_back ho hlt q4⟩
    | ro cs =>
     intro k x hk
     rw [List.getElem?_map] at hk
     obtain ⟨y, q1, q2⟩ := Option.map_eq_some_iff.1 hk
     subst q2
     obtain ⟨d, v, e1, e2, e3, e4⟩ := hb k y q1
     exact ⟨d, v, h3.trans e1, e2, e3, sr_back ho hlt e4⟩
    | dead => trivial
  ·rw [hle] at hi
   rw [bnew i (by omega)]
   exact m'.dom _ (by omega)
  ·rcases Nat.lt_or_ge i h.length with hi | hi
   ·rw [bold i hi] at e; exact m.spt _ _ e
   ·rw [bnew i hi] at e; exact m'.spt _ _ e
  ·rcases parts i _ ei with ⟨h1, h2, h3, h4⟩ | ⟨j, b', h1, h2, h3, h4⟩ <;> rcases parts k _ ek with ⟨g1, g2, g3, g4⟩ | ⟨j', c', g1, g2, g3, g4⟩
   ·exact m.sep i k ci ck di dk h3 g3 (h4.symm.trans bi) (g4.symm.trans bk) q
   ·obtain ⟨c2, rfl, _⟩ := rnB_rw g2.symm
    have hBi := h4.symm.trans bi
    rcases st.own _ ⟨j', c2, dk, g1, g3.symm.trans bk, rfl⟩ with o | o
    ·exact absurd (q ▸ o) (kept i ci di h2 h3 hBi)
    ·have := ltw i ci di h3 hBi; omega
   ·obtain ⟨c2, rfl, _⟩ := rnB_rw h2.symm
    have hBk := g4.symm.trans bk
    rcases st.own _ ⟨j, c2, di, h1, h3.symm.trans bi, rfl⟩ with o | o
    ·exact absurd (q ▸ o) (kept k ck dk g2 g3 hBk)
    ·have := ltw k ck dk g3 hBk; omega
   ·obtain ⟨c2, rfl, _⟩ := rnB_rw h2.symm
    obtain ⟨c3, rfl, _⟩ := rnB_rw g2.symm
    have := m'.sep j j' c2 c3 di dk h1 g1 (h3.symm.trans bi) (g3.symm.trans bk) q
    subst this
    exact inj i k j h4 g4
  ·rcases parts i _ ei with ⟨h1, h2, h3, h4⟩ | ⟨j, b', h1, h2, h3, h4⟩ <;> rcases parts k _ ek with ⟨g1, g2, g3, g4⟩ | ⟨j', c', g1, g2, g3, g4⟩
   ·exact m.sepr i k ci ck di dk h3 g3 hne (h4.symm.trans bi) (g4.symm.trans bk)
   ·obtain ⟨c2, rfl, q2⟩ := rnB_ro g2.symm
    have hc0 := st.rok _ _ g1
    have hj : j' < σ.length := by rw [hl]; exact (List.getElem?_eq_some_iff.1 hc0).1
    obtain ⟨b2, q3, q4⟩ := hg j' σ[j'] (by simp [hj])
    obtain rfl : Blk.ro c2 = b2 := Option.some.inj (hc0.symm.trans q3)
    refine m.sepr i σ[j'] ci (c2.map (rnS (ix σ h.length))) di dk h3 q4 (by rw [← q2]; exact hne) (h4.symm.trans bi) ?_
    rw [bin j' σ[j'] (by simp [hj])]; exact g3.symm.trans bk
   ·obtain ⟨c2, rfl, _⟩ := rnB_rw h2.symm
    have hBk := g4.symm.trans bk
    intro q
    rcases st.own _ ⟨j, c2, di, h1, h3.symm.trans bi, rfl⟩ with o | o
    ·exact absurd (q ▸ o) (keptr k ck dk g3 hne hBk)
    ·have := ltr k ck dk g3 hne hBk; omega
   ·obtain ⟨c2, rfl, _⟩ := rnB_rw h2.symm
    obtain ⟨c3, rfl, q3⟩ := rnB_ro g2.symm
    exact m'.sepr j j' c2 c3 di dk h1 g1 (fun z => hne (by rw [q3, z]; rfl)) (h3.symm.trans bi) (g3.symm.trans bk)
 refine ⟨_, _, _, kk, out_back ho hlt eo, M, ext, ⟨st.fr.os, st.fr.tape, st.fr.output, st.fr.size, fun k hk hno => st.fr.block k hk fun o => ?_⟩, fun b o => ?_, by rw [hle]; omega, fun i hi => bold i hi, fun i c e => ?_⟩
 ·obtain ⟨j, i, cs, d, q1, q2, q3, q4⟩ := ownc _ o
  exact hno ⟨i, cs, d, q2, q3, q4⟩
 ·obtain ⟨i, cs, d, e1, e2, e3⟩ := o
  rcases parts i _ e1 with ⟨h1, h2, h3, h4⟩ | ⟨j, b', h1, h2, h3, h4⟩
  ·exact .inl ⟨i, cs, d, h3, h4.symm.trans e2, e3⟩
  ·obtain ⟨c2, rfl, _⟩ := rnB_rw h2.symm
   rcases st.own b ⟨j, c2, d, h1, h3.symm.trans e2, e3⟩ with o | o
   ·obtain ⟨j, i, cs, d, q1, q2, q3, q4⟩ := ownc _ o
    exact .inl ⟨i, cs, d, q2, q3, q4⟩
   ·exact .inr o
 ·rcases parts i _ e with ⟨h1, h2, h3, h4⟩ | ⟨j, b', h1, h2, h3, h4⟩
  ·exact h3
  ·obtain ⟨c2, rfl, q2⟩ := rnB_ro h2.symm
   have hc0 := st.rok _ _ h1
   have hj : j < σ.length := by rw [hl]; exact (List.getElem?_eq_some_iff.1 hc0).1
   rcases h4 with h4 | ⟨h5, h6⟩
   ·obtain ⟨b2, q3, q4⟩ := hg j i h4
    obtain rfl : Blk.ro c2 = b2 := Option.some.inj (hc0.symm.trans q3)
    rw [q4, q2]; rfl
   ·omega
end
end Go.Proofs.Ytahepinbmcgbnaa.Vm
end
section
/- Small memories: how the reckoning goes, as rewrite rules. No condition. -/
set_option linter.unusedVariables false
set_option linter.unusedSimpArgs false
namespace Go.Proofs.Ytahepinbmcgbnaa.Vm
open Go.RowKit

section
variable {P : Program} {N : Nat} {K : Cont} {F : Tm → Hp → Prop} {KO : Out → Hp → Prop} {t : Tm} {h h' : Hp} {A A' B : Prop}
theorem W_region (id : Nat) (l : List Oper) : W P N (.region id l.toArray false) K t h = WO P l K l t h := by simp [W]
theorem WO_nil (all : List Oper) : WO P all K [] t h = K .nor t h := rfl
theorem WO_cons (all : List Oper) (o : Oper) (r : List Oper) : WO P all K (o :: r) t h = gdW all t o.guard (stW P (opR P t h o.op) o.dst t (WO P all K r) K) (WO P all K r (rmO t o.dst) h) := rfl
/-- How code is gone through: from without. -/
theorem vmP :
  (∀ (P : Program) (N : Nat) (K : Cont) (t : Tm) (h : Hp), W P N .skip K t h = K .nor t h) ∧
  (∀ (P : Program) (N : Nat) (x y : Code) (K : Cont) (t : Tm) (h : Hp), W P N (.seq x y) K t h = W P N x (sqK (W P N y K) K) t h) ∧
  (∀ (P : Program) (N : Nat) (c : Operand) (x y : Code) (K : Cont) (t : Tm) (h : Hp), W P N (.cond c x y) K t h = cdW (ev t c) (W P N x K t h) (W P N y K t h)) ∧
  (∀ (P : Program) (N : Nat) (id : Nat) (c : Code) (K : Cont) (t : Tm) (h : Hp), W P N (.block id c) K t h = W P N c (blK id K) t h) ∧
  (∀ (P : Program) (N : Nat) (id : Nat) (K : Cont) (t : Tm) (h : Hp), W P N (.exit id) K t h = K (.exit id) t h) ∧
  (∀ (P : Program) (N : Nat) (K : Cont) (t : Tm) (h : Hp), W P N .ret K t h = K .ret t h) ∧
  (∀ (P : Program) (N : Nat) (id : Nat) (l : List Oper) (K : Cont) (t : Tm) (h : Hp), W P N (.region id l.toArray false) K t h = WO P l K l t h) ∧
  (∀ (P : Program) (all : List Oper) (K : Cont) (t : Tm) (h : Hp), WO P all K [] t h = K .nor t h) ∧
  (∀ (P : Program) (all : List Oper) (op : Op) (ty : TypeId) (d : Option Tmp) (p : String) (af : Array Edge) (r : List Oper) (K : Cont) (t : Tm) (h : Hp),
   WO P all K ({ dst := d, op := op, type := ty, pos := p, after := af, guard := none } :: r) t h = stW P (opR P t h op) d t (WO P all K r) K) ∧
  (∀ (P : Program) (all : List Oper) (op : Op) (ty : TypeId) (d : Option Tmp) (p : String) (af : Array Edge) (j : Nat) (want : Bool) (r : List Oper) (K : Cont) (t : Tm) (h : Hp),
   WO P all K ({ dst := d, op := op, type := ty, pos := p, after := af, guard := some (j, want) } :: r) t h = gd2 (gval all t j) want (stW P (opR P t h op) d t (WO P all K r) K) (WO P all K r (rmO t d) h)) ∧
  (∀ (F : Tm → Hp → Prop) (K : Cont) (t : Tm) (h : Hp), sqK F K .nor t h = F t h) ∧
  (∀ (F : Tm → Hp → Prop) (K : Cont) (t : Tm) (h : Hp), sqK F K .ret t h = K .ret t h) ∧
  (∀ (F : Tm → Hp → Prop) (K : Cont) (n : Nat) (t : Tm) (h : Hp), sqK F K (.exit n) t h = K (.exit n) t h) ∧
  (∀ (F : Tm → Hp → Prop) (K : Cont) (x : SV) (t : Tm) (h : Hp), sqK F K (.pan x) t h = K (.pan x) t h) ∧
  (∀ (id : Nat) (K : Cont) (t : Tm) (h : Hp), blK id K .nor t h = K .nor t h) ∧
  (∀ (id : Nat) (K : Cont) (t : Tm) (h : Hp), blK id K .ret t h = K .ret t h) ∧
  (∀ (id n : Nat) (K : Cont) (t : Tm) (h : Hp), blK id K (.exit n) t h = if n = id then K .nor t h else K (.exit n) t h) ∧
  (∀ (id : Nat) (K : Cont) (x : SV) (t : Tm) (h : Hp), blK id K (.pan x) t h = K (.pan x) t h) ∧
  (∀ (P : Program) (rs : List ResultVar) (K : Out → Hp → Prop) (t : Tm) (h : Hp), enK P rs K .nor t h = resK (resR P t h rs) K h) ∧
  (∀ (P : Program) (rs : List ResultVar) (K : Out → Hp → Prop) (t : Tm) (h : Hp), enK P rs K .ret t h = resK (resR P t h rs) K h) ∧
  (∀ (P : Program) (rs : List ResultVar) (K : Out → Hp → Prop) (x : SV) (t : Tm) (h : Hp), enK P rs K (.pan x) t h = K (.pan x) h) ∧
  (∀ (d : Option Tmp) (t : Tm) (F : Tm → Hp → Prop) (K : Cont) (v : PV) (h : Hp), kC d t F K (.ret v) h = F (pt t d v) h) ∧
  (∀ (d : Option Tmp) (t : Tm) (F : Tm → Hp → Prop) (K : Cont) (x : SV) (h : Hp), kC d t F K (.pan x) h = K (.pan x) t h) := by
 refine ⟨?_, ?_, ?_, ?_, ?_, ?_, ?_, ?_, ?_, ?_, ?_, ?_, ?_, ?_, ?_, ?_, ?_, ?_, ?_, ?_, ?_, ?_, ?_⟩ <;> intros <;> first | rfl | exact W_region _ _
/-- What an operation came to, put to use: from within. -/
theorem vmQ :
  (∀ (P : Program) (d : Option Tmp) (t : Tm) (F : Tm → Hp → Prop) (K : Cont) (v : PV) (h : Hp), stW P (some (.val v h)) d t F K = F (pt t d v) h) ∧
  (∀ (P : Program) (d : Option Tmp) (t : Tm) (F : Tm → Hp → Prop) (K : Cont) (h : Hp), stW P (some (.skip h)) d t F K = F (rmO t d) h) ∧
  (∀ (P : Program) (d : Option Tmp) (t : Tm) (F : Tm → Hp → Prop) (K : Cont) (x : SV) (h : Hp), stW P (some (.pan x h)) d t F K = K (.pan x) t h) ∧
  (∀ (P : Program) (d : Option Tmp) (t : Tm) (F : Tm → Hp → Prop) (K : Cont) (f : FuncId) (l : List PV) (h : Hp), stW P (some (.call f l h)) d t F K = WC P f l h (kC d t F K)) ∧
  (∀ (P : Program) (d : Option Tmp) (t : Tm) (F : Tm → Hp → Prop) (K : Cont) (p : Prop) (r : OR), stW P (some (.need p r)) d t F K = (p ∧ stW P (some r) d t F K)) ∧
  (∀ (A B : Prop), gd2 (some (.s (.a (.bool true)))) true A B = A) ∧ (∀ (A B : Prop), gd2 (some (.s (.a (.bool true)))) false A B = B) ∧
  (∀ (A B : Prop), gd2 (some (.s (.a (.bool false)))) true A B = B) ∧ (∀ (A B : Prop), gd2 (some (.s (.a (.bool false)))) false A B = A) ∧
  (∀ (l : Array Value) (want : Bool) (A B : Prop), gd2 (some (.s (.a (.tuple l)))) want A B = B) ∧
  (∀ (A B : Prop), cdW (some (.s (.a (.bool true)))) A B = A) ∧ (∀ (A B : Prop), cdW (some (.s (.a (.bool false)))) A B = B) ∧
  (∀ (v : PV) (K : Out → Hp → Prop) (h : Hp), resK (some [v]) K h = K (.ret v) h) ∧ (∀ (K : Out → Hp → Prop) (h : Hp), resK (some []) K h = K (.ret (.t [])) h) ∧
  (∀ (v u : PV) (l : List PV) (K : Out → Hp → Prop) (h : Hp), resK (some (v :: u :: l)) K h = if (v :: u :: l).all is1 = true then K (.ret (.t (v :: u :: l))) h else False) := by
 refine ⟨?_, ?_, ?_, ?_, ?_, ?_, ?_, ?_, ?_, ?_, ?_, ?_, ?_, ?_, ?_⟩ <;> intros <;> first | rfl | simp [gd2, resK]
@[congr] theorem stW_congr {r r' : Option OR} {d : Option Tmp} (e : r = r') : stW P r d t F K = stW P r' d t F K := by rw [e]
@[congr] theorem gd2_congr {b b' : Option PV} {want : Bool} (e : b = b') : gd2 b want A B = gd2 b' want A B := by rw [e]
@[congr] theorem cdW_congr {b b' : Option PV} (e : b = b') : cdW b A B = cdW b' A B := by rw [e]
@[congr] theorem resK_congr {r r' : Option (List PV)} (e : r = r') : resK r KO h = resK r' KO h := by rw [e]
@[congr] theorem WC_congr {f : FuncId} {l l' : List PV} (e : l = l') (e2 : h = h') : WC P f l h KO = WC P f l' h' KO := by rw [e, e2]
@[congr] theorem SW_congr {c : Code} {t' : Tm} (e : t = t') (e2 : h = h') : SW P N c t h K = SW P N c t' h' K := by rw [e, e2]
theorem gd2_split {b : Bool} {want : Bool} (x : b = true → gd2 (some (.s (.a (.bool true)))) want A B) (y : b = false → gd2 (some (.s (.a (.bool false)))) want A B) : gd2 (some (.s (.a (.bool b)))) want A B := by
 cases b; exact y rfl; exact x rfl
theorem cdW_split {b : Bool} (x : b = true → A) (y : b = false → B) : cdW (some (.s (.a (.bool b)))) A B := by
 cases b; exact y rfl; exact x rfl
end
end Go.Proofs.Ytahepinbmcgbnaa.Vm
end
section
/- Small memories: a statement whose order is open. No condition. -/
set_option linter.unusedVariables false
set_option linter.unusedSimpArgs false
namespace Go.Proofs.Ytahepinbmcgbnaa.Vm
open Go.RowKit

/-- Operations that look at no memory. -/
def pureK : Op → Bool
  | .move _ => true
  | .assign _ => true
  | .nilCheck _ => true
  | .fieldAddr _ _ _ => true
  | .convert _ _ _ => true
  | .binOp _ _ _ _ _ => true
  | .unOp _ _ _ => true
  | _ => false
def opP (P : Program) (t : Tm) (h : Hp) (o : Op) : Option OR := match o with
  | .binOp op ty x y _ => binR P t h op ty x y
  | o => opR P t h o
section
variable {P : Program} {N : Nat} {B : Bs} {h : Hp} {w : World} {t : Tm} {a : Act} {o : Oper} {r : OR}
theorem pure_run (m : Mt B h w) (k : TR N B t a.tmps) {v : PV} {h' : Hp} (hp : pureK o.op = true) (e : opP P t h o.op = some (.val v h')) :
    h' = h ∧ ∃ x, PR B v x ∧ ∀ w', (execOp a.eval o).run P w' = .ok (.value x) w' := by
  cases ho : o.op <;> rw [ho] at hp <;> simp only [pureK, Bool.false_eq_true] at hp <;> rw [ho] at e <;> simp only [opP, opR] at e
  case move x =>
    unfold moveR at e
    split at e
    · rename_i v hv; cases e
      exact ⟨rfl, _, ev_sound k hv, fun w' => by simp [execOp, ho]⟩
    · cases e
  case assign x =>
    unfold moveR at e
    split at e
    · rename_i v hv; cases e
      exact ⟨rfl, _, ev_sound k hv, fun w' => by simp [execOp, ho]⟩
    · cases e
  case nilCheck x =>
    unfold nilR at e
    split at e
    · rename_i j off hv; cases e
      obtain ⟨d, hB, hp⟩ : PM B j off (a.eval x) := ev_sound k hv
      exact ⟨rfl, _, ⟨d, hB, rfl⟩, fun w' => by simp [execOp, ho, hp]⟩
    · rename_i ty j off hv; cases e
      obtain ⟨v, hp, q⟩ : ∃ v, a.eval x = .iface ty v ∧ PM B j off v := ev_sound k hv
      exact ⟨rfl, _, ⟨v, rfl, q⟩, fun w' => by simp [execOp, ho, hp]⟩
    · rename_i f cs hv; cases e
      obtain ⟨vs, hp, q⟩ : ∃ vs : List Value, a.eval x = .func (.func f) #[] vs.toArray ∧ CL B cs vs := ev_sound k hv
      exact ⟨rfl, _, ⟨vs, rfl, q⟩, fun w' => by simp [execOp, ho, hp]⟩
    · cases e
  case fieldAddr ty x f =>
    unfold fieldAddrR at e
    split at e
    · rename_i j off hv
      split at e
      · rename_i s z fs hi
        unfold faR at e
        split at e
        · rename_i q hq; cases e
          obtain ⟨fl, hu, hf⟩ := struct_spec hi
          obtain ⟨f', i, e1, e2, e3, e4, rfl⟩ := hf _ _ hq
          obtain ⟨d, hB, hp⟩ : PM B j off (a.eval x) := ev_sound k hv
          refine ⟨rfl, _, (⟨d, hB, rfl⟩ : PM B j (off + f'.offset) _), fun w' => ?_⟩
          simp only [execOp, ho]
          refine exV ?_
          simp [Instr.fieldAt, run_underlying hu, e1, hp, Instr.sureAddr, fieldPlace, sizeOf, typeInfo, e2, e3, add_add (m.spt _ _ hB)]
        · cases e
      · cases e
    · cases e
  case convert src dst x =>
    unfold convR at e
    split at e
    · rename_i k0 n i s z kk hx hsrc hdst; cases e
      have hx' : a.eval x = .int k0 n := ev_sound k hx
      obtain ⟨inf, d, z', h1, h2, _⟩ := tiOf_spec hsrc
      have hu := int_spec hdst
      refine ⟨rfl, _, (rfl : SR B (.a _) _), fun w' => ?_⟩
      simp only [execOp, ho]
      refine exV ?_
      simp only [convert, Sem.run_bind, run_underlying h2, run_underlying hu, Result.andThen_ok, hx']
      rfl
    · cases e
  case unOp op ty x =>
    unfold unR at e
    split at e
    · rename_i b hx; cases e
      have hx' : a.eval x = .bool b := ev_sound k hx
      exact ⟨rfl, _, rfl, fun w' => by simp [execOp, ho, hx', Op.unary]⟩
    · rename_i kk n hx; cases e
      have hx' : a.eval x = .int kk n := ev_sound k hx
      exact ⟨rfl, _, rfl, fun w' => by simp [execOp, ho, hx', Op.unary, Op.intArith]⟩
    · rename_i kk n hx; cases e
      have hx' : a.eval x = .int kk n := ev_sound k hx
      exact ⟨rfl, _, rfl, fun w' => by simp [execOp, ho, hx', Op.unary, Op.intBits]⟩
    · cases e
  case binOp op ty x y ty2 =>
    unfold binR at e
    split at e
    · rename_i k1 n1 k2 n2 hx hy
      have hx' : a.eval x = .int k1 n1 := ev_sound k hx
      have hy' : a.eval y = .int k2 n2 := ev_sound k hy
      have hrun : ∀ w' s, (binOp op ty (.int k1 n1) (.int k2 n2)).run P w' = s → (execOp a.eval o).run P w' = s.andThen fun v w' => .ok (.value v) w' := fun w' s hs =>
        bin_run (w := w') ho (by simp [hx']) (by simp [hx']) (by rw [hx', hy']; exact hs)
      split at e
      · rename_i hsh
        cases op <;> simp [shR] at e
      · split at e
        · rename_i hsh hk; subst hk
          cases op <;> simp only [intR, Option.some.injEq, OR.val.injEq, reduceCtorEq] at e
          all_goals
            obtain ⟨rfl, rfl⟩ := e
            exact ⟨rfl, _, rfl, fun w' => by rw [hrun w' _ rfl]; simp [binOp, Op.intArith, Op.intBits, Op.intCmp]⟩
        · cases e
    · rename_i b1 b2 hx hy
      have hx' : a.eval x = .bool b1 := ev_sound k hx
      have hy' : a.eval y = .bool b2 := ev_sound k hy
      split at e
      · rename_i s z hi
        have hu := bool_spec hi
        have heq : ∀ w', (Op.equal ty (.bool b1) (.bool b2)).run P w' = .ok (b1 == b2) w' := fun w' => eq_bool (w := w') hu b1 b2 9999
        cases op <;> simp only [eqR, Option.some.injEq, OR.val.injEq, reduceCtorEq] at e
        · obtain ⟨rfl, rfl⟩ := e
          refine ⟨rfl, _, rfl, fun w' => ?_⟩
          rw [bin_run (w := w') ho (by simp [hx']) (by simp [hx']) rfl, hx', hy']
          show (Sem.run P (do pure (Value.bool (← Op.equal ty (.bool b1) (.bool b2)))) w').andThen _ = _
          simp [heq]
        · obtain ⟨rfl, rfl⟩ := e
          refine ⟨rfl, _, rfl, fun w' => ?_⟩
          rw [bin_run (w := w') ho (by simp [hx']) (by simp [hx']) rfl, hx', hy']
          show (Sem.run P (do pure (Value.bool (!(← Op.equal ty (.bool b1) (.bool b2))))) w').andThen _ = _
          simp [heq]
      · cases e
    · rename_i j off hx hy
      obtain ⟨d, hB, hx'⟩ : PM B j off (a.eval x) := ev_sound k hx
      have hy' : a.eval y = .pointer none := ev_sound k hy
      split at e
      · rename_i s z hi
        obtain ⟨el, hu⟩ := ptr_spec hi
        have heq : ∀ w', (Op.equal ty (a.eval x) (.pointer none)).run P w' = .ok false w' := fun w' => by rw [hx']; exact eq_ptr (w := w') hu _ 9999
        cases op <;> simp only [eqR, Option.some.injEq, OR.val.injEq, reduceCtorEq] at e
        · obtain ⟨rfl, rfl⟩ := e
          refine ⟨rfl, _, rfl, fun w' => ?_⟩
          rw [bin_run (w := w') ho (by simp [hx']) (by simp [hx']) rfl, hy']
          rw [hx'] at heq ⊢
          show (Sem.run P (do pure (Value.bool (← Op.equal ty _ (.pointer none)))) w').andThen _ = _
          simp [heq]
        · obtain ⟨rfl, rfl⟩ := e
          refine ⟨rfl, _, rfl, fun w' => ?_⟩
          rw [bin_run (w := w') ho (by simp [hx']) (by simp [hx']) rfl, hy']
          rw [hx'] at heq ⊢
          show (Sem.run P (do pure (Value.bool (!(← Op.equal ty _ (.pointer none))))) w').andThen _ = _
          simp [heq]
      · cases e
    · cases e

/-- An order of the operations, or all that there are. -/
inductive Plan where
  | done
  | take (i : Nat) (p : Plan)
  | all (l : List (Nat × Plan))
mutual
def planOk (ops : Array Oper) : Nat → Array Bool → Plan → Bool
  | _, listed, .done => (Region.ready .any ops listed).isEmpty
  | n + 1, listed, .take i p => Region.free .any ops listed i && (Region.ready .any ops listed).contains i && (match ops[i]? with | some o => pureK o.op | none => false) && planOk ops n (listed.setIfInBounds i true) p
  | n + 1, listed, .all l => (Region.ready .any ops listed == l.map (·.1)) && !l.isEmpty && plansOk ops n listed l
  | 0, _, _ => false
def plansOk (ops : Array Oper) : Nat → Array Bool → List (Nat × Plan) → Bool
  | _, _, [] => true
  | n, listed, (i, p) :: l => planOk ops n (listed.setIfInBounds i true) p && plansOk ops n listed l
end
/-- One operation. -/
def stV (r : Option OR) (dst : Option Tmp) (t : Tm) (F : Tm → Hp → Prop) : Prop := match r with
  | some (.val v h) => F (pt t dst v) h
  | _ => False
def oneP (P : Program) (ops : List Oper) (i : Nat) (F : Tm → Hp → Prop) (t : Tm) (h : Hp) : Prop := match ops[i]? with
  | some o => gdW ops t o.guard (stV (opP P t h o.op) o.dst t F) (F (rmO t o.dst) h)
  | none => False
def oneW (P : Program) (ops : List Oper) (i : Nat) (K : Cont) (F : Tm → Hp → Prop) (t : Tm) (h : Hp) : Prop := match ops[i]? with
  | some o => gdW ops t o.guard (stW P (opR P t h o.op) o.dst t F K) (F (rmO t o.dst) h)
  | none => False
mutual
def WD (P : Program) (ops : List Oper) (K : Cont) : Plan → Tm → Hp → Prop
  | .done, t, h => K .nor t h
  | .take i p, t, h => oneP P ops i (WD P ops K p) t h
  | .all l, t, h => WDs P ops K l t h
def WDs (P : Program) (ops : List Oper) (K : Cont) : List (Nat × Plan) → Tm → Hp → Prop
  | [], _, _ => True
  | (i, p) :: l, t, h => oneW P ops i K (WD P ops K p) t h ∧ WDs P ops K l t h
end
theorem gdW_wanted {all : List Oper} {A C : Prop} (k : TR N B t a.tmps) (hw : gdW all t o.guard A C) :
    (Region.wanted o (yielded all.toArray a.tmps) = true ∧ A) ∨ (Region.wanted o (yielded all.toArray a.tmps) = false ∧ C) := by
  unfold gdW at hw
  split at hw
  · rename_i hg
    exact .inl ⟨by simp [Region.wanted, hg], hw⟩
  · rename_i j want hg
    have hu : ∀ l, gval all t j = some (.s (.a (.tuple l))) → yielded all.toArray a.tmps j = none := fun l hb => by
      unfold gval at hb
      split at hb
      · rename_i o' ho'
        split at hb
        · rename_i d hd'
          have hv : a.tmps.getD d undef = .tuple l := k.get d _ hb
          unfold yielded
          have h1 : all.toArray[j]? = some o' := by simpa using ho'
          rw [h1]
          simp only [Option.bind_some, hd']
          rw [Array.getD_eq_getD_getElem?] at hv
          cases hq : a.tmps[d]? with
          | none => rfl
          | some v => rw [hq] at hv; simp at hv; subst hv; rfl
        · cases hb
      · cases hb
    have hy : ∀ b, gval all t j = some (.s (.a (.bool b))) → yielded all.toArray a.tmps j = some b := fun b hb => by
      unfold gval at hb
      split at hb
      · rename_i o' ho'
        split at hb
        · rename_i d hd'
          have hv : a.tmps.getD d undef = .bool b := k.get d _ hb
          unfold yielded
          have h1 : all.toArray[j]? = some o' := by simpa using ho'
          rw [h1]
          simp only [Option.bind_some, hd']
          rw [Array.getD_eq_getD_getElem?] at hv
          cases hq : a.tmps[d]? with
          | none => rw [hq] at hv; simp [undef] at hv
          | some v => rw [hq] at hv; simp at hv; subst hv; rfl
        · cases hb
      · cases hb
    unfold gd2 at hw
    split at hw
    · rename_i hb
      have hyb := hy true hb
      by_cases hwant : want = true
      · rw [if_pos hwant] at hw
        exact .inl ⟨by simp [Region.wanted, hg, hyb, hwant], hw⟩
      · rw [if_neg hwant] at hw
        have hwf : want = false := by simpa using hwant
        exact .inr ⟨by simp [Region.wanted, hg, hyb, hwf], hw⟩
    · rename_i hb
      have hyb := hy false hb
      by_cases hwant : want = true
      · rw [if_pos hwant] at hw
        exact .inr ⟨by simp [Region.wanted, hg, hyb, hwant], hw⟩
      · rw [if_neg hwant] at hw
        have hwf : want = false := by simpa using hwant
        exact .inl ⟨by simp [Region.wanted, hg, hyb, hwf], hw⟩
    · rename_i l hb
      exact .inr ⟨by simp [Region.wanted, hg, hu l hb], hw⟩
    · exact hw.elim
theorem op_step {D : List Deferred} {K : Cont} {B0 : Bs} {h0 : Hp} {w0 : World} {F : Tm → Hp → Prop} {R : Act → World → Prop} (m : Mt B h w) (k : TR N B t a.tmps) (hd : a.defers = D) (st : Step B0 h0 w0 B h w) (hdo : dOk N o.dst = true)
    (hs : stW P (opR P t h o.op) o.dst t F K) (hF : ∀ t' h' B' w' a', F t' h' → Mt B' h' w' → TR N B' t' a'.tmps → a'.defers = D → Step B0 h0 w0 B' h' w' → R a' w') : o.wp P a w R (QK D N B0 h0 w0 K) := by
  unfold stW at hs
  split at hs
  · rename_i r hr
    have os := opR_sound m k hr
    clear hr
    unfold Oper.wp
    induction r with
    | val v h' =>
      obtain ⟨x, w', B', e, q, m', s'⟩ := os
      rw [e]
      exact hF _ _ B' w' (a.put o.dst x) hs m' ((k.mono s'.ext).put hdo q) (by cases o.dst <;> exact hd) (st.trans s')
    | skip h' =>
      obtain ⟨w', B', e, m', s'⟩ := os
      rw [e]
      exact hF _ _ B' w' (a.put o.dst undef) hs m' ((k.mono s'.ext).rmO) (by cases o.dst <;> exact hd) (st.trans s')
    | pan s h' =>
      obtain ⟨x, e, q, rfl⟩ := os
      rw [e]
      exact ⟨.pan s, t, h', B, hs, ⟨x, rfl, q⟩, k, hd, m, st⟩
    | call f args h' =>
      obtain ⟨vs, e, q, rfl⟩ := os
      rw [e]
      show Calls P f vs.toArray w _
      refine (hs B w vs m q).mono fun e w' ⟨out, h'', B', kk, eo, m', s'⟩ => ?_
      cases e with
      | returned v =>
        cases out with
        | ret u => exact hF _ _ B' w' (a.put o.dst v) kk m' ((k.mono s'.ext).put hdo eo) (by cases o.dst <;> exact hd) (st.trans s')
        | pan u => exact eo.elim
      | panicked chain =>
        cases out with
        | ret u => exact eo.elim
        | pan u => exact ⟨.pan u, t, h'', B', kk, eo, k.mono s'.ext, hd, m', st.trans s'⟩
      | outgrown => cases out <;> exact eo.elim
    | need p r ih => exact ih hs.2 (os hs.1)
  · exact hs.elim
theorem plans_mem {ops : Array Oper} {n : Nat} {listed : Array Bool} : ∀ {l : List (Nat × Plan)}, plansOk ops n listed l = true → ∀ q ∈ l, planOk ops n (listed.setIfInBounds q.1 true) q.2 = true
  | [], _, q, hq => by cases hq
  | (i, p) :: l, h, q, hq => by
    simp only [plansOk, Bool.and_eq_true] at h
    rcases List.mem_cons.1 hq with rfl | hq
    · exact h.1
    · exact plans_mem h.2 q hq
theorem WDs_mem {ops : List Oper} {K : Cont} : ∀ {l : List (Nat × Plan)}, WDs P ops K l t h → ∀ q ∈ l, oneW P ops q.1 K (WD P ops K q.2) t h
  | [], _, q, hq => by cases hq
  | (i, p) :: l, h, q, hq => by
    simp only [WDs] at h
    rcases List.mem_cons.1 hq with rfl | hq
    · exact h.1
    · exact WDs_mem h.2 q hq
theorem wd_sound {D : List Deferred} {ops : List Oper} {K : Cont} {B0 : Bs} {h0 : Hp} {w0 : World} (hs : Region.noSelect ops.toArray = true) (hc : ∀ o ∈ ops, dOk N o.dst = true) (hK : ∀ s t h, K (.pan s) t h → K (.pan s) [] h) :
    ∀ (n : Nat) (plan : Plan) (listed : Array Bool) (t : Tm) (h : Hp), planOk ops.toArray n listed plan = true → WD P ops K plan t h →
    ∀ (B : Bs) (w : World) (a : Act), Mt B h w → TR N B t a.tmps → a.defers = D → Step B0 h0 w0 B h w → wpAny P .any ops.toArray (QK D N B0 h0 w0 K) n listed a w := by
  have hQ : ∀ (d : Option Tmp) (v : Value) c a w, QK D N B0 h0 w0 K (.panic c) (Act.put a d v) w → QK D N B0 h0 w0 K (.panic c) a w := by
    rintro d v c a w ⟨x, t', h', B', kk, e1, e2, e3, e4, e5⟩
    cases x with
    | pan s =>
      refine ⟨.pan s, [], h', B', hK s t' h' kk, e1, ⟨?_, fun n v e => by simp [lk] at e⟩, ?_, e4, e5⟩
      · have := e2.size; cases d <;> simpa [Act.put] using this
      · cases d <;> simpa [Act.put] using e3
    | nor => exact e1.elim
    | exit _ => exact e1.elim
    | ret => exact e1.elim
  have done : ∀ (n : Nat) (listed : Array Bool) (t : Tm) (h : Hp), planOk ops.toArray n listed .done = true → WD P ops K .done t h →
      ∀ (B : Bs) (w : World) (a : Act), Mt B h w → TR N B t a.tmps → a.defers = D → Step B0 h0 w0 B h w → wpAny P .any ops.toArray (QK D N B0 h0 w0 K) n listed a w := by
    intro n listed t h hp hw B w a m k hd st
    refine wpAny_done ?_ ⟨.nor, t, h, B, hw, trivial, k, hd, m, st⟩ n
    cases n <;> simpa [planOk] using hp
  intro n
  induction n with
  | zero =>
    intro plan listed t h hp hw
    cases plan with
    | done => exact done 0 listed t h hp hw
    | take i p => simp [planOk] at hp
    | all l => simp [planOk] at hp
  | succ n ih =>
    intro plan listed t h hp hw B w a m k hd st
    cases plan with
    | done => exact done (n + 1) listed t h hp hw B w a m k hd st
    | take i p =>
      simp only [planOk, Bool.and_eq_true] at hp
      obtain ⟨⟨⟨h1, h2⟩, h3⟩, h4⟩ := hp
      simp only [WD, oneP] at hw
      split at hw
      · rename_i o ho
        have ho' : ops.toArray[i]? = some o := by simpa using ho
        rw [ho'] at h3
        have hdo : dOk N o.dst = true := hc o (List.mem_of_getElem? ho)
        rcases gdW_wanted k hw with ⟨q1, q2⟩ | ⟨q1, q2⟩
        · unfold stV at q2
          split at q2
          · rename_i v h' hr
            obtain ⟨rfl, x, hx, hrun⟩ := pure_run m k h3 hr
            exact wpAny_take ho' hs h1 h2 (hQ _ _) (.inl ⟨q1, hrun⟩) (ih p _ _ _ h4 q2 B w _ m (k.put hdo hx) (by cases o.dst <;> exact hd) st)
          · exact q2.elim
        · exact wpAny_take ho' hs h1 h2 (hQ _ _) (.inr ⟨q1, rfl⟩) (ih p _ _ _ h4 q2 B w _ m k.rmO (by cases o.dst <;> exact hd) st)
      · exact hw.elim
    | all l =>
      simp only [planOk, Bool.and_eq_true] at hp
      obtain ⟨⟨h1, h2⟩, h3⟩ := hp
      simp only [WD] at hw
      refine wpAny_all (by simpa using h1) (by intro e; cases l <;> simp at e h2) fun i hi => ?_
      obtain ⟨q, hq, rfl⟩ := List.mem_map.1 hi
      have hp' := plans_mem h3 q hq
      have hw' := WDs_mem hw q hq
      unfold oneW at hw'
      split at hw'
      · rename_i o ho
        have ho' : ops.toArray[q.1]? = some o := by simpa using ho
        have hdo : dOk N o.dst = true := hc o (List.mem_of_getElem? ho)
        unfold wpOp
        simp only [ho']
        rcases gdW_wanted k hw' with ⟨q1, q2⟩ | ⟨q1, q2⟩
        · rw [if_pos q1]
          exact .inl (op_step m k hd st hdo q2 fun t' h' B' w' a' hF m' k' hd' st' => ih q.2 _ t' h' hp' hF B' w' a' m' k' hd' st')
        · rw [if_neg (by simp [q1])]
          exact ih q.2 _ _ _ hp' q2 B w _ m k.rmO (by cases o.dst <;> exact hd) st
      · exact hw'.elim
/-- A region that draws its order. -/
theorem sw_draw {id : Nat} {l : List Oper} {K : Cont} (plan : Plan) (hm : P.follows .mixedOrders = true) (hp : planOk l.toArray l.toArray.size (Array.replicate l.toArray.size false) plan = true) (hs : Region.noSelect l.toArray = true) (hc : cOk N (.region id l.toArray true) = true)
    (hK : ∀ s t h, K (.pan s) t h → K (.pan s) [] h) (hw : WD P l K plan t h) : SW P N (.region id l.toArray true) t h K := by
  intro D B w a m k hd
  refine wp_region_any hm ?_
  have hc' : ∀ o ∈ l, dOk N o.dst = true := fun o ho => List.all_eq_true.1 hc o (by simpa using ho)
  have m' : Mt B h { w with drawn := w.drawn + 1 } := m.drew
  exact wd_sound hs hc' hK _ plan _ t h hp hw B _ a m' k hd ⟨Ext.refl B, ⟨rfl, rfl, rfl, Nat.le_refl _, fun _ _ _ => rfl⟩, fun _ q => .inl q, Nat.le_refl _, fun _ _ => rfl, fun _ _ e => e⟩
end
/-- Cells of a row whose head is known. -/
def ldC (cs : List SV) (off n : Nat) : Option (List SV) := if off + n ≤ cs.length then some ((cs.drop off).take n) else none
def tkC (cs : List SV) (n : Nat) : Option (List SV) := if n ≤ cs.length then some (cs.take n) else none
def stC (cs : List SV) (off : Nat) (xs : List SV) : Option (List SV) := if off + xs.length ≤ cs.length then some (cs.take off ++ xs ++ cs.drop (off + xs.length)) else none
theorem vmH :
    (∀ (b : Blk) (h : Hp) (j off n : Nat), ldN (b :: h) (j + 1) off n = ldN h j off n) ∧
    (∀ (cs : List SV) (h : Hp) (off n : Nat), ldN (.rw cs :: h) 0 off n = ldC cs off n) ∧
    (∀ (cs : List SV) (h : Hp) (off n : Nat), ldN (.ro cs :: h) 0 off n = ldC cs off n) ∧
    (∀ (c : SV) (cs : List SV) (k n : Nat), ldC (c :: cs) (k + 1) n = ldC cs k n) ∧
    (∀ (c : SV) (cs : List SV) (n : Nat), ldC (c :: cs) 0 n = tkC (c :: cs) n) ∧
    (∀ (cs : List SV), tkC cs 0 = some []) ∧
    (∀ (c : SV) (cs : List SV) (n : Nat), tkC (c :: cs) (n + 1) = (tkC cs n).map (c :: ·)) ∧
    (∀ (b : Blk) (h : Hp) (j off : Nat) (xs : List SV), stN (b :: h) (j + 1) off xs = (stN h j off xs).map (b :: ·)) ∧
    (∀ (cs : List SV) (h : Hp) (off : Nat) (xs : List SV), stN (.rw cs :: h) 0 off xs = (stC cs off xs).map fun c => .rw c :: h) ∧
    (∀ (c : SV) (cs : List SV) (k : Nat) (xs : List SV), stC (c :: cs) (k + 1) xs = (stC cs k xs).map (c :: ·)) ∧
    (∀ (cs : List SV), stC cs 0 [] = some cs) ∧
    (∀ (c x : SV) (cs xs : List SV), stC (c :: cs) 0 (x :: xs) = (stC cs 0 xs).map (x :: ·)) := by
  refine ⟨?_, ?_, ?_, ?_, ?_, ?_, ?_, ?_, ?_, ?_, ?_, ?_⟩ <;> intros
  · simp [ldN]
  · simp [ldN, ldC]
  · simp [ldN, ldC]
  · rename_i c cs k n
    simp only [ldC, List.length_cons, List.drop_succ_cons, show (k + 1 + n ≤ cs.length + 1) = (k + n ≤ cs.length) by simp; omega]
  · simp [ldC, tkC]
  · simp [tkC]
  · rename_i c cs n
    simp only [tkC, List.length_cons, Nat.add_le_add_iff_right]
    split <;> simp
  · rename_i b h j off xs
    simp only [stN, List.getElem?_cons_succ, List.set_cons_succ]
    cases hq : h[j]? with
    | none => simp
    | some c =>
      cases c with
      | rw cs => simp only; split <;> simp
      | ro cs => simp
      | dead => simp
  · rename_i cs h off xs
    simp only [stN, stC, List.getElem?_cons_zero, List.set_cons_zero]
    split <;> simp
  · rename_i c cs k xs
    simp only [stC, List.length_cons, show (k + 1 + xs.length ≤ cs.length + 1) = (k + xs.length ≤ cs.length) by simp; omega]
    split
    · simp [show k + 1 + xs.length = k + xs.length + 1 by omega]
    · simp
  · simp [stC]
  · rename_i c x cs xs
    simp only [stC, List.length_cons, Nat.zero_add, Nat.add_le_add_iff_right]
    split <;> simp
/-- One operation of a row of them, met by its number. -/
theorem vmD :
    (∀ (P : Program) (ops : List Oper) (K : Cont) (t : Tm) (h : Hp), WD P ops K .done t h = K .nor t h) ∧
    (∀ (P : Program) (ops : List Oper) (K : Cont) (i : Nat) (p : Plan) (t : Tm) (h : Hp), WD P ops K (.take i p) t h = oneP P ops i (WD P ops K p) t h) ∧
    (∀ (P : Program) (ops : List Oper) (K : Cont) (l : List (Nat × Plan)) (t : Tm) (h : Hp), WD P ops K (.all l) t h = WDs P ops K l t h) ∧
    (∀ (P : Program) (ops : List Oper) (K : Cont) (t : Tm) (h : Hp), WDs P ops K [] t h = True) ∧
    (∀ (P : Program) (ops : List Oper) (K : Cont) (i : Nat) (p : Plan) (l : List (Nat × Plan)) (t : Tm) (h : Hp), WDs P ops K ((i, p) :: l) t h = (oneW P ops i K (WD P ops K p) t h ∧ WDs P ops K l t h)) := by
  refine ⟨?_, ?_, ?_, ?_, ?_⟩ <;> intros <;> simp [WD, WDs]
@[congr] theorem stV_congr {F : Tm → Hp → Prop} {t : Tm} {r r' : Option OR} {d : Option Tmp} (e : r = r') : stV r d t F = stV r' d t F := by rw [e]
theorem stV_val (d : Option Tmp) (t : Tm) (F : Tm → Hp → Prop) (v : PV) (h : Hp) : stV (some (.val v h)) d t F = F (pt t d v) h := rfl
theorem gdW_none (all : List Oper) (t : Tm) (A B : Prop) : gdW all t none A B = A := rfl
theorem gdW_some (all : List Oper) (t : Tm) (j : Nat) (want : Bool) (A B : Prop) : gdW all t (some (j, want)) A B = gd2 (gval all t j) want A B := rfl
theorem vmE : (∀ (all : List Oper) (t : Tm) (A B : Prop), gdW all t none A B = A) ∧ (∀ (all : List Oper) (t : Tm) (j : Nat) (want : Bool) (A B : Prop), gdW all t (some (j, want)) A B = gd2 (gval all t j) want A B) ∧
    (∀ (d : Option Tmp) (t : Tm) (F : Tm → Hp → Prop) (v : PV) (h : Hp), stV (some (.val v h)) d t F = F (pt t d v) h) := ⟨fun _ _ _ _ => rfl, fun _ _ _ _ _ _ => rfl, fun _ _ _ _ _ => rfl⟩
end Go.Proofs.Ytahepinbmcgbnaa.Vm
end
section
/- Small memories: blocks that nobody asks for any more; contracts that the kit's walk has proved. No condition. -/
set_option linter.unusedVariables false
set_option linter.unusedSimpArgs false
namespace Go.Proofs.Ytahepinbmcgbnaa.Vm
open Go.RowKit

def idS (n : Nat) : SV → Bool
  | .a _ => true
  | .p j _ => decide (j < n)
  | .sl j _ _ => decide (j < n)
  | .so j _ _ _ => decide (j < n)
  | .ip _ j _ => decide (j < n)
  | .clo _ cs => cs.all fun c => decide (c.1 < n)
def idV (n : Nat) : PV → Bool
  | .s x => idS n x
  | .g l => l.all (idS n)
  | .t l => l.all fun x => match x with
    | .s x => idS n x
    | .g l => l.all (idS n)
    | .t _ => false
def idB (n : Nat) : Blk → Bool
  | .rw c => c.all (idS n)
  | .ro c => c.all (idS n)
  | .dead => true
def idO (n : Nat) : Out → Bool
  | .ret v => idV n v
  | .pan x => idS n x
def cut (n : Nat) (B : Bs) : Bs := fun j => if j < n then B j else none
section
variable {P : Program} {B B' : Bs} {h h' : Hp} {w w' : World} {n : Nat}
theorem pm_cut {j off : Nat} {x : Value} (hj : j < n) (k : PM B j off x) : PM (cut n B) j off x := let ⟨d, e, f⟩ := k; ⟨d, by simp [cut, hj, e], f⟩
theorem sr_cut : ∀ {x : SV} {v : Value}, idS n x = true → SR B x v → SR (cut n B) x v
  | .a _, _, _, k => k
  | .p _ _, _, i, k => pm_cut (by simpa [idS] using i) k
  | .sl j _ _, _, i, ⟨q, cap, e1, e2, e3⟩ => ⟨q, cap, e1, e2, fun hl => let ⟨d, f1, f2⟩ := e3 hl; ⟨d, (if_pos (of_decide_eq_true i)).trans f1, f2⟩⟩
  | .so j _ _ _, _, i, ⟨cap, d, e, f⟩ => ⟨cap, d, (if_pos (of_decide_eq_true i)).trans e, f⟩
  | .ip _ _ _, _, i, ⟨u, e, f⟩ => ⟨u, e, pm_cut (by simpa [idS] using i) f⟩
  | .clo f cs, v, i, ⟨vs, e, k⟩ => by
    refine ⟨vs, e, ?_⟩
    clear e
    simp only [idS] at i
    induction cs generalizing vs with
    | nil => cases vs; trivial; exact k.elim
    | cons c cs ih =>
      cases vs with
      | nil => exact k.elim
      | cons u vs =>
        simp only [List.all_cons, Bool.and_eq_true, decide_eq_true_eq] at i
        exact ⟨pm_cut i.1 k.1, ih i.2 vs k.2⟩
theorem lr_cut : ∀ {l : List SV} {vs : List Value}, l.all (idS n) = true → LR B l vs → LR (cut n B) l vs
  | [], [], _, _ => trivial
  | [], _ :: _, _, k => k.elim
  | _ :: _, [], _, k => k.elim
  | _ :: _, _ :: _, i, k => by
    simp only [List.all_cons, Bool.and_eq_true] at i
    exact ⟨sr_cut i.1 k.1, lr_cut i.2 k.2⟩
theorem pl_cut : ∀ {l : List PV} {vs : List Value}, (l.all fun x => match x with
    | .s x => idS n x
    | .g l => l.all (idS n)
    | .t _ => false) = true → PL B l vs → PL (cut n B) l vs
  | [], [], _, _ => trivial
  | [], _ :: _, _, k => k.elim
  | _ :: _, [], _, k => k.elim
  | .s _ :: _, _ :: _, i, k => by
    simp only [List.all_cons, Bool.and_eq_true] at i
    exact ⟨sr_cut i.1 k.1, pl_cut i.2 k.2⟩
  | .g _ :: _, _ :: _, i, k => by
    simp only [List.all_cons, Bool.and_eq_true] at i
    obtain ⟨vs, e, q⟩ := k.1
    exact ⟨⟨vs, e, lr_cut i.1 q⟩, pl_cut i.2 k.2⟩
  | .t _ :: _, _ :: _, i, k => k.1.elim
theorem out_cut : ∀ {o : Out} {e : Ending}, idO n o = true → OutR B o e → OutR (cut n B) o e
  | .ret (.s _), .returned _, i, k => sr_cut (by simpa [idO, idV] using i) k
  | .ret (.g _), .returned _, i, ⟨vs, e, k⟩ => ⟨vs, e, lr_cut i k⟩
  | .ret (.t _), .returned _, i, ⟨vs, e, k⟩ => ⟨vs, e, pl_cut i k⟩
  | .pan _, .panicked _, i, ⟨x, e, k⟩ => ⟨x, e, sr_cut i k⟩
  | .ret _, .panicked _, _, k => k.elim
  | .ret _, .outgrown, _, k => k.elim
  | .pan _, .returned _, _, k => k.elim
  | .pan _, .outgrown, _, k => k.elim
theorem Mt.cut (m : Mt B h w) (hb : (h.take n).all (idB n) = true) : Mt (cut n B) (h.take n) w := by
  have get : ∀ (j : Nat) (b : Blk), (h.take n)[j]? = some b → j < n ∧ h[j]? = some b ∧ Vm.cut n B j = B j := fun j b e => by
    rw [List.getElem?_take] at e
    split at e
    · rename_i hj; exact ⟨hj, e, by simp [Vm.cut, hj]⟩
    · cases e
  have al : ∀ (j : Nat) (b : Blk), (h.take n)[j]? = some b → idB n b = true := fun j b e => List.all_eq_true.1 hb b (List.mem_of_getElem? e)
  refine ⟨fun j b e => ?_, fun j hj => ?_, fun j d e => ?_, fun i j ci cj di dj ei ej bi bj q => ?_, fun i j ci cj di dj ei ej hne bi bj => ?_⟩
  · obtain ⟨h1, h2, h3⟩ := get j b e
    have hbj := al j b e
    have hb := m.blk j b h2
    cases b with
    | rw cs =>
      obtain ⟨d, c, e1, e2, e3, e4, e5⟩ := hb
      refine ⟨d, c, h3.trans e1, e2, e3, e4, fun k x hk => ?_⟩
      obtain ⟨v, q1, q2⟩ := e5 k x hk
      exact ⟨v, q1, sr_cut (List.all_eq_true.1 hbj x (List.mem_of_getElem? hk)) q2⟩
    | ro cs =>
      intro k x hk
      obtain ⟨d, v, e1, e2, e3, e4⟩ := hb k x hk
      exact ⟨d, v, h3.trans e1, e2, e3, sr_cut (List.all_eq_true.1 hbj x (List.mem_of_getElem? hk)) e4⟩
    | dead => trivial
  · simp at hj
    unfold Vm.cut
    split
    · exact m.dom j (by omega)
    · rfl
  · unfold Vm.cut at e
    split at e
    · exact m.spt _ _ e
    · cases e
  · obtain ⟨a1, a2, a3⟩ := get i _ ei
    obtain ⟨b1, b2, b3⟩ := get j _ ej
    exact m.sep i j ci cj di dj a2 b2 (a3.symm.trans bi) (b3.symm.trans bj) q
  · obtain ⟨a1, a2, a3⟩ := get i _ ei
    obtain ⟨b1, b2, b3⟩ := get j _ ej
    exact m.sepr i j ci cj di dj a2 b2 hne (a3.symm.trans bi) (b3.symm.trans bj)
/-- Of what a call leaves only the first n blocks are asked for. -/
def trK (n : Nat) (K : Out → Hp → Prop) : Out → Hp → Prop
  | .ret v, h' => n ≤ h'.length ∧ idV n v = true ∧ (h'.take n).all (idB n) = true ∧ K (.ret v) (h'.take n)
  | .pan x, h' => K (.pan x) h'
theorem wc_trunc {f : FuncId} {args : List PV} {K : Out → Hp → Prop} (n : Nat) (hn : h.length ≤ n) (c : WC P f args h (trK n K)) : WC P f args h K := by
  intro B w vs m hr
  refine (c B w vs m hr).mono ?_
  rintro e w' ⟨o, h', B', kk, eo, m', st⟩
  cases o with
  | pan x => exact ⟨.pan x, h', B', kk, eo, m', st⟩
  | ret v =>
  obtain ⟨k0, k1, k2, k3⟩ := kk
  have hl : (h'.take n).length = n := by simp; omega
  refine ⟨.ret v, h'.take n, cut n B', k3, out_cut k1 eo, m'.cut k2, ?_, st.fr, ?_, by omega, fun j hj => ?_, fun j c e => ?_⟩
  · intro j d e
    have hj : j < n := by
      rcases Nat.lt_or_ge j h.length with q | q
      · omega
      · rw [m.dom j q] at e; cases e
    simp [cut, hj, st.ext j d e]
  · rintro b ⟨j, cs, d, e1, e2, e3⟩
    rw [List.getElem?_take] at e1
    split at e1
    · rename_i hj
      exact st.own b ⟨j, cs, d, e1, by simpa [cut, hj] using e2, e3⟩
    · cases e1
  · simp only [cut, if_pos (show j < n by omega)]
    exact st.old j hj
  · rw [List.getElem?_take] at e
    split at e
    · exact st.rok j c e
    · cases e
theorem pr_cut : ∀ {x : PV} {v : Value}, idV n x = true → PR B x v → PR (cut n B) x v
  | .s _, _, i, k => sr_cut (by simpa [idV] using i) k
  | .g _, _, i, ⟨vs, e, k⟩ => ⟨vs, e, lr_cut i k⟩
  | .t _, _, i, ⟨vs, e, k⟩ => ⟨vs, e, pl_cut i k⟩
def tmB (n : Nat) (t : Tm) : Bool := t.all fun q => idV n q.2
theorem tm_lk : ∀ {t : Tm}, tmB n t = true → ∀ k v, lk t k = some v → idV n v = true
  | [], _, k, v, e => by simp [lk] at e
  | (m, u) :: t, i, k, v, e => by
    simp only [tmB, List.all_cons, Bool.and_eq_true] at i
    simp only [lk] at e
    split at e
    · cases e; exact i.1
    · exact tm_lk (t := t) (by simpa [tmB] using i.2) k v e
/-- A loop whose rounds leave blocks behind that nobody asks for. -/
def lgK {ι : Type} (n : Nat) (J : ι → Prop) (S : ι → Tm) (H : ι → Hp) (μ : ι → Nat) (i : ι) (K : Cont) : Cont := fun e t h => match e with
  | .nor => ∃ j, J j ∧ μ j < μ i ∧ subT (S j) t ∧ h.take n = H j ∧ tmB n (S j) = true ∧ (H j).all (idB n) = true
  | e => K e t h
theorem sw_loopG {N : Nat} {t : Tm} {c : Code} {K : Cont} {ι : Type} (J : ι → Prop) (S : ι → Tm) (H : ι → Hp) (μ : ι → Nat) (i0 : ι) (hc : cOk N c = true) (hj : J i0) (ht : subT (S i0) t) (hh : h = H i0) (hl : ∀ i, (H i).length = n)
    (round : ∀ i, J i → W P N c (lgK n J S H μ i K) (S i) (H i)) : SW P N (.loop c) t h K := by
  intro D B0 w0 a0 m0 k0 hd0
  have key : ∀ q i, J i → μ i < q → ∀ (B : Bs) (w : World) (a : Act), Mt B (H i) w → TR N B (S i) a.tmps → a.defers = D → Step B0 h w0 B (H i) w → Code.rounds P c (QK D N B0 h w0 K) q a w := by
    intro q
    induction q with
    | zero => intro i _ hi; omega
    | succ q ih =>
      intro i hJ hi B w a m k hd st
      rw [rounds_succ]
      refine Code.wp_mono ?_ (W_sound c _ _ _ hc (round i hJ) D B w a m k hd)
      intro e a' w' ⟨x, t', h', B', kk, e1, e2, e3, e4, e5⟩
      cases x with
      | nor =>
        cases e <;> first | exact e1.elim | skip
        obtain ⟨j, g0, g1, g2, g3, g4, g5⟩ := kk
        have M := e4.cut (n := n) (by rw [g3]; exact g5)
        rw [g3] at M
        have k2 := e2.sub g2
        have T : TR N (cut n B') (S j) a'.tmps := ⟨k2.size, fun m v e => pr_cut (tm_lk g4 m v e) (k2.get m v e)⟩
        have hhl : h.length = n := by rw [hh]; exact hl i0
        have s2 := st.trans e5
        refine ih j g0 (by omega) _ w' a' M T e3 ⟨?_, s2.fr, ?_, by rw [hl j]; omega, fun z hz => ?_, fun z c e => ?_⟩
        · intro z d e
          have hz : z < n := by
            rcases Nat.lt_or_ge z h.length with q | q
            · omega
            · rw [m0.dom z q] at e; cases e
          simp [cut, hz, s2.ext z d e]
        · rintro b ⟨z, cs, d, f1, f2, f3⟩
          rw [← g3, List.getElem?_take] at f1
          split at f1
          · rename_i hz
            exact s2.own b ⟨z, cs, d, f1, by simpa [cut, hz] using f2, f3⟩
          · cases f1
        · simp only [cut, if_pos (show z < n by omega)]
          exact s2.old z hz
        · rw [← g3, List.getElem?_take] at e
          split at e
          · exact s2.rok z c e
          · cases e
      | exit n => cases e <;> first | exact e1.elim | exact ⟨.exit n, t', h', B', kk, e1, e2, e3, e4, st.trans e5⟩
      | ret => cases e <;> first | exact e1.elim | exact ⟨.ret, t', h', B', kk, e1, e2, e3, e4, st.trans e5⟩
      | pan s => cases e <;> first | exact e1.elim | exact ⟨.pan s, t', h', B', kk, e1, e2, e3, e4, st.trans e5⟩
  subst hh
  exact wp_loop_rounds (μ i0 + 1) (key _ i0 hj (Nat.lt_succ_self _) B0 w0 a0 m0 (k0.sub ht) hd0 (Step.refl _ _ _))
theorem vmK :
    (∀ {ι : Type} (J : ι → Prop) (S : ι → Tm) (H : ι → Hp) (μ : ι → Nat) (i : ι) (K : Cont) (t : Tm) (h : Hp), lpK J S H μ i K .nor t h = ∃ j, J j ∧ μ j < μ i ∧ subT (S j) t ∧ h = H j) ∧
    (∀ {ι : Type} (J : ι → Prop) (S : ι → Tm) (H : ι → Hp) (μ : ι → Nat) (i : ι) (K : Cont) (t : Tm) (h : Hp), lpK J S H μ i K .ret t h = K .ret t h) ∧
    (∀ {ι : Type} (J : ι → Prop) (S : ι → Tm) (H : ι → Hp) (μ : ι → Nat) (i : ι) (K : Cont) (n : Nat) (t : Tm) (h : Hp), lpK J S H μ i K (.exit n) t h = K (.exit n) t h) ∧
    (∀ {ι : Type} (J : ι → Prop) (S : ι → Tm) (H : ι → Hp) (μ : ι → Nat) (i : ι) (K : Cont) (x : SV) (t : Tm) (h : Hp), lpK J S H μ i K (.pan x) t h = K (.pan x) t h) ∧
    (∀ {ι : Type} (n : Nat) (J : ι → Prop) (S : ι → Tm) (H : ι → Hp) (μ : ι → Nat) (i : ι) (K : Cont) (t : Tm) (h : Hp), lgK n J S H μ i K .nor t h = ∃ j, J j ∧ μ j < μ i ∧ subT (S j) t ∧ h.take n = H j ∧ tmB n (S j) = true ∧ (H j).all (idB n) = true) ∧
    (∀ {ι : Type} (n : Nat) (J : ι → Prop) (S : ι → Tm) (H : ι → Hp) (μ : ι → Nat) (i : ι) (K : Cont) (t : Tm) (h : Hp), lgK n J S H μ i K .ret t h = K .ret t h) ∧
    (∀ {ι : Type} (n : Nat) (J : ι → Prop) (S : ι → Tm) (H : ι → Hp) (μ : ι → Nat) (i : ι) (K : Cont) (m : Nat) (t : Tm) (h : Hp), lgK n J S H μ i K (.exit m) t h = K (.exit m) t h) ∧
    (∀ {ι : Type} (n : Nat) (J : ι → Prop) (S : ι → Tm) (H : ι → Hp) (μ : ι → Nat) (i : ι) (K : Cont) (x : SV) (t : Tm) (h : Hp), lgK n J S H μ i K (.pan x) t h = K (.pan x) t h) := by
  refine ⟨?_, ?_, ?_, ?_, ?_, ?_, ?_, ?_⟩ <;> intros <;> rfl
/-- What holds below a block holds of a small memory there. -/
theorem Mt.below (m : Mt B h w) (b : Below w.heap.size w w') : Mt B h w' ∧ Step B h w B h w' := by
  have M : Mt B h w' := by
    refine ⟨fun j bb e => ?_, m.dom, m.spt, m.sep, m.sepr⟩
    have hb := m.blk j bb e
    cases bb with
    | rw cs =>
      obtain ⟨d, c, e1, e2, e3, e4, e5⟩ := hb
      exact ⟨d, c, e1, e2, (b.block _ (Array.getElem?_eq_some_iff.1 e3).1).trans e3, e4, e5⟩
    | ro cs =>
      intro k x hk
      obtain ⟨d, v, e1, e2, e3, e4⟩ := hb k x hk
      exact ⟨d, v, e1, e2, (b.cell (p := ⟨d.a.block, d.a.off + k, none⟩) (cell_lt e3)).trans e3, e4⟩
    | dead => trivial
  exact ⟨M, Ext.refl B, ⟨b.os, b.tape, b.output, b.size, fun k hk _ => b.block k hk⟩, fun _ o => .inl o, Nat.le_refl _, fun _ _ => rfl, fun _ _ e => e⟩
theorem atoms_ar : ∀ {l : List Value} {vs : List Value}, AR B (l.map fun v => PV.s (.a v)) vs → vs = l
  | [], [], _ => rfl
  | [], _ :: _, k => k.elim
  | _ :: _, [], k => k.elim
  | _ :: _, _ :: _, k => by rw [atoms_ar k.2, show _ = _ from k.1]
theorem mrg_nil (h : Hp) : mrg [] h [] = h := by simp [mrg, setAll]
/-- A function of words alone, reckoned over no memory. -/
theorem wc_pure {f : FuncId} {l : List Value} {K : Out → Hp → Prop} (c : WC P f (l.map fun v => PV.s (.a v)) [] fun o h' => h' = [] ∧ K (rnO (ix [] h.length) o) h) : WC P f (l.map fun v => PV.s (.a v)) h K := by
  refine wc_focus (args' := l.map fun v => PV.s (.a v)) [] rfl (hc := []) trivial ?_ ?_ (c.mono ?_)
  · rw [List.map_map]; rfl
  · simp [is1]
  · rintro o h' ⟨rfl, k⟩
    rw [mrg_nil]; exact k
theorem vmG :
    (∀ (h : Hp) (b : Blk) (off n : Nat), ldN (h ++ [b]) h.length off n = ldN [b] 0 off n) ∧
    (∀ (h : Hp) (b : Blk) (off : Nat) (xs : List SV), stN (h ++ [b]) h.length off xs = (stN [b] 0 off xs).map (h ++ ·)) := by
  refine ⟨fun h b off n => ?_, fun h b off xs => ?_⟩
  · simp [ldN]
  · simp only [stN]
    rw [List.getElem?_append_right (Nat.le_refl _)]
    simp only [Nat.sub_self]
    cases b <;> simp
/-- A contract over words alone, as the kit's walk proves it. -/
theorem wc_of_calls {f : FuncId} {l : List Value} {x : Value} {o : Out} {K : Out → Hp → Prop} (c : ∀ w, Calls P f l.toArray w fun e w' => e = .returned x ∧ Below w.heap.size w w') (hx : ∀ B, OutR B o (.returned x)) (k : K o h) :
    WC P f (l.map fun v => PV.s (.a v)) h K := by
  intro B w vs m hr
  rw [atoms_ar hr]
  refine (c w).mono ?_
  rintro e w' ⟨rfl, b⟩
  obtain ⟨m', st⟩ := m.below b
  exact ⟨o, h, B, k, hx B, m', st⟩
end
end Go.Proofs.Ytahepinbmcgbnaa.Vm
end
section
/- Small memories: a function that defers a closure; the closure, which recovers. No condition. -/
set_option linter.unusedVariables false
set_option linter.unusedSimpArgs false
namespace Go.Proofs.Ytahepinbmcgbnaa.Vm
open Go.RowKit

/-- The frame that the deferred call was made in: it returns, or it panics with a value. -/
def modeR (B : Bs) : Option SV → FrameMode → Prop
 | none, u => u = .returning
 | some s, u => ∃ x, u = .panicking [{ v := x, recovered := false }] ∧ SR B s x
/-- A deferred call that leaves its frame returning. -/
def WF (P : Program) (f : FuncId) (args : List PV) (q : Option SV) (h : Hp) (K : Hp → Prop) : Prop :=
 ∀ (B : Bs) (w : World) (vs : List Value) (u : FrameMode), Mt B h w → AR B args vs → modeR B q u →
  CallsD P f vs.toArray u w fun e u' w' => ∃ v h' B', e = .returned v ∧ settle u' = .returning ∧ K h' ∧ Mt B' h' w' ∧ Step B h w B' h' w'
theorem WF.mono {P : Program} {f : FuncId} {args : List PV} {q : Option SV} {h : Hp} {K K' : Hp → Prop} (hk : ∀ h', K h' → K' h') (c : WF P f args q h K) : WF P f args q h K' :=
 fun B w vs u m r z => (c B w vs u m r z).mono fun e u' w' ⟨v, h', B', e1, e2, k, e3⟩ => ⟨v, h', B', e1, e2, hk _ k, e3⟩
def recV : Option SV → PV
 | none => .s (.a .nilIface)
 | some s => .s s
def reK (K : Hp → Prop) : Cont := fun e t h => match e with
 | .nor => K h
 | .ret => K h
 | _ => False
section
variable {P : Program} {N : Nat} {h : Hp}
theorem wf_intro {f : FuncId} {fn : Func} {c : Code} {id n1 n2 : Nat} {oR oA : Oper} {args : List PV} {q : Option SV} {K : Hp → Prop} (hf : P.funcs[f]? = some fn) (hb : fn.body = some (.seq (.region id #[oR, oA] false) c))
  (hR : oR.op = .call { callee := .builtin .recover, args := #[], argTypes := #[] }) (hRd : oR.dst = some n1) (hRg : oR.guard = none) (hA : oA.op = .assign (.tmp n1)) (hAd : oA.dst = some n2) (hAg : oA.guard = none)
  (hn : fn.ntmps = N) (h1 : n1 < N) (h2 : n2 < N) (hres : fn.results = #[]) (hc : cOk N c = true) (ha : args.length ≤ N)
  (hw : W P N c (reK K) (pt (pt (ent args 0) (some n1) (recV q)) (some n2) (recV q)) h) : WF P f args q h K := by
 intro B w vs u mt ar hq
 refine callsD_of_wpS hf hb fun c₀ cs hu => wpS_seq (wpS_region ?_)
 rw [hn]
 obtain ⟨xv, u', hx, hset, hrec⟩ : ∃ xv u', PR B (recV q) xv ∧ settle u' = .returning ∧ (match recoverD (c₀ :: cs) with
   | some (v, cs') => v = xv ∧ cs' = { c₀ with mode := u' } :: cs
   | none => xv = .nilIface ∧ c₀ :: cs = { c₀ with mode := u' } :: cs) := by
  cases q with
  | none =>
   obtain rfl : u = .returning := hq
   refine ⟨.nilIface, .returning, rfl, rfl, ?_⟩
   simp only [recoverD, hu]
   exact ⟨trivial, by rw [← hu]⟩
  | some s =>
   obtain ⟨x, rfl, hx⟩ := hq
   refine ⟨x, .panicking [{ v := x, recovered := true }], hx, rfl, ?_⟩
   simp only [recoverD, hu]
   exact ⟨trivial, trivial⟩
 have k0 : TR N B (ent args 0) ({ tmps := vs.toArray ++ Array.replicate (N - vs.toArray.size) undef, defers := [] } : Act).tmps := ent_TR ar ha
 generalize ha0 : ({ tmps := vs.toArray ++ Array.replicate (N - vs.toArray.size) undef, defers := [] } : Act) = a0 at k0 ⊢
 have hd0 : a0.defers = [] := by rw [← ha0]
 have k1 := k0.put (dst := some n1) (by simpa [dOk] using h1) hx
 have hev : (a0.put (some n1) xv).eval (.tmp n1) = xv := by
  have hs := k0.size
  simp only [Act.put, Act.eval]
  simp [hs, h1]
 have k2 := k1.put (dst := some n2) (by simpa [dOk] using h2) hx
 have key : (Exit.thenS (c.wpS P (bodyPostS P fn c₀ cs fun e u' w' => ∃ v h' B', e = .returned v ∧ settle u' = .returning ∧ K h' ∧ Mt B' h' w' ∧ Step B h w B' h' w')) (bodyPostS P fn c₀ cs fun e u' w' => ∃ v h' B', e = .returned v ∧ settle u' = .returning ∧ K h' ∧ Mt B' h' w' ∧ Step B h w B' h' w')) .normal ((a0.put (some n1) xv).put (some n2) xv) ({ c₀ with mode := u' } :: cs) w := by
  refine wpS_of_wp (Code.wp_mono ?_ (W_sound c _ _ _ hc hw [] B w _ mt k2 (by simp [Act.put, hd0])))
  have hr : ∀ (a : Act) (w' : World), (results fn a.tmps).run P w' = .ok (.tuple #[]) w' := fun a w' => by simp [results, hres]
  intro e a' w' ⟨x, t', h', B', kk, e1, e2, e3, e4, e5⟩
  cases x with
  | nor => cases e <;> first | exact e1.elim | exact ⟨e3, u', rfl, _, hr _ _, _, h', B', rfl, hset, kk, e4, e5⟩
  | ret => cases e <;> first | exact e1.elim | exact ⟨e3, u', rfl, _, hr _ _, _, h', B', rfl, hset, kk, e4, e5⟩
  | exit n => exact (kk : False).elim
  | pan s => exact (kk : False).elim
 have hwR : ∀ y, Region.wanted oR y = true := fun y => by simp [Region.wanted, hRg]
 have hwA : ∀ y, Region.wanted oA y = true := fun y => by simp [Region.wanted, hAg]
 have hxR : ∀ a : Act, (execOp a.eval oR).run P w = .ok .recover w := fun a => by
  simp [execOp, hR, resolve, invoke, builtin]
 have hxA : ∀ a : Act, (execOp a.eval oA).run P w = .ok (.value (a.eval (.tmp n1))) w := fun a => by
  simp [execOp, hA]
 have hrg : List.range (#[oR, oA] : Array Oper).size = [0, 1] := rfl
 rw [hrg]
 simp only [wpOpsS]
 simp only [List.getElem?_toArray, List.getElem?_cons_zero, List.getElem?_cons_succ, hwR, hwA, if_true, hxR, hxA, hRd, hAd]
 cases hcase : recoverD (c₀ :: cs) with
 | none =>
  rw [hcase] at hrec
  obtain ⟨hx0, hcs⟩ := hrec
  subst hx0
  simp only [Oper.upon, hev, hAd]
  rw [hcs]
  exact key
 | some p =>
  rw [hcase] at hrec
  obtain ⟨v, cs'⟩ := p
  obtain ⟨hv, hcs⟩ := hrec
  subst hv hcs
  simp only [Oper.upon, hev, hAd]
  exact key
theorem res_fin {B : Bs} {w : World} {t : Tm} {a : Act} {fn : Func} {K : Out → Hp → Prop} (m : Mt B h w) (k : TR N B t a.tmps) (hk : resK (resR P t h fn.results.toList) K h) : ∃ v, (results fn a.tmps).run P w = .ok v w ∧ ∃ o, K o h ∧ OutR B o (.returned v) := by
 unfold resK at hk
 split at hk
 ·rename_i v hv
  obtain ⟨us, h1, h2⟩ := resR_sound (P := P) m k hv
  cases us with
  | nil => exact h2.elim
  | cons u us =>
   cases us with
   | nil => exact ⟨u, results_run h1, .ret v, hk, h2.1⟩
   | cons _ _ => exact h2.2.elim
 ·rename_i l hne hv
  split at hk
  ·rename_i hall
   obtain ⟨us, h1, h2⟩ := resR_sound (P := P) m k hv
   have hl := h2.len
   refine ⟨_, results_run h1, .ret (.t l), hk, ?_⟩
   refine ⟨us, ?_, h2.pl hall⟩
   cases us with
   | nil => rfl
   | cons u us =>
    cases us with
    | nil =>
     cases l with
     | nil => simp at hl
     | cons y l =>
      cases l with
      | nil => exact absurd rfl (hne y)
      | cons _ _ => simp at hl
    | cons _ _ => rfl
  ·exact hk.elim
 ·exact hk.elim
def cpP (cs : List (Nat × Nat)) : List PV := cs.map fun c => .s (.p c.1 c.2)
def enD (P : Program) (G : FuncId) (cs : List (Nat × Nat)) (rs : List ResultVar) (K : Out → Hp → Prop) : Cont := fun e t h => match e with
 | .nor => WF P G (cpP cs) none h fun h' => resK (resR P t h' rs) K h'
 | .ret => WF P G (cpP cs) none h fun h' => resK (resR P t h' rs) K h'
 | .pan x => WF P G (cpP cs) (some x) h fun h' => resK (resR P t h' rs) K h'
 | .exit _ => False
def dfC (P : Program) (N n : Nat) (G : FuncId) (rs : List ResultVar) (c : Code) (K : Out → Hp → Prop) (t : Tm) (h : Hp) (q : Option (List (Nat × Nat))) : Prop := match q with
 | some cs => W P N c (enD P G cs rs K) (pt t (some n) (.s (.clo G cs))) h
 | none => False
def dfK (P : Program) (N n : Nat) (G : FuncId) (caps : List Operand) (rs : List ResultVar) (c : Code) (K : Out → Hp → Prop) : Cont := fun e t h => match e with
 | .nor => dfC P N n G rs c K t h (ptrsR t caps)
 | _ => False
theorem wc_defer {f : FuncId} {fn : Func} {c0 c1 : Code} {id n : Nat} {G : FuncId} {caps : List Operand} {o1 o2 : Oper} {args : List PV} {K : Out → Hp → Prop} (hf : P.funcs[f]? = some fn) (hb : fn.body = some (.seq c0 (.seq (.region id #[o1, o2] false) c1)))
  (h1 : o1.op = .makeFunc (.func G) #[] caps.toArray) (h1d : o1.dst = some n) (h1g : o1.guard = none) (h2 : o2.op = .defer { callee := .value (.tmp n), args := #[], argTypes := #[] }) (h2d : o2.dst = none) (h2g : o2.guard = none)
  (hn : fn.ntmps = N) (hnN : n < N) (hc0 : cOk N c0 = true) (hc1 : cOk N c1 = true) (ha : args.length ≤ N) (hG : fnOk P G = true)
  (hw : W P N c0 (dfK P N n G caps fn.results.toList c1 K) (ent args 0) h) : WC P f args h K := by
 intro B w vs mt ar
 refine calls_of_wp_defers hf hb ?_
 rw [hn]
 refine wp_seq (Code.wp_mono ?_ (W_sound c0 _ _ _ hc0 hw [] B w _ mt (ent_TR ar ha) rfl))
 intro e a' w' ⟨x, t', h', B', kk, e1, e2, e3, e4, e5⟩
 cases x with
 | nor =>
  cases e <;> first | exact e1.elim | skip
  simp only [dfK] at kk
  cases hq : ptrsR t' caps with
  | none => rw [hq] at kk; exact kk.elim
  | some cs =>
   rw [hq] at kk
   have hcl := ptrsR_sound e2 hq
   refine wp_seq (wp_region_list ?_)
   have hw1 : ∀ y, Region.wanted o1 y = true := fun y => by simp [Region.wanted, h1g]
   have hw2 : ∀ y, Region.wanted o2 y = true := fun y => by simp [Region.wanted, h2g]
   have hx1 : (execOp a'.eval o1).run P w' = .ok (.value (.func (.func G) #[] (caps.map a'.eval).toArray)) w' := by
    simp only [execOp, h1]
    refine exV ?_
    simp [Instr.makeFunc]
   have k1 : TR N B' (pt t' (some n) (.s (.clo G cs))) (a'.put (some n) (.func (.func G) #[] (caps.map a'.eval).toArray)).tmps := e2.put (by simpa [dOk] using hnN) (show SR B' (.clo G cs) _ from ⟨caps.map a'.eval, rfl, hcl⟩)
   have hev : (a'.put (some n) (.func (.func G) #[] (caps.map a'.eval).toArray)).eval (.tmp n) = .func (.func G) #[] (caps.map a'.eval).toArray := by
    have hs := e2.size
    simp only [Act.put, Act.eval]
    simp [hs, hnN]
   show wpList P #[o1, o2] _ [o1, o2] a' w'
   unfold wpList
   rw [if_pos (hw1 _)]
   refine .inl ?_
   unfold Oper.wp
   rw [hx1]
   show wpList P #[o1, o2] _ [o2] (a'.put o1.dst _) w'
   rw [h1d]
   unfold wpList
   rw [if_pos (hw2 _)]
   refine .inl ?_
   unfold Oper.wp
   have hx2 : (execOp (a'.put (some n) (.func (.func G) #[] (caps.map a'.eval).toArray)).eval o2).run P w' = .ok (.defer { target := .fn (.func G) (caps.map a'.eval).toArray, args := #[] }) w' := by
    simp [execOp, h2, resolve, hev, Deferred.ofValue]
   rw [hx2]
   simp only [Oper.upon, h2d]
   show c1.wp P _ _ w'
   have hd : ({ (a'.put (some n) (.func (.func G) #[] (caps.map a'.eval).toArray)) with defers := [{ target := .fn (.func G) (caps.map a'.eval).toArray, args := #[] }] } : Act).defers = [{ target := .fn (.func G) (caps.map a'.eval).toArray, args := #[] }] := rfl
   have hdd : (a'.put (some n) (.func (.func G) #[] (caps.map a'.eval).toArray)).defers = [] := by simp [Act.put, e3]
   rw [show ({ (a'.put (some n) (.func (.func G) #[] (caps.map a'.eval).toArray)) with defers := { target := .fn (.func G) (caps.map a'.eval).toArray, args := #[] } :: (a'.put (some n) (.func (.func G) #[] (caps.map a'.eval).toArray)).defers } : Act).put none undef
     = ({ (a'.put (some n) (.func (.func G) #[] (caps.map a'.eval).toArray)) with defers := [{ target := .fn (.func G) (caps.map a'.eval).toArray, args := #[] }] } : Act) by rw [hdd]; rfl]
   refine Code.wp_mono ?_ (W_sound c1 _ _ _ hc1 kk _ B' w' _ e4 k1 hd)
   intro e a2 w2 ⟨x, t2, h2', B2, kk2, f1, f2, f3, f4, f5⟩
   have hinv : ∀ w3 : World, (invoke (.fn (.func G) (caps.map a'.eval).toArray) #[]).run P w3 = .ok (.enter G (caps.map a'.eval).toArray) w3 := fun w3 => by
    simp only [invoke]
    rw [callFunc_run hG]
    simp
   have har : AR B2 (cpP cs) (caps.map a'.eval) := (cl_args (hcl.mono f5.ext))
   have fin : ∀ (q : Option SV) (u : FrameMode), u ≠ .run → modeR B2 q u → WF P G (cpP cs) q h2' (fun h' => resK (resR P t2 h' fn.results.toList) K h') →
     Leaves P fn a2.tmps (fun e w' => ∃ o h' B', K o h' ∧ OutR B' o e ∧ Mt B' h' w' ∧ Step B h w B' h' w') a2.defers u w2 := by
    intro q u hu hmode hwf
    rw [f3]
    refine leaves_cons hu (hinv w2) ((hwf B2 w2 _ u f4 har hmode).mono ?_)
    rintro e u' w3 ⟨v, h3, B3, rfl, hset, hk, m3, s3⟩
    show Leaves P fn a2.tmps _ [] (settle u') w3
    rw [hset]
    obtain ⟨v', hv', o, ko, oo⟩ := res_fin (P := P) m3 (f2.mono s3.ext) hk
    exact ⟨v', hv', o, h3, B3, ko, oo, m3, (e5.trans f5).trans s3⟩
   cases x with
   | nor => cases e <;> first | exact f1.elim | exact fin none .returning (by simp) rfl kk2
   | ret => cases e <;> first | exact f1.elim | exact fin none .returning (by simp) rfl kk2
   | exit _ => exact (kk2 : False).elim
   | pan s =>
    cases e <;> first | exact f1.elim | skip
    obtain ⟨x, rfl, hs⟩ := f1
    exact fin (some s) _ (by simp) ⟨x, rfl, hs⟩ kk2
 | ret => exact (kk : False).elim
 | exit _ => exact (kk : False).elim
 | pan _ => exact (kk : False).elim
end
end Go.Proofs.Ytahepinbmcgbnaa.Vm
end
section
/- Small memories: blocks that are lent to be read; a slice seen as a window. No condition. -/
set_option linter.unusedVariables false
set_option linter.unusedSimpArgs false
namespace Go.Proofs.Ytahepinbmcgbnaa.Vm
open Go.RowKit
section
variable {P : Program} {B B' : Bs} {h h' : Hp} {w w' : World}
theorem set_get_ne {h : Hp} {j k : Nat} {b : Blk} (q : k ≠ j) : (h.set j b)[k]? = h[k]? := List.getElem?_set_ne (fun e => q e.symm)
theorem set_get_eq {h : Hp} {j : Nat} {b : Blk} (q : j < h.length) : (h.set j b)[j]? = some b := by simp [q]
theorem ro_keep {j : Nat} {cs : List SV} (m : Mt B h w) (hj : h[j]? = some (.ro cs)) (m' : Mt B' h' w') (s : Step B h w B' h' w') : Mt B' (h'.set j (.ro cs)) w' ∧ Step B h w B' (h'.set j (.ro cs)) w' := by
 have hjl : j < h.length := (List.getElem?_eq_some_iff.1 hj).1
 have hjl' : j < h'.length := Nat.lt_of_lt_of_le hjl s.len
 have hself : (h'.set j (.ro cs))[j]? = some (.ro cs) := set_get_eq hjl'
 have own_lt : ∀ d x, cs[0]? = some x → B j = some d → d.a.block < w.heap.size ∧ ¬ Own B h d.a.block := fun d x e eb => by
  obtain ⟨d', v, e1, e2, e3, e4⟩ := m.blk j _ hj 0 x e
  obtain rfl : d = d' := Option.some.inj (eb.symm.trans e1)
  refine ⟨cell_lt e3, ?_⟩
  rintro ⟨i, ci, di, q1, q2, q3⟩
  exact m.sepr i j ci cs di d q1 hj (by intro q; subst q; simp at e) q2 eb q3
 refine ⟨⟨fun k b e => ?_, fun k hk => m'.dom k (by simpa using hk), m'.spt, fun i k ci ck di dk ei ek bi bk q => ?_, fun i k ci ck di dk ei ek hne bi bk => ?_⟩, ?_⟩
 ·by_cases hk : k = j
  ·subst hk
   rw [hself] at e
   cases e
   intro i x hx
   obtain ⟨d, v, e1, e2, e3, e4⟩ := m.blk k _ hj i x hx
   obtain ⟨x0, hx0⟩ : ∃ x0, cs[0]? = some x0 := by
    cases cs with
    | nil => simp at hx
    | cons y _ => exact ⟨y, rfl⟩
   obtain ⟨hlt, hno⟩ := own_lt d x0 hx0 e1
   have hb := s.fr.block d.a.block hlt hno
   refine ⟨d, v, s.ext _ _ e1, e2, ?_, e4.mono s.ext⟩
   rw [World.cell?] at e3 ⊢
   simp only at e3 ⊢
   rw [hb]; exact e3
  ·rw [set_get_ne hk] at e; exact m'.blk k b e
 ·have hi : i ≠ j := fun q => by subst q; rw [hself] at ei; cases ei
  have hk : k ≠ j := fun q => by subst q; rw [hself] at ek; cases ek
  rw [set_get_ne hi] at ei; rw [set_get_ne hk] at ek
  exact m'.sep i k ci ck di dk ei ek bi bk q
 ·have hi : i ≠ j := fun q => by subst q; rw [hself] at ei; cases ei
  rw [set_get_ne hi] at ei
  by_cases hk : k = j
  ·subst hk
   rw [hself] at ek
   cases ek
   have hbj : B k = some dk := (s.old k hjl).symm.trans bk
   obtain ⟨x0, hx0⟩ : ∃ x0, cs[0]? = some x0 := by
    cases cs with
    | nil => exact absurd rfl hne
    | cons y _ => exact ⟨y, rfl⟩
   obtain ⟨hlt, hno⟩ := own_lt dk x0 hx0 hbj
   intro q
   rcases s.own di.a.block ⟨i, ci, di, ei, bi, rfl⟩ with o | o
   ·rw [q] at o; exact hno o
   ·omega
  ·rw [set_get_ne hk] at ek
   exact m'.sepr i k ci ck di dk ei ek hne bi bk
 ·refine ⟨s.ext, s.fr, fun b o => ?_, by simpa using s.len, s.old, fun k c e => ?_⟩
  ·obtain ⟨i, ci, di, q1, q2, q3⟩ := o
   have hi : i ≠ j := fun q => by subst q; rw [hself] at q1; cases q1
   rw [set_get_ne hi] at q1
   exact s.own b ⟨i, ci, di, q1, q2, q3⟩
  ·by_cases hk : k = j
   ·subst hk; rw [hself] at e; cases e; exact hj
   ·rw [set_get_ne hk] at e; exact s.rok k c e
/-- A block that is only read stands as it stood, whatever a contract says of it. -/
theorem wc_ro {f : FuncId} {args : List PV} {K : Out → Hp → Prop} (j : Nat) (cs : List SV) (hj : h[j]? = some (.ro cs)) (c : WC P f args h fun o h' => h.length ≤ h'.length → K o (h'.set j (.ro cs))) : WC P f args h K := by
 intro B w vs m r
 refine (c B w vs m r).mono ?_
 rintro e w' ⟨o, h', B', kk, eo, m', st⟩
 obtain ⟨q1, q2⟩ := ro_keep m hj m' st
 exact ⟨o, _, B', kk st.len, eo, q1, q2⟩
/-- A block of one's own, lent to be read. -/
theorem wc_lend {f : FuncId} {args : List PV} {K : Out → Hp → Prop} (j : Nat) (cs : List SV) (hj : h[j]? = some (.rw cs)) (c : WC P f args (h.set j (.ro cs)) fun o h' => h.length ≤ h'.length → K o (h'.set j (.rw cs))) : WC P f args h K := by
 intro B w vs m r
 have hjl : j < h.length := (List.getElem?_eq_some_iff.1 hj).1
 have hself : (h.set j (.ro cs))[j]? = some (.ro cs) := set_get_eq hjl
 obtain ⟨d, row, hB, hsp, hrow, hsz, hwn⟩ := m.blk j _ hj
 have m0 : Mt B (h.set j (.ro cs)) w := by
  refine ⟨fun k b e => ?_, fun k hk => m.dom k (by simpa using hk), m.spt, fun i k ci ck di dk ei ek bi bk q => ?_, fun i k ci ck di dk ei ek hne bi bk => ?_⟩
  ·by_cases hk : k = j
   ·subst hk; rw [hself] at e; cases e
    intro i x hx
    obtain ⟨v, e1, e2⟩ := hwn i x hx
    refine ⟨d, v, hB, hsp, ?_, e2⟩
    rw [World.cell?]
    simp only [hrow]
    exact e1
   ·rw [set_get_ne hk] at e; exact m.blk k b e
  ·have hi : i ≠ j := fun q => by subst q; rw [hself] at ei; cases ei
   have hk : k ≠ j := fun q => by subst q; rw [hself] at ek; cases ek
   rw [set_get_ne hi] at ei; rw [set_get_ne hk] at ek
   exact m.sep i k ci ck di dk ei ek bi bk q
  ·have hi : i ≠ j := fun q => by subst q; rw [hself] at ei; cases ei
   rw [set_get_ne hi] at ei
   by_cases hk : k = j
   ·subst hk
    intro q
    exact hi (m.sep i k ci cs di dk ei hj bi bk q)
   ·rw [set_get_ne hk] at ek; exact m.sepr i k ci ck di dk ei ek hne bi bk
 have hno : ¬ Own B (h.set j (.ro cs)) d.a.block := by
  rintro ⟨i, ci, di, q1, q2, q3⟩
  have hi : i ≠ j := fun q => by subst q; rw [hself] at q1; cases q1
  rw [set_get_ne hi] at q1
  exact hi (m.sep i j ci cs di d q1 hj q2 hB q3)
 have hlt : d.a.block < w.heap.size := own_lt m ⟨j, cs, d, hj, hB, rfl⟩
 refine (c B w vs m0 r).mono ?_
 rintro e w' ⟨o, h', B', kk, eo, m', s⟩
 have hlen : h.length ≤ h'.length := by simpa using s.len
 have hjl' : j < h'.length := by omega
 have hself' : (h'.set j (.rw cs))[j]? = some (.rw cs) := set_get_eq hjl'
 have hB' : B' j = some d := s.ext _ _ hB
 have hrow' : w'.heap[d.a.block]? = some (.cells row d.ty (0, 0)) := (s.fr.block _ hlt hno).trans hrow
 have ownj : ∀ i ci di, i ≠ j → h'[i]? = some (.rw ci) → B' i = some di → di.a.block ≠ d.a.block := fun i ci di hi e1 e2 q => by
  rcases s.own di.a.block ⟨i, ci, di, e1, e2, rfl⟩ with o | o
  ·rw [q] at o; exact hno o
  ·omega
 refine ⟨o, _, B', kk hlen, eo, ⟨fun k b e => ?_, fun k hk => m'.dom k (by simpa using hk), m'.spt, fun i k ci ck di dk ei ek bi bk q => ?_, fun i k ci ck di dk ei ek hne bi bk => ?_⟩, ?_⟩
 ·by_cases hk : k = j
  ·subst hk; rw [hself'] at e; cases e
   refine ⟨d, row, hB', hsp, hrow', hsz, fun i x hx => ?_⟩
   obtain ⟨v, e1, e2⟩ := hwn i x hx
   exact ⟨v, e1, e2.mono s.ext⟩
  ·rw [set_get_ne hk] at e; exact m'.blk k b e
 ·by_cases hi : i = j
  ·by_cases hk : k = j
   ·rw [hi, hk]
   ·exfalso
    rw [set_get_ne hk] at ek
    subst hi
    obtain rfl : d = di := Option.some.inj (hB'.symm.trans bi)
    exact ownj k ck dk hk ek bk q.symm
  ·rw [set_get_ne hi] at ei
   by_cases hk : k = j
   ·exfalso
    subst hk
    obtain rfl : d = dk := Option.some.inj (hB'.symm.trans bk)
    exact ownj i ci di hi ei bi q
   ·rw [set_get_ne hk] at ek
    exact m'.sep i k ci ck di dk ei ek bi bk q
 ·have hk : k ≠ j := fun q => by subst q; rw [hself'] at ek; cases ek
  rw [set_get_ne hk] at ek
  by_cases hi : i = j
  ·subst hi
   have hro := s.rok k ck ek
   rw [set_get_ne hk] at hro
   have hkl : k < h.length := (List.getElem?_eq_some_iff.1 hro).1
   have hbk : B k = some dk := (s.old k (by simpa using hkl)).symm.trans bk
   exact m.sepr i k cs ck di dk hj hro hne (hB.trans (hB'.symm.trans bi)) hbk
  ·rw [set_get_ne hi] at ei
   exact m'.sepr i k ci ck di dk ei ek hne bi bk
 ·refine ⟨s.ext, ⟨s.fr.os, s.fr.tape, s.fr.output, s.fr.size, fun k hk ho => s.fr.block k hk fun o => ho ?_⟩, fun b o => ?_, by simpa using hlen, fun k hk => s.old k (by simpa using hk), fun k c e => ?_⟩
  ·obtain ⟨i, ci, di, q1, q2, q3⟩ := o
   have hi : i ≠ j := fun q => by subst q; rw [hself] at q1; cases q1
   rw [set_get_ne hi] at q1
   exact ⟨i, ci, di, q1, q2, q3⟩
  ·obtain ⟨i, ci, di, q1, q2, q3⟩ := o
   by_cases hi : i = j
   ·subst hi
    obtain rfl : d = di := Option.some.inj (hB'.symm.trans q2)
    exact .inl ⟨i, cs, d, hj, hB, q3⟩
   ·rw [set_get_ne hi] at q1
    rcases s.own b ⟨i, ci, di, q1, q2, q3⟩ with o | o
    ·obtain ⟨i', ci', di', z1, z2, z3⟩ := o
     have hi' : i' ≠ j := fun q => by subst q; rw [hself] at z1; cases z1
     rw [set_get_ne hi'] at z1
     exact .inl ⟨i', ci', di', z1, z2, z3⟩
    ·exact .inr o
  ·have hk : k ≠ j := fun q => by subst q; rw [hself'] at e; cases e
   rw [set_get_ne hk] at e
   have := s.rok k c e
   rwa [set_get_ne hk] at this
/-- An owned slice, or a nil one, seen as a window. -/
def vwR : PV → PV → Prop
 | .s (.so j len _ _), .s (.sl j' off len') => j' = j ∧ off = 0 ∧ len' = len
 | .s (.a (.slice none 0 0)), .s (.sl _ _ len') => len' = 0
 | x, y => y = x
def vwL : List PV → List PV → Prop
 | [], [] => True
 | x :: l, y :: r => vwR x y ∧ vwL l r
 | _, _ => False
theorem add0 {a : Addr} : a.add 0 = a := by cases a; rfl
theorem vw_one {x y : PV} {v : Value} (q : vwR x y) (k : PR B x v) : PR B y v := by
 unfold vwR at q
 split at q
 ·rename_i j len es ty j' off len'
  obtain ⟨rfl, rfl, rfl⟩ := q
  change SR B (.so _ _ es ty) v at k
  change SR B (.sl _ _ _) v
  obtain ⟨cap, d, e1, e2, e3, e4, e5, e6, e7⟩ := k
  exact ⟨some d.a, cap, e2, e3, fun _ => ⟨d, e1, by rw [add0]⟩⟩
 ·subst q
  change SR B (.sl _ _ _) v
  exact ⟨none, 0, k, Nat.le_refl _, fun h => absurd h (by decide)⟩
 ·subst q; exact k
theorem vw_all : ∀ {l r : List PV} {vs : List Value}, vwL l r → AR B l vs → AR B r vs
 | [], [], vs, _, k => k
 | [], _ :: _, _, q, _ => q.elim
 | _ :: _, [], _, q, _ => q.elim
 | x :: l, y :: r, [], _, k => k.elim
 | x :: l, y :: r, v :: vs, q, k => ⟨vw_one q.1 k.1, vw_all q.2 k.2⟩
theorem wc_view {f : FuncId} {args args' : List PV} {K : Out → Hp → Prop} (q : vwL args args') (c : WC P f args' h K) : WC P f args h K :=
 fun B w vs m r => c B w vs m (vw_all q r)
end
end Go.Proofs.Ytahepinbmcgbnaa.Vm
end
section
/- Small memories: a loop, round by round; blocks that are kept behind a call, under new numbers. No condition. -/
set_option linter.unusedVariables false
set_option linter.unusedSimpArgs false
namespace Go.Proofs.Ytahepinbmcgbnaa.Vm
open Go.RowKit
/-- A loop of at most so many rounds. -/
def SWn (P : Program) (N : Nat) (c : Code) (n : Nat) (t : Tm) (h : Hp) (K : Cont) : Prop :=
 ∀ (D : List Deferred) (B : Bs) (w : World) (a : Act), Mt B h w → TR N B t a.tmps → a.defers = D → Code.rounds P c (QK D N B h w K) n a w
def unK (P : Program) (N : Nat) (c : Code) (n : Nat) (K : Cont) : Cont := fun e t h => match e with
 | .nor => SWn P N c n t h K
 | .exit m => K (.exit m) t h
 | .ret => K .ret t h
 | .pan x => K (.pan x) t h
section
variable {P : Program} {N : Nat} {t : Tm} {h : Hp} {c : Code} {K : Cont}
theorem rounds_mono {Q Q' : Exit → Act → World → Prop} (hq : ∀ e a w, Q e a w → Q' e a w) : ∀ (n : Nat) (a : Act) (w : World), Code.rounds P c Q n a w → Code.rounds P c Q' n a w
 | 0, _, _, k => k
 | n + 1, a, w, k => by
  rw [rounds_succ] at k ⊢
  refine Code.wp_mono ?_ k
  intro e a w q
  cases e with
  | normal => exact rounds_mono hq n a w q
  | _ => exact hq _ _ _ q
theorem swn_succ (hc : cOk N c = true) (n : Nat) (hw : W P N c (unK P N c n K) t h) : SWn P N c (n + 1) t h K := by
 intro D B w a m k hd
 rw [rounds_succ]
 refine Code.wp_mono ?_ (W_sound c _ _ _ hc hw D B w a m k hd)
 intro e a' w' ⟨x, t', h', B', kk, e1, e2, e3, e4, e5⟩
 cases x with
 | nor =>
  cases e <;> first | exact e1.elim | skip
  exact rounds_mono (fun e a w q => q.trans e5) n a' w' (kk D B' w' a' e4 e2 e3)
 | exit n => cases e <;> first | exact e1.elim | exact ⟨.exit n, t', h', B', kk, e1, e2, e3, e4, e5⟩
 | ret => cases e <;> first | exact e1.elim | exact ⟨.ret, t', h', B', kk, e1, e2, e3, e4, e5⟩
 | pan s => cases e <;> first | exact e1.elim | exact ⟨.pan s, t', h', B', kk, e1, e2, e3, e4, e5⟩
theorem sw_rounds (n : Nat) (s : SWn P N c n t h K) : SW P N (.loop c) t h K := fun D B w a m k hd => wp_loop_rounds n (s D B w a m k hd)
theorem swn_sub {n : Nat} {s : Tm} (q : subT s t) (k : SWn P N c n s h K) : SWn P N c n t h K := fun D B w a m r hd => k D B w a m (r.sub q) hd
end
/-- Where a round ends. -/
def cutK (S : Tm) (H : Hp) (K : Cont) : Cont := fun e t h => match e with
 | .nor => subT S t ∧ h = H
 | .exit m => K (.exit m) t h
 | .ret => K .ret t h
 | .pan x => K (.pan x) t h
theorem swn_cut {P : Program} {N : Nat} {t : Tm} {h : Hp} {c : Code} {K : Cont} {n : Nat} (S : Tm) (H : Hp) (hc : cOk N c = true) (k : SWn P N c n S H K) (hw : W P N c (cutK S H K) t h) : SWn P N c (n + 1) t h K := by
 intro D B w a m r hd
 rw [rounds_succ]
 refine Code.wp_mono ?_ (W_sound c _ _ _ hc hw D B w a m r hd)
 intro e a' w' ⟨x, t', h', B', kk, e1, e2, e3, e4, e5⟩
 cases x with
 | nor =>
  cases e <;> first | exact e1.elim | skip
  obtain ⟨q1, rfl⟩ := kk
  exact rounds_mono (fun e a w q => q.trans e5) n a' w' (k D B' w' a' e4 (e2.sub q1) e3)
 | exit n => cases e <;> first | exact e1.elim | exact ⟨.exit n, t', h', B', kk, e1, e2, e3, e4, e5⟩
 | ret => cases e <;> first | exact e1.elim | exact ⟨.ret, t', h', B', kk, e1, e2, e3, e4, e5⟩
 | pan s => cases e <;> first | exact e1.elim | exact ⟨.pan s, t', h', B', kk, e1, e2, e3, e4, e5⟩
def roOk : Nat → Hp → Hp → Prop
 | 0, _, _ => True
 | n + 1, .ro c :: r, b :: r' => b = .ro c ∧ roOk n r r'
 | n + 1, _ :: r, _ :: r' => roOk n r r'
 | _ + 1, [], _ => True
 | _ + 1, _, [] => True
theorem roOk_get : ∀ {n : Nat} {h h' : Hp}, roOk n h h' → ∀ (j : Nat) (c : List SV), j < n → j < h'.length → h[j]? = some (.ro c) → h'[j]? = some (.ro c)
 | 0, _, _, _, j, c, hj, _, _ => by omega
 | n + 1, [], _, _, j, c, _, _, e => by simp at e
 | n + 1, _ :: _, [], _, j, c, _, hl, e => by simp at hl
 | n + 1, .ro d :: r, b :: r', k, 0, c, _, _, e => by simp at e; subst e; simp [k.1]
 | n + 1, .rw d :: r, b :: r', k, 0, c, _, _, e => by simp at e
 | n + 1, .dead :: r, b :: r', k, 0, c, _, _, e => by simp at e
 | n + 1, .ro d :: r, b :: r', k, j + 1, c, hj, hl, e => by simpa using roOk_get k.2 j c (by omega) (by simpa using hl) (by simpa using e)
 | n + 1, .rw d :: r, b :: r', k, j + 1, c, hj, hl, e => by simpa using roOk_get (h := r) (h' := r') k j c (by omega) (by simpa using hl) (by simpa using e)
 | n + 1, .dead :: r, b :: r', k, j + 1, c, hj, hl, e => by simpa using roOk_get (h := r) (h' := r') k j c (by omega) (by simpa using hl) (by simpa using e)
/-- Of what a call leaves the blocks σ are kept, numbered anew; the caller's own stand ahead. -/
def pkK (n : Nat) (K : Out → Hp → Prop) : Out → Hp → Prop
 | .ret v, h' => ∃ (σ : List Nat) (hc : Hp) (v' : PV), nodup σ = true ∧ n ≤ σ.length ∧ σ.take n = List.range n ∧ same σ h' σ hc ∧ roOk n hc h' ∧ v = rnP (ix σ h'.length) v' ∧ K (.ret v') hc
 | .pan x, h' => K (.pan x) h'
section
variable {P : Program} {B : Bs} {h : Hp} {w : World}
theorem pl_sub {σ : List Nat} (m : Mt B h w) : ∀ {l : List PV} {vs : List Value}, PL B (l.map fun x => match x with
  | .s x => .s (rnS (ix σ h.length) x)
  | .g l => .g (l.map (rnS (ix σ h.length)))
  | .t l => .t []) vs → PL (sub B σ) l vs
 | [], [], _ => trivial
 | [], _ :: _, k => k.elim
 | _ :: _, [], k => k.elim
 | .s _ :: _, _ :: _, k => ⟨sr_sub m k.1, pl_sub m k.2⟩
 | .g _ :: _, _ :: _, k => ⟨let ⟨vs, e, q⟩ := k.1; ⟨vs, e, lr_sub m q⟩, pl_sub m k.2⟩
 | .t _ :: _, _ :: _, k => k.1.elim
theorem out_sub {σ : List Nat} (m : Mt B h w) : ∀ {v : PV} {x : Value}, PR B (rnP (ix σ h.length) v) x → PR (sub B σ) v x
 | .s _, _, k => sr_sub m k
 | .g _, _, ⟨vs, e, k⟩ => ⟨vs, e, lr_sub m k⟩
 | .t _, _, ⟨vs, e, k⟩ => ⟨vs, e, pl_sub m k⟩
theorem wc_pick {f : FuncId} {args : List PV} {K : Out → Hp → Prop} (c : WC P f args h (pkK h.length K)) : WC P f args h K := by
 intro B w vs m hr
 refine (c B w vs m hr).mono ?_
 rintro e w' ⟨o, h', B', kk, eo, m', st⟩
 cases o with
 | pan x => exact ⟨.pan x, h', B', kk, eo, m', st⟩
 | ret v =>
 obtain ⟨σ, hc, v', hn, hl, ht, hs, hro, rfl, k⟩ := kk
 have hid : ∀ j, j < h.length → σ[j]? = some j := fun j hj => by
  have : (σ.take h.length)[j]? = some j := by rw [ht]; simp [hj]
  rwa [List.getElem?_take, if_pos hj] at this
 obtain ⟨hlen, hg⟩ := same_get hs
 have hsub : ∀ j, j < h.length → sub B' σ j = B j := fun j hj => by
  simp only [sub, hid j hj]
  exact st.old j hj
 have get : ∀ (j : Nat) (b : Blk), hc[j]? = some b → ∃ i, σ[j]? = some i ∧ h'[i]? = some (rnB (ix σ h'.length) b) ∧ sub B' σ j = B' i := fun j b e => by
  have hj : j < σ.length := by rw [hlen]; exact (List.getElem?_eq_some_iff.1 e).1
  obtain ⟨b', h1, h2⟩ := hg j σ[j] (by simp [hj])
  obtain rfl : b = b' := Option.some.inj (e.symm.trans h1)
  exact ⟨σ[j], by simp [hj], h2, by simp [sub, hj]⟩
 have hx : OutR (sub B' σ) (.ret v') e := by
  cases e with
  | returned x => exact out_sub m' eo
  | panicked _ => exact eo.elim
  | outgrown => exact eo.elim
 refine ⟨.ret v', hc, sub B' σ, k, hx, mt_sub m' hs hn, ?_, st.fr, ?_, by rw [← hlen]; exact hl, hsub, fun j c e => ?_⟩
 ·intro j d e
  have hj : j < h.length := by
   rcases Nat.lt_or_ge j h.length with q | q
   ·exact q
   ·rw [m.dom j q] at e; cases e
  rw [hsub j hj]; exact e
 ·rintro b ⟨j, cs, d, e1, e2, e3⟩
  obtain ⟨i, a1, a2, a3⟩ := get j _ e1
  exact st.own b ⟨i, _, d, a2, a3.symm.trans e2, e3⟩
 ·obtain ⟨i, a1, a2, a3⟩ := get j _ e
  have hi := st.rok i _ a2
  have hil : i < h.length := (List.getElem?_eq_some_iff.1 hi).1
  have hji : j = i := nodup_inj hn _ _ _ a1 (hid i hil)
  subst hji
  exact st.rok j c (roOk_get hro j c hil (Nat.lt_of_lt_of_le hil st.len) e)
end
end Go.Proofs.Ytahepinbmcgbnaa.Vm
end
section
/- Small memories: a loop whose rounds number the blocks anew. No condition. -/
set_option linter.unusedVariables false
set_option linter.unusedSimpArgs false
namespace Go.Proofs.Ytahepinbmcgbnaa.Vm
open Go.RowKit
def rnT (σ : List Nat) (n : Nat) (t : Tm) : Tm := t.map fun q => (q.1, rnP (ix σ n) q.2)
theorem lk_rnT (σ : List Nat) (n : Nat) : ∀ (t : Tm) (k : Nat) (v : PV), lk t k = some v → lk (rnT σ n t) k = some (rnP (ix σ n) v)
  | [], k, v, e => by simp [lk] at e
  | (m, u) :: t, k, v, e => by
    simp only [lk] at e
    simp only [rnT, List.map_cons, lk]
    split at e
    · rename_i q
      rw [if_pos q]; cases e; rfl
    · rename_i q
      rw [if_neg q]; exact lk_rnT σ n t k v e
/-- Where a round ends: the blocks σ are kept, numbered anew; the first n are the loop's own. -/
def lpP {ι : Type} (n : Nat) (J : ι → Prop) (S : ι → Tm) (H : ι → Hp) (μ : ι → Nat) (i : ι) (K : Cont) : Cont := fun e t h => match e with
  | .nor => ∃ j σ, J j ∧ μ j < μ i ∧ subT (rnT σ h.length (S j)) t ∧ nodup σ = true ∧ n ≤ σ.length ∧ σ.take n = List.range n ∧ same σ h σ (H j) ∧ roOk n (H j) h
  | .exit m => K (.exit m) t h
  | .ret => K .ret t h
  | .pan x => K (.pan x) t h
theorem sw_loopP {P : Program} {N n : Nat} {t : Tm} {h : Hp} {c : Code} {K : Cont} {ι : Type} (J : ι → Prop) (S : ι → Tm) (H : ι → Hp) (μ : ι → Nat) (i0 : ι) (hc : cOk N c = true) (hj : J i0) (ht : subT (S i0) t) (hh : h = H i0) (hl : n = h.length)
    (round : ∀ i, J i → W P N c (lpP n J S H μ i K) (S i) (H i)) : SW P N (.loop c) t h K := by
  intro D B0 w0 a0 m0 k0 hd0
  subst hl
  have key : ∀ q i, J i → μ i < q → ∀ (B : Bs) (w : World) (a : Act), Mt B (H i) w → TR N B (S i) a.tmps → a.defers = D → Step B0 h w0 B (H i) w → Code.rounds P c (QK D N B0 h w0 K) q a w := by
    intro q
    induction q with
    | zero => intro i _ hi; omega
    | succ q ih =>
      intro i hJ hi B w a m k hd st
      rw [rounds_succ]
      refine Code.wp_mono ?_ (W_sound c _ _ _ hc (round i hJ) D B w a m k hd)
      intro e a' w' ⟨x, t', h', B', kk, e1, e2, e3, e4, e5⟩
      have s2 := st.trans e5
      cases x with
      | nor =>
        cases e <;> first | exact e1.elim | skip
        obtain ⟨j, σ, g0, g1, g2, hn, hl, htk, hs, hro⟩ := kk
        have k2 := e2.sub g2
        have T : TR N (sub B' σ) (S j) a'.tmps := ⟨k2.size, fun m v e => out_sub e4 (k2.get m _ (lk_rnT σ _ _ m v e))⟩
        have hid : ∀ z, z < h.length → σ[z]? = some z := fun z hz => by
          have : (σ.take h.length)[z]? = some z := by rw [htk]; simp [hz]
          rwa [List.getElem?_take, if_pos hz] at this
        obtain ⟨hlen, hg⟩ := same_get hs
        have hsub : ∀ z, z < h.length → sub B' σ z = B0 z := fun z hz => by
          simp only [sub, hid z hz]
          exact s2.old z hz
        have get : ∀ (z : Nat) (b : Blk), (H j)[z]? = some b → ∃ i, σ[z]? = some i ∧ h'[i]? = some (rnB (ix σ h'.length) b) ∧ sub B' σ z = B' i := fun z b e => by
          have hz : z < σ.length := by rw [hlen]; exact (List.getElem?_eq_some_iff.1 e).1
          obtain ⟨b', h1, h2⟩ := hg z σ[z] (by simp [hz])
          obtain rfl : b = b' := Option.some.inj (e.symm.trans h1)
          exact ⟨σ[z], by simp [hz], h2, by simp [sub, hz]⟩
        refine ih j g0 (by omega) _ w' a' (mt_sub e4 hs hn) T e3 ⟨?_, s2.fr, ?_, by rw [← hlen]; exact hl, hsub, fun z c e => ?_⟩
        · intro z d e
          have hz : z < h.length := by
            rcases Nat.lt_or_ge z h.length with q | q
            · exact q
            · rw [m0.dom z q] at e; cases e
          rw [hsub z hz]; exact e
        · rintro b ⟨z, cs, d, f1, f2, f3⟩
          obtain ⟨i', a1, a2, a3⟩ := get z _ f1
          exact s2.own b ⟨i', _, d, a2, a3.symm.trans f2, f3⟩
        · obtain ⟨i', a1, a2, a3⟩ := get z _ e
          have hi' := s2.rok i' _ a2
          have hil : i' < h.length := (List.getElem?_eq_some_iff.1 hi').1
          have hji : z = i' := nodup_inj hn _ _ _ a1 (hid i' hil)
          subst hji
          exact s2.rok z c (roOk_get hro z c hil (Nat.lt_of_lt_of_le hil s2.len) e)
      | exit n => cases e <;> first | exact e1.elim | exact ⟨.exit n, t', h', B', kk, e1, e2, e3, e4, s2⟩
      | ret => cases e <;> first | exact e1.elim | exact ⟨.ret, t', h', B', kk, e1, e2, e3, e4, s2⟩
      | pan s => cases e <;> first | exact e1.elim | exact ⟨.pan s, t', h', B', kk, e1, e2, e3, e4, s2⟩
  subst hh
  exact wp_loop_rounds (μ i0 + 1) (key _ i0 hj (Nat.lt_succ_self _) B0 w0 a0 m0 (k0.sub ht) hd0 (Step.refl _ _ _))
end Go.Proofs.Ytahepinbmcgbnaa.Vm
end
section
/- Small memories: where the rewriting looks, and where not. No condition. -/
set_option linter.unusedVariables false
namespace Go.Proofs.Ytahepinbmcgbnaa.Vm
theorem cdW_c {v v' : Option PV} {A B : Prop} (e : v = v') : cdW v A B = cdW v' A B := by rw [e]
theorem gd2_c {v v' : Option PV} {b : Bool} {A B : Prop} (e : v = v') : gd2 v b A B = gd2 v' b A B := by rw [e]
theorem stW_c {P : Program} {r r' : Option OR} {d : Option Tmp} {t t' : Tm} {F : Tm → Hp → Prop} {K : Cont} (e : r = r') (q : t = t') : stW P r d t F K = stW P r' d t' F K := by rw [e, q]
theorem WC_c {P : Program} {f : FuncId} {a a' : List PV} {h h' : Hp} {K : Out → Hp → Prop} (e : a = a') (q : h = h') : WC P f a h K = WC P f a' h' K := by rw [e, q]
theorem SW_c {P : Program} {N : Nat} {c : Code} {t t' : Tm} {h h' : Hp} {K : Cont} (e : t = t') (q : h = h') : SW P N c t h K = SW P N c t' h' K := by rw [e, q]
theorem SWn_c {P : Program} {N : Nat} {c : Code} {n : Nat} {t t' : Tm} {h h' : Hp} {K : Cont} (e : t = t') (q : h = h') : SWn P N c n t h K = SWn P N c n t' h' K := by rw [e, q]
end Go.Proofs.Ytahepinbmcgbnaa.Vm
end
section
/- Small memories: how the reckoning goes, as rewrite rules, with the ways not yet chosen kept shut. No condition. -/
set_option linter.unusedVariables false
set_option linter.unusedSimpArgs false
namespace Go.Proofs.Ytahepinbmcgbnaa.Vm
open Go.RowKit
/-- A test, its ways shut. -/
def cdC (v : Option PV) (P : Program) (N : Nat) (x y : Code) (K : Cont) (t : Tm) (h : Hp) : Prop := cdW v (W P N x K t h) (W P N y K t h)
/-- A guard, its ways shut. -/
def gdC (v : Option PV) (want : Bool) (P : Program) (all : List Oper) (op : Op) (d : Option Tmp) (r : List Oper) (K : Cont) (t : Tm) (h : Hp) : Prop :=
 gd2 v want (stW P (opR P t h op) d t (WO P all K r) K) (WO P all K r (rmO t d) h)
theorem vmP2 :
  (∀ (P : Program) (N : Nat) (K : Cont) (t : Tm) (h : Hp), W P N .skip K t h = K .nor t h) ∧
  (∀ (P : Program) (N : Nat) (x y : Code) (K : Cont) (t : Tm) (h : Hp), W P N (.seq x y) K t h = W P N x (sqK (W P N y K) K) t h) ∧
  (∀ (P : Program) (N : Nat) (c : Operand) (x y : Code) (K : Cont) (t : Tm) (h : Hp), W P N (.cond c x y) K t h = cdC (ev t c) P N x y K t h) ∧
  (∀ (P : Program) (N : Nat) (id : Nat) (c : Code) (K : Cont) (t : Tm) (h : Hp), W P N (.block id c) K t h = W P N c (blK id K) t h) ∧
  (∀ (P : Program) (N : Nat) (id : Nat) (K : Cont) (t : Tm) (h : Hp), W P N (.exit id) K t h = K (.exit id) t h) ∧
  (∀ (P : Program) (N : Nat) (K : Cont) (t : Tm) (h : Hp), W P N .ret K t h = K .ret t h) ∧
  (∀ (P : Program) (N : Nat) (id : Nat) (l : List Oper) (K : Cont) (t : Tm) (h : Hp), W P N (.region id l.toArray false) K t h = WO P l K l t h) ∧
  (∀ (P : Program) (all : List Oper) (K : Cont) (t : Tm) (h : Hp), WO P all K [] t h = K .nor t h) ∧
  (∀ (P : Program) (all : List Oper) (op : Op) (ty : TypeId) (d : Option Tmp) (p : String) (af : Array Edge) (r : List Oper) (K : Cont) (t : Tm) (h : Hp),
   WO P all K ({ dst := d, op := op, type := ty, pos := p, after := af, guard := none } :: r) t h = stW P (opR P t h op) d t (WO P all K r) K) ∧
  (∀ (P : Program) (all : List Oper) (op : Op) (ty : TypeId) (d : Option Tmp) (p : String) (af : Array Edge) (j : Nat) (want : Bool) (r : List Oper) (K : Cont) (t : Tm) (h : Hp),
   WO P all K ({ dst := d, op := op, type := ty, pos := p, after := af, guard := some (j, want) } :: r) t h = gdC (gval all t j) want P all op d r K t h) ∧
  (∀ (F : Tm → Hp → Prop) (K : Cont) (t : Tm) (h : Hp), sqK F K .nor t h = F t h) ∧
  (∀ (F : Tm → Hp → Prop) (K : Cont) (t : Tm) (h : Hp), sqK F K .ret t h = K .ret t h) ∧
  (∀ (F : Tm → Hp → Prop) (K : Cont) (n : Nat) (t : Tm) (h : Hp), sqK F K (.exit n) t h = K (.exit n) t h) ∧
  (∀ (F : Tm → Hp → Prop) (K : Cont) (x : SV) (t : Tm) (h : Hp), sqK F K (.pan x) t h = K (.pan x) t h) ∧
  (∀ (id : Nat) (K : Cont) (t : Tm) (h : Hp), blK id K .nor t h = K .nor t h) ∧
  (∀ (id : Nat) (K : Cont) (t : Tm) (h : Hp), blK id K .ret t h = K .ret t h) ∧
  (∀ (id n : Nat) (K : Cont) (t : Tm) (h : Hp), blK id K (.exit n) t h = if n = id then K .nor t h else K (.exit n) t h) ∧
  (∀ (id : Nat) (K : Cont) (x : SV) (t : Tm) (h : Hp), blK id K (.pan x) t h = K (.pan x) t h) ∧
  (∀ (P : Program) (rs : List ResultVar) (K : Out → Hp → Prop) (t : Tm) (h : Hp), enK P rs K .nor t h = resK (resR P t h rs) K h) ∧
  (∀ (P : Program) (rs : List ResultVar) (K : Out → Hp → Prop) (t : Tm) (h : Hp), enK P rs K .ret t h = resK (resR P t h rs) K h) ∧
  (∀ (P : Program) (rs : List ResultVar) (K : Out → Hp → Prop) (x : SV) (t : Tm) (h : Hp), enK P rs K (.pan x) t h = K (.pan x) h) ∧
  (∀ (d : Option Tmp) (t : Tm) (F : Tm → Hp → Prop) (K : Cont) (v : PV) (h : Hp), kC d t F K (.ret v) h = F (pt t d v) h) ∧
  (∀ (d : Option Tmp) (t : Tm) (F : Tm → Hp → Prop) (K : Cont) (x : SV) (h : Hp), kC d t F K (.pan x) h = K (.pan x) t h) := by
 refine ⟨?_, ?_, ?_, ?_, ?_, ?_, ?_, ?_, ?_, ?_, ?_, ?_, ?_, ?_, ?_, ?_, ?_, ?_, ?_, ?_, ?_, ?_, ?_⟩ <;> intros <;> first | rfl | exact W_region _ _
theorem vmQ2 :
  (∀ (P : Program) (N : Nat) (x y : Code) (K : Cont) (t : Tm) (h : Hp), cdC (some (.s (.a (.bool true)))) P N x y K t h = W P N x K t h) ∧
  (∀ (P : Program) (N : Nat) (x y : Code) (K : Cont) (t : Tm) (h : Hp), cdC (some (.s (.a (.bool false)))) P N x y K t h = W P N y K t h) ∧
  (∀ (P : Program) (all : List Oper) (op : Op) (d : Option Tmp) (r : List Oper) (K : Cont) (t : Tm) (h : Hp), gdC (some (.s (.a (.bool true)))) true P all op d r K t h = stW P (opR P t h op) d t (WO P all K r) K) ∧
  (∀ (P : Program) (all : List Oper) (op : Op) (d : Option Tmp) (r : List Oper) (K : Cont) (t : Tm) (h : Hp), gdC (some (.s (.a (.bool false)))) false P all op d r K t h = stW P (opR P t h op) d t (WO P all K r) K) ∧
  (∀ (P : Program) (all : List Oper) (op : Op) (d : Option Tmp) (r : List Oper) (K : Cont) (t : Tm) (h : Hp), gdC (some (.s (.a (.bool true)))) false P all op d r K t h = WO P all K r (rmO t d) h) ∧
  (∀ (P : Program) (all : List Oper) (op : Op) (d : Option Tmp) (r : List Oper) (K : Cont) (t : Tm) (h : Hp), gdC (some (.s (.a (.bool false)))) true P all op d r K t h = WO P all K r (rmO t d) h) ∧
  (∀ (l : Array Value) (want : Bool) (P : Program) (all : List Oper) (op : Op) (d : Option Tmp) (r : List Oper) (K : Cont) (t : Tm) (h : Hp), gdC (some (.s (.a (.tuple l)))) want P all op d r K t h = WO P all K r (rmO t d) h) := by
 refine ⟨?_, ?_, ?_, ?_, ?_, ?_, ?_⟩ <;> intros <;> first | rfl | simp [gdC, gd2]
section
variable {P : Program} {N : Nat} {x y : Code} {K : Cont} {t : Tm} {h : Hp} {all : List Oper} {op : Op} {d : Option Tmp} {r : List Oper}
@[congr] theorem cdC_congr {v v' : Option PV} (e : v = v') : cdC v P N x y K t h = cdC v' P N x y K t h := by rw [e]
@[congr] theorem gdC_congr {v v' : Option PV} {want : Bool} (e : v = v') : gdC v want P all op d r K t h = gdC v' want P all op d r K t h := by rw [e]
theorem cdC_split {b : Bool} (X : b = true → W P N x K t h) (Y : b = false → W P N y K t h) : cdC (some (.s (.a (.bool b)))) P N x y K t h := cdW_split X Y
theorem gdC_split {b : Bool} {want : Bool} (X : b = want → stW P (opR P t h op) d t (WO P all K r) K) (Y : b = !want → WO P all K r (rmO t d) h) : gdC (some (.s (.a (.bool b)))) want P all op d r K t h := by
 cases b <;> cases want <;> first | exact X rfl | exact Y rfl
theorem gdC_sp {b : Bool} {want : Bool} (X : b = true → gdC (some (.s (.a (.bool true)))) want P all op d r K t h) (Y : b = false → gdC (some (.s (.a (.bool false)))) want P all op d r K t h) : gdC (some (.s (.a (.bool b)))) want P all op d r K t h := by
 cases b
 ·exact Y rfl
 ·exact X rfl
end
theorem ml1 : (1 ≤ maxLen) = True := by simp [maxLen]
theorem ml2 : (2 ≤ maxLen) = True := by simp [maxLen]
theorem ml3 : (3 ≤ maxLen) = True := by simp [maxLen]
/-- Of rows: what the reckoning and the renumbering of blocks ask. -/
theorem nrA {α β : Type} :
  (∀ (a : α) (l : List α), (a :: l).length = l.length + 1) ∧ (([] : List α).length = 0) ∧ (∀ (n : Nat) (a : α) (l : List α), (a :: l).take (n + 1) = a :: l.take n) ∧ (∀ (l : List α), l.take 0 = []) ∧ (∀ (n : Nat), ([] : List α).take n = []) ∧
  (∀ (n : Nat) (a : α) (l : List α), (a :: l).drop (n + 1) = l.drop n) ∧ (∀ (l : List α), l.drop 0 = l) ∧ (∀ (n : Nat), ([] : List α).drop n = []) ∧ (∀ (f : α → β) (a : α) (l : List α), (a :: l).map f = f a :: l.map f) ∧ (∀ (f : α → β), ([] : List α).map f = []) ∧
  (∀ (n : Nat), ([] : List α)[n]? = none) ∧ (∀ (a : α) (l : List α), (a :: l)[0]? = some a) ∧ (∀ (n : Nat) (a : α) (l : List α), (a :: l)[n + 1]? = l[n]?) ∧ (∀ (a b : α) (l : List α), (a :: l).set 0 b = b :: l) ∧ (∀ (n : Nat) (a b : α) (l : List α), (a :: l).set (n + 1) b = a :: l.set n b) ∧
  (∀ (a : α) (l r : List α), (a :: l) ++ r = a :: (l ++ r)) ∧ (∀ (l : List α), [] ++ l = l) ∧ (∀ (l : List α), l ++ [] = l) := by
 refine ⟨?_, ?_, ?_, ?_, ?_, ?_, ?_, ?_, ?_, ?_, ?_, ?_, ?_, ?_, ?_, ?_, ?_, ?_⟩ <;> intros <;> simp
end Go.Proofs.Ytahepinbmcgbnaa.Vm
end
