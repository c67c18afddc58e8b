/- The interpreter of compiled code over an abstract heap, and its law: what it finds, the model does. Part 2. No condition. -/
import Derived.Test.YtjjdlnghohnhhaaGreatDoorA1
namespace Go.Ab
open Go

/-- every machine is let in; a frame of a function, or of a round -/
def Wd (ro : Option Nat) : Fence := { fn := fun _ => True, depth := none, alive := false, round := ro }

abbrev Kt := Value → List Value → St → Value → St → Prop

section
variable {P : Program} {E : Env} {ι : Inj} {σ : St} {w : World}
/-- how a call ends -/
def Gives (R : Value → World → Prop) : Ending → World → Prop
  | .returned v, w => R v w
  | _, _ => False
def NextGives (P : Program) (R : Value → World → Prop) : Result Next → Prop
  | .ok (.value v) w => R v w
  | .ok (.enter f args) w => CallsIn (Wd none) 0 P f args w (Gives R)
  | .ok (.round l f tmps assign body) w => RoundIn (Wd none) 0 P l f tmps assign body w (Gives R)
  | _ => False
/-- a function value called -/
def CallV (P : Program) (f : Value) (args : List Value) (w : World) (R : Value → World → Prop) : Prop :=
  NextGives P R ((do let d ← Deferred.ofValue f args.toArray; invoke d.target d.args : Sem Next).run P w)
def Post (P : Program) (E : Env) (ι : Inj) (σ : St) (w : World) (v : Value) (τ : St) (v' : Value) (w' : World) : Prop :=
  ∃ κ, VRel κ v v' ∧ Rel P E κ τ w' ∧ Ext ι σ w κ τ w'
def KOk (P : Program) (E : Env) (K : Kt) : Prop :=
  ∀ f vs σ v τ, K f vs σ v τ → ∀ ι w f' vs', Rel P E ι σ w → VRel ι f f' → VRels ι vs vs' → CallV P f' vs' w (Post P E ι σ w v τ)

def fnV (f : FuncId) : Value := .func (.func f) #[] #[]
/-- an operation, its calls told by K -/
def OpK (E : Env) (K : Kt) (o : AOp) (r : Regs) (σ : St) (v : Value) (τ : St) : Prop :=
  match o with
  | .call f args => ∃ vs, evs args r σ = some vs ∧ K (fnV f) vs σ v τ
  | .callV f args => ∃ fv vs, ev f r σ = some fv ∧ evs args r σ = some vs ∧ K fv vs σ v τ
  | .invoke recv name args => ∃ t x vs f, ev recv r σ = some (.iface t x) ∧ evs args r σ = some vs ∧ methodOf E t name = some f ∧ K (fnV f) (x :: vs) σ v τ
  | o => doOp E (fun _ _ _ => .fail) o r σ = .ok v τ

theorem callMethod_run (hE : EOk P E) {t : TypeId} {name : String} {f : FuncId} (h : methodOf E t name = some f) (v : Value) (args : Array Value) :
    (callMethod (.iface t v) name args).run P w = (callFunc f (#[v] ++ args)).run P w := by
  unfold methodOf at h
  split at h
  · rename_i i hi
    split at h
    · rename_i m hm
      split at h
      · rename_i g d hp hf hd
        have hu := under_of hE hd
        have hmm : i.methods.find? (fun m => m.name == name) = some m := by rw [← Array.find?_toList]; exact hm
        have hpath : m.path = #[] := by simpa using hp
        have hti : P.info? t = some i := info_of hE hi
        have hfg : g = f ∧ ∀ x, d ≠ .pointer x := by
          cases d <;> simp at h <;> exact ⟨h, by simp⟩
        obtain ⟨rfl, hnp⟩ := hfg
        have hr (s : Option String) : (receiverAt t (.val v) false s).run P w = .ok v w := by
          cases d <;> first | exact absurd rfl (hnp _) | simp [receiverAt, run_underlying' hu, Place.get]
        have key (n : Nat) : (method (n + 1) t v name).run P w = .ok (g, v) w := by
          simp [method, run_typeInfo' hti, hmm, hpath, follow, hf, hr, Result.andThen]
        have h0 : 0 < Made.depth := by decide
        obtain ⟨n, hn⟩ : ∃ n, P.types.size + Made.depth = n + 1 := ⟨P.types.size + Made.depth - 1, by omega⟩
        simp [callMethod, hn, key]
      · cases h
    · cases h
  · cases h
theorem NextGives.mono {R R' : Value → World → Prop} {r : Result Next} (h : NextGives P R r) (hr : ∀ v w, R v w → R' v w) : NextGives P R' r := by
  cases r with
  | ok n w' =>
    cases n <;> simp only [NextGives] at h ⊢
    · exact hr _ _ h
    · exact h.mono fun e w' g => by cases e <;> simp only [Gives] at g ⊢; exact hr _ _ g
    · exact h.mono fun e w' g => by cases e <;> simp only [Gives] at g ⊢; exact hr _ _ g
  | halt x w' => cases x <;> exact h
theorem CallV.mono {f : Value} {args : List Value} {R R' : Value → World → Prop} (h : CallV P f args w R) (hr : ∀ v w, R v w → R' v w) : CallV P f args w R' := NextGives.mono h hr
/-- a call of a function, by its name -/
theorem CallV.fn {f : FuncId} {args : List Value} {R : Value → World → Prop} : CallV P (fnV f) args w R ↔ NextGives P R ((callFunc f args.toArray).run P w) := by
  unfold CallV fnV Deferred.ofValue
  simp [invoke]

/-- what an operation's outcome must be -/
def OpGives (P : Program) (R : Value → World → Prop) : Result Next → Prop
  | .ok .skip w => R undef w
  | r => NextGives P R r
theorem OpGives.of_next {R : Value → World → Prop} {r : Result Next} (h : NextGives P R r) : OpGives P R r := by
  cases r with
  | ok n w' => cases n <;> first | exact h | exact h.elim
  | halt x w' => exact h
theorem OpGives.upon {ro : Option Nat} {o : Oper} {a : Act} {R : Value → World → Prop} {Q : Exit → Act → World → Prop} {r : Result Next} (h : OpGives P R r) :
    o.uponIn (Wd ro) 0 P a (fun a' w' => ∃ v', a' = a.put o.dst v' ∧ R v' w') Q r := by
  have hd : (Wd ro).depth.isSome = true → 1 ≤ 0 := fun h => by cases h
  cases r with
  | ok n w' =>
    cases n <;> simp only [OpGives, NextGives] at h <;> simp only [Oper.uponIn]
    · exact ⟨_, rfl, h⟩
    · exact ⟨_, rfl, h⟩
    · exact ⟨hd, CallsIn.mono h fun e w' g => by cases e <;> simp only [Gives] at g ⊢; exact ⟨_, rfl, g⟩⟩
    · exact ⟨hd, RoundIn.mono h fun e w' g => by cases e <;> simp only [Gives] at g ⊢; exact ⟨_, rfl, g⟩⟩
  | halt x w' => cases x <;> simp only [OpGives, NextGives] at h

def isCall : AOp → Bool
  | .call .. | .callV .. | .invoke .. => true
  | _ => false
def NCall (o : Option AOp) : Prop := ∀ ap, o = some ap → isCall ap = false
theorem NCall.no : NCall none := fun _ h => by cases h
theorem NCall.yes {ap : AOp} (h : isCall ap = false) : NCall (some ap) := fun _ e => by cases e; exact h
theorem NCall.bind {α : Type} {o : Option α} {f : α → Option AOp} (h : ∀ a, NCall (f a)) : NCall (o.bind f) := by
  cases o with
  | none => exact .no
  | some a => exact h a
theorem compEq_call {op : BinOp} {neg : Bool} {t : TypeId} {x y : Operand} : NCall (compEq E op neg t x y) := by
  unfold compEq
  simp only [b2]
  repeat' (first | exact .no | exact .yes rfl | split)
theorem compBuiltin_call {b : Builtin} {l : List Operand} {ts : List TypeId} : NCall (compBuiltin E b l ts) := by
  unfold compBuiltin
  simp only [b2, u1, compLen, compCap, compAppend, compCopy, compClear, cond_eq_ite]
  repeat' (first | exact .no | exact .yes rfl | split)
theorem compOp_call {o : Oper} (hn : ∀ c, o.op ≠ .call c) : NCall (compOp E o) := by
  obtain ⟨dst, op, ty, pos, after, guard⟩ := o
  cases op with
  | call c => exact absurd rfl (hn c)
  | binOp op t x y yt =>
    simp only [compOp]
    split
    · exact compEq_call
    · exact compEq_call
    · exact .yes rfl
  | makeFunc fn first cap => cases fn <;> first | exact .no | exact .yes rfl
  | makeMap t res => cases res <;> first | exact .no | exact .yes rfl
  | _ =>
    simp only [compOp, u1, b2, Option.bind_eq_bind]
    repeat' (first | exact .no | exact .yes rfl | (refine NCall.bind fun _ => ?_) | split)
theorem heapKind_call {ap : AOp} (h : isCall ap = false) : heapKind ap ≠ 4 := by
  cases ap <;> simp [heapKind, isCall] at h ⊢
  split <;> simp
theorem opK_sound (hE : EOk P E) {K : Kt} (hK : KOk P E K) (h : Rel P E ι σ w) {n : Nat} {r : Regs} {a : Act} (hr : RRel ι n r a.tmps) {o : Oper} {ap : AOp} {v : Value} {τ : St}
    (hc : compOp E o = some ap) (hv : OpK E K ap r σ v τ) : OpGives P (Post P E ι σ w v τ) ((execOp a.eval o).run P w) := by
  have other (hk : isCall ap = false) : OpGives P (Post P E ι σ w v τ) ((execOp a.eval o).run P w) := by
    have hv' : doOp E (fun _ _ _ => .fail) ap r σ = .ok v τ := by
      cases ap <;> first | exact hv | cases hk
    obtain ⟨nx, w', κ, h1, h2, h3, h4⟩ := op_sound hE h hr hc (heapKind_call hk) hv'
    rw [h1]
    rcases h2 with ⟨v', rfl, h2⟩ | ⟨rfl, rfl⟩
    · exact ⟨κ, h2, h3, h4⟩
    · exact ⟨κ, .tuple _ _ .nil, h3, h4⟩
  by_cases hk : ∃ c, o.op = .call c
  · obtain ⟨dst, op, ty, pos, after, guard⟩ := o
    obtain ⟨⟨callee, args, argTypes⟩, rfl⟩ := hk
    cases callee with
    | builtin b => exact other (compBuiltin_call _ hc)
    | value f =>
      have main (fv : Value) (vs : List Value) (h1 : VRel ι fv (a.eval f)) (h2 : evs (args.toList.map (opd E)) r σ = some vs) (h3 : K fv vs σ v τ) : OpGives P (Post P E ι σ w v τ) ((execOp a.eval { dst := dst, op := .call { callee := .value f, args := args, argTypes := argTypes }, type := ty, pos := pos, after := after, guard := guard }).run P w) := by
        have g := hK _ _ _ _ _ h3 ι w _ _ h h1 (evs_sound h hr h2)
        refine OpGives.of_next ?_
        unfold CallV at g
        have e : (List.map a.eval args.toList).toArray = args.map a.eval := Array.toList_inj.1 (by rw [Array.toList_map])
        rw [e] at g
        simpa [execOp, resolve] using g
      cases f with
      | func f =>
        simp only [compOp, Option.some.injEq] at hc; subst hc
        obtain ⟨vs, h1, h2⟩ := hv
        exact main (fnV f) vs (.func f _ _ _ _ .nil .nil) h1 h2
      | _ =>
        simp only [compOp, Option.some.injEq] at hc; subst hc
        obtain ⟨fv, vs, h0, h1, h2⟩ := hv
        exact main fv vs (opd_sound h hr h0) h1 h2
    | invoke f m =>
      simp only [compOp, Option.some.injEq] at hc; subst hc
      obtain ⟨t, x, vs, g, h0, h1, h2, h3⟩ := hv
      have g0 := opd_sound h hr h0
      generalize hx : a.eval f = fx at g0
      cases g0 with
      | iface _ _ x' g0 =>
        have g1 := hK _ _ _ _ _ h3 ι w (fnV g) (x' :: args.toList.map a.eval) h (.func g _ _ _ _ .nil .nil) (.cons _ _ _ _ g0 (evs_sound h hr h1))
        rw [CallV.fn] at g1
        refine OpGives.of_next ?_
        have e : ((x' :: List.map a.eval args.toList).toArray : Array Value) = #[x'] ++ args.map a.eval := by simp
        rw [e, ← callMethod_run hE h2] at g1
        have e0 : (#[Value.iface t x'] ++ Array.map a.eval args)[0]? = some (.iface t x') := by rw [Array.getElem?_append_left (by simp)]; rfl
        have e1 : (#[Value.iface t x'] ++ Array.map a.eval args).extract 1 (#[Value.iface t x'] ++ Array.map a.eval args).size = Array.map a.eval args := by
          apply Array.toList_inj.1; simp
          exact List.take_of_length_le (by simp)
        have g2 : (execOp a.eval { dst := dst, op := .call { callee := .invoke f m, args := args, argTypes := argTypes }, type := ty, pos := pos, after := after, guard := guard }).run P w = (callMethod (.iface t x') m (Array.map a.eval args)).run P w := by
          simp only [execOp, resolve, invoke, hx, Sem.run_bind, Sem.run_pure, Result.andThen, e0, e1]
        rw [g2]; exact g1
  · exact other (compOp_call (fun c e => hk ⟨c, e⟩) _ hc)
end
end Go.Ab
namespace Go.Ab
open Go

theorem St.relim_heap (σ : St) (l : Nat) : (σ.relim l).heap = σ.heap := by cases σ; rfl
theorem St.relim_size (σ : St) (l : Nat) : (σ.relim l).size = σ.size := by cases σ; rfl
theorem St.relim_lim (σ : St) (l : Nat) : (σ.relim l).lim = l := by cases σ; rfl
noncomputable def wantedV (g : Option (Pa × Bool)) (r : Regs) : Option Bool :=
  match g with
  | none => some true
  | some (d, b) => match T.getP d r with
    | some (.bool t) => some (t == b)
    | some (.tuple _) => some false
    | _ => none
theorem guarded_inv {g : Option (Pa × Bool)} {f : Regs → St → Out} {r : Regs} {σ : St} {v : Value} {τ : St} (h : guarded g f r σ = .ok v τ) :
    (wantedV g r = some false ∧ v = unitV ∧ τ = σ) ∨ (wantedV g r = some true ∧ f r σ = .ok v τ) := by
  unfold guarded at h
  cases g with
  | none => exact .inr ⟨rfl, h⟩
  | some g =>
    obtain ⟨d, b⟩ := g
    simp only [guardT] at h
    unfold wantedV
    simp only
    generalize T.getP d r = x at h
    split at h
    · cases b with
      | true => exact .inr ⟨rfl, h⟩
      | false => cases h; exact .inl ⟨rfl, rfl, rfl⟩
    · cases b with
      | true => cases h; exact .inl ⟨rfl, rfl, rfl⟩
      | false => exact .inr ⟨rfl, h⟩
    · cases h; exact .inl ⟨rfl, rfl, rfl⟩
    · cases h
/-- an operation with its guard, held apart or not -/
def OperK (E : Env) (K : Kt) (o : AOper) (r : Regs) (σ : St) (v : Value) (τ : St) : Prop :=
  (wantedV o.guard r = some false ∧ v = unitV ∧ τ = σ) ∨
  (wantedV o.guard r = some true ∧
    match o.sl with
    | false => OpK E K o.op r σ v τ
    | true => ∃ τ', OpK E K o.op r (σ.relim σ.size) v τ' ∧ τ = τ'.relim σ.lim)
inductive OpsK (E : Env) (K : Kt) : List AOper → Regs → St → Regs → St → Prop
  | nil (r : Regs) (σ : St) : OpsK E K [] r σ r σ
  | cons (o : AOper) (l : List AOper) (r : Regs) (σ : St) (v : Value) (τ : St) (r' : Regs) (σ' : St) : OperK E K o r σ v τ → OpsK E K l (putR r o.dst v) τ r' σ' → OpsK E K (o :: l) r σ r' σ'
def noSl (o : AOper) : AOper := { o with sl := false }

section
variable {P : Program} {E : Env} {ι : Inj} {σ : St} {w : World}
theorem Rel.relim (h : Rel P E ι σ w) {l : Nat} (hl : l ≤ σ.size) : Rel P E ι (σ.relim l) w where
  dom A L e := by rw [St.relim_size]; exact h.dom A L e
  fresh A e := by rw [St.relim_heap]; rw [St.relim_size] at e; exact h.fresh A e
  lim := by rw [St.relim_lim, St.relim_size]; exact hl
  blk A L b e g := by rw [St.relim_heap] at g; exact h.blk A L b e g
  inj A B L M := by rw [St.relim_heap]; exact h.inj A B L M
  glob := h.glob
theorem Ext.unlid {κ : Inj} {τ : St} {w' : World} (hl : σ.lim ≤ σ.size) (h : Ext ι (σ.relim σ.size) w κ τ w') : Ext ι σ w κ (τ.relim σ.lim) w' where
  le := h.le
  size := by have := h.size; rw [St.relim_size] at this; rw [St.relim_size]; exact this
  lim := St.relim_lim _ _
  keep A hA := by have := h.keep A (by rw [St.relim_lim]; omega); rw [St.relim_heap] at this; rw [St.relim_heap]; exact this
  unmapped A hA hn := by have := h.unmapped A (by rw [St.relim_size]; exact hA) hn; rw [St.relim_heap] at this; rw [St.relim_heap]; exact this
  fresh A L hm hn := by
    rcases h.fresh A L hm hn with hb | ⟨B, M, h1, h2, h3, h4⟩
    · exact .inl hb
    · rw [St.relim_heap] at h4; rw [St.relim_lim] at h3
      exact .inr ⟨B, M, h1, h2, by omega, h4⟩
  wr A hA hw := by have := h.wr A (by rw [St.relim_size]; exact hA); rw [St.relim_heap] at hw this; exact this hw
  lv A hA hw := by have := h.lv A (by rw [St.relim_size]; exact hA); rw [St.relim_heap] at hw this; exact this hw
  frame b hb hf := h.frame b hb fun A L hA hl' hw => by
    rw [St.relim_heap] at hw; rw [St.relim_lim] at hl'
    exact hf A L hA (by omega) hw
  wsize := h.wsize
  os := h.os
  tape := h.tape
  output := h.output
theorem Post.unlid {v v' : Value} {τ : St} {w' : World} (hl : σ.lim ≤ σ.size) (h : Post P E ι (σ.relim σ.size) w v τ v' w') : Post P E ι σ w v (τ.relim σ.lim) v' w' := by
  obtain ⟨κ, h1, h2, h3⟩ := h
  refine ⟨κ, h1, h2.relim ?_, h3.unlid hl⟩
  have := h3.size; rw [St.relim_size] at this; omega
theorem RRel.put {n : Nat} {r : Regs} {a : Act} (hr : RRel ι n r a.tmps) {dst : Option Tmp} {v v' : Value} (hv : VRel ι v v') (hd : ∀ d, dst = some d → d < n) : RRel ι n (putR r (dst.map path) v) (a.put dst v').tmps := by
  cases dst with
  | none => exact hr
  | some d =>
    have hdn := hd d rfl
    obtain ⟨h1, h2⟩ := hr
    refine ⟨by simp [Act.put, h1], fun t u e => ?_⟩
    have e' : T.getP (path t) (T.setP (path d) v r) = some u := e
    by_cases ht : t = d
    · subst ht
      rw [T.getP_setP_self] at e'; cases e'
      exact ⟨v', by simp [Act.put, h1, hdn], hv⟩
    · rw [T.getP_setP_ne _ _ (fun e => ht (path_inj e))] at e'
      obtain ⟨u', g1, g2⟩ := h2 t u e'
      refine ⟨u', ?_, g2⟩
      show (a.tmps.setIfInBounds d v')[t]? = some u'
      rw [Array.getElem?_setIfInBounds_ne (fun e => ht e.symm)]; exact g1
/-- the compiled operation's parts -/
theorem compOper_inv {n : Nat} {ops : Array Oper} {o : Oper} {ao : AOper} (h : noSl ao = compOper E n ops o) {K : Kt} {r : Regs} {v : Value} {τ : St} (hk : OperK E K ao r σ v τ) :
    ao.dst = o.dst.map path ∧ (∀ d, o.dst = some d → d < n) ∧ compOp E o = some ao.op ∧
    (match o.guard with
     | none => ao.guard = none
     | some (j, c) => ∃ d, (ops[j]?).bind (·.dst) = some d ∧ ao.guard = some (path d, c)) := by
  obtain ⟨dst, guard, sl, op⟩ := ao
  have nobad (s : String) (hg : guard = none) (ho : op = .bad s) : False := by
    subst hg ho
    rcases hk with ⟨h1, _⟩ | ⟨_, h2⟩
    · cases h1
    · cases sl with
      | false => cases h2
      | true => obtain ⟨τ', h3, _⟩ := h2; cases h3
  unfold compOper noSl at h
  simp only at h
  split at h
  · rename_i d hd
    cases hb : (!Nat.blt d n) with
    | true => rw [hb, cond_true] at h; injection h with _ h2 _ h4; exact (nobad _ h2 h4).elim
    | false =>
      rw [hb, cond_false] at h
      have hdn : d < n := by simpa [Nat.blt_eq] using hb
      split at h
      · rename_i g ap hg hap
        injection h with h1 h2 h3 h4
        subst h1 h2 h4
        refine ⟨rfl, fun d' e => by rw [hd] at e; cases e; exact hdn, hap, ?_⟩
        split at hg
        · rename_i e; cases hg; rw [e]
        · rename_i j c e
          split at hg
          · rename_i d' hd'; cases hg; rw [e]; exact ⟨d', hd', rfl⟩
          · cases hg
      · injection h with _ h2 _ h4; exact (nobad _ h2 h4).elim
  · rename_i hd
    rw [cond_false] at h
    split at h
    · rename_i g ap hg hap
      injection h with h1 h2 h3 h4
      subst h1 h2 h4
      refine ⟨rfl, (fun d' e => by rw [hd] at e; cases e), hap, ?_⟩
      split at hg
      · rename_i e; cases hg; rw [e]
      · rename_i j c e
        split at hg
        · rename_i d' hd'; cases hg; rw [e]; exact ⟨d', hd', rfl⟩
        · cases hg
    · injection h with _ h2 _ h4; exact (nobad _ h2 h4).elim
theorem wanted_sound {n : Nat} {r : Regs} {a : Act} (hr : RRel ι n r a.tmps) {ops : Array Oper} {o : Oper} {g : Option (Pa × Bool)}
    (hg : match o.guard with
     | none => g = none
     | some (j, c) => ∃ d, (ops[j]?).bind (·.dst) = some d ∧ g = some (path d, c)) {b : Bool} (hw : wantedV g r = some b) : Region.wanted o (yielded ops a.tmps) = b := by
  unfold Region.wanted
  split at hg
  · rename_i e
    subst hg; rw [e]; cases hw; rfl
  · rename_i j c e
    obtain ⟨d, h1, rfl⟩ := hg
    rw [e]
    simp only [yielded, h1, Option.bind_some]
    unfold wantedV at hw
    simp only at hw
    split at hw
    · rename_i t ht
      obtain ⟨v', g1, g2⟩ := hr.2 d _ ht
      cases g2
      cases hw
      rw [g1]
      cases t <;> cases c <;> rfl
    · rename_i vs ht
      obtain ⟨v', g1, g2⟩ := hr.2 d _ ht
      cases g2
      cases hw
      rw [g1]; rfl
    · cases hw
theorem oper_sound (hE : EOk P E) {K : Kt} (hK : KOk P E K) {ro : Option Nat} {Q : Exit → Act → World → Prop} (h : Rel P E ι σ w) {n : Nat} {r : Regs} {a : Act} (hr : RRel ι n r a.tmps) {ops : Array Oper} {i : Nat} {o : Oper} {ao : AOper} {v : Value} {τ : St}
    (ho : ops[i]? = some o) (hao : noSl ao = compOper E n ops o) (hv : OperK E K ao r σ v τ) :
    wpOpIn (Wd ro) 0 P ops Q i (fun a' w' => ∃ v', a' = a.put o.dst v' ∧ Post P E ι σ w v τ v' w') a w := by
  obtain ⟨_, _, h3, h4⟩ := compOper_inv hao hv
  unfold wpOpIn
  rw [ho]
  simp only
  rcases hv with ⟨hw, rfl, rfl⟩ | ⟨hw, hv⟩
  · rw [wanted_sound hr h4 hw]
    simp only [Bool.false_eq_true, if_false]
    exact ⟨fun _ _ => trivial, _, rfl, ι, .tuple _ _ .nil, h, Ext.refl _ _ _⟩
  · rw [wanted_sound hr h4 hw]
    simp only [if_true]
    refine ⟨fun _ _ => trivial, ?_⟩
    have hs : o.semAt (Wd ro).round a.eval = execOp a.eval o := Oper.semAt_eq _ _ _ fun c hc => by
      obtain ⟨dst, op, ty, pos, after, guard⟩ := o
      simp only at hc; subst hc
      cases h3
    rw [hs]
    cases hsl : ao.sl with
    | false =>
      rw [hsl] at hv
      exact OpGives.upon (opK_sound hE hK h hr h3 hv)
    | true =>
      rw [hsl] at hv
      obtain ⟨τ', hv, rfl⟩ := hv
      have g := opK_sound hE hK (h.relim (Nat.le_refl _)) hr h3 hv
      refine OpGives.upon ?_
      generalize (execOp a.eval o).run P w = res at g
      have imp : ∀ v' w', Post P E ι (σ.relim σ.size) w v τ' v' w' → Post P E ι σ w v (τ'.relim σ.lim) v' w' := fun _ _ p => p.unlid h.lim
      cases res with
      | ok nx w' =>
        cases nx <;> simp only [OpGives] at g ⊢ <;> first | exact imp _ _ g | exact NextGives.mono g imp
      | halt x w' => exact g.elim
/-- what a piece of code leaves -/
def CodePost (P : Program) (E : Env) (ι : Inj) (σ : St) (w : World) (n : Nat) (ds : List Deferred) (r' : Regs) (σ' : St) (a' : Act) (w' : World) : Prop :=
  ∃ κ, RRel κ n r' a'.tmps ∧ Rel P E κ σ' w' ∧ Ext ι σ w κ σ' w' ∧ a'.defers = ds
theorem ops_sound (hE : EOk P E) {K : Kt} (hK : KOk P E K) {ro : Option Nat} {Q : Exit → Act → World → Prop} {n : Nat} {ops : Array Oper} : ∀ (l : List AOper) (k : Nat) (r : Regs) (σ : St) (r' : Regs) (σ' : St) (ι : Inj) (a : Act) (w : World),
    OpsK E K l r σ r' σ' → l.map noSl = (ops.toList.drop k).map (compOper E n ops) → Rel P E ι σ w → RRel ι n r a.tmps →
    (∀ a' w', CodePost P E ι σ w n a.defers r' σ' a' w' → Q .normal a' w') → wpOpsIn (Wd ro) 0 P ops Q (List.range' k (ops.size - k)) a w := by
  intro l
  induction l with
  | nil =>
    intro k r σ r' σ' ι a w hk hl h hr hq
    cases hk
    have : ops.size - k = 0 := by
      have := congrArg List.length hl
      simp at this; omega
    rw [this]
    exact hq a w ⟨ι, hr, h, Ext.refl _ _ _, rfl⟩
  | cons ao l ih =>
    intro k r σ r' σ' ι a w hk hl h hr hq
    cases hk with
    | cons _ _ _ _ v τ _ _ hv hk =>
      have hlt : k < ops.size := by
        have := congrArg List.length hl
        simp at this; omega
      have hd : ops.toList.drop k = ops[k] :: ops.toList.drop (k + 1) := by
        rw [List.drop_eq_getElem_cons (by simpa using hlt)]; rfl
      rw [hd] at hl
      simp only [List.map_cons, List.cons.injEq] at hl
      have hsz : ops.size - k = (ops.size - (k + 1)) + 1 := by omega
      rw [hsz, List.range'_succ, wpOpsIn_cons]
      have ho : ops[k]? = some ops[k] := by simp [hlt]
      obtain ⟨c1, c2, _, _⟩ := compOper_inv hl.1 hv
      refine wpOpIn_mono ?_ (oper_sound hE hK h hr ho hl.1 hv)
      rintro a' w' ⟨v', rfl, κ, g1, g2, g3⟩
      refine ih (k + 1) _ τ r' σ' κ _ w' hk hl.2 g2 (c1 ▸ (hr.mono g3.le).put g1 c2) ?_
      rintro a'' w'' ⟨μ, m1, m2, m3, m4⟩
      refine hq a'' w'' ⟨μ, m1, m2, g3.trans h m3, ?_⟩
      rw [m4]
      cases ops[k].dst <;> rfl
end
end Go.Ab
namespace Go.Ab
open Go

section
variable {P : Program} {E : Env} {ι κ : Inj} {σ τ : St} {w w' : World}
/-- no live abstract block lies at the concrete block b -/
def Priv (ι : Inj) (σ : St) (b : Nat) : Prop := ∀ B M, ι B = some M → live (σ.heap.get B) = true → M.blk ≠ b
theorem Priv.ext (hr : Rel P E ι σ w) {b : Nat} (h : Priv ι σ b) (hb : b < w.heap.size) (e : Ext ι σ w κ τ w') : Priv κ τ b ∧ w'.heap[b]? = w.heap[b]? := by
  refine ⟨fun B M hB hl => ?_, e.frame b hb fun A L hA _ hw => h A L hA (writable_live hw)⟩
  cases hι : ι B with
  | some M' =>
    have := e.le B M' hι
    rw [hB] at this; cases this
    exact h B M hι (e.lv B (hr.dom B M hι).1 hl)
  | none =>
    rcases e.fresh B M hB hι with hf | ⟨C, N, h1, h2, h3, h4⟩
    · omega
    · rw [← h2]; exact h C N h1 (writable_live h4)
/-- a concrete block that no live abstract block lies at may change -/
theorem Rel.setB (h : Rel P E ι σ w) {b : Nat} (hp : Priv ι σ b) (ho : ∀ k, k ≠ b → w'.heap[k]? = w.heap[k]?) (hs : w'.heap.size = w.heap.size) : Rel P E ι σ w' where
  dom A L e := by rw [hs]; exact h.dom A L e
  fresh := h.fresh
  lim := h.lim
  blk A L c e g := by
    by_cases hl : live (some c) = true
    · rw [ho _ (hp A L e (by rw [g]; exact hl))]; exact h.blk A L c e g
    · cases c with
      | dead => trivial
      | _ => simp [live] at hl
  inj := h.inj
  glob := h.glob
/-- more concrete blocks -/
theorem Rel.grow (h : Rel P E ι σ w) (ho : ∀ k, k < w.heap.size → w'.heap[k]? = w.heap[k]?) (hs : w.heap.size ≤ w'.heap.size) : Rel P E ι σ w' where
  dom A L e := ⟨(h.dom A L e).1, Nat.lt_of_lt_of_le (h.dom A L e).2 hs⟩
  fresh := h.fresh
  lim := h.lim
  blk A L c e g := by rw [ho _ (h.dom A L e).2]; exact h.blk A L c e g
  inj := h.inj
  glob := h.glob
/-- a block that is given up -/
theorem Rel.kill (h : Rel P E ι σ w) {A : Nat} (hA : A < σ.size) : Rel P E ι (σ.put A .dead) w where
  dom B L e := by rw [St.put_size]; exact h.dom B L e
  fresh B e := by
    rw [St.put_size] at e; rw [St.put_heap, T.get_set_ne _ _ (by omega)]; exact h.fresh B e
  lim := by rw [St.put_lim, St.put_size]; exact h.lim
  blk B L c e g := by
    rw [St.put_heap] at g
    by_cases hB : B = A
    · subst hB; rw [T.get_set_self] at g; cases g; trivial
    · rw [T.get_set_ne _ _ hB] at g; exact h.blk B L c e g
  inj B C L M hne hB hC hw hl := by
    rw [St.put_heap] at hw hl
    have hBA : B ≠ A := by intro e; subst e; rw [T.get_set_self] at hw; cases hw
    have hCA : C ≠ A := by intro e; subst e; rw [T.get_set_self] at hl; cases hl
    rw [T.get_set_ne _ _ hBA] at hw; rw [T.get_set_ne _ _ hCA] at hl
    exact h.inj B C L M hne hB hC hw hl
  glob := h.glob
theorem Priv.kill (h : Rel P E ι σ w) {A : Nat} {L : Loc} (hA : ι A = some L) (hw : writable (σ.heap.get A) = true) : Priv ι (σ.put A .dead) L.blk := by
  intro B M hB hl
  rw [St.put_heap] at hl
  have hBA : B ≠ A := by intro e; subst e; rw [T.get_set_self] at hl; cases hl
  rw [T.get_set_ne _ _ hBA] at hl
  exact Ne.symm (h.inj A B L M (Ne.symm hBA) hA hB hw hl)
theorem Ext.kill (h : Ext ι σ w κ τ w') {A : Nat} (hA : σ.lim ≤ A) (hm : ι A ≠ none ∨ σ.size ≤ A) : Ext ι σ w κ (τ.put A .dead) w' where
  le := h.le
  size := by rw [St.put_size]; exact h.size
  lim := by rw [St.put_lim]; exact h.lim
  keep B hB := by rw [St.put_heap, T.get_set_ne _ _ (by omega)]; exact h.keep B hB
  unmapped B hB hn := by
    rw [St.put_heap, T.get_set_ne _ _ (by intro e; subst e; rcases hm with hm | hm; exact hm hn; omega)]; exact h.unmapped B hB hn
  fresh := h.fresh
  wr B hB hw := by
    rw [St.put_heap] at hw
    by_cases hBA : B = A
    · subst hBA; rw [T.get_set_self] at hw; cases hw
    · rw [T.get_set_ne _ _ hBA] at hw; exact h.wr B hB hw
  lv B hB hw := by
    rw [St.put_heap] at hw
    by_cases hBA : B = A
    · subst hBA; rw [T.get_set_self] at hw; cases hw
    · rw [T.get_set_ne _ _ hBA] at hw; exact h.lv B hB hw
  frame := h.frame
  wsize := h.wsize
  os := h.os
  tape := h.tape
  output := h.output
/-- a dead block that is taken up again -/
theorem Rel.revive (h : Rel P E κ τ w') {A : Nat} {L : Loc} (hA : κ A = some L) (hp : Priv κ τ L.blk) {b : Blk} (hb : BRel P E κ L b w'.heap[L.blk]?) : Rel P E κ (τ.put A b) w' where
  dom B M e := by rw [St.put_size]; exact h.dom B M e
  fresh B e := by
    rw [St.put_size] at e; have := (h.dom A L hA).1
    rw [St.put_heap, T.get_set_ne _ _ (by omega)]; exact h.fresh B e
  lim := by rw [St.put_lim, St.put_size]; exact h.lim
  blk B M c e g := by
    rw [St.put_heap] at g
    by_cases hB : B = A
    · subst hB; rw [T.get_set_self] at g; cases g; rw [hA] at e; cases e; exact hb
    · rw [T.get_set_ne _ _ hB] at g; exact h.blk B M c e g
  inj B C M N hne hB hC hw hl := by
    rw [St.put_heap] at hw hl
    by_cases hBA : B = A
    · subst hBA
      rw [T.get_set_ne _ _ (Ne.symm hne)] at hl
      rw [hA] at hB; cases hB
      exact Ne.symm (hp C N hC hl)
    · rw [T.get_set_ne _ _ hBA] at hw
      by_cases hCA : C = A
      · subst hCA; rw [hA] at hC; cases hC
        exact hp B M hB (writable_live hw)
      · rw [T.get_set_ne _ _ hCA] at hl
        exact h.inj B C M N hne hB hC hw hl
  glob := h.glob
/-- a step on a state in which a block was dead, and the block taken up again -/
theorem Ext.revive (_h : Rel P E ι σ w) {A : Nat} {L : Loc} (hA : ι A = some L) (hw : writable (σ.heap.get A) = true) (hl : σ.lim ≤ A) (e : Ext ι (σ.put A .dead) w κ τ w') (b : Blk) : Ext ι σ w κ (τ.put A b) w' where
  le := e.le
  size := by have := e.size; rw [St.put_size] at this; rw [St.put_size]; exact this
  lim := by have := e.lim; rw [St.put_lim] at this; rw [St.put_lim]; exact this
  keep B hB := by
    have := e.keep B (by rw [St.put_lim]; exact hB)
    rw [St.put_heap, T.get_set_ne _ _ (by omega)] at this
    rw [St.put_heap, T.get_set_ne _ _ (by omega)]; exact this
  unmapped B hB hn := by
    have hBA : B ≠ A := by intro e; subst e; rw [hA] at hn; cases hn
    have := e.unmapped B (by rw [St.put_size]; exact hB) hn
    rw [St.put_heap, T.get_set_ne _ _ hBA] at this
    rw [St.put_heap, T.get_set_ne _ _ hBA]; exact this
  fresh B M hB hn := by
    rcases e.fresh B M hB hn with hf | ⟨C, N, h1, h2, h3, h4⟩
    · exact .inl hf
    · rw [St.put_lim] at h3
      rw [St.put_heap] at h4
      have hCA : C ≠ A := by intro e; subst e; rw [T.get_set_self] at h4; cases h4
      rw [T.get_set_ne _ _ hCA] at h4
      exact .inr ⟨C, N, h1, h2, h3, h4⟩
  wr B hB hw' := by
    by_cases hBA : B = A
    · rw [hBA]; exact hw
    · rw [St.put_heap, T.get_set_ne _ _ hBA] at hw'
      have := e.wr B (by rw [St.put_size]; exact hB) hw'
      rw [St.put_heap, T.get_set_ne _ _ hBA] at this; exact this
  lv B hB hw' := by
    by_cases hBA : B = A
    · rw [hBA]; exact writable_live hw
    · rw [St.put_heap, T.get_set_ne _ _ hBA] at hw'
      have := e.lv B (by rw [St.put_size]; exact hB) hw'
      rw [St.put_heap, T.get_set_ne _ _ hBA] at this; exact this
  frame b' hb hf := e.frame b' hb fun B M hB hl' hw' => by
    rw [St.put_lim] at hl'
    rw [St.put_heap] at hw'
    have hBA : B ≠ A := by intro e; subst e; rw [T.get_set_self] at hw'; cases hw'
    rw [T.get_set_ne _ _ hBA] at hw'
    exact hf B M hB hl' hw'
  wsize := e.wsize
  os := e.os
  tape := e.tape
  output := e.output
/-- what the world does besides, at a block that is nobody's -/
theorem Ext.setB {w'' : World} (h : Ext ι σ w κ τ w') {b : Nat} (ho : ∀ k, k ≠ b → w''.heap[k]? = w'.heap[k]?) (hs : w''.heap.size = w'.heap.size)
    (hb : w.heap.size ≤ b ∨ ∃ A L, ι A = some L ∧ σ.lim ≤ A ∧ writable (σ.heap.get A) = true ∧ L.blk = b) (h1 : w''.os = w'.os) (h2 : w''.tape = w'.tape) (h3 : w''.output = w'.output) : Ext ι σ w κ τ w'' where
  le := h.le
  size := h.size
  lim := h.lim
  keep := h.keep
  unmapped := h.unmapped
  fresh := h.fresh
  wr := h.wr
  lv := h.lv
  frame c hc hf := by
    rw [ho c ?_]; exact h.frame c hc hf
    intro e; subst e
    rcases hb with hb | ⟨A, L, g1, g2, g3, g4⟩
    · omega
    · exact hf A L g1 g2 g3 g4
  wsize := by rw [hs]; exact h.wsize
  os := h1.trans h.os
  tape := h2.trans h.tape
  output := h3.trans h.output
end
end Go.Ab
namespace Go.Ab
open Go

inductive DrawsK (E : Env) (K : Kt) (pairs : List (Nat × Nat)) : List AOper → List (Option Nat × Option Nat) → Regs → St → Regs → St → Prop
  | nil (ts : List (Option Nat × Option Nat)) (r : Regs) (σ : St) : pairs.all (pairOk ts) = true → DrawsK E K pairs [] ts r σ r σ
  | cons (o : AOper) (l : List AOper) (ts : List (Option Nat × Option Nat)) (r : Regs) (σ : St) (v : Value) (τ : St) (r' : Regs) (σ' : St) :
      OperK E K o r σ v τ → DrawsK E K pairs l (ts ++ [touches r σ o]) (putR r o.dst v) τ r' σ' → DrawsK E K pairs (o :: l) ts r σ r' σ'
def DrawRun (E : Env) (K : Kt) (X : ACode) (r : Regs) (σ : St) (r' : Regs) (σ' : St) : Prop :=
  (∃ l, X = .region l ∧ OpsK E K l r σ r' σ') ∨ (∃ l ps, X = .draw l ps ∧ DrawsK E K ps l [] r σ r' σ')
/-- a run of compiled code, its calls told by K -/
inductive Big (E : Env) (K : Kt) : ACode → Regs → St → Ex → Regs → St → Prop
  | skip (r : Regs) (σ : St) : Big E K .skip r σ .normal r σ
  | exit (id : Nat) (r : Regs) (σ : St) : Big E K (.exit id) r σ (.exit id) r σ
  | ret (r : Regs) (σ : St) : Big E K .ret r σ .ret r σ
  | seqN (a b : ACode) (r : Regs) (σ : St) (r₁ : Regs) (σ₁ : St) (x : Ex) (r₂ : Regs) (σ₂ : St) : Big E K a r σ .normal r₁ σ₁ → Big E K b r₁ σ₁ x r₂ σ₂ → Big E K (.seq a b) r σ x r₂ σ₂
  | seqX (a b : ACode) (r : Regs) (σ : St) (x : Ex) (r₁ : Regs) (σ₁ : St) : Big E K a r σ x r₁ σ₁ → x ≠ .normal → Big E K (.seq a b) r σ x r₁ σ₁
  | cond (c : Opd) (a b : ACode) (t : Bool) (r : Regs) (σ : St) (x : Ex) (r₁ : Regs) (σ₁ : St) : ev c r σ = some (.bool t) → Big E K (if t then a else b) r σ x r₁ σ₁ → Big E K (.cond c a b) r σ x r₁ σ₁
  | blockE (id : Nat) (c : ACode) (r : Regs) (σ : St) (r₁ : Regs) (σ₁ : St) : Big E K c r σ (.exit id) r₁ σ₁ → Big E K (.block id c) r σ .normal r₁ σ₁
  | blockX (id : Nat) (c : ACode) (r : Regs) (σ : St) (x : Ex) (r₁ : Regs) (σ₁ : St) : Big E K c r σ x r₁ σ₁ → x ≠ .exit id → Big E K (.block id c) r σ x r₁ σ₁
  | loopN (c : ACode) (r : Regs) (σ : St) (r₁ : Regs) (σ₁ : St) (x : Ex) (r₂ : Regs) (σ₂ : St) : Big E K c r σ .normal r₁ σ₁ → Big E K (.loop c) r₁ σ₁ x r₂ σ₂ → Big E K (.loop c) r σ x r₂ σ₂
  | loopX (c : ACode) (r : Regs) (σ : St) (x : Ex) (r₁ : Regs) (σ₁ : St) : Big E K c r σ x r₁ σ₁ → x ≠ .normal → Big E K (.loop c) r σ x r₁ σ₁
  | region (l : List AOper) (r : Regs) (σ : St) (r₁ : Regs) (σ₁ : St) : OpsK E K l r σ r₁ σ₁ → Big E K (.region l) r σ .normal r₁ σ₁
  | draw (l : List AOper) (ps : List (Nat × Nat)) (r : Regs) (σ : St) (r₁ : Regs) (σ₁ : St) : DrawsK E K ps l [] r σ r₁ σ₁ → Big E K (.draw l ps) r σ .normal r₁ σ₁
  | range (f : Opd) (ps : List Pa) (a b : ACode) (r : Regs) (σ : St) (g : FuncId) (fs cap : Array Value) (v : Value) (τ : St) (r₁ : Regs) (ps₁ : List Pa) (a₁ b₁ : ACode) (res : Option Ex) :
      ev f r σ = some (.func (.func g) fs cap) → (T.get E.funcs g).isSome = true → K (.func (.func g) fs cap) [.func (.yield σ.size) #[] #[]] (σ.new (.loop r ps a b none)) v τ →
      T.get τ.heap σ.size = some (.loop r₁ ps₁ a₁ b₁ res) → Big E K (.rangeFunc f ps a b) r σ (res.getD .normal) r (τ.put σ.size .dead)

  | weak (X : ACode) (r₀ r : Regs) (σ : St) (x : Ex) (r₁ : Regs) (σ₁ : St) : (∀ p v, T.getP p r₀ = some v → T.getP p r = some v) → Big E K X r₀ σ x r₁ σ₁ → Big E K X r σ x r₁ σ₁

def mkd (r : Nat) : Deferred := { target := .collected r, args := #[] }
def exOf : Ex → Exit
  | .normal => .normal
  | .exit id => .exit id
  | .ret => .ret

section
variable {P : Program} {E : Env} {ι κ : Inj} {σ τ : St} {w w' : World}
/-- the marks among the deferred calls -/
def Marks (B : Nat) (ι : Inj) (σ : St) (w : World) (ds : List Deferred) : Prop :=
  B ≤ w.heap.size ∧ ∃ rs : List Nat, ds = rs.map mkd ∧ rs.Nodup ∧ ∀ r ∈ rs, (w.heap[r]? = some (.deferred (some [])) ∧ Priv ι σ r) ∧ B ≤ r
theorem Marks.ext {B : Nat} (hr : Rel P E ι σ w) {ds : List Deferred} (h : Marks B ι σ w ds) (e : Ext ι σ w κ τ w') : Marks B κ τ w' ds := by
  obtain ⟨h0, rs, h1, h2, h3⟩ := h
  refine ⟨Nat.le_trans h0 e.wsize, rs, h1, h2, fun r hm => ?_⟩
  obtain ⟨⟨g1, g2⟩, g3⟩ := h3 r hm
  have hlt : r < w.heap.size := (Array.getElem?_eq_some_iff.1 g1).1
  obtain ⟨k1, k2⟩ := g2.ext hr hlt e
  exact ⟨⟨k2.trans g1, k1⟩, g3⟩
def CodeP (P : Program) (E : Env) (B : Nat) (ι : Inj) (σ : St) (w : World) (n : Nat) (r' : Regs) (σ' : St) (a' : Act) (w' : World) : Prop :=
  ∃ κ, RRel κ n r' a'.tmps ∧ Rel P E κ σ' w' ∧ Ext ι σ w κ σ' w' ∧ Marks B κ σ' w' a'.defers
def DrawOk (P : Program) (E : Env) (K : Kt) : Prop :=
  ∀ (ro : Option Nat) (n id : Nat) (ops : Array Oper) (r : Regs) (σ : St) (r' : Regs) (σ' : St), DrawRun E K (compDraw E n ops) r σ r' σ' →
    ∀ (ι : Inj) (a : Act) (w : World) (Q : Exit → Act → World → Prop), Rel P E ι σ w → RRel ι n r a.tmps → (∀ a' w', CodePost P E ι σ w n a.defers r' σ' a' w' → Q .normal a' w') →
      (Code.region id ops true).wpIn (Wd ro) 0 P Q a w
theorem CodePost.p {B : Nat} (h : Rel P E ι σ w) {n : Nat} {ds : List Deferred} {r' : Regs} {σ' : St} {a' : Act} (hm : Marks B ι σ w ds) (c : CodePost P E ι σ w n ds r' σ' a' w') : CodeP P E B ι σ w n r' σ' a' w' := by
  obtain ⟨κ, h1, h2, h3, h4⟩ := c
  exact ⟨κ, h1, h2, h3, h4 ▸ hm.ext h h3⟩
/-- m rounds of a loop -/
def Rounds (F : Fence) (P : Program) (c : Code) (Q : Exit → Act → World → Prop) : Nat → Act → World → Prop
  | 0 => c.wpIn F 0 P (Exit.then (fun _ _ => False) Q)
  | m + 1 => c.wpIn F 0 P (Exit.then (Rounds F P c Q m) Q)
theorem wpIn_rounds {F : Fence} {c : Code} {Q : Exit → Act → World → Prop} (m : Nat) {a : Act} (h : Rounds F P c Q m a w) : (Code.loop c).wpIn F 0 P Q a w := by
  intro b k cs hro hb hr
  have key : ∀ m a w, Rounds F P c Q m a w →
      ∃ e a' w', Q e a' w' ∧ ArrivesIn (Machine.fenced P F) P (lone (b.atR a (.code c :: .inLoop c :: k)) cs w) b k cs e a' w' := by
    intro m
    induction m with
    | zero =>
      intro a w h
      obtain ⟨e, a₁, w₁, hq, harr⟩ := h b (.inLoop c :: k) cs hro hb hr
      cases e with
      | normal => exact hq.elim
      | exit id => exact ⟨_, a₁, w₁, hq, .pass (x := .inLoop c) rfl (fun _ _ => .inl (by simp)) harr⟩
      | goto l => exact ⟨_, a₁, w₁, hq, .pass (x := .inLoop c) rfl (fun _ _ => .inl (by simp)) harr⟩
      | ret => exact ⟨_, a₁, w₁, hq, .pass (x := .inLoop c) rfl (fun _ _ => .inl (by simp)) harr⟩
      | panic ch => exact ⟨_, a₁, w₁, hq, .pass (x := .inLoop c) rfl (fun _ _ => .inl (by simp)) harr⟩
      | outgrown => exact ⟨_, a₁, w₁, hq, .pass (x := .inLoop c) rfl (fun _ _ => .inl (by simp)) harr⟩
    | succ m ih =>
      intro a w h
      obtain ⟨e, a₁, w₁, hq, harr⟩ := h b (.inLoop c :: k) cs hro hb hr
      cases e with
      | normal =>
        obtain ⟨e₂, a₂, w₂, hq₂, harr₂⟩ := ih a₁ w₁ hq
        exact ⟨e₂, a₂, w₂, hq₂, .of_steps (StepsIn.trans harr (.one (fenced_calm hb hr rfl) stepR_inLoop)) harr₂⟩
      | exit id => exact ⟨_, a₁, w₁, hq, .pass (x := .inLoop c) rfl (fun _ _ => .inl (by simp)) harr⟩
      | goto l => exact ⟨_, a₁, w₁, hq, .pass (x := .inLoop c) rfl (fun _ _ => .inl (by simp)) harr⟩
      | ret => exact ⟨_, a₁, w₁, hq, .pass (x := .inLoop c) rfl (fun _ _ => .inl (by simp)) harr⟩
      | panic ch => exact ⟨_, a₁, w₁, hq, .pass (x := .inLoop c) rfl (fun _ _ => .inl (by simp)) harr⟩
      | outgrown => exact ⟨_, a₁, w₁, hq, .pass (x := .inLoop c) rfl (fun _ _ => .inl (by simp)) harr⟩
  obtain ⟨e, a', w', hq, harr⟩ := key m a w h
  exact ⟨e, a', w', hq, .of_steps (.one (fenced_calm hb hr rfl) stepR_loop) harr⟩

theorem compDraw_cases (E : Env) (n : Nat) (ops : Array Oper) : (∃ s, compDraw E n ops = .bad s) ∨ (∃ l, compDraw E n ops = .region l) ∨ ∃ l ps, compDraw E n ops = .draw l ps := by
  unfold compDraw
  simp only
  generalize (edgesOk 0 ops.toList && pairsGood (dItems 0 (compRegion E n ops) (befs [] ops.toList)) && (compRegion E n ops).all fun o => (flatOp o.op && simpleT E o.op) || Nat.beq (heapKind o.op) 4) = g
  cases g with
  | false => exact .inl ⟨_, rfl⟩
  | true =>
    rw [cond_true]
    split
    · exact .inr (.inl ⟨_, rfl⟩)
    · exact .inr (.inr ⟨_, _, rfl⟩)
/-- the code behind compiled code -/
theorem comp_draw {E : Env} {n : Nat} {ops : Array Oper} {X : ACode} (h : compDraw E n ops = X) : (∃ s, X = .bad s) ∨ (∃ l, X = .region l) ∨ ∃ l ps, X = .draw l ps := h ▸ compDraw_cases E n ops
end
end Go.Ab
namespace Go.Ab
open Go

section
variable {E : Env} {n : Nat}
def CInv (E : Env) (n : Nat) (c : Code) (X : ACode) : Prop :=
    match X with
    | .seq A B => ∃ a b, c = .seq a b ∧ A = comp E n a ∧ B = comp E n b
    | .cond o A B => ∃ x a b, c = .cond x a b ∧ o = opd E x ∧ A = comp E n a ∧ B = comp E n b
    | .block id A => ∃ a, c = .block id a ∧ A = comp E n a
    | .loop A => ∃ a, c = .loop a ∧ A = comp E n a
    | .skip => c = .skip ∨ ∃ l, c = .label l
    | .exit id => c = .exit id
    | .ret => c = .ret
    | .region l => (∃ id ops, c = .region id ops false ∧ l = compRegion E n ops) ∨ ∃ id ops, c = .region id ops true ∧ compDraw E n ops = .region l
    | .draw l ps => ∃ id ops, c = .region id ops true ∧ compDraw E n ops = .draw l ps
    | .rangeFunc f ps A B => ∃ g qs a b, c = .rangeFunc g qs a b ∧ f = opd E g ∧ ps = qs.toList.map path ∧ A = comp E n a ∧ B = comp E n b ∧ (∀ p ∈ qs.toList, p < n) ∧ noRange a = true ∧ noRange b = true
    | _ => True
theorem comp_inv {c : Code} {X : ACode} (h : comp E n c = X) : CInv E n c X := by
  subst h
  cases c with
  | skip => exact .inl rfl
  | label l => exact .inr ⟨l, rfl⟩
  | exit id => rfl
  | ret => rfl
  | seq a b => exact ⟨a, b, rfl, rfl, rfl⟩
  | cond x a b => exact ⟨x, a, b, rfl, rfl, rfl, rfl⟩
  | block id a => exact ⟨a, rfl, rfl⟩
  | loop a => exact ⟨a, rfl, rfl⟩
  | region id ops d =>
    cases d with
    | false => exact .inl ⟨id, ops, rfl, rfl⟩
    | true =>
      have e : comp E n (.region id ops true) = compDraw E n ops := rfl
      rw [e]
      rcases compDraw_cases E n ops with ⟨s, h⟩ | ⟨l, h⟩ | ⟨l, ps, h⟩ <;> rw [h]
      · trivial
      · exact .inr ⟨id, ops, rfl, h⟩
      · exact ⟨id, ops, rfl, h⟩
  | rangeFunc g qs a b =>
    have e : comp E n (.rangeFunc g qs a b) = bif qs.toList.all (fun p => Nat.blt p n) && noRange a && noRange b then .rangeFunc (opd E g) (qs.toList.map path) (comp E n a) (comp E n b) else .bad "range" := rfl
    rw [e]
    cases hb : (qs.toList.all (fun p => Nat.blt p n) && noRange a && noRange b) with
    | false => trivial
    | true =>
      rw [cond_true]
      simp only [Bool.and_eq_true, List.all_eq_true] at hb
      exact ⟨g, qs, a, b, rfl, rfl, rfl, rfl, rfl, fun p hp => Nat.blt_eq.mp (hb.1.1 p hp), hb.1.2, hb.2⟩
  | _ => trivial
end
section
variable {P : Program} {E : Env} {ι κ : Inj} {σ τ : St} {w w' : World}
/-- what a range over a function's rule asks -/
def RangeOk (P : Program) (E : Env) (K : Kt) : Prop :=
  ∀ (n : Nat) (f : Operand) (qs : Array Tmp) (a b : Code) (r : Regs) (σ : St) (g : FuncId) (fs cap : Array Value) (v : Value) (τ : St) (r₁ : Regs) (ps₁ : List Pa) (a₁ b₁ : ACode) (res : Option Ex),
    ev (opd E f) r σ = some (.func (.func g) fs cap) → (T.get E.funcs g).isSome = true → K (.func (.func g) fs cap) [.func (.yield σ.size) #[] #[]] (σ.new (.loop r (qs.toList.map path) (comp E n a) (comp E n b) none)) v τ →
    T.get τ.heap σ.size = some (.loop r₁ ps₁ a₁ b₁ res) → (∀ p ∈ qs.toList, p < n) → noRange a = true → noRange b = true →
    ∀ (B : Nat) (ι : Inj) (ac : Act) (w : World) (Q : Exit → Act → World → Prop), Rel P E ι σ w → RRel ι n r ac.tmps → Marks B ι σ w ac.defers →
      (∀ a' w', CodeP P E B ι σ w n r (τ.put σ.size .dead) a' w' → Q (exOf (res.getD .normal)) a' w') → (Code.rangeFunc f qs a b).wpIn (Wd none) 0 P Q ac w
theorem CodeP.trans {B : Nat} (h : Rel P E ι σ w) (e : Ext ι σ w κ τ w') {n : Nat} {r' : Regs} {σ' : St} {a' : Act} {w'' : World} (c : CodeP P E B κ τ w' n r' σ' a' w'') : CodeP P E B ι σ w n r' σ' a' w'' := by
  obtain ⟨μ, h1, h2, h3, h4⟩ := c
  exact ⟨μ, h1, h2, e.trans h h3, h4⟩

theorem code_sound {B : Nat} (hE : EOk P E) {K : Kt} (hK : KOk P E K) (hD : DrawOk P E K) (hR : RangeOk P E K) {n : Nat} {X : ACode} {r : Regs} {σ : St} {x : Ex} {r' : Regs} {σ' : St} (h : Big E K X r σ x r' σ') :
    (∀ (c : Code), comp E n c = X → ∀ (ro : Option Nat), ro = none ∨ noRange c = true → ∀ (ι : Inj) (a : Act) (w : World) (Q : Exit → Act → World → Prop), Rel P E ι σ w → RRel ι n r a.tmps → Marks B ι σ w a.defers →
      (∀ a' w', CodeP P E B ι σ w n r' σ' a' w' → Q (exOf x) a' w') → c.wpIn (Wd ro) 0 P Q a w) ∧
    (∀ (c : Code), comp E n (.loop c) = X → ∀ (ro : Option Nat), ro = none ∨ noRange c = true → ∃ m, ∀ (ι : Inj) (a : Act) (w : World) (Q : Exit → Act → World → Prop), Rel P E ι σ w → RRel ι n r a.tmps → Marks B ι σ w a.defers →
      (∀ a' w', CodeP P E B ι σ w n r' σ' a' w' → Q (exOf x) a' w') → Rounds (Wd ro) P c Q m a w) := by
  induction h with
  | skip r σ =>
    refine ⟨fun c hc ro hro ι a w Q h hr hm hq => ?_, fun c hc => by cases hc⟩
    have g := hq a w ⟨ι, hr, h, Ext.refl _ _ _, hm⟩
    rcases comp_inv hc with rfl | ⟨l, rfl⟩
    · exact wpIn_skip g
    · exact wpIn_label g
  | exit id r σ =>
    refine ⟨fun c hc ro hro ι a w Q h hr hm hq => ?_, fun c hc => by cases hc⟩
    have g := hq a w ⟨ι, hr, h, Ext.refl _ _ _, hm⟩
    have e : c = .exit id := comp_inv hc
    subst e; exact wpIn_exit g
  | ret r σ =>
    refine ⟨fun c hc ro hro ι a w Q h hr hm hq => ?_, fun c hc => by cases hc⟩
    have g := hq a w ⟨ι, hr, h, Ext.refl _ _ _, hm⟩
    have e : c = .ret := comp_inv hc
    subst e; exact wpIn_ret g
  | seqN A A2 r σ r₁ σ₁ x r₂ σ₂ _ _ ih1 ih2 =>
    refine ⟨fun c hc ro hro ι a w Q h hr hm hq => ?_, fun c hc => by cases hc⟩
    obtain ⟨ca, cb, rfl, rfl, rfl⟩ := comp_inv hc
    simp only [noRange, Bool.and_eq_true] at hro
    refine wpIn_seq (ih1.1 ca rfl ro (hro.imp id (·.1)) ι a w _ h hr hm ?_)
    rintro a' w' ⟨κ, h1, h2, h3, h4⟩
    exact ih2.1 cb rfl ro (hro.imp id (·.2)) κ a' w' Q h2 h1 h4 fun a'' w'' c => hq a'' w'' (c.trans h h3)
  | seqX A A2 r σ x r₁ σ₁ _ hx ih1 =>
    refine ⟨fun c hc ro hro ι a w Q h hr hm hq => ?_, fun c hc => by cases hc⟩
    obtain ⟨ca, cb, rfl, rfl, rfl⟩ := comp_inv hc
    simp only [noRange, Bool.and_eq_true] at hro
    refine wpIn_seq (ih1.1 ca rfl ro (hro.imp id (·.1)) ι a w _ h hr hm ?_)
    intro a' w' g
    have := hq a' w' g
    cases x with
    | normal => exact absurd rfl hx
    | exit id => exact this
    | ret => exact this
  | cond o A A2 t r σ x r₁ σ₁ ho _ ih =>
    refine ⟨fun c hc ro hro ι a w Q h hr hm hq => ?_, fun c hc => by cases hc⟩
    obtain ⟨cx, ca, cb, rfl, rfl, rfl, rfl⟩ := comp_inv hc
    simp only [noRange, Bool.and_eq_true] at hro
    have hv := opd_sound h hr ho
    generalize hcv : a.eval cx = v' at hv
    cases hv
    refine wpIn_cond hcv ?_
    cases t with
    | true => exact ih.1 ca rfl ro (hro.imp id (·.1)) ι a w Q h hr hm hq
    | false => exact ih.1 cb rfl ro (hro.imp id (·.2)) ι a w Q h hr hm hq
  | blockE id A r σ r₁ σ₁ _ ih =>
    refine ⟨fun c hc ro hro ι a w Q h hr hm hq => ?_, fun c hc => by cases hc⟩
    obtain ⟨ca, rfl, rfl⟩ := comp_inv hc
    refine wpIn_block (ih.1 ca rfl ro hro ι a w _ h hr hm ?_)
    intro a' w' g
    show (if id = id then _ else _)
    rw [if_pos rfl]; exact hq a' w' g
  | blockX id A r σ x r₁ σ₁ _ hx ih =>
    refine ⟨fun c hc ro hro ι a w Q h hr hm hq => ?_, fun c hc => by cases hc⟩
    obtain ⟨ca, rfl, rfl⟩ := comp_inv hc
    refine wpIn_block (ih.1 ca rfl ro hro ι a w _ h hr hm ?_)
    intro a' w' g
    have := hq a' w' g
    cases x with
    | normal => exact this
    | ret => exact this
    | exit id' =>
      show (if id' = id then _ else _)
      rw [if_neg (fun e => hx (by rw [e]))]; exact this
  | loopN A r σ r₁ σ₁ x r₂ σ₂ _ _ ih1 ih2 =>
    have key : ∀ (c : Code), comp E n (.loop c) = .loop A → ∀ (ro : Option Nat), ro = none ∨ noRange c = true → ∃ m, ∀ (ι : Inj) (a : Act) (w : World) (Q : Exit → Act → World → Prop), Rel P E ι σ w → RRel ι n r a.tmps → Marks B ι σ w a.defers →
      (∀ a' w', CodeP P E B ι σ w n r₂ σ₂ a' w' → Q (exOf x) a' w') → Rounds (Wd ro) P c Q m a w := by
      intro c hc ro hro
      obtain ⟨m, hm'⟩ := ih2.2 c hc ro hro
      obtain ⟨ca, hca, hA⟩ := comp_inv hc
      cases hca
      refine ⟨m + 1, fun ι a w Q h hr hm hq => ih1.1 c hA.symm ro hro ι a w _ h hr hm ?_⟩
      rintro a' w' ⟨κ, h1, h2, h3, h4⟩
      exact hm' κ a' w' Q h2 h1 h4 fun a'' w'' c => hq a'' w'' (c.trans h h3)
    refine ⟨fun c hc ro hro ι a w Q h hr hm hq => ?_, key⟩
    obtain ⟨ca, rfl, hA⟩ := comp_inv hc
    obtain ⟨m, hm'⟩ := key ca hc ro hro
    exact wpIn_rounds m (hm' ι a w Q h hr hm hq)
  | loopX A r σ x r₁ σ₁ _ hx ih =>
    have key : ∀ (c : Code), comp E n (.loop c) = .loop A → ∀ (ro : Option Nat), ro = none ∨ noRange c = true → ∃ m, ∀ (ι : Inj) (a : Act) (w : World) (Q : Exit → Act → World → Prop), Rel P E ι σ w → RRel ι n r a.tmps → Marks B ι σ w a.defers →
      (∀ a' w', CodeP P E B ι σ w n r₁ σ₁ a' w' → Q (exOf x) a' w') → Rounds (Wd ro) P c Q m a w := by
      intro c hc ro hro
      obtain ⟨ca, hca, hA⟩ := comp_inv hc
      cases hca
      refine ⟨0, fun ι a w Q h hr hm hq => ih.1 c hA.symm ro hro ι a w _ h hr hm ?_⟩
      intro a' w' g
      have := hq a' w' g
      cases x with
      | normal => exact absurd rfl hx
      | exit id => exact this
      | ret => exact this
    refine ⟨fun c hc ro hro ι a w Q h hr hm hq => ?_, key⟩
    obtain ⟨ca, rfl, hA⟩ := comp_inv hc
    obtain ⟨m, hm'⟩ := key ca hc ro hro
    exact wpIn_rounds m (hm' ι a w Q h hr hm hq)
  | region l r σ r₁ σ₁ ho =>
    refine ⟨fun c hc ro hro ι a w Q h hr hm hq => ?_, fun c hc => by cases hc⟩
    rcases comp_inv hc with ⟨id, ops, rfl, rfl⟩ | ⟨id, ops, rfl, hl⟩
    · refine wpIn_region ?_
      rw [List.range_eq_range']
      refine ops_sound hE hK (compRegion E n ops) 0 r σ r₁ σ₁ ι a w ho ?_ h hr fun a' w' g => hq a' w' (g.p h hm)
      unfold compRegion
      rw [List.drop_zero, List.map_map]
      refine List.map_congr_left fun o _ => ?_
      show noSl (compOper E n ops o) = compOper E n ops o
      have : (compOper E n ops o).sl = false := by
        unfold compOper
        split
        · cases (!Nat.blt _ n) with
          | true => rfl
          | false => rw [cond_false]; split <;> rfl
        · rw [cond_false]; split <;> rfl
      unfold noSl; rw [← this]
    · exact hD ro n id ops r σ r₁ σ₁ (.inl ⟨l, hl, ho⟩) ι a w Q h hr fun a' w' g => hq a' w' (g.p h hm)
  | draw l ps r σ r₁ σ₁ ho =>
    refine ⟨fun c hc ro hro ι a w Q h hr hm hq => ?_, fun c hc => by cases hc⟩
    obtain ⟨id, ops, rfl, hl⟩ := comp_inv hc
    exact hD ro n id ops r σ r₁ σ₁ (.inr ⟨l, ps, hl, ho⟩) ι a w Q h hr fun a' w' g => hq a' w' (g.p h hm)
  | weak X r₀ r σ x r₁ σ₁ hle _ ih =>
    have wk : ∀ (ι : Inj) (n : Nat) (t : Array Value), RRel ι n r t → RRel ι n r₀ t := fun ι n t h => ⟨h.1, fun p v e => h.2 p v (hle _ _ e)⟩
    refine ⟨fun c hc ro hro ι a w Q h hr hm hq => ih.1 c hc ro hro ι a w Q h (wk _ _ _ hr) hm hq, fun c hc ro hro => ?_⟩
    obtain ⟨m, hm'⟩ := ih.2 c hc ro hro
    exact ⟨m, fun ι a w Q h hr hm hq => hm' ι a w Q h (wk _ _ _ hr) hm hq⟩
  | range f ps A A2 r σ g fs cap v τ r₁ ps₁ a₁ b₁ res h1 h2 h3 h4 =>
    refine ⟨fun c hc ro hro ι a w Q h hr hm hq => ?_, fun c hc => by cases hc⟩
    obtain ⟨gf, qs, ca, cb, rfl, rfl, rfl, rfl, rfl, k1, k2, k3⟩ := comp_inv hc
    rcases hro with rfl | hro
    · exact hR n gf qs ca cb r σ g fs cap v τ r₁ ps₁ a₁ b₁ res h1 h2 h3 h4 k1 k2 k3 B ι a w Q h hr hm hq
    · cases hro
end
end Go.Ab
namespace Go.Ab
open Go

section
variable {E : Env} {K K' : Kt}
theorem OpK.mono (h : ∀ f vs σ v τ, K f vs σ v τ → K' f vs σ v τ) {o : AOp} {r : Regs} {σ : St} {v : Value} {τ : St} (k : OpK E K o r σ v τ) : OpK E K' o r σ v τ := by
  cases o with
  | call f args => obtain ⟨vs, h1, h2⟩ := k; exact ⟨vs, h1, h _ _ _ _ _ h2⟩
  | callV f args => obtain ⟨fv, vs, h0, h1, h2⟩ := k; exact ⟨fv, vs, h0, h1, h _ _ _ _ _ h2⟩
  | invoke x nm args => obtain ⟨t, y, vs, f, h0, h1, h2, h3⟩ := k; exact ⟨t, y, vs, f, h0, h1, h2, h _ _ _ _ _ h3⟩
  | _ => exact k
theorem OperK.mono (h : ∀ f vs σ v τ, K f vs σ v τ → K' f vs σ v τ) {o : AOper} {r : Regs} {σ : St} {v : Value} {τ : St} (k : OperK E K o r σ v τ) : OperK E K' o r σ v τ := by
  rcases k with k | ⟨k1, k2⟩
  · exact .inl k
  · refine .inr ⟨k1, ?_⟩
    cases hs : o.sl with
    | false => rw [hs] at k2; exact OpK.mono h k2
    | true => rw [hs] at k2; obtain ⟨τ', g1, g2⟩ := k2; exact ⟨τ', OpK.mono h g1, g2⟩
theorem OpsK.mono (h : ∀ f vs σ v τ, K f vs σ v τ → K' f vs σ v τ) {l : List AOper} {r : Regs} {σ : St} {r' : Regs} {σ' : St} (k : OpsK E K l r σ r' σ') : OpsK E K' l r σ r' σ' := by
  induction k with
  | nil r σ => exact .nil r σ
  | cons o l r σ v τ r' σ' k1 _ ih => exact .cons o l r σ v τ r' σ' (k1.mono h) ih
theorem DrawsK.mono (h : ∀ f vs σ v τ, K f vs σ v τ → K' f vs σ v τ) {ps : List (Nat × Nat)} {l : List AOper} {ts : List (Option Nat × Option Nat)} {r : Regs} {σ : St} {r' : Regs} {σ' : St} (k : DrawsK E K ps l ts r σ r' σ') : DrawsK E K' ps l ts r σ r' σ' := by
  induction k with
  | nil ts r σ hp => exact .nil ts r σ hp
  | cons o l ts r σ v τ r' σ' k1 _ ih => exact .cons o l ts r σ v τ r' σ' (k1.mono h) ih
theorem Big.mono (h : ∀ f vs σ v τ, K f vs σ v τ → K' f vs σ v τ) {X : ACode} {r : Regs} {σ : St} {x : Ex} {r' : Regs} {σ' : St} (k : Big E K X r σ x r' σ') : Big E K' X r σ x r' σ' := by
  induction k with
  | skip r σ => exact .skip r σ
  | exit id r σ => exact .exit id r σ
  | ret r σ => exact .ret r σ
  | seqN a b r σ r₁ σ₁ x r₂ σ₂ _ _ i1 i2 => exact .seqN a b r σ r₁ σ₁ x r₂ σ₂ i1 i2
  | seqX a b r σ x r₁ σ₁ _ hx i1 => exact .seqX a b r σ x r₁ σ₁ i1 hx
  | cond c a b t r σ x r₁ σ₁ hc _ i => exact .cond c a b t r σ x r₁ σ₁ hc i
  | blockE id c r σ r₁ σ₁ _ i => exact .blockE id c r σ r₁ σ₁ i
  | blockX id c r σ x r₁ σ₁ _ hx i => exact .blockX id c r σ x r₁ σ₁ i hx
  | loopN c r σ r₁ σ₁ x r₂ σ₂ _ _ i1 i2 => exact .loopN c r σ r₁ σ₁ x r₂ σ₂ i1 i2
  | loopX c r σ x r₁ σ₁ _ hx i => exact .loopX c r σ x r₁ σ₁ i hx
  | region l r σ r₁ σ₁ k => exact .region l r σ r₁ σ₁ (k.mono h)
  | draw l ps r σ r₁ σ₁ k => exact .draw l ps r σ r₁ σ₁ (k.mono h)
  | weak X r₀ r σ x r₁ σ₁ hle _ i => exact .weak X r₀ r σ x r₁ σ₁ hle i
  | range f ps a b r σ g fs cap v τ r₁ ps₁ a₁ b₁ res h1 h2 h3 h4 => exact .range f ps a b r σ g fs cap v τ r₁ ps₁ a₁ b₁ res h1 h2 (h _ _ _ _ _ h3) h4

/-- the calls that self makes -/
def KSelf (E : Env) (self : Self) : Kt := fun f vs σ v τ => callVal E self f vs σ = .ok v τ
theorem doOp_opK {self : Self} {o : AOp} {r : Regs} {σ : St} {v : Value} {τ : St} (h : doOp E self o r σ = .ok v τ) : OpK E (KSelf E self) o r σ v τ := by
  cases o with
  | call f args =>
    have h' : fCall E self f args r σ = .ok v τ := h
    unfold fCall at h'
    split at h'
    · rename_i vs hvs
      refine ⟨vs, hvs, ?_⟩
      show enter E self f ([] ++ (vs ++ [])) σ = _
      rw [List.nil_append, List.append_nil]; exact h'
    · cases h'
  | callV f args =>
    have h' : fCallV E self f args r σ = .ok v τ := h
    unfold fCallV at h'
    split at h'
    · rename_i fv vs hf hvs; exact ⟨fv, vs, hf, hvs, h'⟩
    · cases h'
  | invoke x nm args =>
    have h' : fInvoke E self x nm args r σ = .ok v τ := h
    unfold fInvoke at h'
    split at h'
    · rename_i t y vs hx hvs
      split at h'
      · rename_i f hf
        refine ⟨t, y, vs, f, hx, hvs, hf, ?_⟩
        show enter E self f ([] ++ (y :: vs ++ [])) σ = _
        rw [List.nil_append, List.append_nil]; exact h'
      · cases h'
    · cases h'
  | _ => exact h
theorem runOper_k {self : Self} {o : AOper} {r : Regs} {σ : St} {v : Value} {τ : St} (h : runOper E self o r σ = .ok v τ) : OperK E (KSelf E self) o r σ v τ := by
  obtain ⟨dst, g, sl, op⟩ := o
  have h' : guarded g (sealed sl (doOp E self op)) r σ = .ok v τ := h
  rcases guarded_inv h' with ⟨h1, h2, h3⟩ | ⟨h1, h2⟩
  · exact .inl ⟨h1, h2, h3⟩
  · refine .inr ⟨h1, ?_⟩
    cases sl with
    | false => exact doOp_opK h2
    | true =>
      obtain ⟨hp, n, lim⟩ := σ
      unfold sealed at h2
      simp only at h2
      split at h2
      · rename_i u σ' hd
        cases h2
        exact ⟨σ', doOp_opK hd, rfl⟩
      · cases h2
theorem doOps_k {self : Self} : ∀ {l : List AOper} {r : Regs} {σ : St} {x : Ex} {r' : Regs} {σ' : St}, doOps E self l r σ = .mk x r' σ' → x = .normal ∧ OpsK E (KSelf E self) l r σ r' σ' := by
  intro l
  induction l with
  | nil => intro r σ x r' σ' h; rw [doOps_nil] at h; cases h; exact ⟨rfl, .nil _ _⟩
  | cons o l ih =>
    intro r σ x r' σ' h
    rw [doOps_cons] at h
    unfold thenOps at h
    split at h
    · rename_i v τ ho
      obtain ⟨rfl, k⟩ := ih h
      exact ⟨rfl, .cons o l r σ v τ r' σ' (runOper_k ho) k⟩
    · cases h
theorem doDraw_k {self : Self} {ps : List (Nat × Nat)} : ∀ {l : List AOper} {ts : List (Option Nat × Option Nat)} {r : Regs} {σ : St} {x : Ex} {r' : Regs} {σ' : St}, doDraw E self ps l ts r σ = .mk x r' σ' → x = .normal ∧ DrawsK E (KSelf E self) ps l ts r σ r' σ' := by
  intro l
  induction l with
  | nil =>
    intro ts r σ x r' σ' h
    unfold doDraw at h
    cases hb : ps.all (pairOk ts) with
    | true => rw [hb, cond_true] at h; cases h; exact ⟨rfl, .nil _ _ _ hb⟩
    | false => rw [hb, cond_false] at h; cases h
  | cons o l ih =>
    intro ts r σ x r' σ' h
    unfold doDraw at h
    split at h
    · rename_i v τ ho
      obtain ⟨rfl, k⟩ := ih h
      exact ⟨rfl, .cons o l ts r σ v τ r' σ' (runOper_k ho) k⟩
    · cases h
/-- the calls that are made with less fuel than m -/
def KL (E : Env) (m : Nat) : Kt := fun f vs σ v τ => ∃ k, k < m ∧ callVal E (exec E k) f vs σ = .ok v τ
theorem KL.mono {m m' : Nat} (h : m ≤ m') : ∀ f vs σ v τ, KL E m f vs σ v τ → KL E m' f vs σ v τ := fun _ _ _ _ _ ⟨k, h1, h2⟩ => ⟨k, Nat.lt_of_lt_of_le h1 h, h2⟩
theorem KSelf.kl (m : Nat) : ∀ f vs σ v τ, KSelf E (exec E m) f vs σ v τ → KL E (m + 1) f vs σ v τ := fun _ _ _ _ _ h => ⟨m, Nat.lt_succ_self m, h⟩
def noX : ACode → Bool
  | .xregion _ => false
  | .seq a b | .cond _ a b | .rangeFunc _ _ a b => noX a && noX b
  | .block _ c | .loop c => noX c
  | _ => true
theorem exec_big : ∀ (m : Nat) (c : ACode) (r : Regs) (σ : St) (x : Ex) (r' : Regs) (σ' : St), noX c = true → exec E m c r σ = .mk x r' σ' → Big E (KL E m) c r σ x r' σ' := by
  intro m
  induction m with
  | zero => intro c r σ x r' σ' _ h; rw [exec_zero] at h; cases h
  | succ m ih =>
    intro c r σ x r' σ' hx h
    have ih' (c : ACode) (r : Regs) (σ : St) (x : Ex) (r' : Regs) (σ' : St) (hx : noX c = true) (h : exec E m c r σ = .mk x r' σ') : Big E (KL E (m + 1)) c r σ x r' σ' := (ih c r σ x r' σ' hx h).mono (KL.mono (Nat.le_succ m))
    cases c with
    | bad s => cases h
    | skip => cases h; exact .skip _ _
    | exit id => cases h; exact .exit _ _ _
    | ret => cases h; exact .ret _ _
    | seq a b =>
      simp only [noX, Bool.and_eq_true] at hx
      have h' : fSeq (exec E m) a b r σ = .mk x r' σ' := h
      unfold fSeq at h'
      split at h'
      · rename_i r₁ σ₁ ha
        exact .seqN _ _ _ _ _ _ _ _ _ (ih' _ _ _ _ _ _ hx.1 ha) (ih' _ _ _ _ _ _ hx.2 h')
      · rename_i hn
        exact .seqX _ _ _ _ _ _ _ (ih' _ _ _ _ _ _ hx.1 h') (fun e => by subst e; exact hn _ _ h')
    | cond c a b =>
      simp only [noX, Bool.and_eq_true] at hx
      have h' : fCond (exec E m) c a b r σ = .mk x r' σ' := h
      unfold fCond at h'
      split at h'
      · rename_i hc; exact .cond _ _ _ true _ _ _ _ _ hc (ih' _ _ _ _ _ _ hx.1 h')
      · rename_i hc; exact .cond _ _ _ false _ _ _ _ _ hc (ih' _ _ _ _ _ _ hx.2 h')
      · cases h'
    | block id c =>
      have h' : fBlock (exec E m) id c r σ = .mk x r' σ' := h
      unfold fBlock at h'
      split at h'
      · rename_i id' r₁ σ₁ hc
        cases hb : Nat.beq id' id with
        | true =>
          rw [hb, cond_true] at h'; cases h'
          have := natBeq_iff.1 hb; subst this
          exact .blockE _ _ _ _ _ _ (ih' _ _ _ _ _ _ hx hc)
        | false =>
          rw [hb, cond_false] at h'; cases h'
          exact .blockX _ _ _ _ _ _ _ (ih' _ _ _ _ _ _ hx hc) (fun e => by cases e; rw [Nat.beq_refl] at hb; cases hb)
      · rename_i hn
        exact .blockX _ _ _ _ _ _ _ (ih' _ _ _ _ _ _ hx h') (fun e => by subst e; exact hn _ _ _ h')
    | loop c =>
      have h' : fLoop (exec E m) c r σ = .mk x r' σ' := h
      unfold fLoop at h'
      split at h'
      · rename_i r₁ σ₁ hc
        exact .loopN _ _ _ _ _ _ _ _ (ih' _ _ _ _ _ _ hx hc) (ih' (.loop c) _ _ _ _ _ hx h')
      · rename_i hn
        exact .loopX _ _ _ _ _ _ (ih' _ _ _ _ _ _ hx h') (fun e => by subst e; exact hn _ _ h')
    | region ops =>
      have h' : doOps E (exec E m) ops r σ = .mk x r' σ' := h
      obtain ⟨rfl, k⟩ := doOps_k h'
      exact .region _ _ _ _ _ (k.mono (KSelf.kl m))
    | xregion ops => cases hx
    | draw ops ps =>
      have h' : doDraw E (exec E m) ps ops [] r σ = .mk x r' σ' := h
      obtain ⟨rfl, k⟩ := doDraw_k h'
      exact .draw _ _ _ _ _ _ (k.mono (KSelf.kl m))
    | rangeFunc f ps a b =>
      have h' : fRange E (exec E m) f ps a b r σ = .mk x r' σ' := h
      unfold fRange at h'
      split at h'
      · rename_i g fs cap hf
        split at h'
        · rename_i af v τ hg hk
          have hgs : (T.get E.funcs g).isSome = true := by rw [hg]; rfl
          have hK := KSelf.kl m _ _ _ _ _ hk
          split at h'
          · rename_i hl; cases h'; exact .range _ _ _ _ _ _ _ _ _ _ _ _ _ _ _ none hf hgs hK hl
          · rename_i y hl; cases h'; exact .range _ _ _ _ _ _ _ _ _ _ _ _ _ _ _ (some x) hf hgs hK hl
          · cases h'
        · cases h'
      · cases h'
end
end Go.Ab
namespace Go.Ab
open Go

theorem noX_comp (E : Env) (n : Nat) : ∀ c : Code, noX (comp E n c) = true := by
  intro c
  induction c with
  | region id ops d =>
    cases d with
    | false => rfl
    | true =>
      have e : comp E n (.region id ops true) = compDraw E n ops := rfl
      rcases compDraw_cases E n ops with ⟨s, h⟩ | ⟨l, h⟩ | ⟨l, ps, h⟩ <;> rw [e, h] <;> rfl
  | seq a b ia ib => show (noX (comp E n a) && noX (comp E n b)) = true; rw [ia, ib]; rfl
  | cond x a b ia ib => show (noX (comp E n a) && noX (comp E n b)) = true; rw [ia, ib]; rfl
  | block id a ia => exact ia
  | loop a ia => exact ia
  | rangeFunc g qs a b ia ib =>
    have e : comp E n (.rangeFunc g qs a b) = bif qs.toList.all (fun p => Nat.blt p n) && noRange a && noRange b then .rangeFunc (opd E g) (qs.toList.map path) (comp E n a) (comp E n b) else .bad "range" := rfl
    rw [e]
    cases (qs.toList.all (fun p => Nat.blt p n) && noRange a && noRange b) with
    | false => rfl
    | true => show (noX (comp E n a) && noX (comp E n b)) = true; rw [ia, ib]; rfl
  | _ => rfl
theorem paths_eq (k : Nat) : paths k = (List.range k).map path := by
  induction k with
  | zero => rfl
  | succ k ih => rw [List.range_succ, List.map_append, ← ih]; rfl
section
variable {P : Program} {E : Env} {ι κ : Inj} {σ τ : St} {w w' : World}
/-- the parameters of a loop's body -/
theorem setParams_zip {n : Nat} : ∀ (qs : List Tmp) (vs vs' : List Value) (r r' : Regs) (tmps : Array Value), RRel ι n r tmps → VRels ι vs vs' → (∀ q ∈ qs, q < n) → setParams r (qs.map path) vs = some r' →
    qs.length = vs'.length ∧ RRel ι n r' ((qs.zip vs').foldl (fun tmps (t, a) => tmps.setIfInBounds t a) tmps) := by
  intro qs
  induction qs with
  | nil =>
    intro vs vs' r r' tmps hr hv _ h
    cases hv with
    | nil => cases h; exact ⟨rfl, hr⟩
    | cons _ _ _ _ _ _ => cases h
  | cons q qs ih =>
    intro vs vs' r r' tmps hr hv hq h
    cases hv with
    | nil => cases h
    | cons v v' l l' h1 h2 =>
      have h' : setParams (T.setP (path q) v r) (qs.map path) l = some r' := h
      have := RRel.put (a := ⟨tmps, []⟩) hr (dst := some q) h1 (fun d e => by cases e; exact hq q (by simp))
      obtain ⟨g1, g2⟩ := ih l l' _ r' _ this h2 (fun p hp => hq p (by simp [hp])) h'
      exact ⟨by simp [g1], g2⟩
/-- the parameters of a function -/
theorem setParams_range : ∀ (m j : Nat) (vs : List Value) (r r' : Regs), setParams r ((List.range' j m).map path) vs = some r' →
    vs.length = m ∧ ∀ t, T.getP (path t) r' = if j ≤ t ∧ t < j + m then vs[t - j]? else T.getP (path t) r := by
  intro m
  induction m with
  | zero =>
    intro j vs r r' h
    cases vs with
    | nil => cases h; exact ⟨rfl, fun t => by rw [if_neg (by omega)]⟩
    | cons _ _ => cases h
  | succ m ih =>
    intro j vs r r' h
    cases vs with
    | nil => cases h
    | cons v vs =>
      have h' : setParams (T.setP (path j) v r) ((List.range' (j + 1) m).map path) vs = some r' := h
      obtain ⟨g1, g2⟩ := ih (j + 1) vs _ r' h'
      refine ⟨by simp [g1], fun t => ?_⟩
      rw [g2 t]
      by_cases ht : t = j
      · subst ht
        rw [if_neg (by omega), if_pos (by omega), T.getP_setP_self]; simp
      · rw [T.getP_setP_ne _ _ (fun e => ht (path_inj e))]
        by_cases h1 : j + 1 ≤ t ∧ t < j + 1 + m
        · rw [if_pos h1, if_pos (by omega)]
          obtain ⟨k, rfl⟩ : ∃ k, t = j + 1 + k := ⟨t - (j + 1), by omega⟩
          have e1 : j + 1 + k - (j + 1) = k := by omega
          have e2 : j + 1 + k - j = k + 1 := by omega
          rw [e1, e2]; simp
        · rw [if_neg h1, if_neg (by omega)]
theorem enter_regs {k n : Nat} {vs vs' : List Value} {r : Regs} (hk : k ≤ n) (hv : VRels ι vs vs') (h : setParams .e (paths k) vs = some r) :
    RRel ι n r (vs'.toArray ++ Array.replicate (n - vs'.toArray.size) undef) := by
  rw [paths_eq, List.range_eq_range'] at h
  obtain ⟨h1, h2⟩ := setParams_range k 0 vs .e r h
  have hl := hv.length
  refine ⟨by simp; omega, fun t v e => ?_⟩
  rw [h2 t] at e
  split at e
  · obtain ⟨v', g1, g2⟩ := hv.get e
    refine ⟨v', ?_, g2⟩
    rw [Nat.sub_zero] at g1
    rw [Array.getElem?_append_left (by simp; exact (List.getElem?_eq_some_iff.1 g1).1)]
    simpa using g1
  · rw [T.getP_e] at e; cases e
end
end Go.Ab
namespace Go.Ab
open Go

section
variable {P : Program} {E : Env} {ι κ : Inj} {σ τ : St} {w w' : World}
/-- one result of a function -/
def res1 (tmps : Array Value) : ResultVar → Sem Value
  | .tmp t => pure (tmps.getD t undef)
  | .cell a t => do loadVar t (← asAddr (tmps.getD a undef))
theorem getD_of {tmps : Array Value} {t : Nat} {v : Value} (h : tmps[t]? = some v) : tmps.getD t undef = v := by
  simp [Array.getD_eq_getD_getElem?, h]
theorem load_var {t : TypeId} {u v : Value} (h : (Instr.loadAt t u).run P w = .ok v w) : (do loadVar t (← asAddr u) : Sem Value).run P w = .ok v w := by
  cases u with
  | pointer a =>
    cases a with
    | some a => simpa [Instr.loadAt, Instr.sureAddr, asAddr] using h
    | none => simp [Instr.loadAt, Instr.sureAddr, stuck, Sem.run] at h
  | _ => simp [Instr.loadAt, Instr.sureAddr, stuck, Sem.run] at h
theorem results_sound (hE : EOk P E) (h : Rel P E ι σ w) {n : Nat} {r : Regs} {tmps : Array Value} (hr : RRel ι n r tmps) : ∀ (l : List ResultVar) (rs : List (Pa × Option (Option Nat))) (vs : List Value),
    compRes E l = some rs → results r σ rs = some vs → ∃ vs', (l.mapM (res1 tmps)).run P w = .ok vs' w ∧ VRels ι vs vs' := by
  intro l
  induction l with
  | nil => intro rs vs hc hv; cases hc; cases hv; exact ⟨[], rfl, .nil⟩
  | cons x l ih =>
    intro rs vs hc hv
    have fin {u u' : Value} {us : List Value} (h1 : (res1 tmps x).run P w = .ok u' w) (h2 : VRel ι u u') {q : List (Pa × Option (Option Nat))} (hq : compRes E l = some q) (hus : results r σ q = some us) : ∃ vs', ((x :: l).mapM (res1 tmps)).run P w = .ok vs' w ∧ VRels ι (u :: us) vs' := by
      obtain ⟨vs', g1, g2⟩ := ih q us hq hus
      exact ⟨u' :: vs', by simp [List.mapM_cons, Sem.run_bind, h1, g1, Result.andThen], .cons _ _ _ _ h2 g2⟩
    cases x with
    | tmp t =>
      unfold compRes at hc
      split at hc
      · rename_i q hq
        cases hc
        unfold results at hv
        split at hv
        · rename_i v us hv1 hus
          cases hv
          obtain ⟨v', g1, g2⟩ := hr.2 t v hv1
          exact fin (by simp [res1, getD_of g1]) g2 hq hus
        · cases hv
      · cases hc
    | cell t ty =>
      unfold compRes at hc
      split at hc
      · rename_i q k hq hagg hsize
        cases hc
        unfold results at hv
        split at hv
        · rename_i b off us hv1 hus
          simp only at hv
          split at hv
          · rename_i c hl
            cases hv
            obtain ⟨v', g1, g2⟩ := hr.2 t _ hv1
            obtain ⟨u', k1, k2⟩ := loadN_sound (v := .agg c.toArray) hE h g2 (by unfold sLoadN; simp [hl]) (agg_of hE hagg) hsize
            refine fin (u' := u') ?_ k2 hq hus
            show (do loadVar ty (← asAddr (tmps.getD t undef)) : Sem Value).run P w = _
            rw [getD_of g1]; exact load_var k1
          · cases hv
        · cases hv
      · rename_i q hq hagg
        cases hc
        unfold results at hv
        split at hv
        · rename_i b off us hv1 hus
          simp only at hv
          split at hv
          · rename_i v hl
            cases hv
            obtain ⟨v', g1, g2⟩ := hr.2 t _ hv1
            obtain ⟨u', k1, k2⟩ := load1_sound (v := v) h g2 (by unfold sLoad1; exact hl) (agg_of hE hagg)
            refine fin (u' := u') ?_ k2 hq hus
            show (do loadVar ty (← asAddr (tmps.getD t undef)) : Sem Value).run P w = _
            rw [getD_of g1]; exact load_var k1
          · cases hv
        · cases hv
      · cases hc
theorem goResults (hE : EOk P E) (h : Rel P E ι σ w) {n : Nat} {r : Regs} {tmps : Array Value} (hr : RRel ι n r tmps) {fn : Func} {rs : List (Pa × Option (Option Nat))} {vs : List Value}
    (hc : compRes E fn.results.toList = some rs) (hv : results r σ rs = some vs) : ∃ v', (_root_.Go.results fn tmps).run P w = .ok v' w ∧ VRel ι (resV vs) v' := by
  obtain ⟨vs', h1, h2⟩ := results_sound hE h hr _ _ _ hc hv
  have e : (fn.results.mapM (res1 tmps)).run P w = .ok vs'.toArray w := by
    rw [Array.mapM_eq_mapM_toList]
    simp [h1]
  have e2 : (_root_.Go.results fn tmps).run P w = ((fn.results.mapM (res1 tmps)).run P w).andThen fun vs w => .ok (if h : vs.size = 1 then vs[0] else .tuple vs) w := by
    unfold _root_.Go.results res1
    simp only [Sem.run_bind, Sem.run_pure]
    rfl
  rw [e2, e]
  refine ⟨_, rfl, ?_⟩
  cases h2 with
  | nil => exact .tuple _ _ .nil
  | cons a a' l l' g1 g2 =>
    cases g2 with
    | nil => exact g1
    | cons b b' m m' g3 g4 =>
      have hne : ¬ (a' :: b' :: m').toArray.size = 1 := by simp
      rw [dif_neg hne]
      exact .tuple _ _ (by simpa using VRels.cons _ _ _ _ g1 (.cons _ _ _ _ g3 g4))
/-- the functions of the table are functions of the program, as they stand -/
structure FOk (P : Program) (E : Env) : Prop where
  fn : ∀ f af, T.get E.funcs f = some af → ∃ fn c, P.funcs[f]? = some fn ∧ fn.body = some c ∧ (fn.name == "runtime.NumGoroutine") = false ∧ flat E fn c = some af
theorem callFunc_enter {f : FuncId} {fn : Func} {c : Code} (hf : P.funcs[f]? = some fn) (hb : fn.body = some c) (hn : (fn.name == "runtime.NumGoroutine") = false) (args : Array Value) : (callFunc f args).run P w = .ok (.enter f args) w := by
  have h1 : fn.name ≠ "runtime.NumGoroutine" := by simpa using hn
  simp [callFunc, hf, h1, hb]
/-- a frame leaves: its marks are taken -/
theorem leaves_marks {fn : Func} {tmps : Array Value} {R : Ending → World → Prop} {B : Nat} {ι₀ : Inj} {σ₀ : St} {w₀ : World} (hB : w₀.heap.size ≤ B) : ∀ (ds : List Deferred) (w : World), Marks B κ τ w ds → Rel P E κ τ w → Ext ι₀ σ₀ w₀ κ τ w →
    (∀ w', Rel P E κ τ w' → Ext ι₀ σ₀ w₀ κ τ w' → ∃ v, (_root_.Go.results fn tmps).run P w' = .ok v w' ∧ R (.returned v) w') → LeavesInM (Wd none) 0 P fn tmps R ds .returning w := by
  intro ds
  induction ds with
  | nil => intro w hm h e hq; exact hq w h e
  | cons d ds ih =>
    intro w hm h e hq
    obtain ⟨h0, rs, h1, h2, h3⟩ := hm
    cases rs with
    | nil => cases h1
    | cons r rs =>
      simp only [List.map_cons, List.cons.injEq] at h1
      obtain ⟨rfl, rfl⟩ := h1
      obtain ⟨⟨g1, g2⟩, g3⟩ := h3 r (by simp)
      rw [List.nodup_cons] at h2
      have hlt : r < w.heap.size := (Array.getElem?_eq_some_iff.1 g1).1
      refine ⟨by simp, .inl ⟨r, _, rfl, run_takeDeferred g1, ?_⟩⟩
      have ho : ∀ k, k ≠ r → (w.putObj r (.deferred none)).heap[k]? = w.heap[k]? := fun k hk => World.putObj_heap_other hk
      refine ih _ ⟨by rw [World.putObj_size]; exact h0, rs, rfl, h2.2, fun q hq => ?_⟩ (h.setB g2 ho World.putObj_size) (e.setB ho World.putObj_size (.inl (by omega)) rfl rfl rfl) hq
      obtain ⟨⟨k1, k2⟩, k3⟩ := h3 q (by simp [hq])
      exact ⟨⟨by rw [ho q (fun e => h2.1 (e ▸ hq))]; exact k1, k2⟩, k3⟩
theorem leave_inv {fn : AFun} {x : Ex} {r : Regs} {σ : St} {v : Value} {τ : St} (h : leave fn (.mk x r σ) = .ok v τ) : (x = .normal ∨ x = .ret) ∧ τ = σ ∧ ∃ vs, results r σ fn.results = some vs ∧ v = resV vs := by
  unfold leave at h
  split at h
  · cases h
  · rename_i x' r' σ' hx e
    cases e
    split at h
    · rename_i vs hvs
      cases h
      refine ⟨?_, rfl, vs, hvs, rfl⟩
      cases x with
      | normal => exact .inl rfl
      | ret => exact .inr rfl
      | exit id => exact absurd rfl (hx id)
    · cases h
  · rename_i e; cases e
/-- a call of a function of the table -/
theorem enter_sound (hE : EOk P E) (hF : FOk P E) {m : Nat} (hK : KOk P E (KL E m)) (hD : DrawOk P E (KL E m)) (hR : RangeOk P E (KL E m)) {f : FuncId} {vs : List Value} {v : Value} (he : enter E (exec E m) f vs σ = .ok v τ)
    {vs' : List Value} (h : Rel P E ι σ w) (hv : VRels ι vs vs') : NextGives P (Post P E ι σ w v τ) ((callFunc f vs'.toArray).run P w) := by
  unfold enter at he
  split at he
  · rename_i af haf
    obtain ⟨fn, c, h1, h2, h3, h4⟩ := hF.fn f af haf
    obtain ⟨code, ps, rs⟩ := af
    simp only at he
    split at he
    · rename_i r hr
      rw [callFunc_enter h1 h2 h3]
      unfold flat at h4
      split at h4
      · rename_i rs' hrs
        cases hb : Nat.ble (fn.params.size + fn.nfree) fn.ntmps with
        | false => rw [hb] at h4; cases h4
        | true =>
          rw [hb, cond_true] at h4
          cases h4
          generalize hx : exec E m (comp E fn.ntmps c) r σ = fin at he
          cases fin with
          | fail => cases he
          | mk x r' σ' =>
            obtain ⟨hxx, rfl, us, hus, rfl⟩ := leave_inv he
            have big := exec_big m _ r σ x r' τ (noX_comp E _ c) hx
            refine callsIn_of_wp_marks h1 h2 trivial ?_
            refine (code_sound (B := w.heap.size) hE hK hD hR big).1 c rfl none (.inl rfl) ι _ w _ h (enter_regs (Nat.le_of_ble_eq_true hb) hv hr) ⟨Nat.le_refl _, [], rfl, List.nodup_nil, by simp⟩ ?_
            rintro a' w' ⟨κ, k1, k2, k3, k4⟩
            have key : LeavesInM (Wd none) 0 P fn a'.tmps (Gives (Post P E ι σ w (resV us) τ)) a'.defers .returning w' := by
              refine leaves_marks (Nat.le_refl _) a'.defers w' k4 k2 k3 fun w'' q1 q2 => ?_
              obtain ⟨v', g1, g2⟩ := goResults hE q1 k1 hrs hus
              exact ⟨v', g1, κ, g2, q1, q2⟩
            rcases hxx with rfl | rfl <;> exact key
      · cases h4
    · cases he
  · cases he
end
end Go.Ab
namespace Go.Ab
open Go

section
variable {P : Program} {E : Env} {ι κ μ : Inj} {σ τ : St} {w w' : World}
theorem Priv.put_dead {b A : Nat} (h : Priv κ τ b) : Priv κ (τ.put A .dead) b := by
  intro B M hB hl
  rw [St.put_heap] at hl
  by_cases hA : B = A
  · subst hA; rw [T.get_set_self] at hl; cases hl
  · rw [T.get_set_ne _ _ hA] at hl; exact h B M hB hl
/-- the same step, seen from a world that is another at one block -/
theorem Ext.shift {w₁ w₂ w₃ w₃' : World} {b : Nat} (h : Ext κ σ w₂ μ τ w₃) (hs : w₁.heap.size = w₂.heap.size) (ho : ∀ k, k ≠ b → w₂.heap[k]? = w₁.heap[k]?) (h1 : w₂.os = w₁.os) (h2 : w₂.tape = w₁.tape) (h3 : w₂.output = w₁.output)
    (hs' : w₃'.heap.size = w₃.heap.size) (ho' : ∀ k, k ≠ b → w₃'.heap[k]? = w₃.heap[k]?) (hb : w₃'.heap[b]? = w₁.heap[b]?) (k1 : w₃'.os = w₃.os) (k2 : w₃'.tape = w₃.tape) (k3 : w₃'.output = w₃.output) : Ext κ σ w₁ μ τ w₃' where
  le := h.le
  size := h.size
  lim := h.lim
  keep := h.keep
  unmapped := h.unmapped
  fresh A L e f := by rw [hs]; exact h.fresh A L e f
  wr := h.wr
  lv := h.lv
  frame c hc hf := by
    by_cases hcb : c = b
    · rw [hcb]; exact hb
    · rw [ho' c hcb, h.frame c (by rw [← hs]; exact hc) hf, ho c hcb]
  wsize := by rw [hs, hs']; exact h.wsize
  os := by rw [k1, h.os, h1]
  tape := by rw [k2, h.tape, h2]
  output := by rw [k3, h.output, h3]
theorem Ext.grow (hs : w.heap.size ≤ w'.heap.size) (ho : ∀ k, k < w.heap.size → w'.heap[k]? = w.heap[k]?) (h1 : w'.os = w.os) (h2 : w'.tape = w.tape) (h3 : w'.output = w.output) : Ext ι σ w ι σ w' :=
  ⟨Le.refl _, Nat.le_refl _, rfl, fun _ _ => rfl, fun _ _ h => ⟨rfl, h⟩, fun A L h h' => (by rw [h] at h'; cases h'), fun _ _ h => h, fun _ _ h => h, fun k hk _ => ho k hk, hs, h1, h2, h3⟩

theorem yield_sound (hE : EOk P E) {m : Nat} (hK : KOk P E (KL E m)) (hD : DrawOk P E (KL E m)) (hR : RangeOk P E (KL E m)) {A : Nat} {vs : List Value} {v : Value} (he : yield (exec E m) A vs σ = .ok v τ)
    {L : Loc} (hA : ι A = some L) {vs' : List Value} (h : Rel P E ι σ w) (hv : VRels ι vs vs') : NextGives P (Post P E ι σ w v τ) ((Instr.yield L.blk vs'.toArray).run P w) := by
  unfold yield at he
  split at he
  · rename_i regs ps ca cb hg
    cases hlim : Nat.ble σ.lim A with
    | false => rw [hlim] at he; cases he
    | true =>
      rw [hlim] at he
      simp only [Bool.not_true, cond_false] at he
      have hlim' := Nat.le_of_ble_eq_true hlim
      split at he
      · rename_i r hr
        split at he
        · rename_i r₁ σ₁ ha
          have hw0 : writable (σ.heap.get A) = true := by rw [hg]; rfl
          have hA2 := h.dom A L hA
          obtain ⟨lp, hlp, n, l1, rfl, l3, rfl, rfl, l4, l5, l6, l7⟩ := h.blk A L _ hA hg
          obtain ⟨z1, z2⟩ := setParams_zip lp.params.toList vs vs' regs r lp.tmps l1 hv l3 hr
          rw [run_yield hlp (by simpa using z1.symm)]
          have hz : (lp.params.zip vs'.toArray).foldl (fun tmps (x : Tmp × Value) => match x with | (t, a) => tmps.setIfInBounds t a) lp.tmps = (lp.params.toList.zip vs').foldl (fun tmps (t, a) => tmps.setIfInBounds t a) lp.tmps := by
            rw [← Array.foldl_toList]; simp
          have kd := h.kill hA2.1
          have pv := Priv.kill h hA hw0
          have big1 := exec_big m _ r _ .normal r₁ σ₁ (noX_comp E _ lp.assign) ha
          refine roundIn_of_wpIn trivial ?_
          refine (code_sound (B := 0) hE hK hD hR big1).1 lp.assign rfl (some L.blk) (.inr l4) ι { tmps := _, defers := [] } w _ kd (by rw [hz]; exact z2) ⟨Nat.zero_le _, [], rfl, List.nodup_nil, by simp⟩ ?_
          rintro a₁ w₁ ⟨κ, k1, k2, k3, k4⟩
          obtain ⟨p1, p2⟩ := pv.ext kd hA2.2 k3
          rw [hlp] at p2
          have hbw : L.blk < w₁.heap.size := Nat.lt_of_lt_of_le hA2.2 k3.wsize
          refine ⟨_, run_beginRound p2 l6, ?_⟩
          have ho : ∀ k, k ≠ L.blk → (w₁.putObj L.blk (.loop { lp with state := .busy })).heap[k]? = w₁.heap[k]? := fun k hk => World.putObj_heap_other hk
          have hself : (w₁.putObj L.blk (.loop { lp with state := .busy })).heap[L.blk]? = some (.loop { lp with state := .busy }) := World.putObj_heap_same hbw
          have r2 := k2.setB p1 ho World.putObj_size
          have fin {x : Ex} {r₂ : Regs} {σ₂ : St} (hb : exec E m (comp E n lp.body) r₁ σ₁ = .mk x r₂ σ₂) (jump : Option Code) (res : Option Ex)
              (hj : match res with
                | none => jump = none
                | some (.exit id) => jump = some (.exit id)
                | some .ret => jump = some .ret
                | some .normal => False)
              (hpost : ∀ a' w', (∃ v w'', (Instr.endRound L.blk jump).run P w' = .ok v w'' ∧ Gives (Post P E ι σ w (.bool jump.isNone) (σ₂.put A (.loop regs (lp.params.toList.map path) (comp E n lp.assign) (comp E n lp.body) res))) (.returned v) w'') → roundPost P L.blk (Gives (Post P E ι σ w (.bool jump.isNone) (σ₂.put A (.loop regs (lp.params.toList.map path) (comp E n lp.assign) (comp E n lp.body) res)))) (exOf x) a' w') :
              lp.body.wpIn ((Wd none).inRound L.blk) 0 P (roundPost P L.blk (Gives (Post P E ι σ w (.bool jump.isNone) (σ₂.put A (.loop regs (lp.params.toList.map path) (comp E n lp.assign) (comp E n lp.body) res))))) a₁ (w₁.putObj L.blk (.loop { lp with state := .busy })) := by
            have big2 := exec_big m _ r₁ σ₁ x r₂ σ₂ (noX_comp E _ lp.body) hb
            have k4' : Marks 0 κ σ₁ (w₁.putObj L.blk (.loop { lp with state := .busy })) a₁.defers := by
              obtain ⟨_, rs, q1, q2, q3⟩ := k4
              refine ⟨Nat.zero_le _, rs, q1, q2, fun q hq => ?_⟩
              obtain ⟨⟨s1, s2⟩, s3⟩ := q3 q hq
              exact ⟨⟨by rw [ho q (by intro e; subst e; rw [p2] at s1; cases s1)]; exact s1, s2⟩, s3⟩
            refine (code_sound (B := 0) hE hK hD hR big2).1 lp.body rfl (some L.blk) (.inr l5) κ a₁ _ _ r2 k1 k4' ?_
            rintro a₂ w₃ ⟨μ, m1, m2, m3, m4⟩
            refine hpost a₂ w₃ ?_
            obtain ⟨p3, p4⟩ := p1.ext r2 (by rw [World.putObj_size]; exact hbw) m3
            rw [hself] at p4
            refine ⟨_, _, run_endRound jump p4, μ, .bool _, ?_, ?_⟩
            · have hb3 : L.blk < w₃.heap.size := (Array.getElem?_eq_some_iff.1 p4).1
              have hμ : μ A = some L := m3.le _ _ (k3.le _ _ hA)
              refine (m2.setB p3 (fun k hk => World.putObj_heap_other hk) World.putObj_size).revive hμ p3 ?_
              refine ⟨_, World.putObj_heap_same hb3, n, l1.mono (k3.le.trans m3.le), rfl, l3, rfl, rfl, l4, l5, ?_⟩
              cases res with
              | none => simp only at hj; subst hj; exact ⟨rfl, rfl⟩
              | some y =>
                cases y with
                | normal => exact hj
                | exit id => simp only at hj; subst hj; exact ⟨rfl, rfl⟩
                | ret => simp only at hj; subst hj; exact ⟨rfl, rfl⟩
            · have hb3 : L.blk < w₃.heap.size := (Array.getElem?_eq_some_iff.1 p4).1
              have e2 : Ext κ σ₁ w₁ μ σ₂ (w₃.putObj L.blk (.loop lp)) := m3.shift (b := L.blk) (by rw [World.putObj_size]) ho rfl rfl rfl World.putObj_size (fun k hk => World.putObj_heap_other hk) (by rw [World.putObj_heap_same hb3, p2]) rfl rfl rfl
              have e3 := (k3.trans kd e2).revive h hA hw0 hlim' (.loop regs (lp.params.toList.map path) (comp E n lp.assign) (comp E n lp.body) res)
              refine e3.setB (b := L.blk) (fun k hk => ?_) (by rw [World.putObj_size, World.putObj_size]) (.inr ⟨A, L, hA, hlim', hw0, rfl⟩) rfl rfl rfl
              rw [World.putObj_heap_other hk, World.putObj_heap_other hk]
          split at he
          · rename_i r₂ σ₂ hb
            cases he
            exact fin hb none none rfl (fun a' w' g => g)
          · rename_i x r₂ σ₂ hx hb
            cases he
            cases x with
            | normal => exact (hx rfl).elim
            | exit id => exact fin hb (some (.exit id)) (some (.exit id)) rfl (fun a' w' g => g)
            | ret => exact fin hb (some .ret) (some .ret) rfl (fun a' w' g => g)
          · cases he
        · cases he
      · cases he
  · cases he
end
end Go.Ab
namespace Go.Ab
open Go

section
variable {P : Program} {E : Env} {ι κ μ : Inj} {σ τ : St} {w w' : World}
theorem range_ok (_hE : EOk P E) (hF : FOk P E) {K : Kt} (hK : KOk P E K) : RangeOk P E K := by
  intro n f qs ca cb r σ g fs cap v τ r₁ ps₁ a₁ b₁ res hf hg hk hl hq hna hnb B ι ac w Q h hr hm hpost
  have hv := opd_sound h hr hf
  generalize hfv : ac.eval f = f' at hv
  cases hv with
  | func _ _ fs' _ cap' hfs hcap =>
    obtain ⟨af, haf⟩ := Option.isSome_iff_exists.1 hg
    obtain ⟨fn, c, h1, h2, h3, _⟩ := hF.fn g af haf
    refine wpIn_rangeFunc fun fid _ => ?_
    let lp : Loop := { state := .ready, pending := none, fn := fid, tmps := ac.tmps, params := qs, assign := ca, body := cb, defers := w.heap.size }
    let wd := w.alloc (.deferred (some []))
    let w₁ := wd.alloc (.loop lp)
    let L : Loc := ⟨w.heap.size + 1, 0, 0, 0⟩
    have hwd : wd.heap.size = w.heap.size + 1 := World.size_alloc _ _
    have hw1 : w₁.heap.size = w.heap.size + 2 := by show (wd.alloc _).heap.size = _; rw [World.size_alloc, hwd]
    have god : ∀ k, k < w.heap.size → wd.heap[k]? = w.heap[k]? := fun k hk => by
      show (w.heap.push _)[k]? = _; rw [Array.getElem?_push, if_neg (by omega)]
    have rd : Rel P E ι σ wd := h.grow god (by omega)
    have ed : Ext ι σ w ι σ wd := Ext.grow (by omega) god rfl rfl rfl
    obtain ⟨r1, e1⟩ := rd.newB (.loop r (qs.toList.map path) (comp E n ca) (comp E n cb) none) (.loop lp) L hwd.symm ⟨lp, rfl, n, hr, rfl, hq, rfl, rfl, hna, hnb, rfl, rfl⟩
    have hy : VRel (ι.up σ.size L) (.func (.yield σ.size) #[] #[]) (.func (.yield (w.heap.size + 1)) #[] #[]) := .yield σ.size L (Inj.up_self _ _ _)
    have hcall := hK _ _ _ _ _ hk (ι.up σ.size L) w₁ _ _ r1 (.func g _ fs' _ cap' (hfs.mono e1.le) (hcap.mono e1.le)) (.cons _ _ _ _ hy .nil)
    have hrun (w : World) : (do let d ← Deferred.ofValue (.func (.func g) fs' cap') #[.func (.yield (L.blk)) #[] #[]]; invoke d.target d.args : Sem Next).run P w = .ok (.enter g (fs' ++ #[.func (.yield L.blk) #[] #[]] ++ cap')) w := by
      simp only [Deferred.ofValue, Sem.run_bind, Sem.run_pure, Result.andThen, invoke]
      exact callFunc_enter h1 h2 h3 _
    have hcall2 : CallsIn (Wd none) 0 P g (fs' ++ #[.func (.yield L.blk) #[] #[]] ++ cap') w₁ (Gives (Post P E (ι.up σ.size L) (σ.new (.loop r (qs.toList.map path) (comp E n ca) (comp E n cb) none)) w₁ v τ)) := by
      have := hcall
      unfold CallV at this
      rw [hrun] at this
      exact this
    refine ⟨w.heap.size + 1, [mkd w.heap.size], w₁, { target := .fn (.func g) cap', args := fs' ++ #[.func (.yield L.blk) #[] #[]] }, w₁, g, _, w₁, ?_, ?_, fun _ _ => trivial, callFunc_enter h1 h2 h3 _, (fun e => by cases e), ?_⟩
    · exact run_enterLoop_outer _ _ _ _ _
    · have e0 : ac.eval (.const (.func (.yield (w.heap.size + 1)) #[] #[])) = .func (.yield (w.heap.size + 1)) #[] #[] := rfl
      simp [resolve, hfv, Deferred.ofValue, e0, L]
    · refine hcall2.mono fun e w₃ ge => ?_
      cases e with
      | panicked _ => exact ge.elim
      | outgrown => exact ge.elim
      | returned v' =>
        obtain ⟨κ, g1, g2, g3⟩ := ge
        have hκ : κ σ.size = some L := g3.le _ _ (Inj.up_self _ _ _)
        obtain ⟨lq, q1, nq, _, _, _, _, _, _, _, q2⟩ := g2.blk σ.size L _ hκ hl
        have hwτ : writable (τ.heap.get σ.size) = true := by rw [show τ.heap.get σ.size = _ from hl]; rfl
        have hsz : σ.size < τ.size := (g2.dom _ _ hκ).1
        have hL3 := (g2.dom _ _ hκ).2
        have busy : lq.state ≠ .busy := by
          cases res with
          | none => rw [q2.1]; simp
          | some y =>
            cases y with
            | normal => exact q2.elim
            | exit id => rw [q2.1]; simp
            | ret => rw [q2.1]; simp
        refine ⟨lq.pending, _, run_endLoop q1 busy, ?_⟩
        have ho : ∀ k, k ≠ L.blk → (w₃.putObj L.blk (.loop { lq with state := .exhausted })).heap[k]? = w₃.heap[k]? := fun k hk => World.putObj_heap_other hk
        have pv := Priv.kill g2 hκ hwτ
        have rk : Rel P E κ (τ.put σ.size .dead) (w₃.putObj L.blk (.loop { lq with state := .exhausted })) := (g2.kill hsz).setB pv ho World.putObj_size
        have e2 : Ext ι σ w κ τ w₃ := (ed.trans h e1).trans h g3
        have e3 : Ext ι σ w κ (τ.put σ.size .dead) (w₃.putObj L.blk (.loop { lq with state := .exhausted })) := (e2.kill h.lim (.inr (Nat.le_refl _))).setB (b := L.blk) ho World.putObj_size (.inl (Nat.le_succ _)) rfl rfl rfl
        have pr : Priv (ι.up σ.size L) (σ.new (.loop r (qs.toList.map path) (comp E n ca) (comp E n cb) none)) w.heap.size := by
          intro C M hC _
          by_cases hCs : C = σ.size
          · subst hCs; rw [Inj.up_self] at hC; cases hC; show w.heap.size + 1 ≠ _; omega
          · rw [Inj.up_ne ι L hCs] at hC; have := (h.dom C M hC).2; omega
        obtain ⟨p1, p2⟩ := pr.ext r1 (by show w.heap.size < w₁.heap.size; omega) g3
        have hd1 : w₁.heap[w.heap.size]? = some (.deferred (some [])) := by
          show ((w.heap.push _).push _)[w.heap.size]? = _
          rw [Array.getElem?_push, if_neg (by simp)]; simp
        rw [hd1] at p2
        have mk : Marks B κ (τ.put σ.size .dead) (w₃.putObj L.blk (.loop { lq with state := .exhausted })) ([mkd w.heap.size] ++ ac.defers) := by
          obtain ⟨m0, rs, m1, m2, m3⟩ := hm
          obtain ⟨m0', rs', m1', m2', m3'⟩ := Marks.ext h ⟨m0, rs, rfl, m2, m3⟩ e3
          refine ⟨m0', w.heap.size :: rs, by rw [m1]; rfl, List.nodup_cons.2 ⟨fun hmem => ?_, m2⟩, fun q hq => ?_⟩
          · have := (Array.getElem?_eq_some_iff.1 (m3 _ hmem).1.1).1; omega
          · cases hq with
            | head => exact ⟨⟨by rw [ho _ (by show w.heap.size ≠ w.heap.size + 1; omega)]; exact p2, p1.put_dead⟩, m0⟩
            | tail _ hq =>
              have hqr : q ∈ rs' := by
                have : rs = rs' := by
                  have inj : ∀ (x y : List Nat), x.map mkd = y.map mkd → x = y := by
                    intro x
                    induction x with
                    | nil => intro y e; cases y with | nil => rfl | cons _ _ => cases e
                    | cons a x ih => intro y e; cases y with
                      | nil => cases e
                      | cons b y =>
                        simp only [List.map_cons, List.cons.injEq] at e
                        have : a = b := by have := e.1; unfold mkd at this; injection this with t _; injection t
                        rw [this, ih y e.2]
                  exact inj _ _ m1'
                rw [← this]; exact hq
              exact m3' q hqr
        have hp : CodeP P E B ι σ w n r (τ.put σ.size .dead) { ac with defers := [mkd w.heap.size] ++ ac.defers } (w₃.putObj L.blk (.loop { lq with state := .exhausted })) :=
          ⟨κ, hr.mono e3.le, rk, e3, mk⟩
        have hQ := hpost _ _ hp
        split
        · rename_i hp
          cases res with
          | none => exact hQ
          | some y =>
            cases y with
            | normal => exact q2.elim
            | exit id => rw [q2.2] at hp; cases hp
            | ret => rw [q2.2] at hp; cases hp
        · rename_i c hp
          cases res with
          | none => rw [q2.2] at hp; cases hp
          | some y =>
            cases y with
            | normal => exact q2.elim
            | exit id => rw [q2.2] at hp; cases hp; exact wpIn_exit hQ
            | ret => rw [q2.2] at hp; cases hp; exact wpIn_ret hQ

theorem kl_ok (hE : EOk P E) (hF : FOk P E) (hD : ∀ K, KOk P E K → DrawOk P E K) : ∀ m, KOk P E (KL E m) := by
  intro m
  induction m with
  | zero => intro f vs σ v τ hk; obtain ⟨k, h, _⟩ := hk; omega
  | succ m ih =>
    intro f vs σ v τ hk ι w f' vs' h hf hv
    obtain ⟨k, hkm, he⟩ := hk
    by_cases hk2 : k < m
    · exact ih f vs σ v τ ⟨k, hk2, he⟩ ι w f' vs' h hf hv
    · have : k = m := by omega
      subst this
      have hD' := hD _ ih
      have hR := range_ok hE hF ih
      unfold callVal at he
      split at he
      · rename_i g first cap
        cases hf with
        | func _ _ fs' _ cap' g1 g2 =>
          have := enter_sound hE hF ih hD' hR he h (g1.append (hv.append g2))
          unfold CallV
          have e : (do let d ← Deferred.ofValue (.func (.func g) fs' cap') vs'.toArray; invoke d.target d.args : Sem Next).run P w = (callFunc g (fs'.toList ++ (vs' ++ cap'.toList)).toArray).run P w := by
            simp only [Deferred.ofValue, Sem.run_bind, Sem.run_pure, Result.andThen, invoke]
            congr 2
            apply Array.toList_inj.1; simp
          rw [e]; exact this
      · rename_i A _ _
        cases hf with
        | yield _ L hA =>
          have := yield_sound hE ih hD' hR he hA h hv
          unfold CallV
          simpa [Deferred.ofValue, invoke] using this
      · cases he
/-- the main law: what the interpreter finds, the model does -/
theorem run_sound (hE : EOk P E) (hF : FOk P E) (hD : ∀ K, KOk P E K → DrawOk P E K) {m : Nat} {f : FuncId} {vs : List Value} {v : Value} (he : run E m f vs σ = .ok v τ) {vs' : List Value} (h : Rel P E ι σ w) (hv : VRels ι vs vs') :
    Calls P f vs'.toArray w fun e w' => ∃ v', e = .returned v' ∧ Post P E ι σ w v τ v' w' := by
  have g := enter_sound hE hF (kl_ok hE hF hD m) (hD _ (kl_ok hE hF hD m)) (range_ok hE hF (kl_ok hE hF hD m)) he h hv
  have g2 : T.get E.funcs f ≠ none := by
    intro e
    unfold run enter at he
    rw [e] at he; cases he
  obtain ⟨af, haf⟩ := Option.ne_none_iff_exists'.1 g2
  obtain ⟨fn, c, h1, h2, h3, _⟩ := hF.fn f af haf
  rw [callFunc_enter h1 h2 h3] at g
  have g3 : CallsIn Fence.wide 0 P f vs'.toArray w (Gives (Post P E ι σ w v τ)) := g
  refine (callsIn_wide.1 g3).mono fun e w' ge => ?_
  cases e with
  | returned v' => exact ⟨v', rfl, ge⟩
  | panicked _ => exact ge.elim
  | outgrown => exact ge.elim
end
end Go.Ab
namespace Go.Ab
open Go

section
variable {E : Env} {K : Kt} {r r' : Regs} {σ τ : St}
/-- operands see registers only -/
theorem ev_regs : ∀ {x : Opd}, (∀ p ∈ regsOf x, T.getP p r = T.getP p r') → ev x r σ = ev x r' σ := by
  intro x
  induction x with
  | reg p => intro h; exact h p (by simp [regsOf])
  | const v => intro _; rfl
  | u k x ih => intro h; rw [ev_u, ev_u, ih h]
  | b k x y ix iy =>
    intro h
    rw [ev_b, ev_b, ix fun p hp => h p (List.mem_append_left _ hp), iy fun p hp => h p (List.mem_append_right _ hp)]
  | pick a b c ia ib ic =>
    intro h
    simp only [regsOf, List.mem_append] at h
    rw [ev_pick, ev_pick, ia fun p hp => h p (.inl hp), ib fun p hp => h p (.inr (.inl hp)), ic fun p hp => h p (.inr (.inr hp))]
  | q k a b c d ia ib ic id =>
    intro h
    simp only [regsOf, List.mem_append] at h
    rw [ev_q, ev_q, ia fun p hp => h p (.inl hp), ib fun p hp => h p (.inr (.inl hp)), ic fun p hp => h p (.inr (.inr (.inl hp))), id fun p hp => h p (.inr (.inr (.inr hp)))]
theorem evs_regs : ∀ {l : List Opd}, (∀ p ∈ l.flatMap regsOf, T.getP p r = T.getP p r') → evs l r σ = evs l r' σ := by
  intro l
  induction l with
  | nil => intro _; rfl
  | cons x l ih =>
    intro h
    simp only [List.flatMap_cons, List.mem_append] at h
    rw [evs_cons, evs_cons, ev_regs fun p hp => h p (.inl hp), ih fun p hp => h p (.inr hp)]
theorem fill_regs : ∀ {ps : List (Nat × Nat × Opd)} {cells : List Value}, (∀ p ∈ (ps.map (·.2.2)).flatMap regsOf, T.getP p r = T.getP p r') → fill r σ cells ps = fill r' σ cells ps := by
  intro ps
  induction ps with
  | nil => intro cells _; rfl
  | cons q ps ih =>
    intro cells h
    obtain ⟨o, s, x⟩ := q
    simp only [List.map_cons, List.flatMap_cons, List.mem_append] at h
    have e := ev_regs (σ := σ) fun p hp => h p (.inl hp)
    have i (c : List Value) := ih (cells := c) fun p hp => h p (.inr hp)
    unfold fill
    rw [e]
    simp only [i]
theorem opK_regs {o : AOp} (h : ∀ p ∈ (aopOpds o).flatMap regsOf, T.getP p r = T.getP p r') {v : Value} (k : OpK E K o r σ v τ) : OpK E K o r' σ v τ := by
  cases o with
  | call f args => obtain ⟨vs, h1, h2⟩ := k; exact ⟨vs, by rw [← evs_regs (l := args) h]; exact h1, h2⟩
  | callV f args =>
    simp only [aopOpds, List.flatMap_cons, List.mem_append] at h
    obtain ⟨fv, vs, h0, h1, h2⟩ := k
    exact ⟨fv, vs, by rw [← ev_regs fun p hp => h p (.inl hp)]; exact h0, by rw [← evs_regs fun p hp => h p (.inr hp)]; exact h1, h2⟩
  | invoke x nm args =>
    simp only [aopOpds, List.flatMap_cons, List.mem_append] at h
    obtain ⟨t, y, vs, f, h0, h1, h2⟩ := k
    exact ⟨t, y, vs, f, by rw [← ev_regs fun p hp => h p (.inl hp)]; exact h0, by rw [← evs_regs fun p hp => h p (.inr hp)]; exact h1, h2⟩
  | bad s => exact k
  | mkMap => exact k
  | new t c => exact k
  | ex x =>
    have e := ev_regs (σ := σ) (x := x) fun p hp => h p (by simpa [aopOpds] using hp)
    have k' : fEx x r σ = .ok v τ := k
    show fEx x r' σ = .ok v τ
    unfold fEx at k' ⊢; rw [← e]; exact k'
  | box t n x =>
    have e := ev_regs (σ := σ) (x := x) fun p hp => h p (by simpa [aopOpds] using hp)
    have k' : fBox t n x r σ = .ok v τ := k
    show fBox t n x r' σ = .ok v τ
    unfold fBox at k' ⊢; rw [← e]; exact k'
  | clear z x =>
    have e := ev_regs (σ := σ) (x := x) fun p hp => h p (by simpa [aopOpds] using hp)
    have k' : fClear z x r σ = .ok v τ := k
    show fClear z x r' σ = .ok v τ
    unfold fClear at k' ⊢; rw [← e]; exact k'
  | build z ps =>
    have k' : fBuild z ps r σ = .ok v τ := k
    show fBuild z ps r' σ = .ok v τ
    unfold fBuild at k' ⊢; rw [← fill_regs h]; exact k'
  | row t n z ps =>
    have k' : fRow t n z ps r σ = .ok v τ := k
    show fRow t n z ps r' σ = .ok v τ
    unfold fRow at k' ⊢; rw [← fill_regs h]; exact k'
  | mkFunc g a b =>
    have ea := evs_regs (σ := σ) (l := a) fun p hp => h p (by simp only [aopOpds, List.flatMap_append, List.mem_append]; exact .inl hp)
    have eb := evs_regs (σ := σ) (l := b) fun p hp => h p (by simp only [aopOpds, List.flatMap_append, List.mem_append]; exact .inr hp)
    have k' : fMkFunc g a b r σ = .ok v τ := k
    show fMkFunc g a b r' σ = .ok v τ
    unfold fMkFunc at k' ⊢; rw [← ea, ← eb]; exact k'
  | store n x y =>
    simp only [aopOpds, List.flatMap_cons, List.flatMap_nil, List.append_nil, List.mem_append] at h
    have ea := ev_regs (σ := σ) fun p hp => h p (.inl hp)
    have eb := ev_regs (σ := σ) fun p hp => h p (.inr hp)
    have k' : fStore n x y r σ = .ok v τ := k
    show fStore n x y r' σ = .ok v τ
    unfold fStore at k' ⊢; rw [← ea, ← eb]; exact k'
  | mkSlice t z x y =>
    simp only [aopOpds, List.flatMap_cons, List.flatMap_nil, List.append_nil, List.mem_append] at h
    have ea := ev_regs (σ := σ) fun p hp => h p (.inl hp)
    have eb := ev_regs (σ := σ) fun p hp => h p (.inr hp)
    have k' : fMkSlice t z x y r σ = .ok v τ := k
    show fMkSlice t z x y r' σ = .ok v τ
    unfold fMkSlice at k' ⊢; rw [← ea, ← eb]; exact k'
  | append t s x y =>
    simp only [aopOpds, List.flatMap_cons, List.flatMap_nil, List.append_nil, List.mem_append] at h
    have ea := ev_regs (σ := σ) fun p hp => h p (.inl hp)
    have eb := ev_regs (σ := σ) fun p hp => h p (.inr hp)
    have k' : fAppend t s x y r σ = .ok v τ := k
    show fAppend t s x y r' σ = .ok v τ
    unfold fAppend at k' ⊢; rw [← ea, ← eb]; exact k'
  | appendMake t z s x y =>
    simp only [aopOpds, List.flatMap_cons, List.flatMap_nil, List.append_nil, List.mem_append] at h
    have ea := ev_regs (σ := σ) fun p hp => h p (.inl hp)
    have eb := ev_regs (σ := σ) fun p hp => h p (.inr hp)
    have k' : fAppendMake t z s x y r σ = .ok v τ := k
    show fAppendMake t z s x y r' σ = .ok v τ
    unfold fAppendMake at k' ⊢; rw [← ea, ← eb]; exact k'
  | copy s x y =>
    simp only [aopOpds, List.flatMap_cons, List.flatMap_nil, List.append_nil, List.mem_append] at h
    have ea := ev_regs (σ := σ) fun p hp => h p (.inl hp)
    have eb := ev_regs (σ := σ) fun p hp => h p (.inr hp)
    have k' : fCopy s x y r σ = .ok v τ := k
    show fCopy s x y r' σ = .ok v τ
    unfold fCopy at k' ⊢; rw [← ea, ← eb]; exact k'
  | mapSet q x y z =>
    simp only [aopOpds, List.flatMap_cons, List.flatMap_nil, List.append_nil, List.mem_append] at h
    have ea := ev_regs (σ := σ) fun p hp => h p (.inl hp)
    have eb := ev_regs (σ := σ) fun p hp => h p (.inr (.inl hp))
    have ec := ev_regs (σ := σ) fun p hp => h p (.inr (.inr hp))
    have k' : fMapSet q x y z r σ = .ok v τ := k
    show fMapSet q x y z r' σ = .ok v τ
    unfold fMapSet at k' ⊢; rw [← ea, ← eb, ← ec]; exact k'
end
end Go.Ab
namespace Go.Ab
open Go

section
variable {E : Env} {r : Regs} {σ τ : St}
theorem ev_heap : ∀ {x : Opd}, reads x = false → ev x r σ = ev x r τ := by
  intro x
  induction x with
  | reg p => intro _; rfl
  | const v => intro _; rfl
  | u k x ih =>
    intro h
    simp only [reads, Bool.or_eq_false_iff] at h
    rw [ev_u, ev_u, ih h.2]
    cases k <;> first | rfl | cases h.1
  | b k x y ix iy =>
    intro h
    simp only [reads, Bool.or_eq_false_iff] at h
    rw [ev_b, ev_b, ix h.1.2, iy h.2]
    cases k <;> first | rfl | cases h.1.1
  | pick a b c ia ib ic =>
    intro h
    simp only [reads, Bool.or_eq_false_iff] at h
    rw [ev_pick, ev_pick, ia h.1.1, ib h.1.2, ic h.2]
  | q k a b c d ia ib ic id =>
    intro h
    simp only [reads, Bool.or_eq_false_iff] at h
    rw [ev_q, ev_q, ia h.1.1.1.2, ib h.1.1.2, ic h.1.2, id h.2]
    cases k <;> first | rfl | cases h.1.1.1.1
theorem evs_heap : ∀ {l : List Opd}, l.all (fun x => !reads x) = true → evs l r σ = evs l r τ := by
  intro l
  induction l with
  | nil => intro _; rfl
  | cons x l ih =>
    intro h
    simp only [List.all_cons, Bool.and_eq_true, Bool.not_eq_true'] at h
    rw [evs_cons, evs_cons, ev_heap (τ := τ) h.1, ih h.2]
theorem fill_heap : ∀ {ps : List (Nat × Nat × Opd)} {cells : List Value}, (ps.map (·.2.2)).all (fun x => !reads x) = true → fill r σ cells ps = fill r τ cells ps := by
  intro ps
  induction ps with
  | nil => intro cells _; rfl
  | cons q ps ih =>
    intro cells h
    obtain ⟨o, s, x⟩ := q
    simp only [List.map_cons, List.all_cons, Bool.and_eq_true, Bool.not_eq_true'] at h
    have e := ev_heap (r := r) (σ := σ) (τ := τ) h.1
    have i (c : List Value) := ih (cells := c) h.2
    unfold fill
    rw [e]
    simp only [i]
end
end Go.Ab
namespace Go.Ab
open Go

/-- two states alike at F and at what isn't there yet -/
structure Ag (F : Nat → Prop) (σ τ : St) : Prop where
  size : τ.size = σ.size
  lim : τ.lim = σ.lim
  same : ∀ A, F A ∨ σ.size ≤ A → τ.heap.get A = σ.heap.get A
/-- the same step from both -/
structure Loc2 (F : Nat → Prop) (σ σ' τ τ' : St) : Prop where
  size : τ'.size = σ'.size
  lim : τ'.lim = σ'.lim
  grow : σ.size ≤ σ'.size
  limσ : σ'.lim = σ.lim
  keepσ : ∀ A, A < σ.size → ¬ F A → σ'.heap.get A = σ.heap.get A
  keepτ : ∀ A, A < σ.size → ¬ F A → τ'.heap.get A = τ.heap.get A
  same : ∀ A, F A ∨ σ.size ≤ A → τ'.heap.get A = σ'.heap.get A
section
variable {F : Nat → Prop} {σ σ' τ τ' : St}
theorem Ag.refl2 (h : Ag F σ τ) : Loc2 F σ σ τ τ := ⟨h.size, h.lim, Nat.le_refl _, rfl, fun _ _ _ => rfl, fun _ _ _ => rfl, h.same⟩
theorem Loc2.put (h : Loc2 F σ σ' τ τ') {A : Nat} (hA : F A ∨ σ.size ≤ A) (b : Blk) : Loc2 F σ (σ'.put A b) τ (τ'.put A b) where
  size := by rw [St.put_size, St.put_size]; exact h.size
  lim := by rw [St.put_lim, St.put_lim]; exact h.lim
  grow := by rw [St.put_size]; exact h.grow
  limσ := by rw [St.put_lim]; exact h.limσ
  keepσ B hB hn := by
    rw [St.put_heap, T.get_set_ne _ _ (by intro e; subst e; rcases hA with hA | hA; exact hn hA; omega)]; exact h.keepσ B hB hn
  keepτ B hB hn := by
    rw [St.put_heap, T.get_set_ne _ _ (by intro e; subst e; rcases hA with hA | hA; exact hn hA; omega)]; exact h.keepτ B hB hn
  same B hB := by
    rw [St.put_heap, St.put_heap]
    by_cases e : B = A
    · subst e; rw [T.get_set_self, T.get_set_self]
    · rw [T.get_set_ne _ _ e, T.get_set_ne _ _ e]; exact h.same B hB
theorem Loc2.new (h : Loc2 F σ σ' τ τ') (b : Blk) : Loc2 F σ (σ'.new b) τ (τ'.new b) where
  size := by rw [St.new_size, St.new_size, h.size]
  lim := by rw [St.new_lim, St.new_lim]; exact h.lim
  grow := by rw [St.new_size]; have := h.grow; omega
  limσ := by rw [St.new_lim]; exact h.limσ
  keepσ B hB hn := by rw [St.new_heap, T.get_set_ne _ _ (by have := h.grow; omega)]; exact h.keepσ B hB hn
  keepτ B hB hn := by rw [St.new_heap, T.get_set_ne _ _ (by rw [h.size]; have := h.grow; omega)]; exact h.keepτ B hB hn
  same B hB := by
    rw [St.new_heap, St.new_heap, h.size]
    by_cases e : B = σ'.size
    · subst e; rw [T.get_set_self, T.get_set_self]
    · rw [T.get_set_ne _ _ e, T.get_set_ne _ _ e]; exact h.same B hB
theorem loadL_ag (h : Ag F σ τ) {b : Nat} (hb : F b) (off n : Nat) : loadL τ b off n = loadL σ b off n := by
  unfold loadL; rw [show T.get τ.heap b = T.get σ.heap b from h.same b (.inl hb)]
theorem storeL_ag (h : Ag F σ τ) {b off : Nat} {vs : List Value} (hb : F b) (hs : storeL σ b off vs = some σ') : ∃ τ', storeL τ b off vs = some τ' ∧ Loc2 F σ σ' τ τ' := by
  unfold storeL at hs ⊢
  rw [show T.get τ.heap b = T.get σ.heap b from h.same b (.inl hb), h.lim]
  split at hs
  · rename_i c e hg
    cases hl : Nat.ble σ.lim b with
    | false => rw [hl] at hs; cases hs
    | true =>
      rw [hl, cond_true] at hs
      rw [cond_true]
      split at hs
      · rename_i c' hc
        cases hs
        exact ⟨_, rfl, h.refl2.put (.inl hb) _⟩
      · cases hs
  · cases hs
def blkV (v : Value) (A : Nat) : Prop := blkOf (some v) = some A
theorem firstL_ag (h : Ag F σ τ) {x : Value} (hb : ∀ A, blkV x A → F A) (size n : Nat) : firstL τ size n x = firstL σ size n x := by
  unfold firstL
  cases x with
  | slice a l c =>
    cases a with
    | none => rfl
    | some a =>
      obtain ⟨b, off, s⟩ := a
      cases s with
      | none =>
        simp only
        rw [loadL_ag h (hb b rfl)]
      | some s => rfl
  | _ => rfl
end
end Go.Ab
namespace Go.Ab
open Go

section
variable {F : Nat → Prop} {σ σ' τ τ' : St}
theorem growA_ag (h : Ag F σ τ) {t : TypeId} {size : Nat} {a : Option Addr} {len cap n : Nat} {new : List Value} {v : Value} (hb : ∀ A, blkV (.slice a len cap) A → F A) (hs : growA t size a len cap n new σ = .ok v σ') : ∃ τ', growA t size a len cap n new τ = .ok v τ' ∧ Loc2 F σ σ' τ τ' := by
  unfold growA at hs ⊢
  cases h1 : (!Nat.ble (len + n) 1073741824) with
  | true => rw [h1] at hs; cases hs
  | false =>
    rw [h1, cond_false] at hs
    rw [cond_false]
    cases h2 : Nat.blt cap U with
    | true =>
      rw [h2, cond_true] at hs
      rw [cond_true]
      cases h3 : Nat.ble (len + n) cap with
      | true =>
        rw [h3, cond_true] at hs
        rw [cond_true]
        split at hs
        · rename_i b off
          split at hs
          · rename_i σ1 hst
            cases hs
            obtain ⟨τ1, g1, g2⟩ := storeL_ag h (hb b rfl) hst
            simp only [g1]
            exact ⟨τ1, rfl, g2⟩
          · cases hs
        · cases hs
      | false =>
        rw [h3, cond_false] at hs
        rw [cond_false, firstL_ag h hb, h.size]
        split at hs
        · cases hs; exact ⟨_, rfl, h.refl2.new _⟩
        · cases hs
    | false =>
      rw [h2, cond_false] at hs
      rw [cond_false]
      split at hs
      · rename_i b off
        rw [show T.get τ.heap b = T.get σ.heap b from h.same b (.inl (hb b rfl)), h.lim, h.size]
        split at hs
        · rename_i c t' hg
          cases h4 : (Nat.ble σ.lim b && Nat.beq t t') with
          | false => rw [h4] at hs; cases hs
          | true =>
            rw [h4, cond_true] at hs
            simp only [cond_true]
            split at hs
            · cases hs; exact ⟨_, rfl, (h.refl2.put (.inl (hb b rfl)) _).new _⟩
            · cases hs
        · cases hs
      · cases hs
theorem appendV_ag (h : Ag F σ τ) {t : TypeId} {size : Nat} {s x v : Value} (hb : ∀ A, blkV s A → F A) (hx : ∀ A, blkV x A → F A) (hs : appendV t size s x σ = .ok v σ') : ∃ τ', appendV t size s x τ = .ok v τ' ∧ Loc2 F σ σ' τ τ' := by
  unfold appendV at hs ⊢
  split at hs
  · rename_i a len cap n hn
    cases h1 : Nat.beq n 0 with
    | true =>
      rw [h1, cond_true] at hs
      rw [cond_true]
      cases h2 : Nat.ble len cap with
      | true => rw [h2, cond_true] at hs; cases hs; exact ⟨_, rfl, h.refl2⟩
      | false => rw [h2, cond_false] at hs; cases hs
    | false =>
      rw [h1, cond_false] at hs
      rw [cond_false, firstL_ag h hx]
      split at hs
      · rename_i new hnew
        exact growA_ag h hb hs
      · cases hs
  · cases hs
theorem copyV_ag (h : Ag F σ τ) {size : Nat} {d x v : Value} (hb : ∀ A, blkV d A → F A) (hx : ∀ A, blkV x A → F A) (hs : copyV size d x σ = .ok v σ') : ∃ τ', copyV size d x τ = .ok v τ' ∧ Loc2 F σ σ' τ τ' := by
  unfold copyV at hs ⊢
  split at hs
  · rename_i a n c m hm
    cases h1 : Nat.beq (Nat.min m n * size) 0 with
    | true => rw [h1, cond_true] at hs; rw [cond_true]; cases hs; exact ⟨_, rfl, h.refl2⟩
    | false =>
      rw [h1, cond_false] at hs
      rw [cond_false, firstL_ag h hx]
      split at hs
      · rename_i cs b off hcs
        split at hs
        · rename_i σ1 hst
          cases hs
          obtain ⟨τ1, g1, g2⟩ := storeL_ag h (hb b rfl) hst
          simp only [g1]
          exact ⟨τ1, rfl, g2⟩
        · cases hs
      · cases hs
  · cases hs
theorem clearV_ag (h : Ag F σ τ) {zero : List Value} {a : Option Addr} {n c : Nat} {v : Value} (hb : ∀ A, blkV (.slice a n c) A → F A) (hs : clearV zero a n σ = .ok v σ') : ∃ τ', clearV zero a n τ = .ok v τ' ∧ Loc2 F σ σ' τ τ' := by
  unfold clearV at hs ⊢
  cases h1 : Nat.beq n 0 with
  | true => rw [h1, cond_true] at hs; rw [cond_true]; cases hs; exact ⟨_, rfl, h.refl2⟩
  | false =>
    rw [h1, cond_false] at hs
    rw [cond_false]
    split at hs
    · rename_i b off
      split at hs
      · rename_i σ1 hst
        cases hs
        obtain ⟨τ1, g1, g2⟩ := storeL_ag h (hb b rfl) hst
        simp only [g1]
        exact ⟨τ1, rfl, g2⟩
      · cases hs
    · cases hs
theorem storeV_ag (h : Ag F σ τ) {n : Nat} {a x v : Value} (hb : ∀ A, blkV a A → F A) (hs : storeV n a x σ = .ok v σ') : ∃ τ', storeV n a x τ = .ok v τ' ∧ Loc2 F σ σ' τ τ' := by
  unfold storeV at hs ⊢
  split at hs
  · rename_i b off
    split at hs
    · rename_i l hl
      cases h1 : Nat.beq l.length n with
      | false => rw [h1] at hs; cases hs
      | true =>
        rw [h1, cond_true] at hs
        rw [cond_true]
        split at hs
        · rename_i σ1 hst
          cases hs
          obtain ⟨τ1, g1, g2⟩ := storeL_ag h (hb b rfl) hst
          simp only [g1]
          exact ⟨τ1, rfl, g2⟩
        · cases hs
    · cases hs
  · cases hs
end
end Go.Ab
namespace Go.Ab
open Go

section
variable {E : Env} {self : Self} {r : Regs} {σ σ' τ τ' : St}
def Foot (r : Regs) (σ : St) (o : AOp) (A : Nat) : Prop := touch r σ o = some A ∨ touch2 r σ o = some A
theorem sem1_ag {F : Nat → Prop} (h : Ag F σ τ) {k : K1} {v : Value} (hb : ∀ A, blkV v A → F A) : sem1 k v τ = sem1 k v σ := by
  cases k with
  | load1 =>
    show sLoad1 v τ = sLoad1 v σ
    unfold sLoad1
    split
    · rename_i b off
      rw [load1_eq, load1_eq, show τ.heap.get b = σ.heap.get b from h.same b (.inl (hb b rfl))]
    · rfl
  | loadN n =>
    show sLoadN n v τ = sLoadN n v σ
    unfold sLoadN
    split
    · rename_i b off
      rw [loadL_ag h (hb b rfl)]
    · rfl
  | toStr =>
    show sToStr v τ = sToStr v σ
    unfold sToStr
    split
    · rfl
    · rename_i b off n c
      rw [loadL_ag h (hb b rfl)]
    · rfl
  | lenMap =>
    show sLenMap v τ = sLenMap v σ
    unfold sLenMap
    split
    · rfl
    · rename_i m
      rw [show T.get τ.heap m = T.get σ.heap m from h.same m (.inl (hb m rfl))]
    · rfl
  | _ => rfl
theorem sem2_ag {F : Nat → Prop} (h : Ag F σ τ) {k : K2} {v u : Value} (hb : ∀ A, blkV v A → F A) : sem2 k v u τ = sem2 k v u σ := by
  cases k with
  | lookup kk z ok =>
    show sLookup kk z ok v u τ = sLookup kk z ok v u σ
    have e : mapOf τ v = mapOf σ v := by
      unfold mapOf
      split
      · rfl
      · rename_i m
        rw [show T.get τ.heap m = T.get σ.heap m from h.same m (.inl (hb m rfl))]
      · rfl
    unfold sLookup; rw [e]
  | _ => rfl
theorem sem4_ag {F : Nat → Prop} (h : Ag F σ τ) {k : K4} {v a b c : Value} (hb : ∀ A, blkV v A → F A) : sem4 k v a b c τ = sem4 k v a b c σ := by
  cases k with
  | slice t size =>
    show sSlice t size v a b c τ = sSlice t size v a b c σ
    unfold sSlice
    split
    · rename_i ad len cap
      have e : rowOf t ad cap τ = rowOf t ad cap σ := by
        unfold rowOf
        cases Nat.blt cap U with
        | true => rfl
        | false =>
          rw [cond_false, cond_false]
          split
          · rename_i bb _ _
            rw [show T.get τ.heap bb = T.get σ.heap bb from h.same bb (.inl (hb bb rfl))]
          · rfl
      rw [e]
    · rfl
  | _ => rfl
theorem ex_local {x : Opd} {v : Value} {F : Nat → Prop} (h : Ag F σ τ) (e : ev x r τ = ev x r σ) (hv : fEx x r σ = .ok v σ') : ∃ τ', fEx x r τ = .ok v τ' ∧ Loc2 F σ σ' τ τ' := by
  obtain ⟨rfl, hx⟩ := ex_inv hv
  refine ⟨τ, ?_, h.refl2⟩
  unfold fEx out
  rw [e, hx]
theorem op_local {o : AOp} (hf : flatOp o = true) (hc : isCall o = false) (h : Ag (Foot r σ o) σ τ) {v : Value} (hv : doOp E self o r σ = .ok v σ') : ∃ τ', doOp E self o r τ = .ok v τ' ∧ Loc2 (Foot r σ o) σ σ' τ τ' := by
  cases o with
  | call f args => cases hc
  | callV f args => cases hc
  | invoke x nm args => cases hc
  | bad s => cases hv
  | ex x =>
    refine ex_local h ?_ hv
    cases x with
    | reg p => rfl
    | const c => rfl
    | pick a b c => exact (ev_heap (by simpa [flatOp, aopOpds] using hf)).symm
    | u k x =>
      have hx : reads x = false := by simpa [flatOp] using hf
      rw [ev_u, ev_u, ev_heap (σ := τ) (τ := σ) hx]
      cases hxv : ev x r σ with
      | none => rfl
      | some u =>
        refine sem1_ag h fun A hA => .inl ?_
        show blkOf (ev x r σ) = some A
        rw [hxv]; exact hA
    | b k x y =>
      simp only [flatOp, Bool.and_eq_true, Bool.not_eq_true'] at hf
      rw [ev_b, ev_b, ev_heap (σ := τ) (τ := σ) hf.1, ev_heap (σ := τ) (τ := σ) hf.2]
      cases hxv : ev x r σ with
      | none => rfl
      | some u =>
        cases ev y r σ with
        | none => rfl
        | some q =>
          refine sem2_ag h fun A hA => .inl ?_
          show blkOf (ev x r σ) = some A
          rw [hxv]; exact hA
    | q k x a b c =>
      simp only [flatOp, Bool.and_eq_true, Bool.not_eq_true'] at hf
      rw [ev_q, ev_q, ev_heap (σ := τ) (τ := σ) hf.1.1.1, ev_heap (σ := τ) (τ := σ) hf.1.1.2, ev_heap (σ := τ) (τ := σ) hf.1.2, ev_heap (σ := τ) (τ := σ) hf.2]
      cases hxv : ev x r σ with
      | none => rfl
      | some u =>
        cases ev a r σ with
        | none => rfl
        | some a' =>
          cases ev b r σ with
          | none => rfl
          | some b' =>
            cases ev c r σ with
            | none => rfl
            | some c' =>
              refine sem4_ag h fun A hA => .inl ?_
              show blkOf (ev x r σ) = some A
              rw [hxv]; exact hA
  | new t c =>
    have hv' : newPtr σ t c = .ok v σ' := hv
    cases hv'
    refine ⟨τ.new (.cells c t true), ?_, h.refl2.new _⟩
    show newPtr τ t c = _
    unfold newPtr; rw [h.size]
  | mkMap =>
    have hv' : fMkMap r σ = .ok v σ' := hv
    cases hv'
    refine ⟨τ.new (.map []), ?_, h.refl2.new _⟩
    show fMkMap r τ = _
    unfold fMkMap; rw [h.size]
  | box t n x =>
    have hv' : fBox t n x r σ = .ok v σ' := hv
    show ∃ τ', fBox t n x r τ = .ok v τ' ∧ _
    unfold fBox at hv' ⊢
    rw [ev_heap (σ := τ) (τ := σ) (by simpa [flatOp, aopOpds] using hf)]
    split at hv'
    · rename_i u hu
      split at hv'
      · rename_i l hl
        cases hb : Nat.beq l.length n with
        | false => rw [hb] at hv'; cases hv'
        | true =>
          rw [hb, cond_true] at hv'
          cases hv'
          refine ⟨τ.new (.cells l t true), ?_, h.refl2.new _⟩
          rw [cond_true]; unfold newPtr; rw [h.size]
      · cases hv'
    · cases hv'
  | clear z x =>
    have hv' : fClear z x r σ = .ok v σ' := hv
    show ∃ τ', fClear z x r τ = .ok v τ' ∧ _
    unfold fClear at hv' ⊢
    rw [ev_heap (σ := τ) (τ := σ) (by simpa [flatOp, aopOpds] using hf)]
    split at hv'
    · rename_i a n c hx
      exact clearV_ag (c := c) h (fun A hA => .inl (by show blkOf (ev x r σ) = some A; rw [hx]; exact hA)) hv'
    · cases hv'
  | build z ps =>
    have hv' : fBuild z ps r σ = .ok v σ' := hv
    show ∃ τ', fBuild z ps r τ = .ok v τ' ∧ _
    unfold fBuild at hv' ⊢
    rw [fill_heap (σ := τ) (τ := σ) hf]
    split at hv'
    · cases hv'; exact ⟨τ, rfl, h.refl2⟩
    · cases hv'
  | row t n z ps =>
    have hv' : fRow t n z ps r σ = .ok v σ' := hv
    show ∃ τ', fRow t n z ps r τ = .ok v τ' ∧ _
    unfold fRow at hv' ⊢
    rw [fill_heap (σ := τ) (τ := σ) hf, h.size]
    split at hv'
    · cases hv'; exact ⟨_, rfl, h.refl2.new _⟩
    · cases hv'
  | mkFunc g a b =>
    simp only [flatOp, aopOpds, List.all_append, Bool.and_eq_true] at hf
    have hv' : fMkFunc g a b r σ = .ok v σ' := hv
    show ∃ τ', fMkFunc g a b r τ = .ok v τ' ∧ _
    unfold fMkFunc at hv' ⊢
    rw [evs_heap (σ := τ) (τ := σ) hf.1, evs_heap (σ := τ) (τ := σ) hf.2]
    split at hv'
    · cases hv'; exact ⟨τ, rfl, h.refl2⟩
    · cases hv'
  | store n x y =>
    simp only [flatOp, aopOpds, List.all_cons, List.all_nil, Bool.and_eq_true, Bool.not_eq_true', and_true] at hf
    have hv' : fStore n x y r σ = .ok v σ' := hv
    show ∃ τ', fStore n x y r τ = .ok v τ' ∧ _
    unfold fStore at hv' ⊢
    rw [ev_heap (σ := τ) (τ := σ) hf.1, ev_heap (σ := τ) (τ := σ) hf.2]
    split at hv'
    · rename_i a u hx hu
      exact storeV_ag h (fun A hA => .inl (by show blkOf (ev x r σ) = some A; rw [hx]; exact hA)) hv'
    · cases hv'
  | mkSlice t z x y =>
    simp only [flatOp, aopOpds, List.all_cons, List.all_nil, Bool.and_eq_true, Bool.not_eq_true', and_true] at hf
    have hv' : fMkSlice t z x y r σ = .ok v σ' := hv
    show ∃ τ', fMkSlice t z x y r τ = .ok v τ' ∧ _
    unfold fMkSlice at hv' ⊢
    rw [ev_heap (σ := τ) (τ := σ) hf.1, ev_heap (σ := τ) (τ := σ) hf.2, h.size]
    split at hv'
    · rename_i k1 l k2 c hl hcc
      cases hb : (Nat.ble l c && Nat.ble c 1048576) with
      | false => rw [hb] at hv'; cases hv'
      | true => rw [hb, cond_true] at hv'; cases hv'; exact ⟨_, rfl, h.refl2.new _⟩
    · cases hv'
  | append t s x y =>
    simp only [flatOp, aopOpds, List.all_cons, List.all_nil, Bool.and_eq_true, Bool.not_eq_true', and_true] at hf
    have hv' : fAppend t s x y r σ = .ok v σ' := hv
    show ∃ τ', fAppend t s x y r τ = .ok v τ' ∧ _
    unfold fAppend at hv' ⊢
    rw [ev_heap (σ := τ) (τ := σ) hf.1, ev_heap (σ := τ) (τ := σ) hf.2]
    split at hv'
    · rename_i a u hx hu
      exact appendV_ag h (fun A hA => .inl (by show blkOf (ev x r σ) = some A; rw [hx]; exact hA)) (fun A hA => .inr (by show blkOf (ev y r σ) = some A; rw [hu]; exact hA)) hv'
    · cases hv'
  | copy s x y =>
    simp only [flatOp, aopOpds, List.all_cons, List.all_nil, Bool.and_eq_true, Bool.not_eq_true', and_true] at hf
    have hv' : fCopy s x y r σ = .ok v σ' := hv
    show ∃ τ', fCopy s x y r τ = .ok v τ' ∧ _
    unfold fCopy at hv' ⊢
    rw [ev_heap (σ := τ) (τ := σ) hf.1, ev_heap (σ := τ) (τ := σ) hf.2]
    split at hv'
    · rename_i a u hx hu
      exact copyV_ag h (fun A hA => .inl (by show blkOf (ev x r σ) = some A; rw [hx]; exact hA)) (fun A hA => .inr (by show blkOf (ev y r σ) = some A; rw [hu]; exact hA)) hv'
    · cases hv'
  | appendMake t z s x y =>
    simp only [flatOp, aopOpds, List.all_cons, List.all_nil, Bool.and_eq_true, Bool.not_eq_true', and_true] at hf
    have hv' : fAppendMake t z s x y r σ = .ok v σ' := hv
    show ∃ τ', fAppendMake t z s x y r τ = .ok v τ' ∧ _
    unfold fAppendMake at hv' ⊢
    rw [ev_heap (σ := τ) (τ := σ) hf.1, ev_heap (σ := τ) (τ := σ) hf.2]
    split at hv'
    · rename_i a len cap k n hx hu
      cases h1 : Nat.beq n 0 with
      | true =>
        rw [h1, cond_true] at hv'
        rw [cond_true]
        cases h2 : Nat.ble len cap with
        | true => rw [h2, cond_true] at hv'; cases hv'; exact ⟨_, rfl, h.refl2⟩
        | false => rw [h2, cond_false] at hv'; cases hv'
      | false =>
        rw [h1, cond_false] at hv'
        rw [cond_false]
        cases h2 : Nat.ble n 1048576 with
        | true =>
          rw [h2, cond_true] at hv'
          rw [cond_true]
          exact growA_ag h (fun A hA => .inl (by show blkOf (ev x r σ) = some A; rw [hx]; exact hA)) hv'
        | false => rw [h2, cond_false] at hv'; cases hv'
    · cases hv'
  | mapSet q x y z =>
    simp only [flatOp, aopOpds, List.all_cons, List.all_nil, Bool.and_eq_true, Bool.not_eq_true', and_true] at hf
    have hv' : fMapSet q x y z r σ = .ok v σ' := hv
    show ∃ τ', fMapSet q x y z r τ = .ok v τ' ∧ _
    unfold fMapSet at hv' ⊢
    rw [ev_heap (σ := τ) (τ := σ) hf.1, ev_heap (σ := τ) (τ := σ) hf.2.1, ev_heap (σ := τ) (τ := σ) hf.2.2, h.lim]
    split at hv'
    · rename_i m k u hm hk hu
      have hF : Foot r σ (.mapSet q x y z) m := .inl (by show blkOf (ev x r σ) = some m; rw [hm]; rfl)
      rw [show T.get τ.heap m = T.get σ.heap m from h.same m (.inl hF)]
      cases hb : (isKey q k && Nat.ble σ.lim m) with
      | false => rw [hb] at hv'; cases hv'
      | true =>
        rw [hb, cond_true] at hv'
        rw [cond_true]
        split at hv'
        · rename_i es hg
          split at hv'
          · rename_i es' hs
            cases hv'
            exact ⟨_, rfl, h.refl2.put (.inl hF) _⟩
          · cases hv'
        · cases hv'
    · cases hv'
end
end Go.Ab
namespace Go.Ab
open Go

section
variable {E : Env} {self : Self} {r : Regs} {σ σ' τ τ' : St}
/-- an operation that writes no block leaves what there was -/
theorem op_old {o : AOp} (hc : isCall o = false) (hk : heapKind o ≠ 3) {v : Value} (hv : doOp E self o r σ = .ok v σ') : ∀ A, A < σ.size → σ'.heap.get A = σ.heap.get A := by
  have new (b : Blk) : ∀ A, A < σ.size → (σ.new b).heap.get A = σ.heap.get A := fun A hA => by rw [St.new_heap, T.get_set_ne _ _ (by omega)]
  cases o with
  | call f args => cases hc
  | callV f args => cases hc
  | invoke x nm args => cases hc
  | bad s => cases hv
  | ex x => obtain ⟨rfl, _⟩ := ex_inv hv; exact fun _ _ => rfl
  | new t c => have hv' : newPtr σ t c = .ok v σ' := hv; cases hv'; exact new _
  | mkMap => have hv' : fMkMap r σ = .ok v σ' := hv; cases hv'; exact new _
  | box t n x =>
    have hv' : fBox t n x r σ = .ok v σ' := hv
    unfold fBox at hv'
    split at hv'
    · split at hv'
      · rename_i l hl
        cases hb : Nat.beq l.length n with
        | false => rw [hb] at hv'; cases hv'
        | true => rw [hb, cond_true] at hv'; cases hv'; exact new _
      · cases hv'
    · cases hv'
  | build z ps =>
    have hv' : fBuild z ps r σ = .ok v σ' := hv
    unfold fBuild at hv'
    split at hv'
    · cases hv'; exact fun _ _ => rfl
    · cases hv'
  | row t n z ps =>
    have hv' : fRow t n z ps r σ = .ok v σ' := hv
    unfold fRow at hv'
    split at hv'
    · cases hv'; exact new _
    · cases hv'
  | mkFunc g a b =>
    have hv' : fMkFunc g a b r σ = .ok v σ' := hv
    unfold fMkFunc at hv'
    split at hv'
    · cases hv'; exact fun _ _ => rfl
    · cases hv'
  | mkSlice t z x y =>
    have hv' : fMkSlice t z x y r σ = .ok v σ' := hv
    unfold fMkSlice at hv'
    split at hv'
    · rename_i k1 l k2 c hl hcc
      cases hb : (Nat.ble l c && Nat.ble c 1048576) with
      | false => rw [hb] at hv'; cases hv'
      | true => rw [hb, cond_true] at hv'; cases hv'; exact new _
    · cases hv'
  | _ => exact absurd rfl hk
end
end Go.Ab
namespace Go.Ab
open Go

/-- a heap out of a function -/
noncomputable def mkH : Nat → (Nat → Option Blk) → T Blk
  | 0, _ => .e
  | n + 1, f => match f n with
    | some b => T.set (mkH n f) n b
    | none => mkH n f
theorem mkH_get (f : Nat → Option Blk) : ∀ (n A : Nat), T.get (mkH n f) A = if A < n then f A else none := by
  intro n
  induction n with
  | zero => intro A; rw [if_neg (by omega)]; exact T.get_e A
  | succ n ih =>
    intro A
    unfold mkH
    cases hf : f n with
    | none =>
      simp only
      rw [ih]
      by_cases h : A = n
      · subst h; rw [if_neg (by omega), if_pos (by omega), hf]
      · by_cases h2 : A < n
        · rw [if_pos h2, if_pos (by omega)]
        · rw [if_neg h2, if_neg (by omega)]
    | some b =>
      simp only
      by_cases h : A = n
      · subst h; rw [T.get_set_self, if_pos (by omega), hf]
      · rw [T.get_set_ne _ _ h, ih]
        by_cases h2 : A < n
        · rw [if_pos h2, if_pos (by omega)]
        · rw [if_neg h2, if_neg (by omega)]
/-- a state out of a function -/
noncomputable def mkS (Z lim : Nat) (h : Nat → Option Blk) : St := ⟨mkH Z h, Z, lim⟩

/-- an injection held to where another one is told -/
def Inj.at (ι c : Inj) : Inj := fun A => match c A with | some _ => ι A | none => none
theorem Inj.at_le (ι c : Inj) : Le (ι.at c) ι := by
  intro A L h
  unfold Inj.at at h
  split at h
  · exact h
  · cases h
theorem Inj.at_some {ι c : Inj} {A : Nat} {L M : Loc} (h : c A = some M) (k : ι A = some L) : (ι.at c) A = some L := by
  unfold Inj.at; rw [h]; exact k
theorem Inj.at_ne {ι c : Inj} {A : Nat} (h : (ι.at c) A ≠ none) : ∃ M, c A = some M := by
  unfold Inj.at at h
  split at h
  · rename_i M hM; exact ⟨M, hM⟩
  · exact absurd rfl h

mutual
theorem VRel.at {ι c : Inj} : ∀ {v v' : Value}, VRel ι v v' → ∀ {u : Value}, VRel c v u → VRel (ι.at c) v v'
  | _, _, .bool b, _, _ => .bool b
  | _, _, .int k n, _, _ => .int k n
  | _, _, .string s, _, _ => .string s
  | _, _, .nilPtr, _, _ => .nilPtr
  | _, _, .ptr A o L e, _, h => by cases h with | ptr _ _ _ h => exact .ptr A o L (Inj.at_some h e)
  | _, _, .nilSlice l c e, _, _ => .nilSlice l c e
  | _, _, .slice A o L l c e f, _, h => by
    cases h with
    | slice _ _ _ _ _ h _ => exact .slice A o L l c (Inj.at_some h e) f
    | sliceU _ _ _ _ _ _ h => exact absurd f (Nat.lt_irrefl _)
  | _, _, .sliceU A o L l o' c' e f g k m, _, h => by
    cases h with
    | slice _ _ _ _ _ h f => exact absurd f (Nat.lt_irrefl _)
    | sliceU _ _ _ _ _ _ h => exact .sliceU A o L l o' c' (Inj.at_some h e) f g k m
  | _, _, .nilMap, _, _ => .nilMap
  | _, _, .map A L e, _, h => by cases h with | map _ _ h => exact .map A L (Inj.at_some h e)
  | _, _, .func f a a' b b' p q, _, h => by cases h with | func _ _ _ _ _ x y => exact .func f a a' b b' (p.at x) (q.at y)
  | _, _, .yield A L e, _, h => by cases h with | yield _ _ h => exact .yield A L (Inj.at_some h e)
  | _, _, .nilFunc, _, _ => .nilFunc
  | _, _, .nilIface, _, _ => .nilIface
  | _, _, .iface t v v' p, _, h => by cases h with | iface _ _ _ x => exact .iface t v v' (p.at x)
  | _, _, .agg a a' p q, _, h => by cases h with | agg _ _ x _ => exact .agg a a' (p.at x) q
  | _, _, .tuple a a' p, _, h => by cases h with | tuple _ _ x => exact .tuple a a' (p.at x)
theorem VRels.at {ι c : Inj} : ∀ {l l' : List Value}, VRels ι l l' → ∀ {u : List Value}, VRels c l u → VRels (ι.at c) l l'
  | _, _, .nil, _, _ => .nil
  | _, _, .cons v v' l l' p q, _, h => by cases h with | cons _ _ _ _ x y => exact .cons v v' l l' (p.at x) (q.at y)
end
theorem EntRel.at {ι c : Inj} {l : List (Value × Value)} {l' : List MapEntry} (p : EntRel ι l l') : ∀ {u : List MapEntry}, EntRel c l u → EntRel (ι.at c) l l' := by
  induction p with
  | nil => intro u _; exact .nil
  | cons k v e l l' a b _ ih =>
    intro u h
    cases h with
    | cons _ _ f _ m x y z => exact .cons k v e l l' (a.at x) (b.at y) (ih z)
theorem RRel.at {ι c : Inj} {n m : Nat} {r : Regs} {t u : Array Value} (h : RRel c m r u) (k : RRel ι n r t) : RRel (ι.at c) n r t :=
  ⟨k.1, fun p v e => by
    obtain ⟨v', a, b⟩ := k.2 p v e
    obtain ⟨v'', _, d⟩ := h.2 p v e
    exact ⟨v', a, b.at d⟩⟩
theorem BRel.at {P : Program} {E : Env} {ι c : Inj} {L M : Loc} {b : Blk} {o q : Option Obj} (h : BRel P E c M b q) (k : BRel P E ι L b o) : BRel P E (ι.at c) L b o := by
  cases b with
  | cells cs t w =>
    obtain ⟨c', e, fr, h1, h2, h3, h4, h5⟩ := k
    obtain ⟨_, _, _, _, _, _, g4, _⟩ := h
    exact ⟨c', e, fr, h1, h2, h3, h4.at g4, h5⟩
  | map es =>
    obtain ⟨es', k, h1, h2⟩ := k
    obtain ⟨_, _, _, g2⟩ := h
    exact ⟨es', k, h1, h2.at g2⟩
  | loop regs ps a b res =>
    obtain ⟨l, h1, n, h2, h3⟩ := k
    obtain ⟨_, _, m, g2, _⟩ := h
    exact ⟨l, h1, n, g2.at h2, h3⟩
  | dead => trivial

section
variable {P : Program} {E : Env} {ι₀ ι ic κ : Inj} {σ₀ σ σp σp' : St} {w₀ w w' : World}
/-- states with the same blocks -/
theorem Rel.same {τ : St} (h : Rel P E ι σ w) (hh : ∀ A, τ.heap.get A = σ.heap.get A) (hs : τ.size = σ.size) (hl : τ.lim = σ.lim) : Rel P E ι τ w where
  dom A L e := by rw [hs]; exact h.dom A L e
  fresh A e := by rw [hh]; exact h.fresh A (hs ▸ e)
  lim := by rw [hs, hl]; exact h.lim
  blk A L b e g := by rw [hh] at g; exact h.blk A L b e g
  inj A B L M hne e f g k := by rw [hh] at g k; exact h.inj A B L M hne e f g k
  glob := h.glob
theorem Ext.same {τ : St} (h : Ext ι₀ σ₀ w₀ ι σ w) (hh : ∀ A, τ.heap.get A = σ.heap.get A) (hs : τ.size = σ.size) (hl : τ.lim = σ.lim) : Ext ι₀ σ₀ w₀ ι τ w where
  le := h.le
  size := by rw [hs]; exact h.size
  lim := by rw [hl]; exact h.lim
  keep A e := by rw [hh]; exact h.keep A e
  unmapped A e f := by rw [hh]; exact h.unmapped A e f
  fresh := h.fresh
  wr A e f := by rw [hh] at f; exact h.wr A e f
  lv A e f := by rw [hh] at f; exact h.lv A e f
  frame := h.frame
  wsize := h.wsize
  os := h.os
  tape := h.tape
  output := h.output

/-- new names beside the old ones -/
def Inj.beside (ι κ : Inj) (s₀ s₁ : Nat) : Inj := fun A => if s₀ ≤ A ∧ A < s₁ then κ A else ι A
theorem Inj.beside_new {ι κ : Inj} {s₀ s₁ A : Nat} (h : s₀ ≤ A ∧ A < s₁) : ι.beside κ s₀ s₁ A = κ A := if_pos h
theorem Inj.beside_old {ι κ : Inj} {s₀ s₁ A : Nat} (h : ¬ (s₀ ≤ A ∧ A < s₁)) : ι.beside κ s₀ s₁ A = ι A := if_neg h

/-- one operation of a region, beside those that have been done -/
structure DStep (P : Program) (E : Env) (ι₀ : Inj) (σ₀ : St) (w₀ : World) (ι ic κ : Inj) (Z s₀ s₁ : Nat) (h h' : Nat → Option Blk) (R : Nat → Prop) (σp σp' : St) (w w' : World) : Prop where
  rel : Rel P E ι (mkS Z σ₀.lim h) w
  ext : Ext ι₀ σ₀ w₀ ι (mkS Z σ₀.lim h) w
  free : ∀ A, s₀ ≤ A → A < s₁ → ι A = none
  sub : Le ic ι
  relp : Rel P E κ σp' w'
  extp : Ext ic σp w κ σp' w'
  sz0 : σp.size = s₀
  sz1 : σp'.size = s₁
  z : s₁ ≤ Z
  lim : σ₀.lim ≤ σp.lim
  old : σ₀.size ≤ s₀
  q0 : ∀ A, R A → A < s₀
  q1 : ∀ A, R A → ι A ≠ none → h A = σp.heap.get A ∧ h' A = σp'.heap.get A
  q2 : ∀ A, ¬ R A → σp.heap.get A = none
  q3 : ∀ A, ι A ≠ none → ¬ R A → h' A = h A
  q4 : ∀ A, s₀ ≤ A → A < s₁ → h' A = σp'.heap.get A
  dom0 : ∀ A L, ι₀ A = some L → A < σ₀.size
  c1 : ∀ A, A < σ₀.lim → h' A = σ₀.heap.get A
  c2 : ∀ A, A < σ₀.size → ι₀ A = none → h' A = σ₀.heap.get A
  c3 : ∀ A, A < σ₀.size → writable (h' A) = true → writable (σ₀.heap.get A) = true
  c4 : ∀ A, A < σ₀.size → live (h' A) = true → live (σ₀.heap.get A) = true
  c5 : ∀ A, A < σ₀.size → writable (h A) = true → writable (σ₀.heap.get A) = true
theorem mkS_get {Z lim : Nat} {h : Nat → Option Blk} {A : Nat} (hA : A < Z) : T.get (mkS Z lim h).heap A = h A := by
  show T.get (mkH Z h) A = _; rw [mkH_get, if_pos hA]
section
variable {Z s₀ s₁ : Nat} {h h' : Nat → Option Blk} {R : Nat → Prop}
theorem DStep.le1 (d : DStep P E ι₀ σ₀ w₀ ι ic κ Z s₀ s₁ h h' R σp σp' w w') : Le ι (ι.beside κ s₀ s₁) := by
  intro A L e
  rw [Inj.beside_old]; exact e
  rintro ⟨h1, h2⟩
  rw [d.free A h1 h2] at e; cases e
theorem DStep.le2 (d : DStep P E ι₀ σ₀ w₀ ι ic κ Z s₀ s₁ h h' R σp σp' w w') : Le κ (ι.beside κ s₀ s₁) := by
  intro A L e
  have hd := (d.relp.dom A L e).1
  rw [d.sz1] at hd
  by_cases h1 : s₀ ≤ A
  · rw [Inj.beside_new ⟨h1, hd⟩]; exact e
  · rw [Inj.beside_old (fun g => h1 g.1)]
    cases hic : ic A with
    | none =>
      have := (d.extp.unmapped A (by rw [d.sz0]; omega) hic).2
      rw [this] at e; cases e
    | some L' =>
      have := d.extp.le A L' hic
      rw [e] at this; cases this
      exact d.sub A L hic
theorem DStep.get (d : DStep P E ι₀ σ₀ w₀ ι ic κ Z s₀ s₁ h h' R σp σp' w w') {A : Nat} (hA : ι A ≠ none) : T.get (mkS Z σ₀.lim h).heap A = h A := by
  obtain ⟨L, e⟩ := Option.ne_none_iff_exists'.1 hA
  exact mkS_get (d.rel.dom A L e).1
/-- where the operation may have written, stands none of the others -/
theorem DStep.apart (d : DStep P E ι₀ σ₀ w₀ ι ic κ Z s₀ s₁ h h' R σp σp' w w') {C : Nat} {N : Loc} (hC : ic C = some N) (hw : writable (σp.heap.get C) = true) {A : Nat} {L : Loc} (hA : ι A = some L) (hl : live (h A) = true) (hn : ¬ (R A ∧ ic A ≠ none)) : N.blk ≠ L.blk := by
  have hCR : R C := Classical.byContradiction fun g => by rw [d.q2 C g] at hw; cases hw
  have hιC := d.sub C N hC
  have hne : C ≠ A := by rintro rfl; exact hn ⟨hCR, by rw [hC]; simp⟩
  refine d.rel.inj C A N L hne hιC hA ?_ ?_
  · rw [d.get (by rw [hιC]; simp), (d.q1 C hCR (by rw [hιC]; simp)).1]; exact hw
  · rw [d.get (by rw [hA]; simp)]; exact hl
theorem DStep.keeps (d : DStep P E ι₀ σ₀ w₀ ι ic κ Z s₀ s₁ h h' R σp σp' w w') {A : Nat} {L : Loc} (hA : ι A = some L) (hl : live (h A) = true) (hn : ¬ (R A ∧ ic A ≠ none)) : w'.heap[L.blk]? = w.heap[L.blk]? :=
  d.extp.frame L.blk (d.rel.dom A L hA).2 fun _ _ hC _ hw => d.apart hC hw hA hl hn
theorem DStep.live (d : DStep P E ι₀ σ₀ w₀ ι ic κ Z s₀ s₁ h h' R σp σp' w w') {A : Nat} (hA : ι A ≠ none) (hl : live (h' A) = true) : live (h A) = true := by
  by_cases hR : R A
  · obtain ⟨h1, h2⟩ := d.q1 A hR hA
    rw [h2] at hl; rw [h1]
    exact d.extp.lv A (by rw [d.sz0]; exact d.q0 A hR) hl
  · rw [← d.q3 A hA hR]; exact hl
theorem DStep.wr (d : DStep P E ι₀ σ₀ w₀ ι ic κ Z s₀ s₁ h h' R σp σp' w w') {A : Nat} (hA : ι A ≠ none) (hl : writable (h' A) = true) : writable (h A) = true := by
  by_cases hR : R A
  · obtain ⟨h1, h2⟩ := d.q1 A hR hA
    rw [h2] at hl; rw [h1]
    exact d.extp.wr A (by rw [d.sz0]; exact d.q0 A hR) hl
  · rw [← d.q3 A hA hR]; exact hl
theorem DStep.lt (d : DStep P E ι₀ σ₀ w₀ ι ic κ Z s₀ s₁ h h' R σp σp' w w') {A : Nat} {L : Loc} (hA : ι.beside κ s₀ s₁ A = some L) : A < Z ∧ L.blk < w'.heap.size := by
  by_cases hn : s₀ ≤ A ∧ A < s₁
  · rw [Inj.beside_new hn] at hA
    exact ⟨by have := d.z; omega, (d.relp.dom A L hA).2⟩
  · rw [Inj.beside_old hn] at hA
    have := d.rel.dom A L hA
    exact ⟨this.1, Nat.lt_of_lt_of_le this.2 d.extp.wsize⟩
theorem live_some {b : Option Blk} (h : Go.Ab.live b = true) : ∃ x, b = some x := by
  cases b with
  | none => cases h
  | some x => exact ⟨x, rfl⟩
theorem DStep.rel' (d : DStep P E ι₀ σ₀ w₀ ι ic κ Z s₀ s₁ h h' R σp σp' w w') : Rel P E (ι.beside κ s₀ s₁) (mkS Z σ₀.lim h') w' where
  dom A L e := d.lt e
  fresh A e := by show T.get (mkH Z h') A = none; rw [mkH_get, if_neg]; exact Nat.not_lt.2 e
  lim := d.rel.lim
  blk A L b e g := by
    have hlt := (d.lt e).1
    have g' : h' A = some b := by
      have : T.get (mkS Z σ₀.lim h').heap A = some b := g
      rw [mkS_get hlt] at this; exact this
    by_cases hn : s₀ ≤ A ∧ A < s₁
    · rw [Inj.beside_new hn] at e
      rw [d.q4 A hn.1 hn.2] at g'
      exact (d.relp.blk A L b e g').mono d.le2
    · rw [Inj.beside_old hn] at e
      have hne : ι A ≠ none := by rw [e]; simp
      by_cases hl : Go.Ab.live (some b) = true
      · have hlh : Go.Ab.live (h A) = true := d.live hne (by rw [g']; exact hl)
        by_cases hR : R A
        · obtain ⟨h1, h2⟩ := d.q1 A hR hne
          cases hic : ic A with
          | some L' =>
            have hκ := d.extp.le A L' hic
            have := d.sub A L' hic
            rw [e] at this; cases this
            exact (d.relp.blk A L b hκ (h2 ▸ g')).mono d.le2
          | none =>
            have hu := (d.extp.unmapped A (by rw [d.sz0]; exact d.q0 A hR) hic).1
            rw [d.keeps e hlh (fun k => k.2 hic)]
            refine BRel.mono d.le1 (d.rel.blk A L b e ?_)
            show T.get (mkS Z σ₀.lim h).heap A = some b
            rw [mkS_get hlt, h1, ← hu, ← h2]; exact g'
        · rw [d.keeps e hlh (fun k => hR k.1)]
          refine BRel.mono d.le1 (d.rel.blk A L b e ?_)
          show T.get (mkS Z σ₀.lim h).heap A = some b
          rw [mkS_get hlt, ← d.q3 A hne hR]; exact g'
      · cases b with
        | dead => trivial
        | _ => exact absurd rfl hl
  inj A B L M hne e f hw hl := by
    have hw' : writable (h' A) = true := by
      have : writable (T.get (mkS Z σ₀.lim h').heap A) = true := hw
      rw [mkS_get (d.lt e).1] at this; exact this
    have hl' : Go.Ab.live (h' B) = true := by
      have : Go.Ab.live (T.get (mkS Z σ₀.lim h').heap B) = true := hl
      rw [mkS_get (d.lt f).1] at this; exact this
    by_cases ha : s₀ ≤ A ∧ A < s₁
    · rw [Inj.beside_new ha] at e
      rw [d.q4 A ha.1 ha.2] at hw'
      by_cases hb : s₀ ≤ B ∧ B < s₁
      · rw [Inj.beside_new hb] at f
        rw [d.q4 B hb.1 hb.2] at hl'
        exact d.relp.inj A B L M hne e f hw' hl'
      · rw [Inj.beside_old hb] at f
        have hfB : ι B ≠ none := by rw [f]; simp
        by_cases hRB : R B ∧ ic B ≠ none
        · obtain ⟨M', hic⟩ := Option.ne_none_iff_exists'.1 hRB.2
          have hκ := d.extp.le B M' hic
          have := d.sub B M' hic
          rw [f] at this; cases this
          rw [(d.q1 B hRB.1 hfB).2] at hl'
          exact d.relp.inj A B L M hne e hκ hw' hl'
        · have hA0 : ic A = none := by
            cases hc : ic A with
            | none => rfl
            | some N => have := d.sub A N hc; rw [d.free A ha.1 ha.2] at this; cases this
          rcases d.extp.fresh A L e hA0 with h1 | ⟨C, N, c1, c2, c3, c4⟩
          · have := (d.rel.dom B M f).2; omega
          · rw [← c2]; exact d.apart c1 c4 f (d.live hfB hl') hRB
    · rw [Inj.beside_old ha] at e
      have heA : ι A ≠ none := by rw [e]; simp
      by_cases hb : s₀ ≤ B ∧ B < s₁
      · rw [Inj.beside_new hb] at f
        rw [d.q4 B hb.1 hb.2] at hl'
        by_cases hRA : R A ∧ ic A ≠ none
        · obtain ⟨L', hic⟩ := Option.ne_none_iff_exists'.1 hRA.2
          have hκ := d.extp.le A L' hic
          have := d.sub A L' hic
          rw [e] at this; cases this
          rw [(d.q1 A hRA.1 heA).2] at hw'
          exact d.relp.inj A B L M hne hκ f hw' hl'
        · have hB0 : ic B = none := by
            cases hc : ic B with
            | none => rfl
            | some N => have := d.sub B N hc; rw [d.free B hb.1 hb.2] at this; cases this
          rcases d.extp.fresh B M f hB0 with h1 | ⟨C, N, c1, c2, c3, c4⟩
          · have := (d.rel.dom A L e).2; omega
          · rw [← c2]
            exact (d.apart c1 c4 e (writable_live (d.wr heA hw')) hRA).symm
      · rw [Inj.beside_old hb] at f
        have hfB : ι B ≠ none := by rw [f]; simp
        refine d.rel.inj A B L M hne e f ?_ ?_
        · rw [d.get heA]; exact d.wr heA hw'
        · rw [d.get hfB]; exact d.live hfB hl'
  glob g hg := by
    obtain ⟨L, a, b⟩ := d.rel.glob g hg
    exact ⟨L, d.le1 g L a, b⟩
theorem DStep.ext' (d : DStep P E ι₀ σ₀ w₀ ι ic κ Z s₀ s₁ h h' R σp σp' w w') : Ext ι₀ σ₀ w₀ (ι.beside κ s₀ s₁) (mkS Z σ₀.lim h') w' where
  le := d.ext.le.trans d.le1
  size := d.ext.size
  lim := rfl
  keep A hA := by
    have hz : A < Z := Nat.lt_of_lt_of_le hA d.rel.lim
    show T.get (mkS Z σ₀.lim h').heap A = _
    rw [mkS_get hz]; exact d.c1 A hA
  unmapped A hA hn := by
    refine ⟨?_, ?_⟩
    · show T.get (mkS Z σ₀.lim h').heap A = _
      rw [mkS_get (Z := Z) (Nat.lt_of_lt_of_le hA d.ext.size)]; exact d.c2 A hA hn
    · rw [Inj.beside_old (by have := d.old; omega)]
      exact (d.ext.unmapped A hA hn).2
  fresh A L hm hn := by
    by_cases hnew : s₀ ≤ A ∧ A < s₁
    · rw [Inj.beside_new hnew] at hm
      have hA0 : ic A = none := by
        cases hc : ic A with
        | none => rfl
        | some N => have := d.sub A N hc; rw [d.free A hnew.1 hnew.2] at this; cases this
      rcases d.extp.fresh A L hm hA0 with h1 | ⟨C, N, c1, c2, c3, c4⟩
      · exact .inl (Nat.le_trans d.ext.wsize h1)
      · have hιC := d.sub C N c1
        have hCR : R C := Classical.byContradiction fun g => by rw [d.q2 C g] at c4; cases c4
        have hwC : writable (h C) = true := by rw [(d.q1 C hCR (by rw [hιC]; simp)).1]; exact c4
        cases h0 : ι₀ C with
        | some N' =>
          have := d.ext.le C N' h0
          rw [hιC] at this; cases this
          have hlt : C < σ₀.size := d.dom0 C N h0
          exact .inr ⟨C, N, h0, c2, Nat.le_trans d.lim c3, d.c5 C hlt hwC⟩
        | none =>
          rcases d.ext.fresh C N hιC h0 with h1 | ⟨D, O, d1, d2, d3, d4⟩
          · exact .inl (c2 ▸ h1)
          · exact .inr ⟨D, O, d1, d2.trans c2, d3, d4⟩
    · rw [Inj.beside_old hnew] at hm
      exact d.ext.fresh A L hm hn
  wr A hA hw := by
    have : writable (T.get (mkS Z σ₀.lim h').heap A) = true := hw
    rw [mkS_get (Z := Z) (Nat.lt_of_lt_of_le hA d.ext.size)] at this; exact d.c3 A hA this
  lv A hA hw := by
    have : Go.Ab.live (T.get (mkS Z σ₀.lim h').heap A) = true := hw
    rw [mkS_get (Z := Z) (Nat.lt_of_lt_of_le hA d.ext.size)] at this; exact d.c4 A hA this
  frame b hb hf := by
    rw [d.extp.frame b (Nat.lt_of_lt_of_le hb d.ext.wsize) ?_, d.ext.frame b hb hf]
    intro C N hC hlC hwC e
    have hιC := d.sub C N hC
    have hCR : R C := Classical.byContradiction fun g => by rw [d.q2 C g] at hwC; cases hwC
    have hwh : writable (h C) = true := by rw [(d.q1 C hCR (by rw [hιC]; simp)).1]; exact hwC
    cases h0 : ι₀ C with
    | some N' =>
      have := d.ext.le C N' h0
      rw [hιC] at this; cases this
      exact hf C N h0 (Nat.le_trans d.lim hlC) (d.c5 C (d.dom0 C N h0) hwh) e
    | none =>
      rcases d.ext.fresh C N hιC h0 with h1 | ⟨D, O, d1, d2, d3, d4⟩
      · omega
      · exact hf D O d1 d3 d4 (d2.trans e)
  wsize := Nat.le_trans d.ext.wsize d.extp.wsize
  os := d.extp.os.trans d.ext.os
  tape := d.extp.tape.trans d.ext.tape
  output := d.extp.output.trans d.ext.output
end
end
end Go.Ab
namespace Go.Ab
open Go

section
variable {P : Program} {E : Env} {ι : Inj} {σ τ : St} {w : World}
theorem room0 (ro : Option Nat) (n : Nat) : (Wd ro).room n := by simp [Fence.room, Wd]
theorem NextGives.some {R : Value → World → Prop} {r : Result Next} (h : NextGives P R r) : ∃ v w', R v w' := by
  cases r with
  | halt x w' => exact h.elim
  | ok n w' =>
    cases n <;> simp only [NextGives] at h
    · exact ⟨_, _, h⟩
    · obtain ⟨e, w'', _, h1, _⟩ := h.2 [] (room0 _ _)
      cases e <;> simp only [Gives] at h1
      exact ⟨_, _, h1⟩
    · obtain ⟨e, w'', h1, _⟩ := h.2 (Frame.enter P 0 #[] .normal) [] (room0 _ _)
      cases e <;> simp only [Gives] at h1
      exact ⟨_, _, h1⟩
theorem OpGives.some {R : Value → World → Prop} {r : Result Next} (h : OpGives P R r) : ∃ v w', R v w' := by
  cases r with
  | halt x w' => exact NextGives.some (P := P) (r := .halt x w') h
  | ok n w' =>
    cases n <;> simp only [OpGives] at h
    case skip => exact ⟨_, _, h⟩
    all_goals exact NextGives.some h
/-- an operation of a region, told from its own state -/
theorem oper_some (hE : EOk P E) {K : Kt} (hK : KOk P E K) (h : Rel P E ι σ w) {n : Nat} {r : Regs} {t : Array Value} (hr : RRel ι n r t) {o : Oper} {ap : AOp} {v : Value} {τ : St}
    (hc : compOp E o = some ap) (hv : OpK E K ap r σ v τ) : ∃ v' w', Post P E ι σ w v τ v' w' := by
  have := opK_sound hE hK h (a := { tmps := t, defers := [] }) hr hc hv
  exact this.some
end
end Go.Ab
namespace Go.Ab
open Go

/- ------------------------------------------------ the static checks, told -/
section
variable {E : Env} {n : Nat} {ops : Array Oper}
theorem befs_length : ∀ (l : List Oper) (acc : List Nat), (befs acc l).length = acc.length + l.length := by
  intro l
  induction l with
  | nil => intro acc; rfl
  | cons o l ih => intro acc; unfold befs; rw [ih, List.length_append]; simp; omega
theorem befs_prefix : ∀ (l : List Oper) (acc : List Nat), ∃ m, befs acc l = acc ++ m := by
  intro l
  induction l with
  | nil => intro acc; exact ⟨[], by simp [befs]⟩
  | cons o l ih =>
    intro acc
    unfold befs
    obtain ⟨m, h⟩ := ih (acc ++ [maskOf acc o.after.toList])
    exact ⟨maskOf acc o.after.toList :: m, by rw [h]; simp⟩
theorem befs_get : ∀ (l : List Oper) (acc : List Nat) (k : Nat) (o : Oper), l[k]? = some o → ∃ pre m, befs acc l = pre ++ m ∧ pre.length = acc.length + k ∧ (befs acc l)[acc.length + k]? = some (maskOf pre o.after.toList) := by
  intro l
  induction l with
  | nil => intro acc k o h; simp at h
  | cons o' l ih =>
    intro acc k o h
    cases k with
    | zero =>
      simp at h; subst h
      obtain ⟨m, hm⟩ := befs_prefix l (acc ++ [maskOf acc o'.after.toList])
      refine ⟨acc, maskOf acc o'.after.toList :: m, ?_, rfl, ?_⟩
      · unfold befs; rw [hm]; simp
      · unfold befs; rw [hm]; simp
    | succ k =>
      simp at h
      obtain ⟨pre, m, h1, h2, h3⟩ := ih (acc ++ [maskOf acc o'.after.toList]) k o h
      refine ⟨pre, m, ?_, ?_, ?_⟩
      · unfold befs; exact h1
      · rw [h2]; simp; omega
      · unfold befs
        have e : acc.length + (k + 1) = (acc ++ [maskOf acc o'.after.toList]).length + k := by simp; omega
        rw [e]; exact h3
theorem mask_bit {acc : List Nat} {i : Nat} : ∀ {es : List Edge}, Nat.testBit (maskOf acc es) i = true → ∃ e ∈ es, Region.binds .any e = true ∧ (i = e.on ∨ Nat.testBit (acc.getD e.on 0) i = true) := by
  intro es
  induction es with
  | nil => intro h; simp [maskOf] at h
  | cons e es ih =>
    intro h
    unfold maskOf at h
    cases hb : Region.binds .any e with
    | false =>
      rw [hb, cond_false] at h
      obtain ⟨e', h1, h2⟩ := ih h
      exact ⟨e', List.mem_cons_of_mem _ h1, h2⟩
    | true =>
      rw [hb, cond_true] at h
      have h' : Nat.testBit ((2 ^ e.on ||| acc.getD e.on 0) ||| maskOf acc es) i = true := h
      rw [Nat.testBit_or, Nat.testBit_or, Bool.or_eq_true, Bool.or_eq_true] at h'
      rcases h' with (h' | h') | h'
      · refine ⟨e, List.mem_cons_self .., hb, .inl ?_⟩
        have := Nat.testBit_two_pow (n := e.on) (m := i)
        rw [this] at h'; simpa using (of_decide_eq_true h').symm
      · exact ⟨e, List.mem_cons_self .., hb, .inr h'⟩
      · obtain ⟨e', h1, h2⟩ := ih h'
        exact ⟨e', List.mem_cons_of_mem _ h1, h2⟩
theorem edgesOk_get : ∀ {l : List Oper} {j k : Nat} {o : Oper}, edgesOk j l = true → l[k]? = some o → ∀ e ∈ o.after.toList, Region.binds .any e = true → e.on < j + k := by
  intro l
  induction l with
  | nil => intro j k o _ h; simp at h
  | cons o' l ih =>
    intro j k o h hk e he hb
    simp only [edgesOk, Bool.and_eq_true, List.all_eq_true] at h
    cases k with
    | zero =>
      simp at hk; subst hk
      have := h.1 e he
      rw [hb] at this
      simpa [Nat.blt_eq] using this
    | succ k =>
      simp at hk
      have := ih h.2 hk e he hb
      omega
/-- what comes before what -/
def Bf (ops : Array Oper) (j i : Nat) : Prop := Nat.testBit ((befs [] ops.toList).getD j 0) i = true
theorem Bf.edge (h : edgesOk 0 ops.toList = true) {j i : Nat} {o : Oper} (ho : ops[j]? = some o) (hb : Bf ops j i) : ∃ e ∈ o.after.toList, Region.binds .any e = true ∧ e.on < j ∧ (i = e.on ∨ Bf ops e.on i) := by
  have ho' : ops.toList[j]? = some o := by simpa using ho
  obtain ⟨pre, m, h1, h2, h3⟩ := befs_get ops.toList [] j o ho'
  simp only [List.length_nil, Nat.zero_add] at h2 h3
  unfold Bf at hb
  rw [List.getD_eq_getElem?_getD, h3] at hb
  obtain ⟨e, he, hbi, hi⟩ := mask_bit hb
  have hlt := edgesOk_get h ho' e he hbi
  rw [Nat.zero_add] at hlt
  refine ⟨e, he, hbi, hlt, hi.imp id fun hi => ?_⟩
  unfold Bf
  rw [h1, List.getD_eq_getElem?_getD, List.getElem?_append_left (by omega), ← List.getD_eq_getElem?_getD]; exact hi
theorem Bf.lt (h : edgesOk 0 ops.toList = true) : ∀ {j i : Nat} {o : Oper}, ops[j]? = some o → Bf ops j i → i < j := by
  intro j
  induction j using Nat.strongRecOn with
  | ind j ih =>
    intro i o ho hb
    obtain ⟨e, _, _, hlt, hi⟩ := hb.edge h ho
    rcases hi with rfl | hi
    · exact hlt
    · have hj : j < ops.size := (Array.getElem?_eq_some_iff.1 ho).1
      have := ih e.on hlt (o := ops[e.on]'(by omega)) (by simp [show e.on < ops.size by omega]) hi
      omega
/-- the check's view of an operation -/
noncomputable def item (E : Env) (n : Nat) (ops : Array Oper) (j : Nat) (o : Oper) : DItem :=
  { ix := j, kind := heapKind (compOper E n ops o).op, dst := (compOper E n ops o).dst, regs := operRegsOf (compOper E n ops o), bef := (befs [] ops.toList).getD j 0 }
noncomputable def itemsOf (E : Env) (n : Nat) (ops : Array Oper) : List DItem := dItems 0 (compRegion E n ops) (befs [] ops.toList)
theorem dItems_get : ∀ {l : List AOper} {bs : List Nat} {i k : Nat}, (dItems i l bs)[k]? = (match l[k]?, bs[k]? with | some o, some b => some { ix := i + k, kind := heapKind o.op, dst := o.dst, regs := operRegsOf o, bef := b } | _, _ => none) := by
  intro l
  induction l with
  | nil => intro bs i k; simp [dItems]
  | cons o l ih =>
    intro bs i k
    cases bs with
    | nil => cases k <;> simp [dItems] <;> split <;> simp_all
    | cons b bs =>
      cases k with
      | zero => simp [dItems]
      | succ k =>
        simp only [dItems, List.getElem?_cons_succ]
        rw [ih, show i + 1 + k = i + (k + 1) by omega]
theorem compRegion_get {j : Nat} {o : Oper} (ho : ops[j]? = some o) : (compRegion E n ops)[j]? = some (compOper E n ops o) := by
  unfold compRegion; simp [ho]
theorem itemsOf_get {j : Nat} {o : Oper} (ho : ops[j]? = some o) : (itemsOf E n ops)[j]? = some (item E n ops j o) := by
  unfold itemsOf
  have hj : j < ops.size := (Array.getElem?_eq_some_iff.1 ho).1
  have hb : (befs [] ops.toList)[j]? = some ((befs [] ops.toList).getD j 0) := by
    have hl := befs_length ops.toList []
    rw [List.getD_eq_getElem?_getD, List.getElem?_eq_getElem (by rw [hl]; simpa using hj)]
    rfl
  rw [dItems_get, compRegion_get ho, hb]
  simp [item]
theorem itemsOf_inv {j : Nat} {d : DItem} (h : (itemsOf E n ops)[j]? = some d) : ∃ o, ops[j]? = some o ∧ d = item E n ops j o := by
  have hj : j < ops.size := by
    unfold itemsOf at h
    rw [dItems_get] at h
    cases hc : (compRegion E n ops)[j]? with
    | none => rw [hc] at h; cases h
    | some x =>
      have := (List.getElem?_eq_some_iff.1 hc).1
      unfold compRegion at this; simpa using this
  refine ⟨ops[j], by simp [hj], ?_⟩
  have := itemsOf_get (E := E) (n := n) (ops := ops) (j := j) (o := ops[j]) (by simp [hj])
  rw [h] at this; cases this; rfl
theorem pairsGood_get : ∀ {ds : List DItem} {i j : Nat} {x y : DItem}, pairsGood ds = true → i < j → ds[i]? = some x → ds[j]? = some y → pairGood x y = true := by
  intro ds
  induction ds with
  | nil => intro i j x y _ _ h; simp at h
  | cons d ds ih =>
    intro i j x y h hij hi hj
    simp only [pairsGood, Bool.and_eq_true, List.all_eq_true] at h
    cases j with
    | zero => omega
    | succ j =>
      simp at hj
      cases i with
      | zero => simp at hi; subst hi; exact h.1 y (List.mem_of_getElem? hj)
      | succ i => simp at hi; exact ih h.2 (by omega) hi hj
theorem askPairs_get : ∀ {ds : List DItem} {i j : Nat} {x y : DItem}, i < j → ds[i]? = some x → ds[j]? = some y → freeD x y = true → askK x.kind y.kind = true → (x.ix, y.ix) ∈ askPairs ds := by
  intro ds
  induction ds with
  | nil => intro i j x y _ h; simp at h
  | cons d ds ih =>
    intro i j x y hij hi hj hf hk
    cases j with
    | zero => omega
    | succ j =>
      simp at hj
      unfold askPairs
      rw [List.mem_append]
      cases i with
      | zero =>
        simp at hi; subst hi
        left
        rw [List.mem_map]
        exact ⟨y, List.mem_filter.2 ⟨List.mem_of_getElem? hj, by rw [hf, hk]; rfl⟩, rfl⟩
      | succ i => simp at hi; exact .inr (ih (by omega) hi hj hf hk)
theorem compDraw_inv {X : ACode} (h : compDraw E n ops = X) (hx : ∀ s, X ≠ .bad s) :
    edgesOk 0 ops.toList = true ∧ pairsGood (itemsOf E n ops) = true ∧ (∀ ao ∈ compRegion E n ops, (flatOp ao.op = true ∧ simpleT E ao.op = true) ∨ heapKind ao.op = 4) ∧
    ((askPairs (itemsOf E n ops) = [] ∧ X = .region (List.zipWith (seal1 (itemsOf E n ops)) (compRegion E n ops) (itemsOf E n ops))) ∨
      X = .draw (List.zipWith (seal1 (itemsOf E n ops)) (compRegion E n ops) (itemsOf E n ops)) (askPairs (itemsOf E n ops))) := by
  unfold compDraw at h
  simp only at h
  cases hg : (edgesOk 0 ops.toList && pairsGood (dItems 0 (compRegion E n ops) (befs [] ops.toList)) && (compRegion E n ops).all fun o => (flatOp o.op && simpleT E o.op) || Nat.beq (heapKind o.op) 4) with
  | false => rw [hg] at h; exact absurd h.symm (hx _)
  | true =>
    rw [hg, cond_true] at h
    simp only [Bool.and_eq_true, List.all_eq_true, Bool.or_eq_true] at hg
    refine ⟨hg.1.1, hg.1.2, fun ao hm => (hg.2 ao hm).imp id natBeq_iff.1, ?_⟩
    unfold itemsOf
    split at h
    · rename_i e; exact .inl ⟨e, h.symm⟩
    · exact .inr h.symm

/- ------------------------------------------------ a run, told by numbers -/
theorem ops_run {K : Kt} {l : List AOper} {r r' : Regs} {σ σ' : St} (h : OpsK E K l r σ r' σ') : ∃ (rg : Nat → Regs) (st : Nat → St) (vl : Nat → Value), rg 0 = r ∧ st 0 = σ ∧ rg l.length = r' ∧ st l.length = σ' ∧
    ∀ j o, l[j]? = some o → OperK E K o (rg j) (st j) (vl j) (st (j + 1)) ∧ rg (j + 1) = putR (rg j) o.dst (vl j) := by
  induction h with
  | nil r σ => exact ⟨fun _ => r, fun _ => σ, fun _ => unitV, rfl, rfl, rfl, rfl, fun j o h => by simp at h⟩
  | cons o l r σ v τ r' σ' ho _ ih =>
    obtain ⟨rg, st, vl, h1, h2, h3, h4, h5⟩ := ih
    refine ⟨fun | 0 => r | k + 1 => rg k, fun | 0 => σ | k + 1 => st k, fun | 0 => v | k + 1 => vl k, rfl, rfl, h3, h4, fun j o' hj => ?_⟩
    cases j with
    | zero => simp at hj; subst hj; refine ⟨?_, h1⟩; show OperK E K o r σ v (st 0); rw [h2]; exact ho
    | succ j => simp at hj; exact h5 j o' hj
theorem draws_run {K : Kt} {ps : List (Nat × Nat)} {l : List AOper} {ts : List (Option Nat × Option Nat)} {r r' : Regs} {σ σ' : St} (h : DrawsK E K ps l ts r σ r' σ') : ∃ (rg : Nat → Regs) (st : Nat → St) (vl : Nat → Value), rg 0 = r ∧ st 0 = σ ∧ rg l.length = r' ∧ st l.length = σ' ∧
    (∀ j o, l[j]? = some o → OperK E K o (rg j) (st j) (vl j) (st (j + 1)) ∧ rg (j + 1) = putR (rg j) o.dst (vl j)) ∧
    ∃ us : List (Option Nat × Option Nat), (∀ j o, l[j]? = some o → us[j]? = some (touches (rg j) (st j) o)) ∧ ps.all (pairOk (ts ++ us)) = true := by
  induction h with
  | nil ts r σ hp => exact ⟨fun _ => r, fun _ => σ, fun _ => unitV, rfl, rfl, rfl, rfl, fun j o h => (by simp at h), [], fun j o h => (by simp at h), by simpa using hp⟩
  | cons o l ts r σ v τ r' σ' ho _ ih =>
    obtain ⟨rg, st, vl, h1, h2, h3, h4, h5, us, h6, h7⟩ := ih
    refine ⟨fun | 0 => r | k + 1 => rg k, fun | 0 => σ | k + 1 => st k, fun | 0 => v | k + 1 => vl k, rfl, rfl, h3, h4, fun j o' hj => ?_, touches r σ o :: us, fun j o' hj => ?_, by simpa using h7⟩
    · cases j with
      | zero => simp at hj; subst hj; refine ⟨?_, h1⟩; show OperK E K o r σ v (st 0); rw [h2]; exact ho
      | succ j => simp at hj; exact h5 j o' hj
    · cases j with
      | zero => simp at hj; subst hj; rfl
      | succ j => simp at hj; exact h6 j o' hj
theorem pairOk_apart {ts : List (Option Nat × Option Nat)} {i j A : Nat} {a b : Option Nat × Option Nat} (h : pairOk ts (i, j) = true) (hi : ts[i]? = some a) (hj : ts[j]? = some b) (ha : a.1 = some A ∨ a.2 = some A) (hb : b.1 = some A ∨ b.2 = some A) : False := by
  unfold pairOk at h
  simp only [hi, hj, Bool.and_eq_true] at h
  have no {x y : Option Nat} (h : apart x y = true) (hx : x = some A) (hy : y = some A) : False := by
    subst hx hy; simp [apart] at h
  rcases ha with ha | ha <;> rcases hb with hb | hb
  · exact no h.1.1.1 ha hb
  · exact no h.1.1.2 ha hb
  · exact no h.1.2 ha hb
  · exact no h.2 ha hb
end
end Go.Ab
namespace Go.Ab
open Go

/-- a run of a region in the text's order, and what the checks say of it -/
structure DR (E : Env) (K : Kt) (n : Nat) (ops : Array Oper) where
  rg : Nat → Regs
  st : Nat → St
  vl : Nat → Value
  sl : Nat → Bool
  step : ∀ (j : Nat) (o : Oper), ops[j]? = some o → OperK E K { compOper E n ops o with sl := sl j } (rg j) (st j) (vl j) (st (j + 1)) ∧ rg (j + 1) = putR (rg j) (compOper E n ops o).dst (vl j)
  edges : edgesOk 0 ops.toList = true
  pairs : ∀ (i j : Nat) (oi oj : Oper), i < j → ops[i]? = some oi → ops[j]? = some oj → pairGood (item E n ops i oi) (item E n ops j oj) = true
  seal4 : ∀ (j : Nat) (o : Oper), ops[j]? = some o → sl j = true → heapKind (compOper E n ops o).op = 4
  open4 : ∀ (j : Nat) (o : Oper), ops[j]? = some o → heapKind (compOper E n ops o).op = 4 → sl j = false → ∀ (i : Nat) (oi : Oper), ops[i]? = some oi → i ≠ j → heapKind (compOper E n ops oi).op ≠ 0 → Bf ops i j ∨ Bf ops j i
  flat : ∀ (j : Nat) (o : Oper), ops[j]? = some o → (flatOp (compOper E n ops o).op = true ∧ simpleT E (compOper E n ops o).op = true) ∨ heapKind (compOper E n ops o).op = 4
  ask : ∀ (i j : Nat) (oi oj : Oper), i < j → ops[i]? = some oi → ops[j]? = some oj → ¬ Bf ops j i → askK (heapKind (compOper E n ops oi).op) (heapKind (compOper E n ops oj).op) = true →
    wantedV (compOper E n ops oi).guard (rg i) = some true → wantedV (compOper E n ops oj).guard (rg j) = some true →
    ∀ A, Foot (rg i) (st i) (compOper E n ops oi).op A → Foot (rg j) (st j) (compOper E n ops oj).op A → False

section
variable {E : Env} {K : Kt} {n : Nat} {ops : Array Oper}
theorem touches_wanted {r : Regs} {σ : St} {o : AOper} (h : wantedV o.guard r = some true) : touches r σ o = (touch r σ o.op, touch2 r σ o.op) := by
  unfold touches
  have : guarded o.guard (fun _ _ => Out.fail) r σ = .fail := by
    unfold guarded
    unfold wantedV at h
    cases hg : o.guard with
    | none => rfl
    | some g =>
      obtain ⟨d, b⟩ := g
      rw [hg] at h
      simp only at h ⊢
      split at h
      · rename_i t ht
        simp only [Option.some.injEq, beq_iff_eq] at h
        subst h
        rw [ht]
        cases t <;> rfl
      · cases h
      · cases h
  rw [this]
theorem seal1_eq {ds : List DItem} (o : AOper) (d : DItem) : seal1 ds o d = { o with sl := Nat.beq d.kind 4 && besides ds d } := rfl
theorem dr_of {X : ACode} {r r' : Regs} {σ σ' : St} (hr : DrawRun E K X r σ r' σ') (hX : compDraw E n ops = X) :
    ∃ d : DR E K n ops, d.rg 0 = r ∧ d.st 0 = σ ∧ d.rg ops.size = r' ∧ d.st ops.size = σ' := by
  have hbad : ∀ s, X ≠ .bad s := by
    rintro s rfl
    rcases hr with ⟨l, h, _⟩ | ⟨l, ps, h, _⟩ <;> cases h
  obtain ⟨h1, h2, h3, h4⟩ := compDraw_inv hX hbad
  let L := List.zipWith (seal1 (itemsOf E n ops)) (compRegion E n ops) (itemsOf E n ops)
  have hL : ∀ j o, ops[j]? = some o → L[j]? = some { compOper E n ops o with sl := Nat.beq (heapKind (compOper E n ops o).op) 4 && besides (itemsOf E n ops) (item E n ops j o) } := by
    intro j o ho
    show (List.zipWith _ _ _)[j]? = _
    rw [List.getElem?_zipWith, compRegion_get ho, itemsOf_get ho]
    rfl
  have hlen : L.length = ops.size := by
    show (List.zipWith _ _ _).length = _
    have a : (compRegion E n ops).length = ops.size := by unfold compRegion; simp
    have b : (itemsOf E n ops).length = ops.size := by
      have : ∀ (l : List AOper) (bs : List Nat) (i : Nat), l.length = bs.length → (dItems i l bs).length = l.length := by
        intro l
        induction l with
        | nil => intro bs i _; rfl
        | cons o l ih =>
          intro bs i h
          cases bs with
          | nil => simp at h
          | cons b bs => simp only [dItems, List.length_cons]; rw [ih bs _ (by simpa using h)]
      unfold itemsOf
      rw [this _ _ _ (by rw [befs_length, a]; simp), a]
    rw [List.length_zipWith, a, b, Nat.min_self]
  have key : ∃ (rg : Nat → Regs) (st : Nat → St) (vl : Nat → Value), rg 0 = r ∧ st 0 = σ ∧ rg L.length = r' ∧ st L.length = σ' ∧
      (∀ j o, L[j]? = some o → OperK E K o (rg j) (st j) (vl j) (st (j + 1)) ∧ rg (j + 1) = putR (rg j) o.dst (vl j)) ∧
      ∃ us : List (Option Nat × Option Nat), (∀ j o, L[j]? = some o → us[j]? = some (touches (rg j) (st j) o)) ∧ (askPairs (itemsOf E n ops)).all (pairOk us) = true := by
    rcases h4 with ⟨e, hx⟩ | hx
    · rcases hr with ⟨l, hl, ho⟩ | ⟨l, ps, hl, ho⟩
      · rw [hx] at hl; cases hl
        obtain ⟨rg, st, vl, k1, k2, k3, k4, k5⟩ := ops_run ho
        refine ⟨rg, st, vl, k1, k2, k3, k4, k5, (List.range L.length).map fun j => (match L[j]? with | some o => touches (rg j) (st j) o | none => (none, none)), fun j o hj => ?_, by rw [e]; rfl⟩
        have hlt : j < L.length := (List.getElem?_eq_some_iff.1 hj).1
        rw [List.getElem?_map, List.getElem?_range hlt]
        simp only [Option.map_some, hj]
      · rw [hx] at hl; cases hl
    · rcases hr with ⟨l, hl, ho⟩ | ⟨l, ps, hl, ho⟩
      · rw [hx] at hl; cases hl
      · rw [hx] at hl; cases hl
        obtain ⟨rg, st, vl, k1, k2, k3, k4, k5, us, k6, k7⟩ := draws_run ho
        exact ⟨rg, st, vl, k1, k2, k3, k4, k5, us, k6, by simpa using k7⟩
  obtain ⟨rg, st, vl, k1, k2, k3, k4, k5, us, k6, k7⟩ := key
  rw [hlen] at k3 k4
  let sl : Nat → Bool := fun j => match ops[j]? with | some o => Nat.beq (heapKind (compOper E n ops o).op) 4 && besides (itemsOf E n ops) (item E n ops j o) | none => false
  have hsl : ∀ j o, ops[j]? = some o → sl j = (Nat.beq (heapKind (compOper E n ops o).op) 4 && besides (itemsOf E n ops) (item E n ops j o)) := fun j o ho => by show (match ops[j]? with | some o => _ | none => _) = _; rw [ho]
  refine ⟨{ rg := rg, st := st, vl := vl, sl := sl, step := ?_, edges := h1, pairs := ?_, seal4 := ?_, open4 := ?_, flat := ?_, ask := ?_ }, k1, k2, k3, k4⟩
  · intro j o ho
    have := k5 j _ (hL j o ho)
    rw [hsl j o ho]; exact this
  · intro i j oi oj hij hi hj
    exact pairsGood_get h2 hij (itemsOf_get hi) (itemsOf_get hj)
  · intro j o ho hs
    rw [hsl j o ho, Bool.and_eq_true] at hs
    exact natBeq_iff.1 hs.1
  · intro j o ho hk hs i oi hi hne hki
    rw [hsl j o ho, hk] at hs
    have hb : besides (itemsOf E n ops) (item E n ops j o) = false := by simpa using hs
    apply Classical.byContradiction
    intro hno
    have hno1 : ¬ Bf ops i j := fun h => hno (.inl h)
    have hno2 : ¬ Bf ops j i := fun h => hno (.inr h)
    have : besides (itemsOf E n ops) (item E n ops j o) = true := by
      unfold besides
      rw [List.any_eq_true]
      refine ⟨item E n ops i oi, List.mem_of_getElem? (itemsOf_get hi), ?_⟩
      have hk0 : Nat.beq (item E n ops i oi).kind 0 = false := natBeq_false hki
      rw [hk0]
      simp only [Bool.not_false, Bool.true_and]
      have f1 : freeD (item E n ops j o) (item E n ops i oi) = true := by
        unfold freeD; simp only [Bool.not_eq_true']
        exact Bool.eq_false_iff.2 fun h => hno1 h
      have f2 : freeD (item E n ops i oi) (item E n ops j o) = true := by
        unfold freeD; simp only [Bool.not_eq_true']
        exact Bool.eq_false_iff.2 fun h => hno2 h
      show (bif Nat.blt j i then _ else bif Nat.blt i j then _ else false) = true
      rcases Nat.lt_or_ge j i with hlt | hge
      · rw [show Nat.blt j i = true from Nat.blt_eq.mpr hlt, cond_true]; exact f1
      · have hlt : i < j := by omega
        rw [show Nat.blt j i = false from by cases h : Nat.blt j i with | false => rfl | true => have := Nat.blt_eq.mp h; omega, cond_false, show Nat.blt i j = true from Nat.blt_eq.mpr hlt, cond_true]; exact f2
    rw [this] at hb; cases hb
  · intro j o ho
    exact h3 _ (List.mem_of_getElem? (compRegion_get ho))
  · intro i j oi oj hij hi hj hf hk wi wj A hA hB
    have hm : (i, j) ∈ askPairs (itemsOf E n ops) := by
      refine askPairs_get hij (itemsOf_get hi) (itemsOf_get hj) ?_ hk
      unfold freeD; simp only [Bool.not_eq_true']
      exact Bool.eq_false_iff.2 fun h => hf h
    have hp := List.all_eq_true.1 k7 _ hm
    have ui := k6 i _ (hL i oi hi)
    have uj := k6 j _ (hL j oj hj)
    have ui' := ui.trans (congrArg some (touches_wanted wi))
    have uj' := uj.trans (congrArg some (touches_wanted wj))
    exact pairOk_apart hp ui' uj' hA hB
end
end Go.Ab
namespace Go.Ab
open Go

section
variable {E : Env} {K : Kt} {n : Nat} {ops : Array Oper}
theorem op_pure {self : Self} {o : AOp} {r : Regs} {σ σ' : St} {v : Value} (hf : flatOp o = true) (hk : heapKind o = 0) (hv : doOp E self o r σ = .ok v σ') : σ' = σ ∧ ∀ τ, doOp E self o r τ = .ok v τ := by
  cases o with
  | ex x =>
    have hr : reads x = false := by
      simp only [heapKind] at hk
      split at hk
      · cases hk
      · rename_i h; simpa using h
    obtain ⟨rfl, hx⟩ := ex_inv hv
    refine ⟨rfl, fun τ => ?_⟩
    show fEx x r τ = _
    unfold fEx out
    rw [ev_heap (σ := τ) (τ := σ) hr, hx]
  | build z ps =>
    have hv' : fBuild z ps r σ = .ok v σ' := hv
    unfold fBuild at hv'
    split at hv'
    · rename_i c hc
      cases hv'
      refine ⟨rfl, fun τ => ?_⟩
      show fBuild z ps r τ = _
      unfold fBuild
      rw [fill_heap (σ := τ) (τ := σ) hf, hc]
    · cases hv'
  | mkFunc g a b =>
    simp only [flatOp, aopOpds, List.all_append, Bool.and_eq_true] at hf
    have hv' : fMkFunc g a b r σ = .ok v σ' := hv
    unfold fMkFunc at hv'
    split at hv'
    · rename_i x y hx hy
      cases hv'
      refine ⟨rfl, fun τ => ?_⟩
      show fMkFunc g a b r τ = _
      unfold fMkFunc
      rw [evs_heap (σ := τ) (τ := σ) hf.1, evs_heap (σ := τ) (τ := σ) hf.2, hx, hy]
    · cases hv'
  | _ => cases hk
theorem foot_one {o : AOp} {r : Regs} {σ : St} (hk : heapKind o = 1) {A : Nat} : ¬ Foot r σ o A := by
  cases o with
  | ex x =>
    simp only [heapKind] at hk
    split at hk <;> cases hk
  | new t c => rintro (h | h) <;> cases h
  | box t m x => rintro (h | h) <;> cases h
  | row t m z ps => rintro (h | h) <;> cases h
  | mkMap => rintro (h | h) <;> cases h
  | mkSlice t z x y => rintro (h | h) <;> cases h
  | _ => cases hk
/-- what is touched is known -/
theorem simple_dom {P : Program} {ic : Inj} {σ : St} {w : World} (h : Rel P E ic σ w) {_m : Nat} {r : Regs} {_t : Array Value} (hr : ∀ p v, T.getP p r = some v → ∃ v', VRel ic v v') {x : Opd} (hx : simpleO E x = true) {A : Nat} {v : Value} (he : ev x r σ = some v) (hb : blkOf (some v) = some A) : ∃ L, ic A = some L := by
  have vdom {v v' : Value} (h : VRel ic v v') (hb : blkOf (some v) = some A) : ∃ L, ic A = some L := by
    cases h <;> simp [blkOf] at hb <;> (subst hb; exact ⟨_, by assumption⟩)
  induction x generalizing v with
  | reg p =>
    obtain ⟨v', hv⟩ := hr p v he
    exact vdom hv hb
  | const c =>
    cases he
    simp only [simpleO] at hx
    rw [hb] at hx
    obtain ⟨L, a, _⟩ := h.glob A (Nat.blt_eq.mp hx)
    exact ⟨L, a⟩
  | u k x ih =>
    rw [ev_u] at he
    cases hxv : ev x r σ with
    | none => rw [hxv] at he; cases he
    | some u =>
      rw [hxv] at he
      cases k with
      | idSl =>
        have he' : sIdSl u σ = some v := he
        unfold sIdSl at he'
        split at he'
        · cases he'; exact ih hx hxv hb
        · cases he'
      | idStr =>
        have he' : sIdStr u σ = some v := he
        unfold sIdStr at he'
        split at he'
        · cases he'; exact ih hx hxv hb
        · cases he'
      | idInt =>
        have he' : sIdInt u σ = some v := he
        unfold sIdInt at he'
        split at he'
        · cases he'; exact ih hx hxv hb
        · cases he'
      | _ => cases hx
  | _ => cases hx
theorem touch_tops {o : AOp} {r : Regs} {σ : St} {A : Nat} (h : Foot r σ o A) : ∃ x ∈ tops o, ∃ v, ev x r σ = some v ∧ blkOf (some v) = some A := by
  have yes {x : Opd} (hx : x ∈ tops o) (h : blkOf (ev x r σ) = some A) : ∃ x ∈ tops o, ∃ v, ev x r σ = some v ∧ blkOf (some v) = some A := by
    cases he : ev x r σ with
    | none => rw [he] at h; cases h
    | some v => rw [he] at h; exact ⟨x, hx, v, he, h⟩
  rcases h with h | h
  · cases o with
    | ex x =>
      cases x with
      | u k x => exact yes (by simp [tops]) h
      | b k x y => exact yes (by simp [tops]) h
      | q k x a b c => exact yes (by simp [tops]) h
      | _ => cases h
    | store n x y => exact yes (x := x) (by simp [tops]) h
    | clear z x => exact yes (x := x) (by simp [tops]) h
    | appendMake t z s x y => exact yes (x := x) (by simp [tops]) h
    | mapSet q x y z => exact yes (x := x) (by simp [tops]) h
    | copy s x y => exact yes (x := x) (by simp [tops]) h
    | append t s x y => exact yes (x := x) (by simp [tops]) h
    | _ => cases h
  · cases o with
    | copy s x y => exact yes (x := y) (by simp [tops]) h
    | append t s x y => exact yes (x := y) (by simp [tops]) h
    | _ => cases h

theorem getP_putR (p : Pa) (r : Regs) (d : Option Pa) (v : Value) : T.getP p (putR r d v) = if d = some p then some v else T.getP p r := by
  cases d with
  | none => rw [if_neg (by simp)]; rfl
  | some q =>
    show T.getP p (T.setP q v r) = _
    rw [T.getP_setP]
    by_cases h : p = q
    · subst h; rw [if_pos rfl, if_pos rfl]
    · rw [if_neg h, if_neg (by simp only [Option.some.injEq]; exact fun e => h e.symm)]
noncomputable def rsub (r : Regs) : List Pa → Regs
  | [] => .e
  | p :: ps => match T.getP p r with
    | some v => T.setP p v (rsub r ps)
    | none => rsub r ps
theorem rsub_get {r : Regs} {q : Pa} : ∀ {ps : List Pa}, (q ∈ ps → T.getP q (rsub r ps) = T.getP q r) ∧ ∀ v, T.getP q (rsub r ps) = some v → q ∈ ps ∧ T.getP q r = some v := by
  intro ps
  induction ps with
  | nil => exact ⟨fun h => (by cases h), fun v h => (by unfold rsub at h; rw [T.getP_e] at h; cases h)⟩
  | cons p ps ih =>
    unfold rsub
    cases hp : T.getP p r with
    | none =>
      simp only
      refine ⟨fun h => ?_, fun v h => ⟨List.mem_cons_of_mem _ (ih.2 v h).1, (ih.2 v h).2⟩⟩
      rcases List.mem_cons.1 h with rfl | h
      · by_cases hm : q ∈ ps
        · exact ih.1 hm
        · cases hg : T.getP q (rsub r ps) with
          | none => exact hp.symm
          | some v => exact absurd (ih.2 v hg).1 hm
      · exact ih.1 h
    | some u =>
      simp only
      rw [T.getP_setP]
      by_cases h : q = p
      · subst h
        rw [if_pos rfl]
        exact ⟨fun _ => hp.symm, fun v hv => ⟨List.mem_cons_self .., hp.trans hv⟩⟩
      · rw [if_neg h]
        refine ⟨fun hm => ?_, fun v hv => ⟨List.mem_cons_of_mem _ (ih.2 v hv).1, (ih.2 v hv).2⟩⟩
        rcases List.mem_cons.1 hm with e | hm
        · exact absurd e h
        · exact ih.1 hm

namespace DR
variable (d : DR E K n ops)
def Want (j : Nat) (o : Oper) : Prop := wantedV (compOper E n ops o).guard (d.rg j) = some true
noncomputable abbrev kd (_ : DR E K n ops) (o : Oper) : Nat := heapKind (compOper E n ops o).op
def Ft (j : Nat) (o : Oper) (A : Nat) : Prop := Foot (d.rg j) (d.st j) (compOper E n ops o).op A
def Rd (j A : Nat) : Prop := ∃ o, ops[j]? = some o ∧ d.Want j o ∧ A < (d.st j).size ∧ (((d.kd o = 2 ∨ d.kd o = 3) ∧ d.Ft j o A) ∨ d.kd o = 4)
def Wr (j A : Nat) : Prop := ∃ o, ops[j]? = some o ∧ d.Want j o ∧ A < (d.st j).size ∧ ((d.kd o = 3 ∧ d.Ft j o A) ∨ (d.kd o = 4 ∧ d.sl j = false))
theorem wr_rd {j A : Nat} (h : d.Wr j A) : d.Rd j A := by
  obtain ⟨o, h1, h2, h3, h4⟩ := h
  refine ⟨o, h1, h2, h3, ?_⟩
  rcases h4 with h4 | h4
  · exact .inl ⟨.inr h4.1, h4.2⟩
  · exact .inr h4.1
section
  include d
theorem bf_lt {j i : Nat} {o : Oper} (ho : ops[j]? = some o) (h : Bf ops j i) : i < j := Bf.lt d.edges ho h
theorem bf_lt' {j i : Nat} (hj : j < ops.size) (h : Bf ops j i) : i < j := d.bf_lt (o := ops[j]) (by simp [hj]) h
/-- two that may come in either order don't meet -/
theorem conflict {i j A : Nat} (hne : i ≠ j) (h1 : ¬ Bf ops i j) (h2 : ¬ Bf ops j i) (hw : d.Wr i A) (hr : d.Rd j A) : False := by
  obtain ⟨oi, i1, i2, i3, i4⟩ := hw
  obtain ⟨oj, j1, j2, j3, j4⟩ := hr
  rcases i4 with ⟨k3, f3⟩ | ⟨k4, s4⟩
  · rcases j4 with ⟨kj, fj⟩ | k4
    · rcases Nat.lt_or_ge i j with hlt | hge
      · refine d.ask i j oi oj hlt i1 j1 h2 ?_ i2 j2 A f3 fj
        unfold kd at k3 kj
        rw [k3]; rcases kj with kj | kj <;> rw [kj] <;> rfl
      · refine d.ask j i oj oi (by omega) j1 i1 h1 ?_ j2 i2 A fj f3
        unfold kd at k3 kj
        rw [k3]; rcases kj with kj | kj <;> rw [kj] <;> rfl
    · unfold kd at k3 k4
      rcases Nat.lt_or_ge i j with hlt | hge
      · have := d.pairs i j oi oj hlt i1 j1
        unfold pairGood at this
        have hf : freeD (item E n ops i oi) (item E n ops j oj) = true := by
          unfold freeD; simp only [Bool.not_eq_true']; exact Bool.eq_false_iff.2 fun h => h2 h
        rw [hf, cond_true] at this
        simp only [Bool.and_eq_true] at this
        have h := this.2.2
        have e1 : (item E n ops i oi).kind = 3 := k3
        have e2 : (item E n ops j oj).kind = 4 := k4
        rw [e1, e2] at h; cases h
      · have := d.pairs j i oj oi (by omega) j1 i1
        unfold pairGood at this
        have hf : freeD (item E n ops j oj) (item E n ops i oi) = true := by
          unfold freeD; simp only [Bool.not_eq_true']; exact Bool.eq_false_iff.2 fun h => h1 h
        rw [hf, cond_true] at this
        simp only [Bool.and_eq_true] at this
        have h := this.2.2
        have e1 : (item E n ops i oi).kind = 3 := k3
        have e2 : (item E n ops j oj).kind = 4 := k4
        rw [e1, e2] at h; cases h
  · have hk : heapKind (compOper E n ops oj).op ≠ 0 := by
      unfold kd at j4
      rcases j4 with ⟨kj | kj, _⟩ | kj <;> rw [kj] <;> simp
    rcases d.open4 i oi i1 k4 s4 j oj j1 (Ne.symm hne) hk with h | h
    · exact h2 h
    · exact h1 h
/-- registers: who writes what another one reads stands ahead of it, or behind it -/
theorem reg_conflict {i j : Nat} {oi oj : Oper} (hi : ops[i]? = some oi) (hj : ops[j]? = some oj) (hne : i ≠ j) (h1 : ¬ Bf ops i j) (h2 : ¬ Bf ops j i) {p : Pa} (hd : (compOper E n ops oi).dst = some p) (hp : p ∈ operRegsOf (compOper E n ops oj)) : False := by
  have hin : isIn (some p) (operRegsOf (compOper E n ops oj)) = true := by
    unfold isIn; simp only [List.any_eq_true]; exact ⟨p, hp, (paEq_iff p p).2 rfl⟩
  rcases Nat.lt_or_ge i j with hlt | hge
  · have := d.pairs i j oi oj hlt hi hj
    unfold pairGood at this
    have hf : freeD (item E n ops i oi) (item E n ops j oj) = true := by
      unfold freeD; simp only [Bool.not_eq_true']; exact Bool.eq_false_iff.2 fun h => h2 h
    rw [hf, cond_true] at this
    simp only [Bool.and_eq_true, Bool.not_eq_true'] at this
    have h := this.2.1.1
    have e : isIn (item E n ops i oi).dst (item E n ops j oj).regs = isIn (some p) (operRegsOf (compOper E n ops oj)) := by show isIn (compOper E n ops oi).dst _ = _; rw [hd]; rfl
    rw [e, hin] at h; cases h
  · have := d.pairs j i oj oi (by omega) hj hi
    unfold pairGood at this
    have hf : freeD (item E n ops j oj) (item E n ops i oi) = true := by
      unfold freeD; simp only [Bool.not_eq_true']; exact Bool.eq_false_iff.2 fun h => h1 h
    rw [hf, cond_true] at this
    simp only [Bool.and_eq_true, Bool.not_eq_true'] at this
    have h := this.2.1.2
    have e : isIn (item E n ops i oi).dst (item E n ops j oj).regs = isIn (some p) (operRegsOf (compOper E n ops oj)) := by show isIn (compOper E n ops oi).dst _ = _; rw [hd]; rfl
    rw [e, hin] at h; cases h
theorem dst_ne {i j : Nat} {oi oj : Oper} (hi : ops[i]? = some oi) (hj : ops[j]? = some oj) (hne : i ≠ j) {p : Pa} (h1 : (compOper E n ops oi).dst = some p) (h2 : (compOper E n ops oj).dst = some p) : False := by
  have key {i j : Nat} {oi oj : Oper} (hi : ops[i]? = some oi) (hj : ops[j]? = some oj) (hlt : i < j) (h1 : (compOper E n ops oi).dst = some p) (h2 : (compOper E n ops oj).dst = some p) : False := by
    have := d.pairs i j oi oj hlt hi hj
    unfold pairGood at this
    simp only [Bool.and_eq_true] at this
    have h := this.1
    have e1 : (item E n ops i oi).dst = some p := h1
    have e2 : (item E n ops j oj).dst = some p := h2
    rw [e1, e2] at h
    simp only [(paEq_iff p p).2 rfl] at h; cases h
  rcases Nat.lt_or_ge i j with hlt | hge
  · exact key hi hj hlt h1 h2
  · exact key hj hi (by omega) h2 h1

end
/-- what the run itself shows, from a world that it may be run in -/
structure Told (P : Program) (ι₀ : Inj) (w₀ : World) : Prop where
  at' : ∀ j, j ≤ ops.size → ∃ ic wc tc, Rel P E ic (d.st j) wc ∧ RRel ic n (d.rg j) tc ∧ Ext ι₀ (d.st 0) w₀ ic (d.st j) wc
  size : ∀ j, j < ops.size → (d.st j).size ≤ (d.st (j + 1)).size
  keep : ∀ j, j < ops.size → ∀ A, A < (d.st j).size → ¬ d.Wr j A → (d.st (j + 1)).heap.get A = (d.st j).heap.get A
variable {d}
theorem told {P : Program} (hE : EOk P E) (hK : KOk P E K) {ι₀ : Inj} {w₀ : World} {t₀ : Array Value} (h : Rel P E ι₀ (d.st 0) w₀) (hr : RRel ι₀ n (d.rg 0) t₀) : d.Told P ι₀ w₀ := by
  have stp : ∀ j o, ops[j]? = some o → ∀ ic wc tc, Rel P E ic (d.st j) wc → RRel ic n (d.rg j) tc → ∃ ic' wc' tc', Rel P E ic' (d.st (j + 1)) wc' ∧ RRel ic' n (d.rg (j + 1)) tc' ∧ Ext ic (d.st j) wc ic' (d.st (j + 1)) wc' ∧ (∀ A, A < (d.st j).size → ¬ d.Wr j A → (d.st (j + 1)).heap.get A = (d.st j).heap.get A) := by
    intro j o ho ic wc tc hrel hreg
    obtain ⟨hs, hrg⟩ := d.step j o ho
    obtain ⟨c1, c2, c3, _⟩ := compOper_inv (ao := { compOper E n ops o with sl := d.sl j }) (by
      have : (compOper E n ops o).sl = false := by
        unfold compOper
        split
        · cases (!Nat.blt _ n) with
          | true => rfl
          | false => rw [cond_false]; split <;> rfl
        · rw [cond_false]; split <;> rfl
      unfold noSl; rw [← this]) hs
    have fin {v' : Value} {ic' : Inj} {wc' : World} (hv : VRel ic' (d.vl j) v') (hle : Le ic ic') : ∃ tc', RRel ic' n (d.rg (j + 1)) tc' := by
      have q := RRel.put (a := { tmps := tc, defers := [] }) (hreg.mono hle) hv c2
      have e : (compOper E n ops o).dst = o.dst.map path := c1
      rw [hrg, e]
      exact ⟨_, q⟩
    rcases hs with ⟨hw, hv, hst⟩ | ⟨hw, hs⟩
    · have hvu : VRel ic (d.vl j) unitV := by rw [hv]; exact VRel.tuple #[] #[] .nil
      obtain ⟨tc', ht⟩ := fin (wc' := wc) hvu (Le.refl ic)
      rw [hst]
      exact ⟨ic, wc, tc', hrel, ht, Ext.refl _ _ _, fun _ _ _ => rfl⟩
    · simp only at hs
      cases hsl : d.sl j with
      | false =>
        rw [hsl] at hs
        obtain ⟨v', wc', ic', g1, g2, g3⟩ := oper_some hE hK hrel hreg c3 hs
        obtain ⟨tc', ht⟩ := fin (wc' := wc') g1 g3.le
        refine ⟨ic', wc', tc', g2, ht, g3, fun A hA hn => ?_⟩
        rcases d.flat j o ho with ⟨hf, hsim⟩ | hk4
        · by_cases h3 : heapKind (compOper E n ops o).op = 3
          · have hc : isCall (compOper E n ops o).op = false := by
              cases hh : (compOper E n ops o).op <;> first | rfl | (rw [hh] at h3; cases h3)
            have hs' : doOp E (fun _ _ _ => .fail) (compOper E n ops o).op (d.rg j) (d.st j) = .ok (d.vl j) (d.st (j + 1)) := by
              revert hs hc
              cases (compOper E n ops o).op <;> intro hs hc <;> first | exact hs | cases hc
            obtain ⟨τ', k1, k2⟩ := op_local hf hc (τ := d.st j) ⟨rfl, rfl, fun _ _ => rfl⟩ hs'
            exact k2.keepσ A hA fun hF => hn ⟨o, ho, hw, hA, .inl ⟨h3, hF⟩⟩
          · by_cases h4 : heapKind (compOper E n ops o).op = 4
            · exact absurd ⟨o, ho, hw, hA, .inr ⟨h4, hsl⟩⟩ hn
            · have hc : isCall (compOper E n ops o).op = false := by
                cases hh : (compOper E n ops o).op <;> first | rfl | (rw [hh] at h4; exact absurd rfl h4)
              have hs' : doOp E (fun _ _ _ => .fail) (compOper E n ops o).op (d.rg j) (d.st j) = .ok (d.vl j) (d.st (j + 1)) := by
                revert hs hc
                cases (compOper E n ops o).op <;> intro hs hc <;> first | exact hs | cases hc
              exact op_old hc h3 hs' A hA
        · exact absurd ⟨o, ho, hw, hA, .inr ⟨hk4, hsl⟩⟩ hn
      | true =>
        rw [hsl] at hs
        obtain ⟨τ', hs, hτ⟩ := hs
        obtain ⟨v', wc', g⟩ := oper_some hE hK (hrel.relim (Nat.le_refl _)) hreg c3 hs
        have gu := Post.unlid hrel.lim g
        obtain ⟨_, _, _, gg⟩ := g
        obtain ⟨ic', g1, g2, g3⟩ := gu
        obtain ⟨tc', ht⟩ := fin (wc' := wc') g1 g3.le
        rw [hτ]
        refine ⟨ic', wc', tc', g2, ht, g3, fun A hA _ => ?_⟩
        have := gg.keep A (by rw [St.relim_lim]; exact hA)
        rw [St.relim_heap] at this; rw [St.relim_heap]; exact this
  have all : ∀ j, j ≤ ops.size → ∃ ic wc tc, Rel P E ic (d.st j) wc ∧ RRel ic n (d.rg j) tc ∧ Ext ι₀ (d.st 0) w₀ ic (d.st j) wc := by
    intro j
    induction j with
    | zero => intro _; exact ⟨ι₀, w₀, t₀, h, hr, Ext.refl _ _ _⟩
    | succ j ih =>
      intro hj
      obtain ⟨ic, wc, tc, g1, g2, g3⟩ := ih (by omega)
      obtain ⟨ic', wc', tc', k1, k2, k3, _⟩ := stp j ops[j] (by simp [show j < ops.size by omega]) ic wc tc g1 g2
      exact ⟨ic', wc', tc', k1, k2, g3.trans h k3⟩
  refine ⟨all, fun j hj => ?_, fun j hj => ?_⟩
  · obtain ⟨ic, wc, tc, g1, g2, g3⟩ := all j (by omega)
    obtain ⟨ic', wc', tc', k1, k2, k3, _⟩ := stp j ops[j] (by simp [hj]) ic wc tc g1 g2
    exact k3.size
  · obtain ⟨ic, wc, tc, g1, g2, g3⟩ := all j (by omega)
    obtain ⟨ic', wc', tc', k1, k2, k3, k4⟩ := stp j ops[j] (by simp [hj]) ic wc tc g1 g2
    exact k4
end DR
end
end Go.Ab
namespace Go.Ab
open Go

section
variable {P : Program} {E : Env} {K : Kt} {n : Nat} {ops : Array Oper}
namespace DR
open Classical in
/-- the heap behind the operations of S -/
noncomputable def hS (d : DR E K n ops) (S : Nat → Bool) : Nat → Nat → Option Blk
  | 0, A => (d.st 0).heap.get A
  | m + 1, A => if S m = true ∧ (d.Wr m A ∨ (d.st m).size ≤ A) then (d.st (m + 1)).heap.get A else hS d S m A
noncomputable def dstOf (_ : DR E K n ops) (m : Nat) : Option Pa := (ops[m]?).bind fun o => (compOper E n ops o).dst
/-- the registers behind the operations of S -/
noncomputable def rS (d : DR E K n ops) (S : Nat → Bool) : Nat → Regs
  | 0 => d.rg 0
  | m + 1 => if S m = true then putR (rS d S m) (d.dstOf m) (d.vl m) else rS d S m
variable {d : DR E K n ops} {ι₀ : Inj} {w₀ : World}
theorem Told.mono (t : d.Told P ι₀ w₀) {i j : Nat} (h : i ≤ j) (hj : j ≤ ops.size) : (d.st i).size ≤ (d.st j).size := by
  induction j with
  | zero => have : i = 0 := by omega
            subst this; exact Nat.le_refl _
  | succ j ih =>
    by_cases e : i = j + 1
    · subst e; exact Nat.le_refl _
    · exact Nat.le_trans (ih (by omega) (by omega)) (t.size j (by omega))
theorem Told.none (t : d.Told P ι₀ w₀) {j A : Nat} (hj : j ≤ ops.size) (h : (d.st j).size ≤ A) : (d.st j).heap.get A = none := by
  obtain ⟨ic, wc, tc, g, _⟩ := t.at' j hj
  exact g.fresh A h
theorem hS_lo (t : d.Told P ι₀ w₀) {S : Nat → Bool} : ∀ {m A : Nat}, m ≤ ops.size → (d.st m).size ≤ A → d.hS S m A = none := by
  intro m
  induction m with
  | zero => intro A _ h; exact t.none (Nat.zero_le _) h
  | succ m ih =>
    intro A hm h
    unfold hS
    split
    · exact t.none hm h
    · exact ih (by omega) (Nat.le_trans (t.size m (by omega)) h)
theorem hS_mem {S : Nat → Bool} : ∀ (m A : Nat), ∃ k, k ≤ m ∧ d.hS S m A = (d.st k).heap.get A := by
  intro m
  induction m with
  | zero => intro A; exact ⟨0, Nat.le_refl _, rfl⟩
  | succ m ih =>
    intro A
    unfold hS
    split
    · exact ⟨m + 1, Nat.le_refl _, rfl⟩
    · obtain ⟨k, h1, h2⟩ := ih A
      exact ⟨k, by omega, h2⟩
theorem hS_upto (t : d.Told P ι₀ w₀) {S : Nat → Bool} {A : Nat} : ∀ {m : Nat}, m ≤ ops.size → (∀ i, i < m → (d.Wr i A ∨ ((d.st i).size ≤ A ∧ A < (d.st (i + 1)).size)) → S i = true) → d.hS S m A = (d.st m).heap.get A := by
  intro m
  induction m with
  | zero => intro _ _; rfl
  | succ m ih =>
    intro hm h
    have i1 := ih (by omega) fun i hi => h i (by omega)
    unfold hS
    split
    · rfl
    · rename_i hn
      rw [i1]
      by_cases hw : d.Wr m A
      · exact absurd ⟨h m (by omega) (.inl hw), .inl hw⟩ hn
      · by_cases hA : A < (d.st m).size
        · exact (t.keep m (by omega) A hA hw).symm
        · by_cases hB : A < (d.st (m + 1)).size
          · exact absurd ⟨h m (by omega) (.inr ⟨by omega, hB⟩), .inr (by omega)⟩ hn
          · rw [t.none (by omega) (by omega), t.none (by omega) (by omega)]
theorem hS_agree (t : d.Told P ι₀ w₀) {S : Nat → Bool} {A j : Nat} (hj : j ≤ ops.size) (h1 : ∀ i, i < j → (d.Wr i A ∨ ((d.st i).size ≤ A ∧ A < (d.st (i + 1)).size)) → S i = true)
    (h2 : ∀ m, j ≤ m → m < ops.size → S m = true → ¬ d.Wr m A ∧ A < (d.st m).size) : ∀ m, j ≤ m → m ≤ ops.size → d.hS S m A = (d.st j).heap.get A := by
  intro m
  induction m with
  | zero =>
    intro h _
    have : j = 0 := by omega
    subst this; rfl
  | succ m ih =>
    intro h hm
    by_cases e : j = m + 1
    · subst e; exact hS_upto t hj h1
    · unfold hS
      rw [if_neg]
      · exact ih (by omega) (by omega)
      · rintro ⟨hs, hw⟩
        have := h2 m (by omega) (by omega) hs
        rcases hw with hw | hw
        · exact this.1 hw
        · omega
open Classical in
theorem hS_same (t : d.Told P ι₀ w₀) {S S' : Nat → Bool} {A j : Nat} (hS : ∀ k, k ≠ j → S' k = S k) (hn : ¬ d.Wr j A) (hA : A < (d.st j).size ∨ (d.st (j + 1)).size ≤ A) (hj : j < ops.size) : ∀ m, m ≤ ops.size → d.hS S' m A = d.hS S m A := by
  intro m
  induction m with
  | zero => intro _; rfl
  | succ m ih =>
    intro hm
    by_cases e : m = j
    · subst e
      rcases hA with hA | hA
      · have key (T : Nat → Bool) : d.hS T (m + 1) A = d.hS T m A := by
          show (if _ then _ else _) = _
          rw [if_neg]
          rintro ⟨_, hw | hw⟩
          · exact hn hw
          · omega
        rw [key, key]; exact ih (by omega)
      · rw [hS_lo t (by omega) hA, hS_lo t (by omega) hA]
    · show (if _ then _ else _) = (if _ then _ else _)
      rw [hS m e, ih (by omega)]

theorem dst_of {o : Oper} {m : Nat} (h : ops[m]? = some o) : d.dstOf m = (compOper E n ops o).dst := by
  unfold dstOf; rw [h]; rfl
theorem rS_all {S : Nat → Bool} : ∀ {m : Nat}, m ≤ ops.size → (∀ i, i < m → S i = true) → d.rS S m = d.rg m := by
  intro m
  induction m with
  | zero => intro _ _; rfl
  | succ m ih =>
    intro hm h
    unfold rS
    rw [if_pos (h m (by omega)), ih (by omega) fun i hi => h i (by omega)]
    have ho : ops[m]? = some ops[m] := by simp [show m < ops.size by omega]
    rw [dst_of ho, (d.step m _ ho).2]
/-- the invariant -/
structure Inv (P : Program) (d : DR E K n ops) (ι₀ : Inj) (w₀ : World) (D : List Deferred) (S : Nat → Bool) (ι : Inj) (a : Act) (w : World) : Prop where
  closed : ∀ j i, S j = true → Bf ops j i → S i = true
  rel : Rel P E ι (mkS (d.st ops.size).size (d.st 0).lim (d.hS S ops.size)) w
  ext : Ext ι₀ (d.st 0) w₀ ι (mkS (d.st ops.size).size (d.st 0).lim (d.hS S ops.size)) w
  regs : RRel ι n (d.rS S ops.size) a.tmps
  free : ∀ j, S j = false → j < ops.size → ∀ A, (d.st j).size ≤ A → A < (d.st (j + 1)).size → ι A = none
  foot : ∀ j o A, S j = true → ops[j]? = some o → d.kd o = 3 → d.Want j o → d.Ft j o A → ι A ≠ none
  dfr : a.defers = D
section
variable {D : List Deferred} {S : Nat → Bool} {ι : Inj} {a : Act} {w : World}
theorem Inv.un1 (v : Inv P d ι₀ w₀ D S ι a w) {j m : Nat} (hj : S j = false) (hm : S m = true) : ¬ Bf ops m j := fun h => by
  have := v.closed m j hm h; rw [hj] at this; cases this
/-- what an operation reads is as in the text's order -/
theorem Inv.reg_same (v : Inv P d ι₀ w₀ D S ι a w) {j : Nat} {o : Oper} (ho : ops[j]? = some o) (hj : S j = false) (hb : ∀ i, Bf ops j i → S i = true) {p : Pa} (hp : p ∈ operRegsOf (compOper E n ops o)) : T.getP p (d.rS S ops.size) = T.getP p (d.rg j) := by
  have hlt : j < ops.size := (Array.getElem?_eq_some_iff.1 ho).1
  have lo : ∀ m, m ≤ j → T.getP p (d.rS S m) = T.getP p (d.rg m) := by
    intro m
    induction m with
    | zero => intro _; rfl
    | succ m ih =>
      intro hm
      have hom : ops[m]? = some ops[m] := by simp [show m < ops.size by omega]
      rw [(d.step m _ hom).2, getP_putR]
      unfold rS
      cases hs : S m with
      | true => rw [if_pos rfl, getP_putR, dst_of hom, ih (by omega)]
      | false =>
        rw [if_neg (by simp), if_neg]
        · exact ih (by omega)
        · intro hd
          refine d.reg_conflict hom ho (by omega) (fun h => ?_) (fun h => ?_) hd hp
          · have := d.bf_lt hom h; omega
          · have := hb m h; rw [hs] at this; cases this
  have hi : ∀ m, j ≤ m → m ≤ ops.size → T.getP p (d.rS S m) = T.getP p (d.rg j) := by
    intro m
    induction m with
    | zero => intro h _; have : j = 0 := by omega
              subst this; rfl
    | succ m ih =>
      intro h hm
      by_cases e : j = m + 1
      · subst e; exact lo _ (Nat.le_refl _)
      · have hom : ops[m]? = some ops[m] := by simp [show m < ops.size by omega]
        unfold rS
        cases hs : S m with
        | false => rw [if_neg (by simp)]; exact ih (by omega) (by omega)
        | true =>
          rw [if_pos rfl, getP_putR, if_neg]
          · exact ih (by omega) (by omega)
          · rw [dst_of hom]
            intro hd
            have hne : m ≠ j := by rintro rfl; rw [hj] at hs; cases hs
            refine d.reg_conflict hom ho hne (v.un1 hj hs) (fun h => ?_) hd hp
            have := d.bf_lt ho h; omega
  exact hi _ (Nat.le_of_lt hlt) (Nat.le_refl _)
theorem rS_step {S S' : Nat → Bool} {j : Nat} {o : Oper} (ho : ops[j]? = some o) (hS : ∀ k, k ≠ j → S' k = S k) (h1 : S j = false) (h2 : S' j = true) (p : Pa) : T.getP p (d.rS S' ops.size) = T.getP p (putR (d.rS S ops.size) (compOper E n ops o).dst (d.vl j)) := by
  have hlt : j < ops.size := (Array.getElem?_eq_some_iff.1 ho).1
  have lo : ∀ m, m ≤ j → d.rS S' m = d.rS S m := by
    intro m
    induction m with
    | zero => intro _; rfl
    | succ m ih => intro hm; unfold rS; rw [ih (by omega), hS m (by omega)]
  have hi : ∀ m, j + 1 ≤ m → m ≤ ops.size → T.getP p (d.rS S' m) = T.getP p (putR (d.rS S m) (compOper E n ops o).dst (d.vl j)) := by
    intro m
    induction m with
    | zero => intro h _; omega
    | succ m ih =>
      intro h hm
      by_cases e : m = j
      · subst e
        unfold rS
        rw [h1, h2, if_pos rfl, if_neg (by simp), lo m (Nat.le_refl _), dst_of ho]
      · have hom : ops[m]? = some ops[m] := by simp [show m < ops.size by omega]
        unfold rS
        rw [hS m e]
        cases hs : S m with
        | false => rw [if_neg (by simp), if_neg (by simp)]; exact ih (by omega) (by omega)
        | true =>
          rw [if_pos rfl, if_pos rfl, getP_putR, ih (by omega) (by omega), getP_putR, getP_putR, getP_putR, dst_of hom]
          by_cases hd : (compOper E n ops ops[m]).dst = some p
          · rw [if_pos hd]
            by_cases hd2 : (compOper E n ops o).dst = some p
            · exact (d.dst_ne hom ho e hd hd2).elim
            · rw [if_neg hd2, if_pos hd]
          · rw [if_neg hd, if_neg hd]
  exact hi _ hlt (Nat.le_refl _)
theorem rrel_get {ι : Inj} {m : Nat} {r r' : Regs} {t : Array Value} (h : RRel ι m r t) (e : ∀ p, T.getP p r' = T.getP p r) : RRel ι m r' t :=
  ⟨h.1, fun p v g => h.2 p v (by rw [← e]; exact g)⟩
end
end DR
end
end Go.Ab
namespace Go.Ab
open Go

section
variable {P : Program} {E : Env} {K : Kt} {n : Nat} {ops : Array Oper}
theorem path_all : ∀ (p : Pa), ∃ t, ∀ f, t ≤ f → pathF f t = p := by
  intro p
  induction p with
  | nil => exact ⟨0, fun f _ => by cases f <;> simp [pathF]⟩
  | cons b p ih =>
    obtain ⟨m, hm⟩ := ih
    cases b with
    | true =>
      refine ⟨2 * m + 2, fun f hf => ?_⟩
      cases f with
      | zero => omega
      | succ f =>
        unfold pathF
        rw [if_neg (by omega), show (2 * m + 2 - 1) / 2 = m by omega, hm f (by omega), show (2 * m + 2) % 2 = 0 by omega]
        simp
    | false =>
      refine ⟨2 * m + 1, fun f hf => ?_⟩
      cases f with
      | zero => omega
      | succ f =>
        unfold pathF
        rw [if_neg (by omega), show (2 * m + 1 - 1) / 2 = m by omega, hm f (by omega), show (2 * m + 1) % 2 = 1 by omega]
        simp
theorem path_surj (p : Pa) : ∃ t, path t = p := by
  obtain ⟨t, h⟩ := path_all p
  exact ⟨t, h t (Nat.le_refl _)⟩
namespace DR
variable {d : DR E K n ops} {ι₀ : Inj} {w₀ : World} {D : List Deferred} {S S' : Nat → Bool} {ι : Inj} {a : Act} {w : World}
/-- a state that an operation may be told from -/
theorem Inv.sub_rel (v : Inv P d ι₀ w₀ D S ι a w) {j : Nat} {ic : Inj} {wc : World} (hrc : Rel P E ic (d.st j) wc) {σp : St} (hsz : σp.size = (d.st j).size) (hlim : σp.lim ≤ (d.st j).size) (hfr : ∀ A, (d.st j).size ≤ A → σp.heap.get A = none)
    (hh : ∀ A, σp.heap.get A ≠ none → ι A ≠ none → σp.heap.get A = (d.st j).heap.get A ∧ d.hS S ops.size A = (d.st j).heap.get A) : Rel P E (ι.at ic) σp w where
  dom A L e := by
    obtain ⟨M, hM⟩ := Inj.at_ne (ι := ι) (c := ic) (A := A) (by rw [e]; simp)
    exact ⟨by rw [hsz]; exact (hrc.dom A M hM).1, (v.rel.dom A L (Inj.at_le ι ic A L e)).2⟩
  fresh A e := hfr A (hsz ▸ e)
  lim := by rw [hsz]; exact hlim
  blk A L b e g := by
    obtain ⟨M, hM⟩ := Inj.at_ne (ι := ι) (c := ic) (A := A) (by rw [e]; simp)
    have e' := Inj.at_le ι ic A L e
    obtain ⟨h1, h2⟩ := hh A (by rw [g]; simp) (by rw [e']; simp)
    refine BRel.at (hrc.blk A M b hM (h1 ▸ g)) (v.rel.blk A L b e' ?_)
    show T.get (mkS _ _ _).heap A = _
    rw [mkS_get (Z := (d.st ops.size).size) (v.rel.dom A L e').1, h2, ← h1]; exact g
  inj A B L M hne e f hw hl := by
    have e' := Inj.at_le ι ic A L e
    have f' := Inj.at_le ι ic B M f
    refine v.rel.inj A B L M hne e' f' ?_ ?_
    · have : σp.heap.get A ≠ none := by intro h; rw [h] at hw; cases hw
      obtain ⟨h1, h2⟩ := hh A this (by rw [e']; simp)
      show writable (T.get (mkS _ _ _).heap A) = _
      rw [mkS_get (Z := (d.st ops.size).size) (v.rel.dom A L e').1, h2, ← h1]; exact hw
    · have : σp.heap.get B ≠ none := by intro h; rw [h] at hl; cases hl
      obtain ⟨h1, h2⟩ := hh B this (by rw [f']; simp)
      show live (T.get (mkS _ _ _).heap B) = _
      rw [mkS_get (Z := (d.st ops.size).size) (v.rel.dom B M f').1, h2, ← h1]; exact hl
  glob g hg := by
    obtain ⟨L, a1, a2⟩ := v.rel.glob g hg
    obtain ⟨M, b1, _⟩ := hrc.glob g hg
    exact ⟨L, Inj.at_some b1 a1, a2⟩
section
variable {j : Nat} {o : Oper}
theorem Inv.agree (v : Inv P d ι₀ w₀ D S ι a w) (t : d.Told P ι₀ w₀) (ho : ops[j]? = some o) (hj : S j = false) (hb : ∀ i, Bf ops j i → S i = true) (hS : ∀ k, k ≠ j → S' k = S k) (h2 : S' j = true) {A : Nat} (hA : d.Rd j A) (hι : ι A ≠ none) :
    d.hS S ops.size A = (d.st j).heap.get A ∧ d.hS S' ops.size A = (d.st (j + 1)).heap.get A := by
  have hlt : j < ops.size := (Array.getElem?_eq_some_iff.1 ho).1
  obtain ⟨o', q1, q2, q3, q4⟩ := hA
  have hA : d.Rd j A := ⟨o', q1, q2, q3, q4⟩
  have c1 : ∀ i, i < j → (d.Wr i A ∨ ((d.st i).size ≤ A ∧ A < (d.st (i + 1)).size)) → S i = true := by
    intro i hi hw
    cases hs : S i with
    | true => rfl
    | false =>
      exfalso
      rcases hw with hw | ⟨k1, k2⟩
      · refine d.conflict (by omega) (fun h => ?_) (fun h => ?_) hw hA
        · have := d.bf_lt' (by omega) h; omega
        · have := hb i h; rw [hs] at this; cases this
      · exact hι (v.free i hs (by omega) A k1 k2)
  have c2 : ∀ m, j < m → m < ops.size → S m = true → ¬ d.Wr m A ∧ A < (d.st m).size := by
    intro m hm hmn hs
    refine ⟨fun hw => ?_, Nat.lt_of_lt_of_le q3 (t.mono (by omega) (by omega))⟩
    refine d.conflict (by omega) (v.un1 hj hs) (fun h => ?_) hw hA
    have := d.bf_lt ho h; omega
  constructor
  · refine hS_agree t (by omega) c1 (fun m hm hmn hs => c2 m ?_ hmn hs) _ (by omega) (Nat.le_refl _)
    rcases Nat.lt_or_ge j m with h | h
    · exact h
    · have : m = j := by omega
      subst this; rw [hj] at hs; cases hs
  · refine hS_agree t (by omega) (fun i hi hw => ?_) (fun m hm hmn hs => c2 m (by omega) hmn (by rw [← hS m (by omega)]; exact hs)) _ (by omega) (Nat.le_refl _)
    by_cases e : i = j
    · subst e; exact h2
    · rw [hS i e]; exact c1 i (by omega) hw
theorem Inv.agree_new (v : Inv P d ι₀ w₀ D S ι a w) (t : d.Told P ι₀ w₀) (ho : ops[j]? = some o) (hj : S j = false) (hS : ∀ k, k ≠ j → S' k = S k) (h2 : S' j = true) (hk0 : d.kd o = 0 → (d.st (j + 1)).size = (d.st j).size) {A : Nat} (h3 : (d.st j).size ≤ A) (h4 : A < (d.st (j + 1)).size) :
    d.hS S' ops.size A = (d.st (j + 1)).heap.get A := by
  have hlt : j < ops.size := (Array.getElem?_eq_some_iff.1 ho).1
  refine hS_agree t (by omega) (fun i hi hw => ?_) (fun m hm hmn hs => ⟨fun hw => ?_, Nat.lt_of_lt_of_le h4 (t.mono hm (by omega))⟩) _ (by omega) (Nat.le_refl _)
  · by_cases e : i = j
    · subst e; exact h2
    · exfalso
      rcases hw with ⟨_, _, _, q, _⟩ | ⟨_, q⟩
      · have := t.mono (show i ≤ j by omega) (by omega); omega
      · have := t.mono (show i + 1 ≤ j by omega) (by omega); omega
  · have hs' : S m = true := by rw [← hS m (by omega)]; exact hs
    obtain ⟨om, q1, q2, q3, q4⟩ := hw
    rcases q4 with ⟨k3, f3⟩ | ⟨k4, s4⟩
    · exact v.foot m om A hs' q1 k3 q2 f3 (v.free j hj hlt A h3 h4)
    · have hk : heapKind (compOper E n ops o).op ≠ 0 := fun e => by have := hk0 e; omega
      rcases d.open4 m om q1 k4 s4 j o ho (by omega) hk with h | h
      · have := d.bf_lt ho h; omega
      · exact v.un1 hj hs' h
theorem Inv.closed' (v : Inv P d ι₀ w₀ D S ι a w) (hb : ∀ i, Bf ops j i → S i = true) (hj : S j = false) (hS : ∀ k, k ≠ j → S' k = S k) (h2 : S' j = true) : ∀ k i, S' k = true → Bf ops k i → S' i = true := by
  intro k i hk hbf
  by_cases e : i = j
  · subst e; exact h2
  · rw [hS i e]
    by_cases ek : k = j
    · subst ek; exact hb i hbf
    · rw [hS k ek] at hk; exact v.closed k i hk hbf
/-- the operation has been done -/
theorem Inv.fin (v : Inv P d ι₀ w₀ D S ι a w) (t : d.Told P ι₀ w₀) (h0 : Rel P E ι₀ (d.st 0) w₀) (ho : ops[j]? = some o) (hj : S j = false) (hb : ∀ i, Bf ops j i → S i = true) (hS : ∀ k, k ≠ j → S' k = S k) (h2 : S' j = true)
    (hdst : (compOper E n ops o).dst = o.dst.map path) (hdn : ∀ q, o.dst = some q → q < n)
    {ic κ : Inj} {σp σp' : St} {v' : Value} {w' : World} (hv : VRel κ (d.vl j) v') (relp : Rel P E κ σp' w') (extp : Ext (ι.at ic) σp w κ σp' w')
    (hp0 : σp.size = (d.st j).size) (hp1 : σp'.size = (d.st (j + 1)).size) (hlim : (d.st 0).lim ≤ σp.lim)
    (hq1 : ∀ A, d.Rd j A → σp.heap.get A = (d.st j).heap.get A ∧ σp'.heap.get A = (d.st (j + 1)).heap.get A) (hq2 : ∀ A, ¬ d.Rd j A → σp.heap.get A = none)
    (hq4 : ∀ A, (d.st j).size ≤ A → A < (d.st (j + 1)).size → σp'.heap.get A = (d.st (j + 1)).heap.get A)
    (hk0 : d.kd o = 0 → (d.st (j + 1)).size = (d.st j).size) (hft : ∀ A, d.kd o = 3 → d.Want j o → d.Ft j o A → (ι.at ic) A ≠ none) : ∃ ι', Inv P d ι₀ w₀ D S' ι' (a.put o.dst v') w' := by
  have hlt : j < ops.size := (Array.getElem?_eq_some_iff.1 ho).1
  have conc : ∀ (T : Nat → Bool) (A : Nat), ∃ k ic wc tc, d.hS T ops.size A = (d.st k).heap.get A ∧ Rel P E ic (d.st k) wc ∧ RRel ic n (d.rg k) tc ∧ Ext ι₀ (d.st 0) w₀ ic (d.st k) wc := by
    intro T A
    obtain ⟨k, h1, h2⟩ := hS_mem (d := d) (S := T) ops.size A
    obtain ⟨ic, wc, tc, g⟩ := t.at' k h1
    exact ⟨k, ic, wc, tc, h2, g⟩
  have ds : DStep P E ι₀ (d.st 0) w₀ ι (ι.at ic) κ (d.st ops.size).size (d.st j).size (d.st (j + 1)).size (d.hS S ops.size) (d.hS S' ops.size) (d.Rd j) σp σp' w w' :=
    { rel := v.rel
      ext := v.ext
      free := fun A => v.free j hj hlt A
      sub := Inj.at_le ι ic
      relp := relp
      extp := extp
      sz0 := hp0
      sz1 := hp1
      z := t.mono (by omega) (Nat.le_refl _)
      lim := hlim
      old := t.mono (Nat.zero_le _) (by omega)
      q0 := fun A ⟨_, _, _, q, _⟩ => q
      q1 := fun A hA hι => by
        obtain ⟨e1, e2⟩ := v.agree t ho hj hb hS h2 hA hι
        obtain ⟨f1, f2⟩ := hq1 A hA
        exact ⟨e1.trans f1.symm, e2.trans f2.symm⟩
      q2 := hq2
      q3 := fun A hι hn => by
        refine hS_same t hS (fun h => hn (d.wr_rd h)) ?_ hlt _ (Nat.le_refl _)
        rcases Nat.lt_or_ge A (d.st j).size with h | h
        · exact .inl h
        · rcases Nat.lt_or_ge A (d.st (j + 1)).size with h' | h'
          · exact absurd (v.free j hj hlt A h h') hι
          · exact .inr h'
      q4 := fun A h3 h4 => (v.agree_new t ho hj hS h2 hk0 h3 h4).trans (hq4 A h3 h4).symm
      dom0 := fun A L e => (h0.dom A L e).1
      c1 := fun A hA => by
        obtain ⟨k, ic', wc, tc, e, g1, g2, g3⟩ := conc S' A
        rw [e]; exact g3.keep A hA
      c2 := fun A hA hn => by
        obtain ⟨k, ic', wc, tc, e, g1, g2, g3⟩ := conc S' A
        rw [e]; exact (g3.unmapped A hA hn).1
      c3 := fun A hA hw => by
        obtain ⟨k, ic', wc, tc, e, g1, g2, g3⟩ := conc S' A
        rw [e] at hw; exact g3.wr A hA hw
      c4 := fun A hA hw => by
        obtain ⟨k, ic', wc, tc, e, g1, g2, g3⟩ := conc S' A
        rw [e] at hw; exact g3.lv A hA hw
      c5 := fun A hA hw => by
        obtain ⟨k, ic', wc, tc, e, g1, g2, g3⟩ := conc S A
        rw [e] at hw; exact g3.wr A hA hw }
  refine ⟨ι.beside κ (d.st j).size (d.st (j + 1)).size, v.closed' hb hj hS h2, ds.rel', ds.ext', ?_, ?_, ?_, ?_⟩
  · refine rrel_get ?_ (rS_step ho hS hj h2)
    rw [hdst]
    exact (v.regs.mono ds.le1).put (hv.mono ds.le2) hdn
  · intro m hm hmn A h3 h4
    have hne : m ≠ j := by rintro rfl; rw [h2] at hm; cases hm
    have hsm : S m = false := by rw [← hS m hne]; exact hm
    have hn := v.free m hsm hmn A h3 h4
    rw [Inj.beside_old]
    · exact hn
    · rintro ⟨k1, k2⟩
      rcases Nat.lt_or_ge m j with h | h
      · have := t.mono (show m + 1 ≤ j by omega) (by omega); omega
      · have := t.mono (show j + 1 ≤ m by omega) (by omega); omega
  · intro m om A hm hom hk hw hf
    by_cases e : m = j
    · subst e
      rw [ho] at hom; cases hom
      have := hft A hk hw hf
      obtain ⟨L, hL⟩ := Option.ne_none_iff_exists'.1 this
      rw [ds.le1 A L (Inj.at_le ι ic A L hL)]; simp
    · have := v.foot m om A (by rw [← hS m e]; exact hm) hom hk hw hf
      obtain ⟨L, hL⟩ := Option.ne_none_iff_exists'.1 this
      rw [ds.le1 A L hL]; simp
  · rw [← v.dfr]; cases o.dst <;> rfl
theorem tops_regs {o : AOp} {x : Opd} {p : Pa} (hx : x ∈ tops o) (hp : p ∈ regsOf x) : p ∈ (aopOpds o).flatMap regsOf := by
  cases o with
  | ex y =>
    cases y with
    | u k y => simp only [tops, List.mem_singleton] at hx; subst hx; simp [aopOpds, regsOf, hp]
    | b k y z => simp only [tops, List.mem_singleton] at hx; subst hx; simp [aopOpds, regsOf, hp]
    | q k y a b c => simp only [tops, List.mem_singleton] at hx; subst hx; simp [aopOpds, regsOf, hp]
    | _ => cases hx
  | store m y z => simp only [tops, List.mem_singleton] at hx; subst hx; simp [aopOpds, hp]
  | clear z y => simp only [tops, List.mem_singleton] at hx; subst hx; simp [aopOpds, hp]
  | appendMake t z s y q => simp only [tops, List.mem_singleton] at hx; subst hx; simp [aopOpds, hp]
  | mapSet q y z u => simp only [tops, List.mem_singleton] at hx; subst hx; simp [aopOpds, hp]
  | copy s y z => simp only [tops, List.mem_cons, List.not_mem_nil, or_false] at hx; rcases hx with rfl | rfl <;> simp [aopOpds, hp]
  | append t s y z => simp only [tops, List.mem_cons, List.not_mem_nil, or_false] at hx; rcases hx with rfl | rfl <;> simp [aopOpds, hp]
  | _ => cases hx
theorem simple_reads {x : Opd} (h : simpleO E x = true) : reads x = false := by
  induction x with
  | reg p => rfl
  | const c => rfl
  | u k x ih =>
    cases k <;> first | exact ih h | cases h
  | _ => cases h
theorem isCall_kind {o : AOp} (h : heapKind o ≠ 4) : isCall o = false := by
  cases o <;> first | rfl | exact absurd rfl h
theorem opK_do {o : AOp} (hc : isCall o = false) {r : Regs} {σ τ : St} {v : Value} : OpK E K o r σ v τ ↔ doOp E (fun _ _ _ => .fail) o r σ = .ok v τ := by
  cases o <;> first | exact Iff.rfl | cases hc
theorem kind_cases (o : AOp) : heapKind o = 0 ∨ heapKind o = 1 ∨ heapKind o = 2 ∨ heapKind o = 3 ∨ heapKind o = 4 ∨ ∃ s, o = .bad s := by
  cases o with
  | ex x => simp only [heapKind]; split <;> simp
  | bad s => exact .inr (.inr (.inr (.inr (.inr ⟨s, rfl⟩))))
  | _ => simp [heapKind]
theorem compOper_sl (o : Oper) : (compOper E n ops o).sl = false := by
  unfold compOper
  split
  · cases (!Nat.blt _ n) with
    | true => rfl
    | false => rw [cond_false]; split <;> rfl
  · rw [cond_false]; split <;> rfl
theorem noSl_comp (o : Oper) (s : Bool) : noSl { compOper E n ops o with sl := s } = compOper E n ops o := by
  unfold noSl; rw [← compOper_sl (E := E) (n := n) (ops := ops) o]
open Classical in
/-- one operation of the region, whenever it comes up -/
theorem Inv.step (hE : EOk P E) (hK : KOk P E K) (v : Inv P d ι₀ w₀ D S ι a w) (t : d.Told P ι₀ w₀) (h0 : Rel P E ι₀ (d.st 0) w₀) (ho : ops[j]? = some o) (hj : S j = false) (hb : ∀ i, Bf ops j i → S i = true) (hS : ∀ k, k ≠ j → S' k = S k) (h2 : S' j = true)
    {ro : Option Nat} {Q : Exit → Act → World → Prop} : wpOpIn (Wd ro) 0 P ops Q j (fun a' w' => ∃ ι', Inv P d ι₀ w₀ D S' ι' a' w') a w := by
  have hlt : j < ops.size := (Array.getElem?_eq_some_iff.1 ho).1
  obtain ⟨ic, wc, tc, hrc, hregc, hextc⟩ := t.at' j (by omega)
  obtain ⟨hs, hrg⟩ := d.step j o ho
  obtain ⟨c1, c2, c3, c4⟩ := compOper_inv (noSl_comp o (d.sl j)) hs
  have hreg : RRel (ι.at ic) n (rsub (d.rg j) (operRegsOf (compOper E n ops o))) a.tmps := by
    refine ⟨v.regs.1, fun p u hu => ?_⟩
    obtain ⟨hp, hu⟩ := rsub_get.2 u hu
    obtain ⟨u', k1, k2⟩ := v.regs.2 p u (by rw [v.reg_same ho hj hb hp]; exact hu)
    obtain ⟨u'', _, k4⟩ := hregc.2 p u hu
    exact ⟨u', k1, k2.at k4⟩
  have hguard : wantedV (compOper E n ops o).guard (rsub (d.rg j) (operRegsOf (compOper E n ops o))) = wantedV (compOper E n ops o).guard (d.rg j) := by
    unfold wantedV
    cases hg : (compOper E n ops o).guard with
    | none => rfl
    | some g =>
      obtain ⟨p, c⟩ := g
      simp only
      rw [rsub_get.1 (by unfold operRegsOf; rw [hg]; simp)]
  have hopds : ∀ p ∈ (aopOpds (compOper E n ops o).op).flatMap regsOf, T.getP p (d.rg j) = T.getP p (rsub (d.rg j) (operRegsOf (compOper E n ops o))) := by
    intro p hp
    rw [rsub_get.1]
    unfold operRegsOf
    exact List.mem_append_right _ hp
  rcases hs with ⟨hw, hv, hst⟩ | ⟨hw, hs⟩
  · -- not wanted
    have hwn : Region.wanted o (yielded ops a.tmps) = false := wanted_sound hreg c4 (hguard.trans hw)
    unfold wpOpIn
    rw [ho]
    simp only
    rw [hwn]
    simp only [Bool.false_eq_true, if_false]
    have hsame : ∀ A, d.hS S' ops.size A = d.hS S ops.size A := fun A => by
      have hnw : ¬ d.Wr j A := by
        rintro ⟨o', q1, q2, _⟩
        rw [ho] at q1; cases q1
        have q2' : wantedV (compOper E n ops o).guard (d.rg j) = some true := q2
        rw [show wantedV (compOper E n ops o).guard (d.rg j) = some false from hw] at q2'; cases q2'
      refine hS_same t hS hnw ?_ hlt _ (Nat.le_refl _)
      rw [hst]; omega
    have hget : ∀ A, T.get (mkS (d.st ops.size).size (d.st 0).lim (d.hS S' ops.size)).heap A = T.get (mkS (d.st ops.size).size (d.st 0).lim (d.hS S ops.size)).heap A := fun A => by
      show T.get (mkH _ _) A = T.get (mkH _ _) A
      rw [mkH_get, mkH_get, hsame]
    refine ⟨fun _ _ => trivial, ι, v.closed' hb hj hS h2, ?_, ?_, ?_, ?_, ?_, ?_⟩
    · exact v.rel.same hget rfl rfl
    · exact v.ext.same hget rfl rfl
    · refine rrel_get ?_ (rS_step ho hS hj h2)
      rw [show (compOper E n ops o).dst = o.dst.map path from c1]
      refine v.regs.put ?_ c2
      rw [hv]; exact VRel.tuple #[] #[] .nil
    · intro m hm hmn A h3 h4
      have hne : m ≠ j := by rintro rfl; rw [h2] at hm; cases hm
      exact v.free m (by rw [← hS m hne]; exact hm) hmn A h3 h4
    · intro m om A hm hom hk hww hf
      by_cases e : m = j
      · subst e
        rw [ho] at hom; cases hom
        have q2' : wantedV (compOper E n ops o).guard (d.rg m) = some true := hww
        rw [show wantedV (compOper E n ops o).guard (d.rg m) = some false from hw] at q2'; cases q2'
      · exact v.foot m om A (by rw [← hS m e]; exact hm) hom hk hww hf
    · rw [← v.dfr]; cases o.dst <;> rfl
  · -- wanted
    have hW : d.Want j o := hw
    have hdom : ∀ A, simpleT E (compOper E n ops o).op = true → d.Ft j o A → ∃ L, ic A = some L := by
      intro A hsim hF
      obtain ⟨x, hx, u, hu, hbk⟩ := touch_tops hF
      refine simple_dom (_m := 0) (_t := #[]) hrc (fun p u hu => ?_) (List.all_eq_true.1 hsim x hx) hu hbk
      obtain ⟨q, rfl⟩ := path_surj p
      obtain ⟨u', _, k⟩ := hregc.2 q u hu
      exact ⟨u', k⟩
    have hl0 : (d.st 0).lim = (d.st j).lim := hextc.lim.symm
    have hlj : (d.st j).lim ≤ (d.st j).size := hrc.lim
    by_cases hk4 : heapKind (compOper E n ops o).op = 4
    · -- a call
      have hrd : ∀ A, A < (d.st j).size → d.Rd j A := fun A hA => ⟨o, ho, hW, hA, .inr hk4⟩
      have hrelp : Rel P E (ι.at ic) (d.st j) w := v.sub_rel hrc rfl hlj (fun A hA => hrc.fresh A hA) fun A hA hι => by
        have hlt' : A < (d.st j).size := by
          rcases Nat.lt_or_ge A (d.st j).size with h | h
          · exact h
          · exact absurd (hrc.fresh A h) hA
        exact ⟨rfl, (v.agree t ho hj hb hS h2 (hrd A hlt') hι).1⟩
      have hop : OperK E K { compOper E n ops o with sl := d.sl j } (rsub (d.rg j) (operRegsOf (compOper E n ops o))) (d.st j) (d.vl j) (d.st (j + 1)) := by
        refine .inr ⟨hguard.trans hw, ?_⟩
        simp only at hs ⊢
        cases hsl : d.sl j with
        | false => rw [hsl] at hs; exact opK_regs hopds hs
        | true =>
          rw [hsl] at hs
          obtain ⟨τ', k1, k2⟩ := hs
          exact ⟨τ', opK_regs hopds k1, k2⟩
      refine wpOpIn_mono ?_ (oper_sound hE hK hrelp hreg ho (noSl_comp o (d.sl j)) hop)
      rintro a' w' ⟨v', rfl, κ, g1, g2, g3⟩
      refine v.fin t h0 ho hj hb hS h2 c1 c2 g1 g2 g3 rfl rfl (by rw [hl0]; exact Nat.le_refl _) (fun A _ => ⟨rfl, rfl⟩) (fun A hA => ?_) (fun _ _ _ => rfl) (fun e => ?_) (fun A e => ?_)
      · rcases Nat.lt_or_ge A (d.st j).size with h | h
        · exact absurd (hrd A h) hA
        · exact hrc.fresh A h
      · have e' : heapKind (compOper E n ops o).op = 0 := e
        rw [hk4] at e'; cases e'
      · have e' : heapKind (compOper E n ops o).op = 3 := e
        rw [hk4] at e'; cases e'
    · -- no call
      have hsl : d.sl j = false := by
        cases hsl : d.sl j with
        | false => rfl
        | true => exact absurd (d.seal4 j o ho hsl) hk4
      obtain ⟨hfl, hsim⟩ := (d.flat j o ho).resolve_right hk4
      have hc : isCall (compOper E n ops o).op = false := by
        exact (isCall_kind hk4)
      have hdo : doOp E (fun _ _ _ => .fail) (compOper E n ops o).op (d.rg j) (d.st j) = .ok (d.vl j) (d.st (j + 1)) := by
        simp only at hs
        rw [hsl] at hs
        exact (opK_do hc).1 hs
      have hrd : ∀ A, d.Rd j A ↔ A < (d.st j).size ∧ (heapKind (compOper E n ops o).op = 2 ∨ heapKind (compOper E n ops o).op = 3) ∧ d.Ft j o A := by
        intro A
        constructor
        · rintro ⟨o', q1, _, q3, q4⟩
          rw [ho] at q1; cases q1
          rcases q4 with q4 | q4
          · exact ⟨q3, q4⟩
          · exact absurd q4 hk4
        · rintro ⟨q1, q2⟩
          exact ⟨o, ho, hW, q1, .inl q2⟩
      let σp : St := mkS (d.st j).size (d.st j).lim (fun A => if d.Rd j A then (d.st j).heap.get A else none)
      have hσp : ∀ A, T.get σp.heap A = if A < (d.st j).size then (if d.Rd j A then (d.st j).heap.get A else none) else none := fun A => mkH_get _ _ A
      have hσ1 : ∀ A, d.Rd j A → T.get σp.heap A = (d.st j).heap.get A := fun A hA => by
        rw [hσp, if_pos ((hrd A).1 hA).1, if_pos hA]
      have hσ2 : ∀ A, ¬ d.Rd j A → T.get σp.heap A = none := fun A hA => by
        rw [hσp, if_neg hA, ite_self]
      have hrelp : Rel P E (ι.at ic) σp w := v.sub_rel hrc rfl hlj (fun A hA => by show T.get σp.heap A = none; rw [hσp, if_neg (by omega)]) fun A hA hι => by
        have hR : d.Rd j A := Classical.byContradiction fun g => hA (hσ2 A g)
        exact ⟨hσ1 A hR, (v.agree t ho hj hb hS h2 hR hι).1⟩
      have hft : ∀ A, d.kd o = 3 → d.Want j o → d.Ft j o A → (ι.at ic) A ≠ none := by
        intro A hk3 _ hF
        obtain ⟨x, hx, u, hu, hbk⟩ := touch_tops hF
        have hu' : ev x (rsub (d.rg j) (operRegsOf (compOper E n ops o))) (d.st j) = some u := by
          rw [← hu]
          refine ev_regs fun p hp => ?_
          refine (hopds p ?_).symm
          exact tops_regs hx hp
        have hsx := List.all_eq_true.1 hsim x hx
        have hu'' : ev x (rsub (d.rg j) (operRegsOf (compOper E n ops o))) σp = some u := by
          rw [← hu']; exact ev_heap (simple_reads hsx)
        obtain ⟨L, hL⟩ := simple_dom (_m := 0) (_t := #[]) hrelp (fun p u hu => by
          obtain ⟨q, rfl⟩ := path_surj p
          obtain ⟨u', _, k⟩ := hreg.2 q u hu
          exact ⟨u', k⟩) hsx hu'' hbk
        rw [hL]; simp
      -- the operation, told from there
      have hmain : ∃ σp', doOp E (fun _ _ _ => .fail) (compOper E n ops o).op (d.rg j) σp = .ok (d.vl j) σp' ∧ σp'.size = (d.st (j + 1)).size ∧
          (∀ A, d.Rd j A ∨ (d.st j).size ≤ A → σp'.heap.get A = (d.st (j + 1)).heap.get A) ∧ (d.kd o = 0 → (d.st (j + 1)).size = (d.st j).size) := by
        by_cases hk0 : heapKind (compOper E n ops o).op = 0
        · obtain ⟨e1, e2⟩ := op_pure hfl hk0 hdo
          refine ⟨σp, e2 σp, ?_, fun A hA => ?_, fun _ => by rw [e1]⟩
          · rw [e1]; rfl
          · rw [e1]
            rcases hA with hA | hA
            · have := ((hrd A).1 hA).2.1; omega
            · rw [hσp, if_neg (by omega)]; exact (hrc.fresh A hA).symm
        · have hF : ∀ A, Foot (d.rg j) (d.st j) (compOper E n ops o).op A → A < (d.st j).size → d.Rd j A := by
            intro A hFo hA
            refine (hrd A).2 ⟨hA, ?_, hFo⟩
            rcases kind_cases (compOper E n ops o).op with h | h | h | h | h | ⟨s, h⟩
            · exact absurd h hk0
            · exact absurd hFo (foot_one h)
            · exact .inl h
            · exact .inr h
            · exact absurd h hk4
            · rw [h] at hdo; exact absurd hdo (by intro e; cases e)
          have hag : Ag (Foot (d.rg j) (d.st j) (compOper E n ops o).op) (d.st j) σp := ⟨rfl, rfl, fun A hA => by
            rcases Nat.lt_or_ge A (d.st j).size with h | h
            · exact hσ1 A (hF A (hA.resolve_right (by omega)) h)
            · show T.get σp.heap A = _; rw [hσp, if_neg (by omega)]; exact (hrc.fresh A h).symm⟩
          obtain ⟨σp', k1, k2⟩ := op_local hfl hc hag hdo
          refine ⟨σp', k1, k2.size, fun A hA => ?_, fun e => absurd e hk0⟩
          refine k2.same A ?_
          rcases hA with hA | hA
          · exact .inl ((hrd A).1 hA).2.2
          · exact .inr hA
      obtain ⟨σp', m1, m2, m3, m4⟩ := hmain
      have hop : OperK E K { compOper E n ops o with sl := false } (rsub (d.rg j) (operRegsOf (compOper E n ops o))) σp (d.vl j) σp' := by
        refine .inr ⟨hguard.trans hw, ?_⟩
        simp only
        exact opK_regs hopds ((opK_do hc).2 m1)
      refine wpOpIn_mono ?_ (oper_sound hE hK hrelp hreg ho (noSl_comp o false) hop)
      rintro a' w' ⟨v', rfl, κ, g1, g2, g3⟩
      exact v.fin t h0 ho hj hb hS h2 c1 c2 g1 g2 g3 rfl m2 (by rw [hl0]; exact Nat.le_refl _) (fun A hA => ⟨hσ1 A hA, m3 A (.inl hA)⟩) hσ2 (fun A hA _ => m3 A (.inr hA)) m4 hft
end
end DR
end
end Go.Ab
namespace Go.Ab
open Go

section
variable {P : Program} {E : Env} {K : Kt} {n : Nat} {ops : Array Oper}
/-- how many are open still -/
def cntB (l : Array Bool) : Nat → Nat
  | 0 => 0
  | m + 1 => cntB l m + (if l.getD m true = false then 1 else 0)
theorem cntB_zero {l : Array Bool} : ∀ {m : Nat}, cntB l m = 0 → ∀ k, k < m → l.getD k true = true := by
  intro m
  induction m with
  | zero => intro _ k h; omega
  | succ m ih =>
    intro h k hk
    unfold cntB at h
    by_cases e : k = m
    · subst e
      cases hb : l.getD k true with
      | true => rfl
      | false => rw [hb] at h; simp at h
    · exact ih (by omega) k (by omega)
theorem getD_set_self {l : Array Bool} {i : Nat} (h : i < l.size) (b : Bool) : (l.setIfInBounds i true).getD i b = true := by
  simp [h]
theorem cntB_set {l : Array Bool} {i : Nat} (hi : i < l.size) (hf : l.getD i true = false) : ∀ {m : Nat}, (m ≤ i → cntB (l.setIfInBounds i true) m = cntB l m) ∧ (i < m → cntB (l.setIfInBounds i true) m + 1 = cntB l m) := by
  intro m
  induction m with
  | zero => exact ⟨fun _ => rfl, fun h => (by omega)⟩
  | succ m ih =>
    constructor
    · intro h
      unfold cntB
      rw [ih.1 (by omega), getD_set_ne true (show i ≠ m by omega)]
    · intro h
      unfold cntB
      by_cases e : i = m
      · subst e
        rw [ih.1 (Nat.le_refl _), getD_set_self hi, hf]; simp
      · rw [getD_set_ne true e]
        have := ih.2 (by omega)
        omega
theorem cntB_rep (N : Nat) : ∀ m, m ≤ N → cntB (Array.replicate N false) m = m := by
  intro m
  induction m with
  | zero => intro _; rfl
  | succ m ih =>
    intro h
    unfold cntB
    rw [ih (by omega)]
    simp [show m < N by omega]
namespace DR
variable {d : DR E K n ops} {ι₀ : Inj} {w₀ : World} {D : List Deferred}
/-- none comes up: all have been done -/
theorem all_done (d : DR E K n ops) {listed : Array Bool} (hsz : listed.size = ops.size) (hr : Region.ready .any ops listed = []) : ∀ j, j < ops.size → listed.getD j false = true := by
  intro j
  induction j using Nat.strongRecOn with
  | ind j ih =>
    intro hj
    apply Classical.byContradiction
    intro hn
    have ho : ops[j]? = some ops[j] := by simp [hj]
    have hlt : j < listed.size := by omega
    have hn' : listed.getD j true = false := by
      simp only [Array.getD_eq_getD_getElem?, Array.getElem?_eq_getElem hlt, Option.getD_some] at hn ⊢
      simpa using hn
    have : j ∈ Region.ready .any ops listed := mem_ready.2 ⟨hn', ops[j], ho, fun e he hb => by
      have h1 := edgesOk_get d.edges (o := ops[j]) (k := j) (by simp [hj]) e (by simpa using he) hb
      rw [Nat.zero_add] at h1
      exact ih e.on h1 (by omega)⟩
    rw [hr] at this; cases this
theorem wpAny_inv (hE : EOk P E) (hK : KOk P E K) (t : d.Told P ι₀ w₀) (h0 : Rel P E ι₀ (d.st 0) w₀) {ro : Option Nat} {Q : Exit → Act → World → Prop}
    (hq : ∀ S ι a w, (∀ j, j < ops.size → S j = true) → Inv P d ι₀ w₀ D S ι a w → Q .normal a w) :
    ∀ (fuel : Nat) (listed : Array Bool) (a : Act) (w : World) (ι : Inj), listed.size = ops.size → cntB listed ops.size = fuel → Inv P d ι₀ w₀ D (fun j => listed.getD j false) ι a w →
      wpAnyIn (Wd ro) 0 P .any ops Q fuel listed a w := by
  intro fuel
  induction fuel with
  | zero =>
    intro listed a w ι hsz hc v
    have hall := cntB_zero hc
    have hr : Region.ready .any ops listed = [] := by
      cases hl : Region.ready .any ops listed with
      | nil => rfl
      | cons x xs =>
        obtain ⟨h1, o, ho, _⟩ := mem_ready.1 (show x ∈ Region.ready .any ops listed by rw [hl]; exact List.mem_cons_self ..)
        have := hall x (Array.getElem?_eq_some_iff.1 ho).1
        rw [h1] at this; cases this
    exact ⟨hr, hq _ ι a w (fun j hj => all_done d hsz hr j hj) v⟩
  | succ fuel ih =>
    intro listed a w ι hsz hc v
    refine ⟨fun hr => hq _ ι a w (fun j hj => all_done d hsz hr j hj) v, fun j hj => ?_⟩
    obtain ⟨h1, o, ho, h2⟩ := mem_ready.1 hj
    have hjn : j < ops.size := (Array.getElem?_eq_some_iff.1 ho).1
    have hjl : j < listed.size := by omega
    have hSj : listed.getD j false = false := by
      simp only [Array.getD_eq_getD_getElem?, Array.getElem?_eq_getElem hjl, Option.getD_some] at h1 ⊢
      exact h1
    have hb : ∀ i, Bf ops j i → listed.getD i false = true := by
      intro i hi
      obtain ⟨e, he, hbi, hlt, hor⟩ := hi.edge d.edges ho
      have hle := h2 e (by simpa using he) hbi
      rcases hor with rfl | hor
      · exact hle
      · exact v.closed e.on i hle hor
    refine wpOpIn_mono ?_ (v.step hE hK t h0 ho hSj hb (S' := fun k => (listed.setIfInBounds j true).getD k false) (fun k hk => getD_set_ne false (Ne.symm hk)) (getD_set_self hjl false))
    rintro a' w' ⟨ι', v'⟩
    refine ih _ a' w' ι' (by simpa using hsz) ?_ v'
    have := (cntB_set hjl h1 (m := ops.size)).2 hjn
    omega
end DR
theorem draw_ok (hE : EOk P E) (hK : KOk P E K) : DrawOk P E K := by
  intro ro n id ops r σ r' σ' hrun ι a w Q hrel hreg hq
  refine wpIn_region_any hE.mixed ?_
  obtain ⟨d, rfl, rfl, rfl, rfl⟩ := dr_of hrun rfl
  let w₁ : World := { w with drawn := w.drawn + 1 }
  have hrel1 : Rel P E ι (d.st 0) w₁ := ⟨hrel.dom, hrel.fresh, hrel.lim, hrel.blk, hrel.inj, hrel.glob⟩
  have t := DR.told (d := d) hE hK hrel1 hreg
  have hlo : ∀ (m A : Nat), d.hS (fun _ => false) m A = (d.st 0).heap.get A := by
    intro m
    induction m with
    | zero => intro A; rfl
    | succ m ih => intro A; unfold DR.hS; rw [if_neg (by simp)]; exact ih A
  have hro : ∀ m, d.rS (fun _ => false) m = d.rg 0 := by
    intro m
    induction m with
    | zero => rfl
    | succ m ih => unfold DR.rS; rw [if_neg (by simp)]; exact ih
  have hz : (d.st 0).size ≤ (d.st ops.size).size := t.mono (Nat.zero_le _) (Nat.le_refl _)
  have hget : ∀ A, T.get (mkS (d.st ops.size).size (d.st 0).lim (d.hS (fun _ => false) ops.size)).heap A = (d.st 0).heap.get A := by
    intro A
    show T.get (mkH _ _) A = _
    rw [mkH_get, hlo]
    split
    · rfl
    · exact (hrel.fresh A (by omega)).symm
  have hS0 : (fun j => (Array.replicate ops.size false).getD j false) = fun _ => false := by
    funext j
    by_cases h : j < ops.size <;> simp [h]
  refine DR.wpAny_inv (d := d) (D := a.defers) hE hK t hrel1 ?_ ops.size _ a w₁ ι (by simp) (cntB_rep _ _ (Nat.le_refl _)) ?_
  · intro S ι' a' w' hall v
    refine hq a' w' ⟨ι', ?_, ?_, ?_, v.dfr⟩
    · have := v.regs
      rw [DR.rS_all (Nat.le_refl _) hall] at this; exact this
    · refine v.rel.same (fun A => ?_) rfl ?_
      · show _ = T.get (mkH _ _) A
        rw [mkH_get, DR.hS_upto t (Nat.le_refl _) fun i hi _ => hall i hi]
        split
        · rfl
        · exact t.none (Nat.le_refl _) (by omega)
      · obtain ⟨ic, wc, tc, _, _, g⟩ := t.at' ops.size (Nat.le_refl _)
        exact g.lim
    · have e : Ext ι (d.st 0) w₁ ι' (d.st ops.size) w' := v.ext.same (fun A => by
        show _ = T.get (mkH _ _) A
        rw [mkH_get, DR.hS_upto t (Nat.le_refl _) fun i hi _ => hall i hi]
        split
        · rfl
        · exact t.none (Nat.le_refl _) (by omega)) rfl (by
        obtain ⟨ic, wc, tc, _, _, g⟩ := t.at' ops.size (Nat.le_refl _)
        exact g.lim)
      exact ⟨e.le, e.size, e.lim, e.keep, e.unmapped, e.fresh, e.wr, e.lv, e.frame, e.wsize, e.os, e.tape, e.output⟩
  · rw [hS0]
    refine ⟨fun j i h _ => (by cases h), ?_, ?_, ?_, ?_, fun j o A h => (by cases h), rfl⟩
    · refine ⟨fun A L e => ⟨Nat.lt_of_lt_of_le (hrel.dom A L e).1 hz, (hrel.dom A L e).2⟩, fun A hA => ?_, Nat.le_trans hrel.lim hz, fun A L b e g => ?_, fun A B L M hne e f g k => ?_, hrel.glob⟩
      · rw [hget]; exact hrel.fresh A (Nat.le_trans hz hA)
      · rw [hget] at g; exact hrel.blk A L b e g
      · rw [hget] at g k; exact hrel.inj A B L M hne e f g k
    · refine ⟨Le.refl _, hz, rfl, fun A _ => hget A, fun A _ h => ⟨hget A, h⟩, fun A L h h' => (by rw [h] at h'; cases h'), fun A _ h => (by rw [hget] at h; exact h), fun A _ h => (by rw [hget] at h; exact h), fun _ _ _ => rfl, Nat.le_refl _, rfl, rfl, rfl⟩
    · rw [hro]; exact hreg
    · intro j _ hj A h3 _
      cases e : ι A with
      | none => rfl
      | some L =>
        have := (hrel.dom A L e).1
        have := t.mono (Nat.zero_le j) (by omega)
        omega
/-- the main law, with nothing left open -/
theorem run_told (hE : EOk P E) (hF : FOk P E) {ι : Inj} {σ τ : St} {w : World} {m : Nat} {f : FuncId} {vs : List Value} {v : Value} (he : run E m f vs σ = .ok v τ) {vs' : List Value} (h : Rel P E ι σ w) (hv : VRels ι vs vs') :
    Calls P f vs'.toArray w fun e w' => ∃ v', e = .returned v' ∧ Post P E ι σ w v τ v' w' :=
  run_sound hE hF (fun _ hK => draw_ok hE hK) he h hv
end
end Go.Ab
namespace Go.Ab
open Go

abbrev Call := Value → List Value → St → Out
inductive R where
  | fail
  | normal (es : List Value) (σ : St)
  | exit (id : Nat) (es : List Value) (σ : St)
  | ret (vs : List Value) (σ : St)
abbrev Lay := List Pa
abbrev KR := List Value → St → R
abbrev Res := List (Pa × Option (Option Nat))
/-- code, with what is kept where ways meet -/
inductive BC where
  | skip
  | seq (a b : BC)
  | region (l : List AOper)
  | draw (l : List AOper) (ps : List (Nat × Nat))
  | condA (x : Opd) (a b : BC)
  | condB (x : Opd) (a b : BC)
  | cond (x : Opd) (a b : BC) (out : Lay)
  | block (id : Nat) (c : BC) (out : Lay)
  | loop (c : BC) (inn : Lay)
  | exit (id : Nat)
  | ret
  | range (f : Opd) (ps : List Pa) (a b : ACode)
  | no (c : ACode)
def strip : BC → ACode
  | .skip => .skip
  | .seq a b => .seq (strip a) (strip b)
  | .region l => .region l
  | .draw l ps => .draw l ps
  | .condA x a b | .condB x a b | .cond x a b _ => .cond x (strip a) (strip b)
  | .block id c _ => .block id (strip c)
  | .loop c _ => .loop (strip c)
  | .exit id => .exit id
  | .ret => .ret
  | .range f ps a b => .rangeFunc f ps a b
  | .no c => c

/- ------------------------------------------------ what is run -/
noncomputable def ob (o : Option Value) (k : Value → R) : R := Option.rec (motive := fun _ => R) .fail k o
noncomputable def oo (o : Out) (k : Value → St → R) : R := Out.rec (motive := fun _ => R) .fail k o
noncomputable def bcase (v : Value) (d a b : R) : R :=
  Value.rec (motive_1 := fun _ => R) (motive_2 := fun _ => R) (motive_3 := fun _ => R) (fun t => Bool.rec (motive := fun _ => R) b a t) (fun _ _ => .fail) (fun _ _ => .fail) (fun _ _ _ => .fail) (fun _ => .fail) (fun _ => .fail) (fun _ _ _ => .fail)
    (fun _ => .fail) (fun _ => .fail) (fun _ _ _ _ _ => .fail) .fail (fun _ _ _ => .fail) .fail (fun _ _ => .fail) (fun _ _ => d) (fun _ _ => .fail) .fail (fun _ _ _ _ => .fail) v
noncomputable def u (es : List Value) (k : Value → List Value → R) : R := List.rec (motive := fun _ => R) .fail (fun x t _ => k x t) es
noncomputable def bn (r : R) (k : KR) : R := R.rec (motive := fun _ => R) .fail k (fun id es σ => .exit id es σ) (fun vs σ => .ret vs σ) r
noncomputable def bb (id : Nat) (r : R) (k : KR) : R := R.rec (motive := fun _ => R) .fail k (fun i es σ => Bool.rec (motive := fun _ => R) (.exit i es σ) (k es σ) (Nat.beq i id)) (fun vs σ => .ret vs σ) r
noncomputable def lp (n : Nat) (body : KR → KR) : KR := Nat.rec (motive := fun _ => KR) (fun _ _ => .fail) (fun _ ih => body ih) n
noncomputable def toR : Lay → List Value → Regs
  | p :: lay, v :: es => T.setP p v (toR lay es)
  | _, _ => .e
noncomputable def retR (rs : Res) (es : List Value) (σ : St) : R :=
  Option.rec (motive := fun _ => R) .fail (fun vs => .ret vs σ) (results (toR (rs.map (·.1)) es) σ rs)
/-- what comes back -/
noncomputable def retD (rs : Res) (es : List Value) (σ : St) : R := bif rs.all (fun x => x.2.isNone) then .ret es σ else retR rs es σ
noncomputable def stc (σ : St) (k : T Blk → Nat → Nat → R) : R := St.rec (motive := fun _ => R) (fun h m l => k h m l) σ
noncomputable def finR (r : R) : Out := R.rec (motive := fun _ => Out) .fail (fun _ _ => .fail) (fun _ _ _ => .fail) (fun vs σ => .ok (resV vs) σ) r
noncomputable def inv (E : Env) (self : Call) (x : Value) (name : String) (vs : List Value) (σ : St) : Out :=
  match x with
  | .iface t y => match methodOf E t name with
    | some f => self (fnV f) (y :: vs) σ
    | none => .fail
  | _ => .fail
noncomputable def rng (E : Env) (self : Call) (f : Value) (r : Regs) (ps : List Pa) (a b : ACode) (σ : St) (k : St → R) (kx : Nat → St → R) (kr : St → R) : R :=
  match f with
  | .func (.func g) fs cap => match T.get E.funcs g, self (.func (.func g) fs cap) [.func (.yield σ.size) #[] #[]] (σ.new (.loop r ps a b none)) with
    | some _, .ok _ σ' => match T.get σ'.heap σ.size with
      | some (.loop _ _ _ _ none) => k (σ'.put σ.size .dead)
      | some (.loop _ _ _ _ (some .normal)) => k (σ'.put σ.size .dead)
      | some (.loop _ _ _ _ (some (.exit id))) => kx id (σ'.put σ.size .dead)
      | some (.loop _ _ _ _ (some .ret)) => kr (σ'.put σ.size .dead)
      | _ => .fail
    | _, _ => .fail
  | _ => .fail

/- ------------------------------------------------ what is laid out ahead -/
def lk (p : Pa) : Lay → List Value → Option Value
  | q :: lay, v :: es => bif paEq p q then some v else lk p lay es
  | _, _ => none
def relay (lay : Lay) (es : List Value) : Lay → Option (List Value)
  | [] => some []
  | p :: l => match lk p lay es, relay lay es l with
    | some v, some vs => some (v :: vs)
    | _, _ => none
def kept (o : Option (List Value)) (k : List Value → R) : R := match o with | some l => k l | none => .fail
def opt (o : Option Value) (k : Value → R) : R := match o with | some v => k v | none => .fail
noncomputable def unp : Nat → List Value → (List Value → R) → R
  | 0, _, k => k []
  | n + 1, es, k => u es fun x t => unp n t fun l => k (x :: l)
section
variable (E : Env) (self : Call) (n : Nat) (rs : Res)
noncomputable def evD (lay : Lay) (es : List Value) (σ : St) : Opd → (Value → R) → R
  | .reg p, k => opt (lk p lay es) k
  | .const v, k => k v
  | .u q x, k => evD lay es σ x fun a => ob (sem1 q a σ) k
  | .b q x y, k => evD lay es σ x fun a => evD lay es σ y fun b => ob (sem2 q a b σ) k
  | .pick c x y, k => evD lay es σ c fun c => evD lay es σ x fun a => evD lay es σ y fun b => ob (sPick c a b) k
  | .q q x a b c, k => evD lay es σ x fun x => evD lay es σ a fun a => evD lay es σ b fun b => evD lay es σ c fun c => ob (sem4 q x a b c σ) k
noncomputable def evsD (lay : Lay) (es : List Value) (σ : St) : List Opd → (List Value → R) → R
  | [], k => k []
  | x :: l, k => evD lay es σ x fun v => evsD lay es σ l fun vs => k (v :: vs)
noncomputable def partsD (lay : Lay) (es : List Value) (σ : St) : List (Nat × Nat × Opd) → (List (Nat × Nat × Opd) → R) → R
  | [], k => k []
  | (a, b, x) :: l, k => evD lay es σ x fun v => partsD lay es σ l fun vs => k ((a, b, .const v) :: vs)
noncomputable def opD (lay : Lay) (es : List Value) (σ : St) (o : AOp) (k : Value → St → R) : R :=
  match o with
  | .bad _ => .fail
  | .ex x => evD lay es σ x fun v => k v σ
  | .build z ps => partsD lay es σ ps fun ps => oo (fBuild z ps .e σ) k
  | .mkFunc f a b => evsD lay es σ a fun a => evsD lay es σ b fun b => k (.func (.func f) a.toArray b.toArray) σ
  | .new t c => k (.pointer (some ⟨σ.size, 0, none⟩)) (σ.new (.cells c t true))
  | .box t m x => evD lay es σ x fun a => oo (fBox t m (.const a) .e σ) k
  | .row t m z ps => partsD lay es σ ps fun ps => oo (fRow t m z ps .e σ) k
  | .store m x v => evD lay es σ x fun a => evD lay es σ v fun b => oo (storeV m a b σ) k
  | .mkMap => oo (fMkMap .e σ) k
  | .mkSlice t z x y => evD lay es σ x fun a => evD lay es σ y fun b => oo (fMkSlice t z (.const a) (.const b) .e σ) k
  | .mapSet q x y z => evD lay es σ x fun a => evD lay es σ y fun b => evD lay es σ z fun c => oo (fMapSet q (.const a) (.const b) (.const c) .e σ) k
  | .append t s x y => evD lay es σ x fun a => evD lay es σ y fun b => oo (appendV t s a b σ) k
  | .appendMake t z s x y => evD lay es σ x fun a => evD lay es σ y fun b => oo (fAppendMake t z s (.const a) (.const b) .e σ) k
  | .copy s x y => evD lay es σ x fun a => evD lay es σ y fun b => oo (copyV s a b σ) k
  | .clear z x => evD lay es σ x fun a => oo (fClear z (.const a) .e σ) k
  | .call f l => evsD lay es σ l fun vs => oo (self (fnV f) vs σ) k
  | .callV f l => evD lay es σ f fun fv => evsD lay es σ l fun vs => oo (self fv vs σ) k
  | .invoke x nm l => evD lay es σ x fun xv => evsD lay es σ l fun vs => oo (inv E self xv nm vs σ) k
/-- held apart, or not -/
noncomputable def selD (lay : Lay) (es : List Value) (σ : St) (o : AOper) (k : Value → St → R) : R :=
  match o.sl with
  | false => opD E self lay es σ o.op k
  | true => stc σ fun h m l => opD E self lay es ⟨h, m, m⟩ o.op fun v τ => k v (τ.relim l)
noncomputable def operD (lay : Lay) (es : List Value) (σ : St) (o : AOper) (k : Value → St → R) : R :=
  match o.guard with
  | none => selD E self lay es σ o k
  | some (p, true) => opt (lk p lay es) fun g => bn (bcase g (.normal [unitV] σ) (selD E self lay es σ o fun v τ => .normal [v] τ) (.normal [unitV] σ)) fun l τ => u l fun v _ => k v τ
  | some (p, false) => opt (lk p lay es) fun g => bn (bcase g (.normal [unitV] σ) (.normal [unitV] σ) (selD E self lay es σ o fun v τ => .normal [v] τ)) fun l τ => u l fun v _ => k v τ
def pushL (o : AOper) (lay : Lay) : Lay := match o.dst with | some d => d :: lay | none => lay
def pushV (o : AOper) (v : Value) (es : List Value) : List Value := match o.dst with | some _ => v :: es | none => es
noncomputable def regD : List AOper → Lay → KR → KR
  | [], _, k, es, σ => k es σ
  | o :: l, lay, k, es, σ => operD E self lay es σ o fun v τ => regD l (pushL o lay) k (pushV o v es) τ
noncomputable def drawD (ps : List (Nat × Nat)) : List AOper → List (Option Nat × Option Nat) → Lay → KR → KR
  | [], ts, _, k, es, σ => Bool.rec (motive := fun _ => R) .fail (k es σ) (ps.all (pairOk ts))
  | o :: l, ts, lay, k, es, σ => bif (operRegsOf o).all (fun p => (lk p lay es).isSome) then operD E self lay es σ o fun v τ => drawD ps l (ts ++ [touches (toR lay es) σ o]) (pushL o lay) k (pushV o v es) τ else .fail
def outL : BC → Lay → Lay
  | .skip, lay => lay
  | .seq a b, lay => outL b (outL a lay)
  | .region l, lay | .draw l _, lay => l.foldl (fun lay o => pushL o lay) lay
  | .condA _ a _, lay => outL a lay
  | .condB _ _ b, lay => outL b lay
  | .cond _ _ _ out, _ => out
  | .block _ _ out, _ => out
  | .range .., lay => lay
  | _, lay => lay
noncomputable def den : BC → (Nat → Lay) → Lay → KR → KR
  | .skip, _, _, k, es, σ => k es σ
  | .seq a b, xl, lay, k, es, σ => den a xl lay (fun es' τ => den b xl (outL a lay) k es' τ) es σ
  | .region l, _, lay, k, es, σ => regD E self l lay k es σ
  | .draw l ps, _, lay, k, es, σ => drawD E self ps l [] lay k es σ
  | .condA x a b, xl, lay, k, es, σ => evD lay es σ x fun v => bcase v .fail (den a xl lay k es σ) (den b xl lay (fun _ _ => .fail) es σ)
  | .condB x a b, xl, lay, k, es, σ => evD lay es σ x fun v => bcase v .fail (den a xl lay (fun _ _ => .fail) es σ) (den b xl lay k es σ)
  | .cond x a b out, xl, lay, k, es, σ => bn (evD lay es σ x fun v => bcase v .fail
      (den a xl lay (fun es' τ => kept (relay (outL a lay) es' out) fun l => .normal l τ) es σ)
      (den b xl lay (fun es' τ => kept (relay (outL b lay) es' out) fun l => .normal l τ) es σ)) fun l τ => unp out.length l fun es' => k es' τ
  | .block id c out, xl, lay, k, es, σ => bb id (den c (fun i => bif Nat.beq i id then out else xl i) lay (fun es' τ => kept (relay (outL c lay) es' out) fun l => .normal l τ) es σ) fun l τ => unp out.length l fun es' => k es' τ
  | .loop c inn, xl, lay, _, es, σ => kept (relay lay es inn) fun l => lp n (fun ih l τ => unp inn.length l fun es' => den c xl inn (fun es'' τ' => kept (relay (outL c inn) es'' inn) fun l => ih l τ') es' τ) l σ
  | .exit id, xl, lay, _, es, σ => kept (relay lay es (xl id)) fun l => .exit id l σ
  | .ret, _, lay, _, es, σ => kept (relay lay es (rs.map (·.1))) fun l => retD rs l σ
  | .range f ps a b, xl, lay, k, es, σ => evD lay es σ f fun f => rng E self f (toR lay es) ps a b σ (fun τ => k es τ) (fun id τ => kept (relay lay es (xl id)) fun l => .exit id l τ) (fun τ => kept (relay lay es (rs.map (·.1))) fun l => retD rs l τ)
  | .no _, _, _, _, _, _ => .fail
end
/-- a function -/
noncomputable def denF (E : Env) (c : BC) (ps : List Pa) (rs : Res) (self : Call) (n : Nat) (args : List Value) (σ : St) : Out :=
  finR (Bool.rec (motive := fun _ => R) .fail (unp ps.length args fun es => den E self n rs c (fun _ => []) ps (fun es' τ => kept (relay (outL c ps) es' (rs.map (·.1))) fun l => retD rs l τ) es σ) (Nat.beq args.length ps.length))
abbrev SFun := Call → Nat → List Value → St → Out
noncomputable def callStep (E : Env) (F : T SFun) (n : Nat) (self : Call) (f : Value) (args : List Value) (σ : St) : Out :=
  match f with
  | .func (.func g) first cap => match T.get F g with
    | some s => s self n (first.toList ++ (args ++ cap.toList)) σ
    | none => .fail
  | .func (.yield l) _ _ => yield (exec E n) l args σ
  | _ => .fail
noncomputable def callS (E : Env) (F : T SFun) (n : Nat) : Call :=
  Nat.rec (motive := fun _ => Call) (fun _ _ _ => .fail) (fun n self => callStep E F n self) n
end Go.Ab
namespace Go.Ab
open Go

section
variable {E : Env} {self : Call} {n : Nat} {rs : Res}
def KC (self : Call) : Kt := fun f vs σ v τ => self f vs σ = .ok v τ
def EnvOk (lay : Lay) (es : List Value) (r : Regs) : Prop := ∀ p v, lk p lay es = some v → T.getP p r = some v
theorem ob_inv {o : Option Value} {k : Value → R} {res : R} (h : ob o k = res) (hn : res ≠ .fail) : ∃ v, o = some v ∧ k v = res := by
  cases o with
  | none => exact absurd h.symm hn
  | some v => exact ⟨v, rfl, h⟩
theorem oo_inv {o : Out} {k : Value → St → R} {res : R} (h : oo o k = res) (hn : res ≠ .fail) : ∃ v τ, o = .ok v τ ∧ k v τ = res := by
  cases o with
  | fail => exact absurd h.symm hn
  | ok v τ => exact ⟨v, τ, rfl, h⟩
theorem opt_inv {o : Option Value} {k : Value → R} {res : R} (h : opt o k = res) (hn : res ≠ .fail) : ∃ v, o = some v ∧ k v = res := by
  cases o with
  | none => exact absurd h.symm hn
  | some v => exact ⟨v, rfl, h⟩
theorem kept_inv {o : Option (List Value)} {k : List Value → R} {res : R} (h : kept o k = res) (hn : res ≠ .fail) : ∃ v, o = some v ∧ k v = res := by
  cases o with
  | none => exact absurd h.symm hn
  | some v => exact ⟨v, rfl, h⟩
theorem uu_inv {es : List Value} {k : Value → List Value → R} {res : R} (h : u es k = res) (hn : res ≠ .fail) : ∃ x t, es = x :: t ∧ k x t = res := by
  cases es with
  | nil => exact absurd h.symm hn
  | cons x t => exact ⟨x, t, rfl, h⟩
theorem bcase_inv {v : Value} {d a b res : R} (h : bcase v d a b = res) (hn : res ≠ .fail) : (v = .bool true ∧ a = res) ∨ (v = .bool false ∧ b = res) ∨ (∃ vs, v = .tuple vs ∧ d = res) := by
  cases v with
  | bool t => cases t with
    | true => exact .inl ⟨rfl, h⟩
    | false => exact .inr (.inl ⟨rfl, h⟩)
  | tuple vs => exact .inr (.inr ⟨vs, rfl, h⟩)
  | _ => exact absurd h.symm hn
theorem unp_inv {res : R} (hn : res ≠ .fail) : ∀ {m : Nat} {es : List Value} {k : List Value → R}, unp m es k = res → ∃ l t, es = l ++ t ∧ l.length = m ∧ k l = res := by
  intro m
  induction m with
  | zero => intro es k h; exact ⟨[], es, rfl, rfl, h⟩
  | succ m ih =>
    intro es k h
    obtain ⟨x, t, rfl, h⟩ := uu_inv h hn
    obtain ⟨l, t', rfl, h2, h3⟩ := ih h
    exact ⟨x :: l, t', rfl, by simp [h2], h3⟩
theorem lk_append {p : Pa} {v : Value} : ∀ {lay : Lay} {l t : List Value}, lk p lay l = some v → lk p lay (l ++ t) = some v := by
  intro lay
  induction lay with
  | nil => intro l t h; cases l <;> cases h
  | cons q lay ih =>
    intro l t h
    cases l with
    | nil => cases h
    | cons x l =>
      show (bif paEq p q then some x else lk p lay (l ++ t)) = some v
      have h' : (bif paEq p q then some x else lk p lay l) = some v := h
      cases hq : paEq p q with
      | true => rw [hq] at h'; exact h'
      | false => rw [hq] at h'; rw [cond_false] at h' ⊢; exact ih h'
theorem EnvOk.pre {lay : Lay} {l t : List Value} {r : Regs} (h : EnvOk lay (l ++ t) r) : EnvOk lay l r := fun p v e => h p v (lk_append e)
theorem relay_env {lay : Lay} {es : List Value} {r : Regs} (h : EnvOk lay es r) : ∀ {out : Lay} {l : List Value}, relay lay es out = some l → EnvOk out l r := by
  intro out
  induction out with
  | nil => intro l e p v g; cases l <;> cases g
  | cons q out ih =>
    intro l e
    unfold relay at e
    split at e
    · rename_i v vs h1 h2
      cases e
      intro p w g
      have g' : (bif paEq p q then some v else lk p out vs) = some w := g
      cases hq : paEq p q with
      | true =>
        rw [hq] at g'; cases g'
        rw [(paEq_iff p q).1 hq]; exact h q _ h1
      | false => rw [hq, cond_false] at g'; exact ih h2 p w g'
    · cases e
theorem toR_get (p : Pa) : ∀ (lay : Lay) (es : List Value), T.getP p (toR lay es) = lk p lay es := by
  intro lay
  induction lay with
  | nil => intro es; unfold toR; rw [T.getP_e]; cases es <;> rfl
  | cons q lay ih =>
    intro es
    cases es with
    | nil => unfold toR; rw [T.getP_e]; rfl
    | cons v es =>
      unfold toR
      rw [T.getP_setP, ih]
      show _ = (bif paEq p q then some v else lk p lay es)
      by_cases h : p = q
      · rw [if_pos h, (paEq_iff p q).2 h]; rfl
      · rw [if_neg h]
        cases hq : paEq p q with
        | true => exact absurd ((paEq_iff p q).1 hq) h
        | false => rfl
theorem toR_env (lay : Lay) (es : List Value) : EnvOk lay es (toR lay es) := fun p _v h => (toR_get p lay es).trans h
theorem EnvOk.push {lay : Lay} {es : List Value} {r : Regs} (h : EnvOk lay es r) (o : AOper) (v : Value) : EnvOk (pushL o lay) (pushV o v es) (putR r o.dst v) := by
  unfold pushL pushV
  cases o.dst with
  | none => exact h
  | some d =>
    intro p w g
    have g' : (bif paEq p d then some v else lk p lay es) = some w := g
    rw [getP_putR]
    cases hq : paEq p d with
    | true => rw [hq] at g'; cases g'; rw [(paEq_iff p d).1 hq, if_pos rfl]
    | false =>
      rw [hq, cond_false] at g'
      rw [if_neg (by intro e; cases e; rw [(paEq_iff _ _).2 rfl] at hq; cases hq)]
      exact h p w g'
section
variable {lay : Lay} {es : List Value} {r : Regs} {σ : St} {res : R} (he : EnvOk lay es r) (hn : res ≠ .fail)
  include he hn
theorem evD_inv : ∀ {x : Opd} {k : Value → R}, evD lay es σ x k = res → ∃ v, ev x r σ = some v ∧ k v = res := by
  intro x
  induction x with
  | reg p =>
    intro k h
    obtain ⟨v, h1, h2⟩ := opt_inv h hn
    exact ⟨v, he p v h1, h2⟩
  | const v => intro k h; exact ⟨v, rfl, h⟩
  | u q x ih =>
    intro k h
    obtain ⟨a, h1, h2⟩ := ih h
    obtain ⟨v, h3, h4⟩ := ob_inv h2 hn
    exact ⟨v, by rw [ev_u, h1]; exact h3, h4⟩
  | b q x y ix iy =>
    intro k h
    obtain ⟨a, h1, h2⟩ := ix h
    obtain ⟨b, h3, h4⟩ := iy h2
    obtain ⟨v, h5, h6⟩ := ob_inv h4 hn
    exact ⟨v, by rw [ev_b, h1, h3]; exact h5, h6⟩
  | pick c x y ic ix iy =>
    intro k h
    obtain ⟨c', h1, h2⟩ := ic h
    obtain ⟨a, h3, h4⟩ := ix h2
    obtain ⟨b, h5, h6⟩ := iy h4
    obtain ⟨v, h7, h8⟩ := ob_inv h6 hn
    exact ⟨v, by rw [ev_pick, h1, h3, h5]; exact h7, h8⟩
  | q q x a b c ix ia ib ic =>
    intro k h
    obtain ⟨x', h1, h2⟩ := ix h
    obtain ⟨a', h3, h4⟩ := ia h2
    obtain ⟨b', h5, h6⟩ := ib h4
    obtain ⟨c', h7, h8⟩ := ic h6
    obtain ⟨v, h9, h10⟩ := ob_inv h8 hn
    exact ⟨v, by rw [ev_q, h1, h3, h5, h7]; exact h9, h10⟩
theorem evsD_inv : ∀ {l : List Opd} {k : List Value → R}, evsD lay es σ l k = res → ∃ vs, evs l r σ = some vs ∧ k vs = res := by
  intro l
  induction l with
  | nil => intro k h; exact ⟨[], rfl, h⟩
  | cons x l ih =>
    intro k h
    obtain ⟨v, h1, h2⟩ := evD_inv he hn h
    obtain ⟨vs, h3, h4⟩ := ih h2
    exact ⟨v :: vs, by rw [evs_cons, h1, h3]; rfl, h4⟩
theorem partsD_inv : ∀ {l : List (Nat × Nat × Opd)} {k : List (Nat × Nat × Opd) → R}, partsD lay es σ l k = res → ∃ l', k l' = res ∧ ∀ cells, fill r σ cells l = fill .e σ cells l' := by
  intro l
  induction l with
  | nil => intro k h; exact ⟨[], h, fun _ => rfl⟩
  | cons q l ih =>
    intro k h
    obtain ⟨a, b, x⟩ := q
    obtain ⟨v, h1, h2⟩ := evD_inv he hn h
    obtain ⟨l', h3, h4⟩ := ih h2
    refine ⟨(a, b, .const v) :: l', h3, fun cells => ?_⟩
    unfold fill
    rw [h1, ev_const]
    simp only [h4]
theorem opD_inv {o : AOp} {k : Value → St → R} (h : opD E self lay es σ o k = res) : ∃ v τ, OpK E (KC self) o r σ v τ ∧ k v τ = res := by
  cases o with
  | bad s => exact absurd h.symm hn
  | ex x =>
    obtain ⟨v, h1, h2⟩ := evD_inv he hn h
    exact ⟨v, σ, by show fEx x r σ = _; unfold fEx out; rw [h1], h2⟩
  | build z ps =>
    obtain ⟨l', h1, h2⟩ := partsD_inv he hn h
    obtain ⟨v, τ, h3, h4⟩ := oo_inv h1 hn
    exact ⟨v, τ, by show fBuild z ps r σ = _; rw [← h3]; unfold fBuild; rw [h2], h4⟩
  | mkFunc f a b =>
    obtain ⟨a', h1, h2⟩ := evsD_inv he hn h
    obtain ⟨b', h3, h4⟩ := evsD_inv he hn h2
    exact ⟨_, σ, by show fMkFunc f a b r σ = _; unfold fMkFunc; rw [h1, h3], h4⟩
  | new t c => exact ⟨_, _, rfl, h⟩
  | box t m x =>
    obtain ⟨a, h1, h2⟩ := evD_inv he hn h
    obtain ⟨v, τ, h3, h4⟩ := oo_inv h2 hn
    exact ⟨v, τ, by show fBox t m x r σ = _; rw [← h3]; unfold fBox; rw [h1, ev_const], h4⟩
  | row t m z ps =>
    obtain ⟨l', h1, h2⟩ := partsD_inv he hn h
    obtain ⟨v, τ, h3, h4⟩ := oo_inv h1 hn
    exact ⟨v, τ, by show fRow t m z ps r σ = _; rw [← h3]; unfold fRow; rw [h2], h4⟩
  | store m x y =>
    obtain ⟨a, h1, h2⟩ := evD_inv he hn h
    obtain ⟨b, h3, h4⟩ := evD_inv he hn h2
    obtain ⟨v, τ, h5, h6⟩ := oo_inv h4 hn
    exact ⟨v, τ, by show fStore m x y r σ = _; unfold fStore; rw [h1, h3]; exact h5, h6⟩
  | mkMap =>
    have h' : oo (fMkMap .e σ) k = res := h
    obtain ⟨v, τ, h3, h4⟩ := oo_inv h' hn
    exact ⟨v, τ, h3, h4⟩
  | mkSlice t z x y =>
    obtain ⟨a, h1, h2⟩ := evD_inv he hn h
    obtain ⟨b, h3, h4⟩ := evD_inv he hn h2
    obtain ⟨v, τ, h5, h6⟩ := oo_inv h4 hn
    exact ⟨v, τ, by show fMkSlice t z x y r σ = _; rw [← h5]; unfold fMkSlice; rw [h1, h3, ev_const, ev_const], h6⟩
  | mapSet q x y z =>
    obtain ⟨a, h1, h2⟩ := evD_inv he hn h
    obtain ⟨b, h3, h4⟩ := evD_inv he hn h2
    obtain ⟨c, h7, h8⟩ := evD_inv he hn h4
    obtain ⟨v, τ, h5, h6⟩ := oo_inv h8 hn
    exact ⟨v, τ, by show fMapSet q x y z r σ = _; rw [← h5]; unfold fMapSet; rw [h1, h3, h7, ev_const, ev_const, ev_const], h6⟩
  | append t s x y =>
    obtain ⟨a, h1, h2⟩ := evD_inv he hn h
    obtain ⟨b, h3, h4⟩ := evD_inv he hn h2
    obtain ⟨v, τ, h5, h6⟩ := oo_inv h4 hn
    exact ⟨v, τ, by show fAppend t s x y r σ = _; unfold fAppend; rw [h1, h3]; exact h5, h6⟩
  | appendMake t z s x y =>
    obtain ⟨a, h1, h2⟩ := evD_inv he hn h
    obtain ⟨b, h3, h4⟩ := evD_inv he hn h2
    obtain ⟨v, τ, h5, h6⟩ := oo_inv h4 hn
    exact ⟨v, τ, by show fAppendMake t z s x y r σ = _; rw [← h5]; unfold fAppendMake; rw [h1, h3, ev_const, ev_const], h6⟩
  | copy s x y =>
    obtain ⟨a, h1, h2⟩ := evD_inv he hn h
    obtain ⟨b, h3, h4⟩ := evD_inv he hn h2
    obtain ⟨v, τ, h5, h6⟩ := oo_inv h4 hn
    exact ⟨v, τ, by show fCopy s x y r σ = _; unfold fCopy; rw [h1, h3]; exact h5, h6⟩
  | clear z x =>
    obtain ⟨a, h1, h2⟩ := evD_inv he hn h
    obtain ⟨v, τ, h5, h6⟩ := oo_inv h2 hn
    exact ⟨v, τ, by show fClear z x r σ = _; rw [← h5]; unfold fClear; rw [h1, ev_const], h6⟩
  | call f l =>
    obtain ⟨vs, h1, h2⟩ := evsD_inv he hn h
    obtain ⟨v, τ, h5, h6⟩ := oo_inv h2 hn
    exact ⟨v, τ, ⟨vs, h1, h5⟩, h6⟩
  | callV f l =>
    obtain ⟨fv, h0, h⟩ := evD_inv he hn h
    obtain ⟨vs, h1, h2⟩ := evsD_inv he hn h
    obtain ⟨v, τ, h5, h6⟩ := oo_inv h2 hn
    exact ⟨v, τ, ⟨fv, vs, h0, h1, h5⟩, h6⟩
  | invoke x nm l =>
    obtain ⟨xv, h0, h⟩ := evD_inv he hn h
    obtain ⟨vs, h1, h2⟩ := evsD_inv he hn h
    obtain ⟨v, τ, h5, h6⟩ := oo_inv h2 hn
    unfold inv at h5
    split at h5
    · rename_i t y
      split at h5
      · rename_i f hf
        exact ⟨v, τ, ⟨t, y, vs, f, h0, h1, hf, h5⟩, h6⟩
      · cases h5
    · cases h5
theorem selD_inv {o : AOper} {k : Value → St → R} (h : selD E self lay es σ o k = res) : ∃ v τ, (match o.sl with
    | false => OpK E (KC self) o.op r σ v τ
    | true => ∃ τ', OpK E (KC self) o.op r (σ.relim σ.size) v τ' ∧ τ = τ'.relim σ.lim) ∧ k v τ = res := by
  unfold selD at h
  cases hs : o.sl with
  | false =>
    rw [hs] at h
    obtain ⟨v, τ, h1, h2⟩ := opD_inv he hn h
    exact ⟨v, τ, h1, h2⟩
  | true =>
    rw [hs] at h
    obtain ⟨hh, m, l⟩ := σ
    have h' : opD E self lay es ⟨hh, m, m⟩ o.op (fun v τ => k v (τ.relim l)) = res := h
    obtain ⟨v, τ, h1, h2⟩ := opD_inv he hn h'
    exact ⟨v, τ.relim l, ⟨τ, h1, rfl⟩, h2⟩
theorem operD_inv {o : AOper} {k : Value → St → R} (h : operD E self lay es σ o k = res) : ∃ v τ, OperK E (KC self) o r σ v τ ∧ k v τ = res := by
  unfold operD at h
  have one {v : Value} {τ : St} {b : R} {l : List Value} {τ' : St} : (R.normal [v] τ = R.normal l τ') → l = [v] ∧ τ' = τ := by intro e; cases e; exact ⟨rfl, rfl⟩
  have bn_inv {a : R} {k : KR} (h : bn a k = res) (hx : ∀ id es σ, a ≠ .exit id es σ) (hr : ∀ vs σ, a ≠ .ret vs σ) : ∃ l τ, a = .normal l τ ∧ k l τ = res := by
    cases a with
    | fail => exact absurd h.symm hn
    | normal l τ => exact ⟨l, τ, rfl, h⟩
    | exit id es σ => exact absurd rfl (hx _ _ _)
    | ret vs σ => exact absurd rfl (hr _ _)
  have main (p : Pa) (b : Bool) (hg : o.guard = some (p, b)) (h : opt (lk p lay es) (fun g => bn (bcase g (.normal [unitV] σ) (if b then selD E self lay es σ o fun v τ => .normal [v] τ else .normal [unitV] σ) (if b then .normal [unitV] σ else selD E self lay es σ o fun v τ => .normal [v] τ)) fun l τ => u l fun v _ => k v τ) = res) :
      ∃ v τ, OperK E (KC self) o r σ v τ ∧ k v τ = res := by
    obtain ⟨g, h1, h2⟩ := opt_inv h hn
    have hgp := he p g h1
    generalize ha : bcase g _ _ _ = a at h2
    have hna : a ≠ .fail := by rintro rfl; exact hn h2.symm
    have no : (wantedV o.guard r = some false) → a = .normal [unitV] σ → ∃ v τ, OperK E (KC self) o r σ v τ ∧ k v τ = res := by
      intro hw hu
      subst hu
      exact ⟨unitV, σ, .inl ⟨hw, rfl, rfl⟩, h2⟩
    have yes : (wantedV o.guard r = some true) → selD E self lay es σ o (fun v τ => .normal [v] τ) = a → ∃ v τ, OperK E (KC self) o r σ v τ ∧ k v τ = res := by
      intro hw hu
      obtain ⟨v, τ, h3, h4⟩ := selD_inv (res := a) he hna hu
      subst h4
      exact ⟨v, τ, .inr ⟨hw, h3⟩, h2⟩
    rcases bcase_inv ha hna with ⟨rfl, h3⟩ | ⟨rfl, h3⟩ | ⟨vs, rfl, h3⟩
    · cases b with
      | true => exact yes (by unfold wantedV; rw [hg]; simp only [hgp]; rfl) h3
      | false => exact no (by unfold wantedV; rw [hg]; simp only [hgp]; rfl) h3.symm
    · cases b with
      | true => exact no (by unfold wantedV; rw [hg]; simp only [hgp]; rfl) h3.symm
      | false => exact yes (by unfold wantedV; rw [hg]; simp only [hgp]; rfl) h3
    · exact no (by unfold wantedV; rw [hg]; simp only [hgp]) h3.symm
  split at h
  · rename_i hg
    obtain ⟨v, τ, h1, h2⟩ := selD_inv he hn h
    exact ⟨v, τ, .inr ⟨by rw [hg]; rfl, h1⟩, h2⟩
  · rename_i p hg; exact main p true hg h
  · rename_i p hg; exact main p false hg h
end
end
end Go.Ab
namespace Go.Ab
open Go

section
variable {E : Env} {self : Call} {n : Nat} {rs : Res}
theorem regD_inv {res : R} (hn : res ≠ .fail) : ∀ {l : List AOper} {lay : Lay} {k : KR} {es : List Value} {σ : St} {r : Regs}, EnvOk lay es r → regD E self l lay k es σ = res →
    ∃ es' τ r', OpsK E (KC self) l r σ r' τ ∧ EnvOk (l.foldl (fun lay o => pushL o lay) lay) es' r' ∧ k es' τ = res := by
  intro l
  induction l with
  | nil => intro lay k es σ r he h; exact ⟨es, σ, r, .nil r σ, he, h⟩
  | cons o l ih =>
    intro lay k es σ r he h
    obtain ⟨v, τ, h1, h2⟩ := operD_inv he hn h
    obtain ⟨es', τ', r', h3, h4, h5⟩ := ih (he.push o v) h2
    exact ⟨es', τ', r', .cons o l r σ v τ r' τ' h1 h3, h4, h5⟩
theorem touches_regs {o : AOper} {r r' : Regs} {σ : St} (h : ∀ p ∈ operRegsOf o, T.getP p r = T.getP p r') : touches r σ o = touches r' σ o := by
  have hx : ∀ x ∈ tops o.op, ev x r σ = ev x r' σ := fun x hx => ev_regs fun p hp => h p (List.mem_append_right _ (DR.tops_regs hx hp))
  have h1 : touch r σ o.op = touch r' σ o.op := by
    cases ho : o.op with
    | ex x =>
      rw [ho] at hx
      cases x with
      | u k x => exact congrArg blkOf (hx x (by simp [tops]))
      | b k x y => exact congrArg blkOf (hx x (by simp [tops]))
      | q k x a b c => exact congrArg blkOf (hx x (by simp [tops]))
      | _ => rfl
    | store m x y => rw [ho] at hx; exact congrArg blkOf (hx x (by simp [tops]))
    | clear z x => rw [ho] at hx; exact congrArg blkOf (hx x (by simp [tops]))
    | appendMake t z s x y => rw [ho] at hx; exact congrArg blkOf (hx x (by simp [tops]))
    | mapSet q x y z => rw [ho] at hx; exact congrArg blkOf (hx x (by simp [tops]))
    | copy s x y => rw [ho] at hx; exact congrArg blkOf (hx x (by simp [tops]))
    | append t s x y => rw [ho] at hx; exact congrArg blkOf (hx x (by simp [tops]))
    | _ => rfl
  have h2 : touch2 r σ o.op = touch2 r' σ o.op := by
    cases ho : o.op with
    | copy s x y => rw [ho] at hx; exact congrArg blkOf (hx y (by simp [tops]))
    | append t s x y => rw [ho] at hx; exact congrArg blkOf (hx y (by simp [tops]))
    | _ => rfl
  unfold touches
  have h3 : guarded o.guard (fun _ _ => .fail) r σ = guarded o.guard (fun _ _ => .fail) r' σ := by
    unfold guarded
    cases hg : o.guard with
    | none => rfl
    | some g =>
      obtain ⟨p, b⟩ := g
      have hp : T.getP p r = T.getP p r' := h p (by unfold operRegsOf; rw [hg]; simp)
      simp only
      unfold guardT
      rw [hp]
  rw [h3, h1, h2]
theorem drawD_inv {res : R} (hn : res ≠ .fail) {ps : List (Nat × Nat)} : ∀ {l : List AOper} {ts : List (Option Nat × Option Nat)} {lay : Lay} {k : KR} {es : List Value} {σ : St} {r : Regs}, EnvOk lay es r → drawD E self ps l ts lay k es σ = res →
    ∃ es' τ r', DrawsK E (KC self) ps l ts r σ r' τ ∧ EnvOk (l.foldl (fun lay o => pushL o lay) lay) es' r' ∧ k es' τ = res := by
  intro l
  induction l with
  | nil =>
    intro ts lay k es σ r he h
    unfold drawD at h
    cases hp : ps.all (pairOk ts) with
    | false => rw [hp] at h; exact absurd h.symm hn
    | true => rw [hp] at h; exact ⟨es, σ, r, .nil ts r σ hp, he, h⟩
  | cons o l ih =>
    intro ts lay k es σ r he h
    unfold drawD at h
    cases ha : (operRegsOf o).all (fun p => (lk p lay es).isSome) with
    | false => rw [ha] at h; exact absurd h.symm hn
    | true =>
      rw [ha, cond_true] at h
      have ht : touches (toR lay es) σ o = touches r σ o := touches_regs fun p hp => by
        have := List.all_eq_true.1 ha p hp
        obtain ⟨v, hv⟩ := Option.isSome_iff_exists.1 this
        rw [toR_get, hv]; exact (he p v hv).symm
      rw [ht] at h
      obtain ⟨v, τ, h1, h2⟩ := operD_inv he hn h
      obtain ⟨es', τ', r', h3, h4, h5⟩ := ih (he.push o v) h2
      exact ⟨es', τ', r', .cons o l ts r σ v τ r' τ' h1 h3, h4, h5⟩
theorem results_mono {r r' : Regs} {σ : St} (h : ∀ p v, T.getP p r = some v → T.getP p r' = some v) : ∀ {rs : Res} {vs : List Value}, results r σ rs = some vs → results r' σ rs = some vs := by
  intro rs
  induction rs with
  | nil => intro vs h; exact h
  | cons q rs ih =>
    intro vs hv
    obtain ⟨p, t⟩ := q
    cases t with
    | none =>
      unfold results at hv ⊢
      split at hv
      · rename_i v l h1 h2
        rw [h p v h1, ih h2]; exact hv
      · cases hv
    | some t =>
      unfold results at hv ⊢
      split at hv
      · rename_i b off l h1 h2
        rw [h p _ h1, ih h2]; exact hv
      · cases hv
theorem retR_inv {res : R} (hn : res ≠ .fail) {l : List Value} {σ : St} {r : Regs} (he : EnvOk (rs.map (·.1)) l r) (h : retR rs l σ = res) : ∃ vs, res = .ret vs σ ∧ results r σ rs = some vs := by
  unfold retR at h
  cases hv : results (toR (rs.map (·.1)) l) σ rs with
  | none => rw [hv] at h; exact absurd h.symm hn
  | some vs =>
    rw [hv] at h
    refine ⟨vs, h.symm, results_mono (fun p v g => ?_) hv⟩
    rw [toR_get] at g; exact he p v g
theorem results_relay {lay : Lay} {es : List Value} {r : Regs} {σ : St} (he : EnvOk lay es r) : ∀ {rs : Res} {l : List Value}, rs.all (fun x => x.2.isNone) = true → relay lay es (rs.map (·.1)) = some l → results r σ rs = some l := by
  intro rs
  induction rs with
  | nil => intro l _ h; cases h; rfl
  | cons q rs ih =>
    intro l ha h
    obtain ⟨p, t⟩ := q
    simp only [List.all_cons, Bool.and_eq_true] at ha
    cases t with
    | some t => cases ha.1
    | none =>
      simp only [List.map_cons] at h
      unfold relay at h
      split at h
      · rename_i v vs h1 h2
        cases h
        unfold results
        rw [he p v h1, ih ha.2 h2]
      · cases h
theorem retD_inv {res : R} (hn : res ≠ .fail) {lay : Lay} {es l : List Value} {σ : St} {r : Regs} (he : EnvOk lay es r) (h1 : relay lay es (rs.map (·.1)) = some l) (h : retD rs l σ = res) : ∃ vs, res = .ret vs σ ∧ results r σ rs = some vs := by
  unfold retD at h
  cases ha : rs.all (fun x => x.2.isNone) with
  | true => rw [ha, cond_true] at h; exact ⟨l, h.symm, results_relay he ha h1⟩
  | false => rw [ha, cond_false] at h; exact retR_inv hn (relay_env he h1) h
/-- how a piece of code ends -/
def DRes (E : Env) (self : Call) (rs : Res) (c : BC) (xl : Nat → Lay) (lay : Lay) (k : KR) (r : Regs) (σ : St) (res : R) : Prop :=
  (∃ es' τ r', Big E (KC self) (strip c) r σ .normal r' τ ∧ EnvOk (outL c lay) es' r' ∧ k es' τ = res) ∨
  (∃ id es' τ r', res = .exit id es' τ ∧ Big E (KC self) (strip c) r σ (.exit id) r' τ ∧ EnvOk (xl id) es' r') ∨
  (∃ vs τ r', res = .ret vs τ ∧ Big E (KC self) (strip c) r σ .ret r' τ ∧ results r' τ rs = some vs)
theorem DRes.cond {x : Opd} {a b : BC} {xl : Nat → Lay} {lay : Lay} {k : KR} {r : Regs} {σ : St} {res : R} {c : BC} {t : Bool} {d : BC} (hc : strip d = .cond x (strip a) (strip b)) (hx : ev x r σ = some (.bool t)) (hs : strip c = if t then strip a else strip b) (ho : outL d lay = outL c lay)
    (h : DRes E self rs c xl lay k r σ res) : DRes E self rs d xl lay k r σ res := by
  rcases h with ⟨es', τ, r', h1, h2, h3⟩ | ⟨id, es', τ, r', h1, h2, h3⟩ | ⟨vs, τ, r', h1, h2, h3⟩
  · exact .inl ⟨es', τ, r', by rw [hc]; exact .cond x _ _ t r σ _ r' τ hx (hs ▸ h1), by rw [ho]; exact h2, h3⟩
  · exact .inr (.inl ⟨id, es', τ, r', h1, by rw [hc]; exact .cond x _ _ t r σ _ r' τ hx (hs ▸ h2), h3⟩)
  · exact .inr (.inr ⟨vs, τ, r', h1, by rw [hc]; exact .cond x _ _ t r σ _ r' τ hx (hs ▸ h2), h3⟩)
theorem bn_inv {a : R} {k : KR} {res : R} (h : bn a k = res) (hn : res ≠ .fail) : (∃ l τ, a = .normal l τ ∧ k l τ = res) ∨ (∃ id es τ, a = .exit id es τ ∧ res = .exit id es τ) ∨ (∃ vs τ, a = .ret vs τ ∧ res = .ret vs τ) := by
  cases a with
  | fail => exact absurd h.symm hn
  | normal l τ => exact .inl ⟨l, τ, rfl, h⟩
  | exit id es τ => exact .inr (.inl ⟨id, es, τ, rfl, h.symm⟩)
  | ret vs τ => exact .inr (.inr ⟨vs, τ, rfl, h.symm⟩)
theorem rng_inv {f : Value} {r : Regs} {ps : List Pa} {a b : ACode} {σ : St} {k : St → R} {kx : Nat → St → R} {kr : St → R} {res : R} (h : rng E self f r ps a b σ k kx kr = res) (hn : res ≠ .fail) :
    ∃ g fs cap v τ r₁ ps₁ a₁ b₁ x, f = .func (.func g) fs cap ∧ (T.get E.funcs g).isSome = true ∧ self (.func (.func g) fs cap) [.func (.yield σ.size) #[] #[]] (σ.new (.loop r ps a b none)) = .ok v τ ∧ T.get τ.heap σ.size = some (.loop r₁ ps₁ a₁ b₁ x) ∧
      (match x.getD .normal with | .normal => k (τ.put σ.size .dead) | .exit id => kx id (τ.put σ.size .dead) | .ret => kr (τ.put σ.size .dead)) = res := by
  unfold rng at h
  split at h
  · rename_i g fs cap
    split at h
    · rename_i y v τ h1 h2
      split at h
      · rename_i r₁ ps₁ a₁ b₁ h3; exact ⟨g, fs, cap, v, τ, r₁, ps₁, a₁, b₁, none, rfl, by rw [h1]; rfl, h2, h3, h⟩
      · rename_i r₁ ps₁ a₁ b₁ h3; exact ⟨g, fs, cap, v, τ, r₁, ps₁, a₁, b₁, some .normal, rfl, by rw [h1]; rfl, h2, h3, h⟩
      · rename_i r₁ ps₁ a₁ b₁ id h3; exact ⟨g, fs, cap, v, τ, r₁, ps₁, a₁, b₁, some (.exit id), rfl, by rw [h1]; rfl, h2, h3, h⟩
      · rename_i r₁ ps₁ a₁ b₁ h3; exact ⟨g, fs, cap, v, τ, r₁, ps₁, a₁, b₁, some .ret, rfl, by rw [h1]; rfl, h2, h3, h⟩
      · exact absurd h.symm hn
    · exact absurd h.symm hn
  · exact absurd h.symm hn
theorem den_inv : ∀ {c : BC} {xl : Nat → Lay} {lay : Lay} {k : KR} {es : List Value} {σ : St} {r : Regs} {res : R}, res ≠ .fail → EnvOk lay es r → den E self n rs c xl lay k es σ = res → DRes E self rs c xl lay k r σ res := by
  intro c
  induction c with
  | skip => intro xl lay k es σ r res hn he h; exact .inl ⟨es, σ, r, .skip r σ, he, h⟩
  | seq a b ia ib =>
    intro xl lay k es σ r res hn he h
    rcases ia hn he h with ⟨es', τ, r', h1, h2, h3⟩ | ⟨id, es', τ, r', h1, h2, h3⟩ | ⟨vs, τ, r', h1, h2, h3⟩
    · rcases ib hn h2 h3 with ⟨es'', τ', r'', g1, g2, g3⟩ | ⟨id, es'', τ', r'', g1, g2, g3⟩ | ⟨vs, τ', r'', g1, g2, g3⟩
      · exact .inl ⟨es'', τ', r'', .seqN _ _ r σ r' τ _ r'' τ' h1 g1, g2, g3⟩
      · exact .inr (.inl ⟨id, es'', τ', r'', g1, .seqN _ _ r σ r' τ _ r'' τ' h1 g2, g3⟩)
      · exact .inr (.inr ⟨vs, τ', r'', g1, .seqN _ _ r σ r' τ _ r'' τ' h1 g2, g3⟩)
    · exact .inr (.inl ⟨id, es', τ, r', h1, .seqX _ _ r σ _ r' τ h2 (by simp), h3⟩)
    · exact .inr (.inr ⟨vs, τ, r', h1, .seqX _ _ r σ _ r' τ h2 (by simp), h3⟩)
  | region l =>
    intro xl lay k es σ r res hn he h
    obtain ⟨es', τ, r', h1, h2, h3⟩ := regD_inv hn he h
    exact .inl ⟨es', τ, r', .region l r σ r' τ h1, h2, h3⟩
  | draw l ps =>
    intro xl lay k es σ r res hn he h
    obtain ⟨es', τ, r', h1, h2, h3⟩ := drawD_inv hn he h
    exact .inl ⟨es', τ, r', .draw l ps r σ r' τ h1, h2, h3⟩
  | condA x a b ia ib =>
    intro xl lay k es σ r res hn he h
    obtain ⟨v, h1, h2⟩ := evD_inv he hn h
    rcases bcase_inv h2 hn with ⟨rfl, h3⟩ | ⟨rfl, h3⟩ | ⟨vs, rfl, h3⟩
    · exact DRes.cond (a := a) (b := b) (c := a) rfl h1 rfl rfl (ia hn he h3)
    · rcases ib hn he h3 with ⟨_, _, _, _, _, g3⟩ | g | g
      · exact absurd g3.symm hn
      · obtain ⟨id, es', τ, r', g1, g2, g3⟩ := g
        exact .inr (.inl ⟨id, es', τ, r', g1, .cond x _ _ false r σ _ r' τ h1 g2, g3⟩)
      · obtain ⟨vs, τ, r', g1, g2, g3⟩ := g
        exact .inr (.inr ⟨vs, τ, r', g1, .cond x _ _ false r σ _ r' τ h1 g2, g3⟩)
    · exact absurd h3.symm hn
  | condB x a b ia ib =>
    intro xl lay k es σ r res hn he h
    obtain ⟨v, h1, h2⟩ := evD_inv he hn h
    rcases bcase_inv h2 hn with ⟨rfl, h3⟩ | ⟨rfl, h3⟩ | ⟨vs, rfl, h3⟩
    · rcases ia hn he h3 with ⟨_, _, _, _, _, g3⟩ | g | g
      · exact absurd g3.symm hn
      · obtain ⟨id, es', τ, r', g1, g2, g3⟩ := g
        exact .inr (.inl ⟨id, es', τ, r', g1, .cond x _ _ true r σ _ r' τ h1 g2, g3⟩)
      · obtain ⟨vs, τ, r', g1, g2, g3⟩ := g
        exact .inr (.inr ⟨vs, τ, r', g1, .cond x _ _ true r σ _ r' τ h1 g2, g3⟩)
    · exact DRes.cond (a := a) (b := b) (c := b) rfl h1 rfl rfl (ib hn he h3)
    · exact absurd h3.symm hn
  | cond x a b out ia ib =>
    intro xl lay k es σ r res hn he h
    -- a branch
    have br (t : Bool) (c : BC) (hs : strip c = if t then strip a else strip b) (hx : ev x r σ = some (.bool t)) {q : R} (hq : q ≠ .fail) (hd : DRes E self rs c xl lay (fun es' τ => kept (relay (outL c lay) es' out) fun l => .normal l τ) r σ q) :
        (∃ l τ r', q = .normal l τ ∧ Big E (KC self) (strip (.cond x a b out)) r σ .normal r' τ ∧ EnvOk out l r') ∨
        (∃ id es' τ r', q = .exit id es' τ ∧ Big E (KC self) (strip (.cond x a b out)) r σ (.exit id) r' τ ∧ EnvOk (xl id) es' r') ∨
        (∃ vs τ r', q = .ret vs τ ∧ Big E (KC self) (strip (.cond x a b out)) r σ .ret r' τ ∧ results r' τ rs = some vs) := by
      rcases hd with ⟨es', τ, r', g1, g2, g3⟩ | ⟨id, es', τ, r', g1, g2, g3⟩ | ⟨vs, τ, r', g1, g2, g3⟩
      · obtain ⟨l, k1, k2⟩ := kept_inv g3 hq
        exact .inl ⟨l, τ, r', k2.symm, .cond x _ _ t r σ _ r' τ hx (hs ▸ g1), relay_env g2 k1⟩
      · exact .inr (.inl ⟨id, es', τ, r', g1, .cond x _ _ t r σ _ r' τ hx (hs ▸ g2), g3⟩)
      · exact .inr (.inr ⟨vs, τ, r', g1, .cond x _ _ t r σ _ r' τ hx (hs ▸ g2), g3⟩)
    have h' : bn (evD lay es σ x fun v => bcase v .fail
      (den E self n rs a xl lay (fun es' τ => kept (relay (outL a lay) es' out) fun l => .normal l τ) es σ)
      (den E self n rs b xl lay (fun es' τ => kept (relay (outL b lay) es' out) fun l => .normal l τ) es σ)) (fun l τ => unp out.length l fun es' => k es' τ) = res := h
    generalize hq : evD lay es σ x _ = q at h'
    have hqn : q ≠ .fail := by rintro rfl; exact hn h'.symm
    obtain ⟨v, h1, h2⟩ := evD_inv he hqn hq
    have all : (∃ l τ r', q = .normal l τ ∧ Big E (KC self) (strip (.cond x a b out)) r σ .normal r' τ ∧ EnvOk out l r') ∨
        (∃ id es' τ r', q = .exit id es' τ ∧ Big E (KC self) (strip (.cond x a b out)) r σ (.exit id) r' τ ∧ EnvOk (xl id) es' r') ∨
        (∃ vs τ r', q = .ret vs τ ∧ Big E (KC self) (strip (.cond x a b out)) r σ .ret r' τ ∧ results r' τ rs = some vs) := by
      rcases bcase_inv h2 hqn with ⟨rfl, h3⟩ | ⟨rfl, h3⟩ | ⟨vs, rfl, h3⟩
      · exact br true a rfl h1 hqn (ia hqn he h3)
      · exact br false b rfl h1 hqn (ib hqn he h3)
      · exact absurd h3.symm hqn
    rcases all with ⟨l, τ, r', rfl, g2, g3⟩ | ⟨id, es', τ, r', rfl, g2, g3⟩ | ⟨vs, τ, r', rfl, g2, g3⟩
    · have h'' : (unp out.length l fun es' => k es' τ) = res := h'
      obtain ⟨l1, t, rfl, _, h5⟩ := unp_inv hn h''
      exact .inl ⟨l1, τ, r', g2, g3.pre, h5⟩
    · exact .inr (.inl ⟨id, es', τ, r', h'.symm, g2, g3⟩)
    · exact .inr (.inr ⟨vs, τ, r', h'.symm, g2, g3⟩)
  | block id c out ic =>
    intro xl lay k es σ r res hn he h
    have h' : bb id (den E self n rs c (fun i => bif Nat.beq i id then out else xl i) lay (fun es' τ => kept (relay (outL c lay) es' out) fun l => .normal l τ) es σ) (fun l τ => unp out.length l fun es' => k es' τ) = res := h
    generalize hq : den E self n rs c _ lay _ es σ = q at h'
    have hqn : q ≠ .fail := by rintro rfl; exact hn h'.symm
    rcases ic hqn he hq with ⟨es', τ, r', g1, g2, g3⟩ | ⟨i, es', τ, r', rfl, g2, g3⟩ | ⟨vs, τ, r', rfl, g2, g3⟩
    · obtain ⟨l, k1, rfl⟩ := kept_inv g3 hqn
      have h'' : (unp out.length l fun es' => k es' τ) = res := h'
      obtain ⟨l1, t, rfl, _, h5⟩ := unp_inv hn h''
      exact .inl ⟨l1, τ, r', .blockX id _ r σ _ r' τ g1 (by simp), (relay_env g2 k1).pre, h5⟩
    · by_cases hi : i = id
      · subst hi
        have hb : Nat.beq i i = true := Nat.beq_refl i
        simp only [hb, cond_true] at g3
        have h'' : Bool.rec (motive := fun _ => R) (.exit i es' τ) (unp out.length es' fun es' => k es' τ) (Nat.beq i i) = res := h'
        rw [hb] at h''
        obtain ⟨l1, t, rfl, _, h5⟩ := unp_inv hn h''
        exact .inl ⟨l1, τ, r', .blockE i _ r σ r' τ g2, g3.pre, h5⟩
      · have hb : Nat.beq i id = false := natBeq_false hi
        simp only [hb, cond_false] at g3
        have h'' : Bool.rec (motive := fun _ => R) (.exit i es' τ) (unp out.length es' fun es' => k es' τ) (Nat.beq i id) = res := h'
        rw [hb] at h''
        exact .inr (.inl ⟨i, es', τ, r', h''.symm, .blockX id _ r σ _ r' τ g2 (by simpa using hi), g3⟩)
    · exact .inr (.inr ⟨vs, τ, r', h'.symm, .blockX id _ r σ _ r' τ g2 (by simp), g3⟩)
  | loop c inn ic =>
    intro xl lay k es σ r res hn he h
    obtain ⟨l, h1, h2⟩ := kept_inv h hn
    have main : ∀ (m : Nat) (l : List Value) (σ : St) (r : Regs), EnvOk inn l r → lp m (fun ih l τ => unp inn.length l fun es' => den E self n rs c xl inn (fun es'' τ' => kept (relay (outL c inn) es'' inn) fun l => ih l τ') es' τ) l σ = res →
        (∃ id es' τ r', res = .exit id es' τ ∧ Big E (KC self) (.loop (strip c)) r σ (.exit id) r' τ ∧ EnvOk (xl id) es' r') ∨
        (∃ vs τ r', res = .ret vs τ ∧ Big E (KC self) (.loop (strip c)) r σ .ret r' τ ∧ results r' τ rs = some vs) := by
      intro m
      induction m with
      | zero => intro l σ r _ h; exact absurd h.symm hn
      | succ m ihm =>
        intro l σ r he h
        obtain ⟨l1, t, rfl, _, h3⟩ := unp_inv hn h
        rcases ic hn he.pre h3 with ⟨es', τ, r', g1, g2, g3⟩ | ⟨id, es', τ, r', g1, g2, g3⟩ | ⟨vs, τ, r', g1, g2, g3⟩
        · obtain ⟨l2, k1, k2⟩ := kept_inv g3 hn
          rcases ihm l2 τ r' (relay_env g2 k1) k2 with ⟨id, es'', τ', r'', q1, q2, q3⟩ | ⟨vs, τ', r'', q1, q2, q3⟩
          · exact .inl ⟨id, es'', τ', r'', q1, .loopN _ r σ r' τ _ r'' τ' g1 q2, q3⟩
          · exact .inr ⟨vs, τ', r'', q1, .loopN _ r σ r' τ _ r'' τ' g1 q2, q3⟩
        · exact .inl ⟨id, es', τ, r', g1, .loopX _ r σ _ r' τ g2 (by simp), g3⟩
        · exact .inr ⟨vs, τ, r', g1, .loopX _ r σ _ r' τ g2 (by simp), g3⟩
    exact .inr (main n l σ r (relay_env he h1) h2)
  | exit id =>
    intro xl lay k es σ r res hn he h
    obtain ⟨l, h1, h2⟩ := kept_inv h hn
    exact .inr (.inl ⟨id, l, σ, r, h2.symm, .exit id r σ, relay_env he h1⟩)
  | ret =>
    intro xl lay k es σ r res hn he h
    obtain ⟨l, h1, h2⟩ := kept_inv h hn
    obtain ⟨vs, h3, h4⟩ := retD_inv hn he h1 h2
    exact .inr (.inr ⟨vs, σ, r, h3, .ret r σ, h4⟩)
  | range f ps a b =>
    intro xl lay k es σ r res hn he h
    have ht := toR_env lay es
    obtain ⟨fv, h1, h2⟩ := evD_inv ht hn h
    obtain ⟨g, fs, cap, v, τ, r₁, ps₁, a₁, b₁, x, rfl, g2, g3, g4, g5⟩ := rng_inv h2 hn
    have big : Big E (KC self) (.rangeFunc f ps a b) r σ (x.getD .normal) (toR lay es) (τ.put σ.size .dead) :=
      .weak _ (toR lay es) r σ _ _ _ (fun p v e => he p v (by rw [← toR_get]; exact e)) (.range f ps a b (toR lay es) σ g fs cap v τ r₁ ps₁ a₁ b₁ x h1 g2 g3 g4)
    generalize x.getD .normal = y at big g5
    cases y with
    | normal => exact .inl ⟨es, _, _, big, ht, g5⟩
    | exit id =>
      obtain ⟨l, k1, k2⟩ := kept_inv g5 hn
      exact .inr (.inl ⟨id, l, _, _, k2.symm, big, relay_env ht k1⟩)
    | ret =>
      obtain ⟨l, k1, k2⟩ := kept_inv g5 hn
      obtain ⟨vs, h3, h4⟩ := retD_inv hn ht k1 k2
      exact .inr (.inr ⟨vs, _, _, h3, big, h4⟩)
  | no _ => intro xl lay k es σ r res hn he h; exact absurd h.symm hn
theorem setParams_some : ∀ {ps : List Pa} {vs : List Value} {r : Regs}, vs.length = ps.length → ∃ r', setParams r ps vs = some r' := by
  intro ps
  induction ps with
  | nil => intro vs r h; cases vs with
    | nil => exact ⟨r, rfl⟩
    | cons v vs => cases h
  | cons p ps ih =>
    intro vs r h
    cases vs with
    | nil => cases h
    | cons v vs =>
      obtain ⟨r', h'⟩ := ih (r := T.setP p v r) (vs := vs) (by simpa using h)
      exact ⟨r', h'⟩
theorem setParams_keep : ∀ {ps : List Pa} {vs : List Value} {r r' : Regs}, setParams r ps vs = some r' → ∀ p, p ∉ ps → T.getP p r' = T.getP p r := by
  intro ps
  induction ps with
  | nil => intro vs r r' h p _; cases vs with
    | nil => cases h; rfl
    | cons v vs => cases h
  | cons q ps ih =>
    intro vs r r' h p hp
    cases vs with
    | nil => cases h
    | cons v vs =>
      rw [List.mem_cons, not_or] at hp
      have := ih (show setParams (T.setP q v r) ps vs = some r' from h) p hp.2
      rw [this, T.getP_setP_ne _ _ hp.1]
theorem setParams_env : ∀ {ps : List Pa} {vs : List Value} {r r' : Regs}, ps.Nodup → setParams r ps vs = some r' → EnvOk ps vs r' := by
  intro ps
  induction ps with
  | nil => intro vs r r' _ h p v e; cases vs <;> cases e
  | cons q ps ih =>
    intro vs r r' hd h
    cases vs with
    | nil => cases h
    | cons v vs =>
      rw [List.nodup_cons] at hd
      have h' : setParams (T.setP q v r) ps vs = some r' := h
      intro p w e
      have e' : (bif paEq p q then some v else lk p ps vs) = some w := e
      cases hq : paEq p q with
      | true =>
        rw [hq] at e'; cases e'
        rw [(paEq_iff p q).1 hq, setParams_keep h' q hd.1, T.getP_setP_self]
      | false => rw [hq, cond_false] at e'; exact ih hd.2 h' p w e'
theorem denF_inv {c : BC} {ps : List Pa} {args : List Value} {σ τ : St} {v : Value} (hd : ps.Nodup) (h : denF E c ps rs self n args σ = .ok v τ) :
    ∃ r x r' us, setParams .e ps args = some r ∧ Big E (KC self) (strip c) r σ x r' τ ∧ (x = .normal ∨ x = .ret) ∧ results r' τ rs = some us ∧ v = resV us := by
  unfold denF at h
  cases hl : Nat.beq args.length ps.length with
  | false => rw [hl] at h; cases h
  | true =>
    rw [hl] at h
    obtain ⟨r, hr⟩ := setParams_some (r := .e) (natBeq_iff.1 hl)
    have hres : ∃ us, unp ps.length args (fun es => den E self n rs c (fun _ => []) ps (fun es' τ => kept (relay (outL c ps) es' (rs.map (·.1))) fun l => retD rs l τ) es σ) = .ret us τ ∧ v = resV us := by
      generalize hq : unp ps.length args (fun es => den E self n rs c (fun _ => []) ps (fun es' τ => kept (relay (outL c ps) es' (rs.map (·.1))) fun l => retD rs l τ) es σ) = q at h
      cases q with
      | ret us τ' => cases h; exact ⟨us, rfl, rfl⟩
      | _ => cases h
    obtain ⟨us, h1, h2⟩ := hres
    obtain ⟨l, t, rfl, hlen, h3⟩ := unp_inv (by simp) h1
    have he : EnvOk ps l r := (setParams_env hd hr).pre
    rcases den_inv (by simp) he h3 with ⟨es', τ', r', g1, g2, g3⟩ | ⟨id, es', τ', r', g1, _⟩ | ⟨vs, τ', r', g1, g2, g3⟩
    · obtain ⟨l', k1, k2⟩ := kept_inv g3 (by simp)
      obtain ⟨vs, q1, q2⟩ := retD_inv (by simp) g2 k1 k2
      cases q1
      exact ⟨r, .normal, r', us, hr, g1, .inl rfl, q2, h2⟩
    · cases g1
    · cases g1
      exact ⟨r, .ret, r', us, hr, g2, .inr rfl, g3, h2⟩
end
section
variable {P : Program} {E : Env} {F : T SFun}
structure SOk (E : Env) (F : T SFun) : Prop where
  fn : ∀ g s, T.get F g = some s → ∃ c ps rs, T.get E.funcs g = some ⟨strip c, ps, rs⟩ ∧ s = denF E c ps rs
theorem paths_nodup (k : Nat) : (paths k).Nodup := by
  rw [paths_eq]
  refine List.Pairwise.map _ (fun a b h e => h (path_inj e)) List.nodup_range
/-- entering a function whose code has been run -/
theorem enter_big (hE : EOk P E) (hF : FOk P E) {K : Kt} (hK : KOk P E K) (hD : DrawOk P E K) (hR : RangeOk P E K) {f : FuncId} {af : AFun} (haf : T.get E.funcs f = some af) {vs us : List Value} {r r' : Regs} {x : Ex} {σ τ : St} (hr : setParams .e af.params vs = some r)
    (big : Big E K af.code r σ x r' τ) (hxx : x = .normal ∨ x = .ret) (hus : results r' τ af.results = some us) {ι : Inj} {w : World} {vs' : List Value} (h : Rel P E ι σ w) (hv : VRels ι vs vs') : NextGives P (Post P E ι σ w (resV us) τ) ((callFunc f vs'.toArray).run P w) := by
  obtain ⟨fn, c, h1, h2, h3, h4⟩ := hF.fn f af haf
  obtain ⟨code, ps, rs⟩ := af
  simp only at hr big hus
  rw [callFunc_enter h1 h2 h3]
  unfold flat at h4
  split at h4
  · rename_i rs' hrs
    cases hb : Nat.ble (fn.params.size + fn.nfree) fn.ntmps with
    | false => rw [hb] at h4; cases h4
    | true =>
      rw [hb, cond_true] at h4
      cases h4
      refine callsIn_of_wp_marks h1 h2 trivial ?_
      refine (code_sound (B := w.heap.size) hE hK hD hR big).1 c rfl none (.inl rfl) ι _ w _ h (enter_regs (Nat.le_of_ble_eq_true hb) hv hr) ⟨Nat.le_refl _, [], rfl, List.nodup_nil, by simp⟩ ?_
      rintro a' w' ⟨κ, k1, k2, k3, k4⟩
      have key : LeavesInM (Wd none) 0 P fn a'.tmps (Gives (Post P E ι σ w (resV us) τ)) a'.defers .returning w' := by
        refine leaves_marks (Nat.le_refl _) a'.defers w' k4 k2 k3 fun w'' q1 q2 => ?_
        obtain ⟨v', g1, g2⟩ := goResults hE q1 k1 hrs hus
        exact ⟨v', g1, κ, g2, q1, q2⟩
      rcases hxx with rfl | rfl <;> exact key
  · cases h4
theorem callS_ok (hE : EOk P E) (hF : FOk P E) (hS : SOk E F) : ∀ n, KOk P E (KC (callS E F n)) := by
  have hD : ∀ K, KOk P E K → DrawOk P E K := fun _ hK => draw_ok hE hK
  intro n
  induction n with
  | zero => intro f vs σ v τ hk; cases hk
  | succ n ih =>
    intro f vs σ v τ hk ι w f' vs' h hf hv
    have hk' : callStep E F n (callS E F n) f vs σ = .ok v τ := hk
    unfold callStep at hk'
    split at hk'
    · rename_i g first cap
      split at hk'
      · rename_i s hs
        obtain ⟨c, ps, rs, h1, rfl⟩ := hS.fn g s hs
        obtain ⟨fn, cc, _, _, _, h4⟩ := hF.fn g _ h1
        have hnd : ps.Nodup := by
          unfold flat at h4
          split at h4
          · cases hb : Nat.ble (fn.params.size + fn.nfree) fn.ntmps with
            | false => rw [hb] at h4; cases h4
            | true =>
              rw [hb, cond_true] at h4
              injection h4 with h4; injection h4 with _ h5 _
              rw [← h5]; exact paths_nodup _
          · cases h4
        obtain ⟨r, x, r', us, k1, k2, k3, k4, rfl⟩ := denF_inv hnd hk'
        cases hf with
        | func _ _ fs' _ cap' g1 g2 =>
          have := enter_big hE hF ih (hD _ ih) (range_ok hE hF ih) h1 k1 k2 k3 k4 h (g1.append (hv.append g2))
          unfold CallV
          have e : (do let d ← Deferred.ofValue (.func (.func g) fs' cap') vs'.toArray; invoke d.target d.args : Sem Next).run P w = (callFunc g (fs'.toList ++ (vs' ++ cap'.toList)).toArray).run P w := by
            simp only [Deferred.ofValue, Sem.run_bind, Sem.run_pure, Result.andThen, invoke]
            congr 2
            apply Array.toList_inj.1; simp
          rw [e]; exact this
      · cases hk'
    · rename_i A x y
      exact kl_ok hE hF hD (n + 1) (.func (.yield A) x y) vs σ v τ ⟨n, Nat.lt_succ_self n, hk'⟩ ι w f' vs' h hf hv
    · cases hk'
/-- the main law of the laid-out functions -/
theorem callS_told (hE : EOk P E) (hF : FOk P E) (hS : SOk E F) {ι : Inj} {σ τ : St} {w : World} {n : Nat} {f : FuncId} {vs : List Value} {v : Value} (he : callS E F n (fnV f) vs σ = .ok v τ) {vs' : List Value} (h : Rel P E ι σ w) (hv : VRels ι vs vs') :
    Calls P f vs'.toArray w fun e w' => ∃ v', e = .returned v' ∧ Post P E ι σ w v τ v' w' := by
  have g := callS_ok hE hF hS n _ _ _ _ _ he ι w (fnV f) vs' h (.func f _ _ _ _ .nil .nil) hv
  rw [CallV.fn] at g
  cases n with
  | zero => cases he
  | succ n =>
    have he' : (match T.get F f with
      | some s => s (callS E F n) n ((#[] : Array Value).toList ++ (vs ++ (#[] : Array Value).toList)) σ
      | none => .fail) = Out.ok v τ := he
    split at he'
    · rename_i s hs
      obtain ⟨c, ps, rs, h1, _⟩ := hS.fn f s hs
      obtain ⟨fn, cc, h2, h3, h4, _⟩ := hF.fn f _ h1
      rw [callFunc_enter h2 h3 h4] at g
      have g3 : CallsIn Fence.wide 0 P f vs'.toArray w (Gives (Post P E ι σ w v τ)) := g
      refine (callsIn_wide.1 g3).mono fun e w' ge => ?_
      cases e with
      | returned v' => exact ⟨v', rfl, ge⟩
      | panicked _ => exact ge.elim
      | outgrown => exact ge.elim
    · cases he'
end
end Go.Ab
