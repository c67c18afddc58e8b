/- The interpreter of compiled code over an abstract heap, and its law: what it finds, the model does. Part 3. No condition. -/
import Derived.Test.YtjjdlnghohnhhaaGreatDoorA2
namespace Go.Ab
open Go

/- ------------------------------------------------ what is laid beside the code -/
inductive Hint where
  | a | b
  | o (l : List Nat)
def lay (l : List Nat) : Lay := l.map path
def nxt : List Hint → Hint × List Hint
  | [] => (.a, [])
  | h :: hs => (h, hs)
/-- the code with its hints, in the order of the text -/
def ann : ACode → List Hint → BC × List Hint
  | .skip, hs => (.skip, hs)
  | .seq a b, hs => match ann a hs with
    | (a', hs) => match ann b hs with
      | (b', hs) => (.seq a' b', hs)
  | .region l, hs => (.region l, hs)
  | .draw l ps, hs => (.draw l ps, hs)
  | .cond x a b, hs => match nxt hs with
    | (h, hs) => match ann a hs with
      | (a', hs) => match ann b hs with
        | (b', hs) => (match h with | .a => .condA x a' b' | .b => .condB x a' b' | .o l => .cond x a' b' (lay l), hs)
  | .block id c, hs => match nxt hs with
    | (h, hs) => match ann c hs with
      | (c', hs) => (.block id c' (match h with | .o l => lay l | _ => []), hs)
  | .loop c, hs => match nxt hs with
    | (h, hs) => match ann c hs with
      | (c', hs) => (.loop c' (match h with | .o l => lay l | _ => []), hs)
  | .exit id, hs => (.exit id, hs)
  | .ret, hs => (.ret, hs)
  | .rangeFunc f ps a b, hs => (.range f ps a b, hs)
  | c, hs => (.no c, hs)
theorem strip_ann : ∀ (c : ACode) (hs : List Hint), strip (ann c hs).1 = c := by
  intro c
  induction c with
  | seq a b ia ib => intro hs; show ACode.seq (strip (ann a hs).1) (strip (ann b (ann a hs).2).1) = _; rw [ia, ib]
  | cond x a b ia ib =>
    intro hs
    have ea := ia (nxt hs).2
    have eb := ib (ann a (nxt hs).2).2
    show strip (match (nxt hs).1 with | .a => BC.condA x (ann a (nxt hs).2).1 (ann b (ann a (nxt hs).2).2).1 | .b => .condB x (ann a (nxt hs).2).1 (ann b (ann a (nxt hs).2).2).1 | .o l => .cond x (ann a (nxt hs).2).1 (ann b (ann a (nxt hs).2).2).1 (lay l)) = _
    cases (nxt hs).1 <;> (show ACode.cond x _ _ = _; rw [ea, eb])
  | block id c ic => intro hs; show ACode.block id (strip (ann c (nxt hs).2).1) = _; rw [ic]
  | loop c ic => intro hs; show ACode.loop (strip (ann c (nxt hs).2).1) = _; rw [ic]
  | _ => intro hs; rfl
/- ------------------------------------------------ tables -/
def T.All {α : Type} (P : Nat → α → Prop) : (Nat → Nat) → T α → Prop
  | _, .e => True
  | f, .n l v r => (∀ a, v = some a → P (f 0) a) ∧ T.All P (fun j => f (2 * j + 1)) l ∧ T.All P (fun j => f (2 * j + 2)) r
theorem T.All.get {α : Type} {P : Nat → α → Prop} : ∀ {t : T α} {f : Nat → Nat}, T.All P f t → ∀ i a, T.get t i = some a → P (f i) a := by
  intro t
  induction t with
  | e => intro f _ i a h; cases h
  | n l v r il ir =>
    intro f h i a hg
    obtain ⟨h0, hl, hr⟩ := h
    cases i with
    | zero => exact h0 a hg
    | succ j =>
      have hg' : T.get (T.n l v r) (j + 1) = some a := hg
      rw [T.get_succ] at hg'
      by_cases e : j % 2 = 0
      · rw [if_pos e] at hg'
        have := il hl _ a hg'
        rwa [show 2 * (j / 2) + 1 = j + 1 by omega] at this
      · rw [if_neg e] at hg'
        have := ir hr _ a hg'
        rwa [show 2 * (j / 2) + 2 = j + 1 by omega] at this
theorem T.get_ofListFrom {α : Type} : ∀ (l : List α) (i : Nat) (t : T α) (k : Nat), T.get (T.ofListFrom i t l) k = if i ≤ k ∧ k < i + l.length then l[k - i]? else T.get t k := by
  intro l
  induction l with
  | nil => intro i t k; rw [if_neg (by simp only [List.length_nil]; omega)]; rfl
  | cons a l ih =>
    intro i t k
    show T.get (T.ofListFrom (i + 1) (T.set t i a) l) k = _
    rw [ih, T.get_set]
    by_cases h : k = i
    · subst h
      rw [if_neg (by omega), if_pos rfl, if_pos (by simp)]; simp
    · rw [if_neg h]
      by_cases h2 : i + 1 ≤ k ∧ k < i + 1 + l.length
      · rw [if_pos h2, if_pos (by simp; omega)]
        obtain ⟨m, rfl⟩ : ∃ m, k = i + 1 + m := ⟨k - (i + 1), by omega⟩
        rw [show i + 1 + m - (i + 1) = m by omega, show i + 1 + m - i = m + 1 by omega]; simp
      · rw [if_neg h2, if_neg (by simp; omega)]
theorem T.get_ofList {α : Type} (l : List α) (k : Nat) : T.get (T.ofList l) k = l[k]? := by
  unfold T.ofList
  rw [T.get_ofListFrom]
  by_cases h : k < l.length
  · rw [if_pos (by omega)]; simp
  · rw [if_neg (by omega), List.getElem?_eq_none (by omega)]
    exact T.get_e k
theorem eok {P : Program} {E : Env} (ht : E.types = T.ofList P.types.toList) (hq : E.eqs.all (fun t => !P.stoodInHeld t && !P.eqGuardType P.depth t) = true) (hm : P.follows .mixedOrders = true) : EOk P E where
  types t i h := by
    rw [ht, T.get_ofList] at h
    have h' : P.types[t]? = some i := by simpa using h
    unfold Tables.info?
    rw [if_pos (Array.getElem?_eq_some_iff.1 h').1]; exact h'
  eqs t h := by
    have := List.all_eq_true.1 hq t (by simpa using h)
    simpa using this
  mixed := hm
/-- a function of the table -/
structure Fun1 (P : Program) (E : Env) (g : Nat) (af : AFun) : Prop where
  fn : ∃ fn c, P.funcs[g]? = some fn ∧ fn.body = some c ∧ (fn.name == "runtime.NumGoroutine") = false ∧ flat E fn c = some af
theorem fok {P : Program} {E : Env} (h : T.All (Fun1 P E) id E.funcs) : FOk P E := ⟨fun f af hf => (h.get f af hf).fn⟩
structure Sh1 (E : Env) (g : Nat) (s : SFun) : Prop where
  sh : ∃ af hs, T.get E.funcs g = some af ∧ s = denF E (ann af.code hs).1 af.params af.results
theorem sok {E : Env} {F : T SFun} (h : T.All (Sh1 E) id F) : SOk E F := ⟨fun g s hs => by
  obtain ⟨af, hs, h1, h2⟩ := (h.get g s hs).sh
  exact ⟨_, af.params, af.results, by rw [strip_ann]; exact h1, h2⟩⟩
def noF : AFun := ⟨.bad "none", [], []⟩
/-- the function's code, as it is compiled -/
noncomputable def flatD (E : Env) (fn : Func) : AFun := match fn.body with
  | some c => match flat E fn c with
    | some a => a
    | none => noF
  | none => noF
/- ------------------------------------------------ short words -/
noncomputable def nw (t : TypeId) (c : List Value) (σ : St) (k : Value → St → R) : R := k (.pointer (some ⟨σ.size, 0, none⟩)) (σ.new (.cells c t true))
noncomputable def lt (σ : St) (k : St → R) : R := k σ
noncomputable def lv (v : Value) (k : Value → R) : R := k v
noncomputable def hd (m : Nat) (args : List Value) (r : R) : Out := finR (Bool.rec (motive := fun _ => R) .fail r (Nat.beq args.length m))
noncomputable def dr (b : Bool) (r : R) : R := Bool.rec (motive := fun _ => R) .fail r b
def vi (n : Nat) : Value := .int .i64 (.ofNat n)
end Go.Ab
namespace Go.Ab
open Go

/- ------------------------------------------------ a number of which only its rest counts -/
section
variable {E : Env} {K : Kt}
/-- two numbers with the same rest -/
def TV (M : Nat) (v v' : Value) : Prop := ∃ (k : IntKind) (a a' : Nat), v = .int k (.ofNat a) ∧ v' = .int k (.ofNat a') ∧ (k = .u8 ∨ k = .i64) ∧ a < 256 ∧ a' < 256 ∧ a % M = a' % M
structure RelT (T : List Pa) (ks : Lay) (cs : List Value) (M : Nat) (r r' : Regs) : Prop where
  same : ∀ p, p ∉ T → Go.Ab.T.getP p r' = Go.Ab.T.getP p r
  taint : ∀ p, p ∈ T → ∀ v, Go.Ab.T.getP p r = some v → ∃ v', Go.Ab.T.getP p r' = some v' ∧ TV M v v'
  q : ∀ p c, lk p ks cs = some c → (∀ v, Go.Ab.T.getP p r = some v → v = c) ∧ p ∉ T
def inT (T : List Pa) (p : Pa) : Bool := T.any (paEq p)
theorem inT_iff {T : List Pa} {p : Pa} : inT T p = true ↔ p ∈ T := by
  unfold inT
  rw [List.any_eq_true]
  exact ⟨fun ⟨q, h1, h2⟩ => (paEq_iff p q).1 h2 ▸ h1, fun h => ⟨p, h, (paEq_iff p p).2 rfl⟩⟩
theorem inT_not {T : List Pa} {p : Pa} (h : inT T p = false) : p ∉ T := fun g => by rw [inT_iff.2 g] at h; cases h
def valEq : Value → Value → Bool
  | .int k (.ofNat a), .int k' (.ofNat b) => sameK k k' && Nat.beq a b
  | _, _ => false
theorem valEq_eq {v c : Value} (h : valEq v c = true) : v = c := by
  unfold valEq at h
  split at h
  · rename_i k a k' b
    rw [Bool.and_eq_true] at h
    have hk : k = k' := by
      have := h.1
      cases k <;> cases k' <;> first | rfl | cases this
    rw [hk, natBeq_iff.1 h.2]
  · cases h
/-- an expression of known registers -/
noncomputable def constEx (ks : Lay) (cs : List Value) (x : Opd) (c : Value) : Bool :=
  !reads x && (regsOf x).all (fun p => (lk p ks cs).isSome) && (match ev x (toR ks cs) ⟨.e, 0, 0⟩ with | some v => valEq v c | none => false)
/-- the modulus -/
def modOk (ks : Lay) (cs : List Value) (M : Nat) : Opd → Bool
  | .const (.int .i64 (.ofNat m)) => Nat.beq m M
  | .reg q => match lk q ks cs with
    | some (.int .i64 (.ofNat m)) => Nat.beq m M
    | _ => false
  | _ => false
def freeOf (T : List Pa) (l : List Pa) : Bool := l.all fun p => !inT T p
def exT (T : List Pa) (ks : Lay) (cs : List Value) (M : Nat) (d : Pa) : Opd → Bool
  | .reg p => inT T p && inT T d
  | .u (.conv .i64) (.reg p) => inT T p && inT T d
  | .b (.bin .rem) (.reg p) y => inT T p && !inT T d && modOk ks cs M y
  | _ => false
noncomputable def dstT (ks : Lay) (cs : List Value) (o : AOper) : Bool :=
  match o.dst with
  | some d => match lk d ks cs with
    | none => true
    | some c => match o.guard, o.sl, o.op with
      | none, false, .ex x => constEx ks cs x c
      | _, _, _ => false
  | none => true
noncomputable def operT (T : List Pa) (ks : Lay) (cs : List Value) (M : Nat) (o : AOper) : Bool :=
  dstT ks cs o &&
  ((freeOf T (operRegsOf o) && (match o.dst with | some d => !inT T d | none => true)) ||
   (match o.guard, o.sl, o.op, o.dst with | none, false, .ex x, some d => exT T ks cs M d x | _, _, _, _ => false))
noncomputable def codeT (T : List Pa) (ks : Lay) (cs : List Value) (M : Nat) : ACode → Bool
  | .skip | .exit _ | .ret => true
  | .seq a b => codeT T ks cs M a && codeT T ks cs M b
  | .cond x a b => freeOf T (regsOf x) && codeT T ks cs M a && codeT T ks cs M b
  | .block _ c | .loop c => codeT T ks cs M c
  | .region l => l.all (operT T ks cs M)
  | _ => false
section
variable {T : List Pa} {ks : Lay} {cs : List Value} {M : Nat} {r r' : Regs}
theorem RelT.eq (h : RelT T ks cs M r r') {l : List Pa} (hl : freeOf T l = true) : ∀ p ∈ l, Go.Ab.T.getP p r = Go.Ab.T.getP p r' := fun p hp => by
  have := List.all_eq_true.1 hl p hp
  exact (h.same p (inT_not (by simpa using this))).symm
theorem RelT.put (h : RelT T ks cs M r r') {d : Pa} {v v' : Value} (hq : ∀ c, lk d ks cs = some c → v = c) (hv : if inT T d = true then TV M v v' else v' = v) : RelT T ks cs M (Go.Ab.T.setP d v r) (Go.Ab.T.setP d v' r') where
  same p hp := by
    rw [Go.Ab.T.getP_setP, Go.Ab.T.getP_setP]
    by_cases e : p = d
    · subst e
      rw [if_neg (fun g => hp (inT_iff.1 g))] at hv
      rw [if_pos rfl, if_pos rfl, hv]
    · rw [if_neg e, if_neg e]; exact h.same p hp
  taint p hp w hw := by
    rw [Go.Ab.T.getP_setP] at hw ⊢
    by_cases e : p = d
    · subst e
      rw [if_pos rfl] at hw ⊢
      cases hw
      rw [if_pos (inT_iff.2 hp)] at hv
      exact ⟨v', rfl, hv⟩
    · rw [if_neg e] at hw ⊢; exact h.taint p hp w hw
  q p c hp := by
    refine ⟨fun w => ?_, (h.q p c hp).2⟩
    rw [Go.Ab.T.getP_setP]
    by_cases e : p = d
    · subst e
      rw [if_pos rfl]
      intro hw; cases hw
      exact hq c hp
    · rw [if_neg e]; exact (h.q p c hp).1 w
theorem RelT.putR (h : RelT T ks cs M r r') {d : Option Pa} {v v' : Value} (hq : ∀ p c, d = some p → lk p ks cs = some c → v = c) (hv : ∀ p, d = some p → if inT T p = true then TV M v v' else v' = v) : RelT T ks cs M (putR r d v) (putR r' d v') := by
  cases d with
  | none => exact h
  | some d => exact h.put (fun c => hq d c rfl) (hv d rfl)
theorem wantedV_eq {g : Option (Pa × Bool)} (h : ∀ p b, g = some (p, b) → Go.Ab.T.getP p r = Go.Ab.T.getP p r') : wantedV g r = wantedV g r' := by
  cases g with
  | none => rfl
  | some g => obtain ⟨p, b⟩ := g; unfold wantedV; simp only; rw [h p b rfl]
theorem conv_tv {a : Nat} {k : IntKind} (h : a < 256) (σ : St) : sConv .i64 (.int k (.ofNat a)) σ = some (.int .i64 (.ofNat a)) := by
  show some (Value.int .i64 (bif Nat.ble a I63 then .ofNat a else IntKind.wrap .i64 (.ofNat a))) = _
  have : Nat.ble a I63 = true := Nat.ble_eq_true_of_le (by unfold I63; omega)
  rw [this, cond_true]
theorem rem_i64 (a M : Nat) (σ : St) : sBin .rem (.int .i64 (.ofNat a)) (vi M) σ = if M = 0 then none else some (.int .i64 (.ofNat (a % M))) := by
  show rI (Op.intDiv .rem .i64 (.ofNat a) (.ofNat M)) = _
  unfold Op.intDiv
  by_cases h : M = 0
  · subst h; rfl
  · rw [if_neg h, if_neg (by intro e; exact h (Int.ofNat.inj e))]; rfl
theorem rem_tv {v v' w : Value} (h : TV M v v') (σ : St) (hv : sBin .rem v (vi M) σ = some w) : sBin .rem v' (vi M) σ = some w := by
  obtain ⟨k, a, a', rfl, rfl, hk, _, _, hm⟩ := h
  rcases hk with rfl | rfl
  · cases hv
  · rw [rem_i64] at hv ⊢
    rw [← hm]; exact hv
theorem TV.conv {v v' w : Value} (h : TV M v v') (σ : St) (hv : sConv .i64 v σ = some w) : ∃ w', sConv .i64 v' σ = some w' ∧ TV M w w' := by
  obtain ⟨k, a, a', rfl, rfl, _, h1, h2, hm⟩ := h
  rw [conv_tv h1] at hv
  cases hv
  exact ⟨_, conv_tv h2 σ, .i64, a, a', rfl, rfl, .inr rfl, h1, h2, hm⟩
theorem ev_known {x : Opd} {σ : St} : ∀ {v : Value}, ev x r σ = some v → ∀ p ∈ regsOf x, ∃ w, Go.Ab.T.getP p r = some w := by
  induction x with
  | reg p => intro v h q hq; simp only [regsOf, List.mem_singleton] at hq; subst hq; exact ⟨v, h⟩
  | const c => intro v _ q hq; cases hq
  | u k x ih =>
    intro v h q hq
    rw [ev_u] at h
    cases hx : ev x r σ with
    | none => rw [hx] at h; cases h
    | some a => exact ih hx q hq
  | b k x y ix iy =>
    intro v h q hq
    rw [ev_b] at h
    cases hx : ev x r σ with
    | none => rw [hx] at h; cases h
    | some a =>
      cases hy : ev y r σ with
      | none => rw [hx, hy] at h; cases h
      | some b =>
        rcases List.mem_append.1 hq with hq | hq
        · exact ix hx q hq
        · exact iy hy q hq
  | pick c x y ic ix iy =>
    intro v h q hq
    rw [ev_pick] at h
    cases hc : ev c r σ with
    | none => rw [hc] at h; cases h
    | some a =>
      cases hx : ev x r σ with
      | none => rw [hc, hx] at h; cases h
      | some b =>
        cases hy : ev y r σ with
        | none => rw [hc, hx, hy] at h; cases h
        | some d =>
          simp only [regsOf, List.mem_append] at hq
          rcases hq with hq | hq | hq
          · exact ic hc q hq
          · exact ix hx q hq
          · exact iy hy q hq
  | q k x a b c ix ia ib ic =>
    intro v h q hq
    rw [ev_q] at h
    cases hx : ev x r σ with
    | none => rw [hx] at h; cases h
    | some x' =>
      cases ha : ev a r σ with
      | none => rw [hx, ha] at h; cases h
      | some a' =>
        cases hb : ev b r σ with
        | none => rw [hx, ha, hb] at h; cases h
        | some b' =>
          cases hc : ev c r σ with
          | none => rw [hx, ha, hb, hc] at h; cases h
          | some c' =>
            simp only [regsOf, List.mem_append] at hq
            rcases hq with hq | hq | hq | hq
            · exact ix hx q hq
            · exact ia ha q hq
            · exact ib hb q hq
            · exact ic hc q hq
theorem RelT.const (h : RelT T ks cs M r r') {x : Opd} {c v : Value} {σ : St} (hc : constEx ks cs x c = true) (hv : ev x r σ = some v) : v = c := by
  unfold constEx at hc
  rw [Bool.and_eq_true, Bool.and_eq_true] at hc
  obtain ⟨⟨h1, h2⟩, h3⟩ := hc
  have e1 : ev x r σ = ev x (toR ks cs) σ := ev_regs fun p hp => by
    have := List.all_eq_true.1 h2 p hp
    obtain ⟨d, hd⟩ := Option.isSome_iff_exists.1 this
    obtain ⟨w, hw⟩ := ev_known hv p hp
    rw [toR_get, hd, hw, (h.q p d hd).1 w hw]
  have e2 : ev x (toR ks cs) σ = ev x (toR ks cs) ⟨.e, 0, 0⟩ := ev_heap (by simpa using h1)
  rw [← e2, ← e1, hv] at h3
  exact valEq_eq h3
theorem oper_taint (h : RelT T ks cs M r r') {o : AOper} (ho : operT T ks cs M o = true) {σ τ : St} {v : Value} (hk : OperK E K o r σ v τ) : ∃ v', OperK E K o r' σ v' τ ∧ RelT T ks cs M (putR r o.dst v) (putR r' o.dst v') := by
  unfold operT at ho
  rw [Bool.and_eq_true, Bool.or_eq_true] at ho
  obtain ⟨hq0, ho⟩ := ho
  have hq : ∀ p c, o.dst = some p → lk p ks cs = some c → v = c := by
    intro p c hd hl
    unfold dstT at hq0
    rw [hd] at hq0
    simp only [hl] at hq0
    obtain ⟨dst, guard, sl, op⟩ := o
    simp only at hq0
    split at hq0
    · rename_i x
      have hk' : fEx x r σ = .ok v τ := by
        rcases hk with ⟨k1, _⟩ | ⟨_, k2⟩
        · cases k1
        · exact k2
      obtain ⟨_, hx⟩ := ex_inv hk'
      exact h.const hq0 hx
    · cases hq0
  rcases ho with ho | ho
  · rw [Bool.and_eq_true] at ho
    obtain ⟨h1, h2⟩ := ho
    have he := h.eq h1
    have hg : wantedV o.guard r = wantedV o.guard r' := wantedV_eq fun p b e => he p (by unfold operRegsOf; rw [e]; simp)
    have hop : ∀ {σ τ : St} {v : Value}, OpK E K o.op r σ v τ → OpK E K o.op r' σ v τ := fun k => opK_regs (fun p hp => he p (List.mem_append_right _ hp)) k
    refine ⟨v, ?_, h.putR hq fun p e => by rw [e] at h2; rw [if_neg (by simpa using h2)]⟩
    rcases hk with ⟨k1, k2⟩ | ⟨k1, k2⟩
    · exact .inl ⟨hg ▸ k1, k2⟩
    · refine .inr ⟨hg ▸ k1, ?_⟩
      cases hs : o.sl with
      | false => rw [hs] at k2; exact hop k2
      | true => rw [hs] at k2; obtain ⟨τ', q1, q2⟩ := k2; exact ⟨τ', hop q1, q2⟩
  · obtain ⟨dst, guard, sl, op⟩ := o
    simp only at ho hq
    clear hq0
    split at ho
    · rename_i x d
      have hk' : fEx x r σ = .ok v τ := by
        rcases hk with ⟨k1, _⟩ | ⟨_, k2⟩
        · cases k1
        · exact k2
      obtain ⟨rfl, hx⟩ := ex_inv hk'
      have mk {w : Value} (hw : ev x r' σ = some w) : OperK E K ⟨some d, none, false, .ex x⟩ r' σ w σ := .inr ⟨rfl, by show fEx x r' σ = _; unfold fEx out; rw [hw]⟩
      unfold exT at ho
      split at ho
      · rename_i p
        rw [Bool.and_eq_true] at ho
        obtain ⟨w, h1, h2⟩ := h.taint p (inT_iff.1 ho.1) v hx
        exact ⟨w, mk h1, h.putR hq fun q e => by cases e; rw [if_pos ho.2]; exact h2⟩
      · rename_i p
        rw [Bool.and_eq_true] at ho
        rw [ev_u] at hx
        cases hp : Go.Ab.T.getP p r with
        | none => rw [show ev (.reg p) r σ = none from hp] at hx; cases hx
        | some a =>
          rw [show ev (.reg p) r σ = some a from hp] at hx
          obtain ⟨b, h1, h2⟩ := h.taint p (inT_iff.1 ho.1) a hp
          obtain ⟨w, h3, h4⟩ := h2.conv σ hx
          exact ⟨w, mk (by rw [ev_u, show ev (.reg p) r' σ = some b from h1]; exact h3), h.putR hq fun q e => by cases e; rw [if_pos ho.2]; exact h4⟩
      · rename_i p y
        rw [Bool.and_eq_true, Bool.and_eq_true] at ho
        obtain ⟨⟨ho1, ho2⟩, ho3⟩ := ho
        rw [ev_b] at hx
        cases hp : Go.Ab.T.getP p r with
        | none => rw [show ev (.reg p) r σ = none from hp] at hx; cases hx
        | some a =>
          rw [show ev (.reg p) r σ = some a from hp] at hx
          obtain ⟨b, h1, h2⟩ := h.taint p (inT_iff.1 ho1) a hp
          have hy : ev y r σ = some (vi M) ∧ ev y r' σ = some (vi M) := by
            unfold modOk at ho3
            split at ho3
            · rename_i m; rw [natBeq_iff.1 ho3]; exact ⟨rfl, rfl⟩
            · rename_i q
              split at ho3
              · rename_i m hl
                rw [natBeq_iff.1 ho3] at hl
                obtain ⟨g1, hn⟩ := h.q q _ hl
                cases hq' : Go.Ab.T.getP q r with
                | none => rw [show ev (.reg q) r σ = none from hq'] at hx; cases hx
                | some c =>
                  have := g1 c hq'
                  subst this
                  exact ⟨hq', (h.same q hn).trans hq'⟩
              · cases ho3
            · cases ho3
          rw [hy.1] at hx
          have hx' : sBin .rem a (vi M) σ = some v := hx
          refine ⟨v, mk (by rw [ev_b, show ev (.reg p) r' σ = some b from h1, hy.2]; exact rem_tv h2 σ hx'), h.putR hq fun q e => by cases e; rw [if_neg (by simpa using ho2)]⟩
      · cases ho
    · cases ho
theorem ops_taint : ∀ {l : List AOper} {r r' : Regs} {σ : St} {r₁ : Regs} {σ₁ : St}, RelT T ks cs M r r' → l.all (operT T ks cs M) = true → OpsK E K l r σ r₁ σ₁ → ∃ r₁', OpsK E K l r' σ r₁' σ₁ ∧ RelT T ks cs M r₁ r₁' := by
  intro l r r' σ r₁ σ₁ h ho k
  induction k generalizing r' with
  | nil r σ => exact ⟨r', .nil r' σ, h⟩
  | cons o l r σ v τ r₂ σ₂ k1 _ ih =>
    simp only [List.all_cons, Bool.and_eq_true] at ho
    obtain ⟨v', g1, g2⟩ := oper_taint h ho.1 k1
    obtain ⟨r₁', g3, g4⟩ := ih g2 ho.2
    exact ⟨r₁', .cons o l r' σ v' τ r₁' σ₂ g1 g3, g4⟩
/-- fewer registers -/
noncomputable def over (r₀ r' : Regs) : List Pa → Regs
  | [] => r₀
  | p :: l => match Go.Ab.T.getP p r₀, Go.Ab.T.getP p r' with
    | some _, some v => Go.Ab.T.setP p v (over r₀ r' l)
    | _, _ => over r₀ r' l
theorem over_get (r₀ r' : Regs) (q : Pa) : ∀ l : List Pa, (q ∉ l → Go.Ab.T.getP q (over r₀ r' l) = Go.Ab.T.getP q r₀) ∧ (q ∈ l → ∀ v w, Go.Ab.T.getP q r₀ = some v → Go.Ab.T.getP q r' = some w → Go.Ab.T.getP q (over r₀ r' l) = some w) ∧ (Go.Ab.T.getP q r₀ = none → Go.Ab.T.getP q (over r₀ r' l) = none) := by
  intro l
  induction l with
  | nil => exact ⟨fun _ => rfl, fun h => (by cases h), fun h => h⟩
  | cons p l ih =>
    obtain ⟨i1, i2, i3⟩ := ih
    unfold over
    cases h0 : Go.Ab.T.getP p r₀ with
    | none =>
      refine ⟨fun hn => i1 fun g => hn (List.mem_cons_of_mem _ g), fun hm v w h1 h2 => ?_, i3⟩
      rcases List.mem_cons.1 hm with rfl | hm
      · rw [h0] at h1; cases h1
      · exact i2 hm v w h1 h2
    | some x =>
      cases h1 : Go.Ab.T.getP p r' with
      | none =>
        refine ⟨fun hn => i1 fun g => hn (List.mem_cons_of_mem _ g), fun hm v w h2 h3 => ?_, i3⟩
        rcases List.mem_cons.1 hm with rfl | hm
        · rw [h1] at h3; cases h3
        · exact i2 hm v w h2 h3
      | some y =>
        simp only
        rw [Go.Ab.T.getP_setP]
        by_cases e : q = p
        · subst e
          rw [if_pos rfl]
          refine ⟨fun hn => absurd (List.mem_cons_self ..) hn, fun _ v w _ h3 => ?_, fun h => ?_⟩
          · rw [h1] at h3; exact h3
          · rw [h0] at h; cases h
        · rw [if_neg e]
          refine ⟨fun hn => i1 fun g => hn (List.mem_cons_of_mem _ g), fun hm v w h2 h3 => ?_, i3⟩
          rcases List.mem_cons.1 hm with rfl | hm
          · exact absurd rfl e
          · exact i2 hm v w h2 h3
theorem big_taint {X : ACode} {r r' : Regs} {σ : St} {x : Ex} {r₁ : Regs} {σ₁ : St} (h : RelT T ks cs M r r') (hc : codeT T ks cs M X = true) (k : Big E K X r σ x r₁ σ₁) : ∃ r₁', Big E K X r' σ x r₁' σ₁ ∧ RelT T ks cs M r₁ r₁' := by
  induction k generalizing r' with
  | skip r σ => exact ⟨r', .skip r' σ, h⟩
  | exit id r σ => exact ⟨r', .exit id r' σ, h⟩
  | ret r σ => exact ⟨r', .ret r' σ, h⟩
  | seqN a b r σ r₂ σ₂ x r₃ σ₃ _ _ i1 i2 =>
    simp only [codeT, Bool.and_eq_true] at hc
    obtain ⟨r₂', g1, g2⟩ := i1 h hc.1
    obtain ⟨r₃', g3, g4⟩ := i2 g2 hc.2
    exact ⟨r₃', .seqN a b r' σ r₂' σ₂ x r₃' σ₃ g1 g3, g4⟩
  | seqX a b r σ x r₂ σ₂ _ hx i1 =>
    simp only [codeT, Bool.and_eq_true] at hc
    obtain ⟨r₂', g1, g2⟩ := i1 h hc.1
    exact ⟨r₂', .seqX a b r' σ x r₂' σ₂ g1 hx, g2⟩
  | cond c a b t r σ x r₂ σ₂ hx _ i1 =>
    simp only [codeT, Bool.and_eq_true] at hc
    obtain ⟨r₂', g1, g2⟩ := i1 h (by cases t; exact hc.2; exact hc.1.2)
    exact ⟨r₂', .cond c a b t r' σ x r₂' σ₂ (by rw [← ev_regs (h.eq hc.1.1)]; exact hx) g1, g2⟩
  | blockE id c r σ r₂ σ₂ _ i1 =>
    obtain ⟨r₂', g1, g2⟩ := i1 h hc
    exact ⟨r₂', .blockE id c r' σ r₂' σ₂ g1, g2⟩
  | blockX id c r σ x r₂ σ₂ _ hx i1 =>
    obtain ⟨r₂', g1, g2⟩ := i1 h hc
    exact ⟨r₂', .blockX id c r' σ x r₂' σ₂ g1 hx, g2⟩
  | loopN c r σ r₂ σ₂ x r₃ σ₃ _ _ i1 i2 =>
    obtain ⟨r₂', g1, g2⟩ := i1 h hc
    obtain ⟨r₃', g3, g4⟩ := i2 g2 hc
    exact ⟨r₃', .loopN c r' σ r₂' σ₂ x r₃' σ₃ g1 g3, g4⟩
  | loopX c r σ x r₂ σ₂ _ hx i1 =>
    obtain ⟨r₂', g1, g2⟩ := i1 h hc
    exact ⟨r₂', .loopX c r' σ x r₂' σ₂ g1 hx, g2⟩
  | region l r σ r₂ σ₂ k1 =>
    obtain ⟨r₂', g1, g2⟩ := ops_taint h hc k1
    exact ⟨r₂', .region l r' σ r₂' σ₂ g1, g2⟩
  | draw l ps r σ r₂ σ₂ k1 => cases hc
  | range f ps a b r σ g fs cap v τ r₂ ps₂ a₂ b₂ res h1 h2 h3 h4 => cases hc
  | weak X r₀ r σ x r₂ σ₂ hle _ i1 =>
    have hr : RelT T ks cs M r₀ (over r₀ r' T) := by
      refine ⟨fun p hp => (over_get r₀ r' p T).1 hp, fun p hp v hv => ?_, fun p c hp => ⟨fun v hv => (h.q p c hp).1 v (hle p v hv), (h.q p c hp).2⟩⟩
      obtain ⟨v', g1, g2⟩ := h.taint p hp v (hle p v hv)
      exact ⟨v', (over_get r₀ r' p T).2.1 hp v v' hv g1, g2⟩
    obtain ⟨r₂', g1, g2⟩ := i1 hr hc
    refine ⟨r₂', .weak X (over r₀ r' T) r' σ x r₂' σ₂ (fun p v hv => ?_) g1, g2⟩
    by_cases hp : p ∈ T
    · cases h0 : Go.Ab.T.getP p r₀ with
      | none => rw [(over_get r₀ r' p T).2.2 h0] at hv; cases hv
      | some w =>
        obtain ⟨w', q1, q2⟩ := h.taint p hp w (hle p w h0)
        rw [(over_get r₀ r' p T).2.1 hp w w' h0 q1] at hv
        cases hv; exact q1
    · rw [(over_get r₀ r' p T).1 hp] at hv
      rw [h.same p hp]; exact hle p v hv
theorem results_same {σ : St} (h : ∀ p, p ∉ T → Go.Ab.T.getP p r' = Go.Ab.T.getP p r) : ∀ {rs : Res} {vs : List Value}, freeOf T (rs.map (·.1)) = true → results r σ rs = some vs → results r' σ rs = some vs := by
  intro rs
  induction rs with
  | nil => intro vs _ hv; exact hv
  | cons q rs ih =>
    intro vs hf hv
    obtain ⟨p, t⟩ := q
    simp only [freeOf, List.map_cons, List.all_cons, Bool.and_eq_true] at hf
    have hp : Go.Ab.T.getP p r' = Go.Ab.T.getP p r := h p (inT_not (by simpa using hf.1))
    cases t with
    | none =>
      unfold results at hv ⊢
      rw [hp]
      split at hv
      · rename_i v l h1 h2
        rw [h1, ih hf.2 h2]; exact hv
      · cases hv
    | some t =>
      unfold results at hv ⊢
      rw [hp]
      split at hv
      · rename_i b off l h1 h2
        rw [h1, ih hf.2 h2]; exact hv
      · cases hv
end
/-- a region without calls is a reckoning -/
def plainO (o : AOper) : Bool := !isCall o.op && !o.sl && o.guard.isNone
theorem ops_reckon : ∀ {l : List AOper} {r : Regs} {σ : St} {r₁ : Regs} {σ₁ : St}, l.all plainO = true → OpsK E K l r σ r₁ σ₁ → doOps E (fun _ _ _ => .fail) l r σ = .mk .normal r₁ σ₁ := by
  intro l r σ r₁ σ₁ ho k
  induction k with
  | nil r σ => rfl
  | cons o l r σ v τ r₂ σ₂ k1 _ ih =>
    simp only [List.all_cons, Bool.and_eq_true] at ho
    obtain ⟨dst, guard, sl, op⟩ := o
    simp only [plainO, Bool.and_eq_true, Bool.not_eq_true', Option.isNone_iff_eq_none] at ho
    obtain ⟨⟨⟨h1, h2⟩, h3⟩, h4⟩ := ho
    subst h2 h3
    have hd : doOp E (fun _ _ _ => .fail) op r σ = .ok v τ := by
      rcases k1 with ⟨q, _⟩ | ⟨_, q⟩
      · cases q
      · exact (DR.opK_do h1).1 q
    rw [doOps_cons]
    have : runOper E (fun _ _ _ => .fail) ⟨dst, none, false, op⟩ r σ = .ok v τ := hd
    rw [this]
    exact ih (by simpa using h4)
end
end Go.Ab
namespace Go.Ab
open Go

section
variable {P : Program} {E : Env} {F : T SFun} {K : Kt}
/-- a function has been run on these arguments -/
def Ran (E : Env) (K : Kt) (af : AFun) (vs : List Value) (σ : St) (us : List Value) (τ : St) : Prop :=
  ∃ r x r', setParams .e af.params vs = some r ∧ Big E K af.code r σ x r' τ ∧ (x = .normal ∨ x = .ret) ∧ results r' τ af.results = some us
theorem params_nodup {fn : Func} {c : Code} {af : AFun} (h : flat E fn c = some af) : af.params.Nodup := by
  unfold flat at h
  split at h
  · cases hb : Nat.ble (fn.params.size + fn.nfree) fn.ntmps with
    | false => rw [hb] at h; cases h
    | true => rw [hb, cond_true] at h; cases h; exact paths_nodup _
  · cases h
theorem ran_of_run (hF : FOk P E) (hS : SOk E F) {n g : Nat} {vs : List Value} {σ τ : St} {v : Value} (h : callS E F (n + 1) (fnV g) vs σ = .ok v τ) :
    ∃ af us, T.get E.funcs g = some af ∧ Ran E (KC (callS E F n)) af vs σ us τ ∧ v = resV us := by
  have h' : (match T.get F g with
    | some s => s (callS E F n) n ((#[] : Array Value).toList ++ (vs ++ (#[] : Array Value).toList)) σ
    | none => .fail) = Out.ok v τ := h
  split at h'
  · rename_i s hs
    obtain ⟨c, ps, rs, h1, rfl⟩ := hS.fn g s hs
    obtain ⟨fn, cc, _, _, _, h4⟩ := hF.fn g _ h1
    have e : ((#[] : Array Value).toList ++ (vs ++ (#[] : Array Value).toList)) = vs := by simp
    rw [e] at h'
    obtain ⟨r, x, r', us, k1, k2, k3, k4, rfl⟩ := denF_inv (params_nodup h4) h'
    exact ⟨_, us, h1, ⟨r, x, r', k1, k2, k3, k4⟩, rfl⟩
  · cases h'
theorem Ran.taint {af : AFun} {vs vs₂ us : List Value} {σ τ : St} (h : Ran E K af vs σ us τ) {T : List Pa} {ks : Lay} {cs : List Value} {M : Nat}
    (h0 : ∀ r, setParams .e af.params vs = some r → ∃ r₂, setParams .e af.params vs₂ = some r₂ ∧ RelT T ks cs M r r₂) (hc : codeT T ks cs M af.code = true) (hf : freeOf T (af.results.map (·.1)) = true) : Ran E K af vs₂ σ us τ := by
  obtain ⟨r, x, r', h1, h2, h3, h4⟩ := h
  obtain ⟨r₂, g1, g2⟩ := h0 r h1
  obtain ⟨r₂', g3, g4⟩ := big_taint g2 hc h2
  exact ⟨r₂, x, r₂', g1, g3, h3, results_same g4.same hf h4⟩
theorem Ran.told (hE : EOk P E) (hF : FOk P E) (hK : KOk P E K) {f : FuncId} {af : AFun} (haf : T.get E.funcs f = some af) {vs us : List Value} {σ τ : St} (h : Ran E K af vs σ us τ) {ι : Inj} {w : World} {vs' : List Value} (hr : Rel P E ι σ w) (hv : VRels ι vs vs') :
    Calls P f vs'.toArray w fun e w' => ∃ v', e = .returned v' ∧ Post P E ι σ w (resV us) τ v' w' := by
  obtain ⟨r, x, r', h1, h2, h3, h4⟩ := h
  have hD : ∀ K, KOk P E K → DrawOk P E K := fun _ hK => draw_ok hE hK
  have g := enter_big hE hF hK (hD _ hK) (range_ok hE hF hK) haf h1 h2 h3 h4 hr hv
  obtain ⟨fn, c, k1, k2, k3, _⟩ := hF.fn f af haf
  rw [callFunc_enter k1 k2 k3] at g
  have g3 : CallsIn Fence.wide 0 P f vs'.toArray w (Gives (Post P E ι σ w (resV us) τ)) := g
  refine (callsIn_wide.1 g3).mono fun e w' ge => ?_
  cases e with
  | returned v' => exact ⟨v', rfl, ge⟩
  | panicked _ => exact ge.elim
  | outgrown => exact ge.elim
/-- two parameters, of which the second one may differ in all but its rest -/
theorem start2 {p q : Pa} {v w w' : Value} {B : List Pa} {ks : Lay} {cs : List Value} {M : Nat} (hpq : paEq q p = false) (ht : TV M w w') (hq : inT B q = true) (hp : inT B p = false) (hk : ks.all (fun x => !inT B x) = true) (hl : ∀ c, lk p ks cs = some c → v = c)
    (r : Regs) (h : setParams .e [p, q] [v, w] = some r) : ∃ r₂, setParams .e [p, q] [v, w'] = some r₂ ∧ RelT B ks cs M r r₂ := by
  cases h
  refine ⟨_, rfl, fun x hx => ?_, fun x hx u hu => ?_, fun x c hc => ⟨fun u hu => ?_, ?_⟩⟩
  · have hne : x ≠ q := fun e => hx (by rw [e]; exact inT_iff.1 hq)
    rw [T.getP_setP_ne _ _ hne, T.getP_setP_ne _ _ hne]
  · rw [T.getP_setP] at hu ⊢
    by_cases e : x = q
    · rw [if_pos e] at hu ⊢; cases hu; exact ⟨w', rfl, ht⟩
    · rw [if_neg e, T.getP_setP, if_neg (fun e : x = p => inT_not hp (by rw [← e]; exact hx)), T.getP_e] at hu; cases hu
  · have hxT : x ∉ B := by
      have hm : x ∈ ks := by
        have : ∀ (ks : Lay) (cs : List Value), lk x ks cs = some c → x ∈ ks := by
          intro ks
          induction ks with
          | nil => intro cs h; cases cs <;> cases h
          | cons y ks ih =>
            intro cs h
            cases cs with
            | nil => cases h
            | cons z cs =>
              have h' : (bif paEq x y then some z else lk x ks cs) = some c := h
              cases hy : paEq x y with
              | true => rw [(paEq_iff x y).1 hy]; exact List.mem_cons_self ..
              | false => rw [hy, cond_false] at h'; exact List.mem_cons_of_mem _ (ih cs h')
        exact this ks cs hc
      have := List.all_eq_true.1 hk x hm
      exact inT_not (by simpa using this)
    rw [T.getP_setP_ne _ _ (fun e : x = q => hxT (by rw [e]; exact inT_iff.1 hq)), T.getP_setP] at hu
    by_cases e : x = p
    · subst e
      rw [if_pos rfl] at hu; cases hu
      exact hl c hc
    · rw [if_neg e, T.getP_e] at hu; cases hu
  · intro hxT
    have : ∀ (ks : Lay) (cs : List Value), lk x ks cs = some c → x ∈ ks := by
      intro ks
      induction ks with
      | nil => intro cs h; cases cs <;> cases h
      | cons y ks ih =>
        intro cs h
        cases cs with
        | nil => cases h
        | cons z cs =>
          have h' : (bif paEq x y then some z else lk x ks cs) = some c := h
          cases hy : paEq x y with
          | true => rw [(paEq_iff x y).1 hy]; exact List.mem_cons_self ..
          | false => rw [hy, cond_false] at h'; exact List.mem_cons_of_mem _ (ih cs h')
    have h2 := List.all_eq_true.1 hk x (this ks cs hc)
    rw [inT_iff.2 hxT] at h2; cases h2
/-- the first one -/
theorem start1 {p q : Pa} {v v' w : Value} {B : List Pa} {M : Nat} (hpq : paEq q p = false) (ht : TV M v v') (hp : inT B p = true) (hq : inT B q = false)
    (r : Regs) (h : setParams .e [p, q] [v, w] = some r) : ∃ r₂, setParams .e [p, q] [v', w] = some r₂ ∧ RelT B [] [] M r r₂ := by
  cases h
  have hne : p ≠ q := fun e => inT_not hq (e ▸ inT_iff.1 hp)
  refine ⟨_, rfl, fun x hx => ?_, fun x hx u hu => ?_, fun x c hc => by cases hc⟩
  · have hxp : x ≠ p := fun e => hx (by rw [e]; exact inT_iff.1 hp)
    by_cases e : x = q
    · subst e; rw [T.getP_setP_self, T.getP_setP_self]
    · rw [T.getP_setP_ne _ _ e, T.getP_setP_ne _ _ e, T.getP_setP_ne _ _ hxp, T.getP_setP_ne _ _ hxp]
  · have hxq : x ≠ q := fun e => inT_not hq (by rw [← e]; exact hx)
    rw [T.getP_setP_ne _ _ hxq, T.getP_setP] at hu ⊢
    by_cases e : x = p
    · rw [if_pos e] at hu ⊢; cases hu; exact ⟨v', rfl, ht⟩
    · rw [if_neg e, T.getP_e] at hu; cases hu
end
/-- what a run without anything handed over leaves: all as it was, and more -/
theorem Ext.below {ι κ : Inj} {σ τ : St} {w w' : World} (h : Ext ι σ w κ τ w') (hw : ∀ A, writable (σ.heap.get A) = false) : w'.os = w.os ∧ w'.tape = w.tape ∧ w'.output = w.output ∧ w.heap.size ≤ w'.heap.size ∧ ∀ k, k < w.heap.size → w'.heap[k]? = w.heap[k]? :=
  ⟨h.os, h.tape, h.output, h.wsize, fun k hk => h.frame k hk fun A L _ _ hwr => by rw [hw A] at hwr; cases hwr⟩
end Go.Ab
