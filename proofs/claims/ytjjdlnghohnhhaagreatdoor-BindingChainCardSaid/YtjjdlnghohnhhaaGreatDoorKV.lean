/- The law at the program's own heap: returns true, its arguments as before. Condition: the package-level variable that the row lists reads as the text lays it (the card ties it). -/
import Derived.Test.YtjjdlnghohnhhaaGreatDoorCards
import Derived.Test.YtjjdlnghohnhhaaGreatDoorTie
import Derived.ProofKit
import Derived.LaidMore
import Derived.OpenShut
import Derived.Stop.Joined
import Derived.SevenTiedAt
import Derived.Below
import Derived.ChangeSame
import Derived.Test.YtjjdlnghohnhhaaGreatDoorKN
namespace Go.Proofs.YtjjdlnghohnhhaaGreatDoor
open Go Go.ChangeShapes Go.WideShapes Go.ChangeAt Go.RowKit

section
variable {H : Type} {enc : TypeId × Value → H} {P : Program}
theorem post_below {f : Func} {s : ChangeSpec} {apart fresh handsOn again : Bool} {W W' : World} {args : Array Value} {v : Value} {ds gs : List (DataW H)} {before pa pv : List MemPlace}
    (hW : DataW.Whole enc P f.params.toList s.vars apart W args.toList ds gs before)
    (hres : ∀ (b : Nat) (sp : Nat → Bool) (hd : Bool), DataW.TrodAll enc P W' b sp hd f.resultTypes.toList (v.resultList f.resultTypes.size) (s.fn H (ds ++ gs)).results [])
    (hargs : ∀ sp : Nat → Bool, (∀ p ∈ before, sp p.block = true) → DataW.TrodAll enc P W' 0 sp true f.params.toList args.toList (s.fn H (ds ++ gs)).args pa)
    (hvars : ∀ sp : Nat → Bool, (∀ p ∈ before, sp p.block = true) → DataW.TrodVars enc P W' sp s.vars (s.fn H (ds ++ gs)).vars pv)
    (hps : before = pa ++ pv) (hb : Below W.heap.size W W')
    (hok : ∀ (j : Nat) (t : TypeId) (r : Value), f.resultTypes[j]? = some t → (v.resultList f.resultTypes.size)[j]? = some r → Value.okWide P W' .any 0 t r) :
    s.post enc P f apart fresh handsOn again W args v W' := by
  have hlt : ∀ p ∈ before, p.block < W.heap.size := fun p hp => hW.lt p hp
  have hold : ∀ p ∈ before, (fun b => decide (b < W.heap.size)) p.block = true := fun p hp => by simpa using hlt p hp
  refine ⟨ds, gs, before, [], pa, pv, hW, hres _ _ _, hargs _ hold, hvars _ hold, World.keptBut_mono (fun p hp => ⟨hp, ?_⟩) (hb.frame (· ∈ before)), fun _ => ?_⟩
  · rw [hps, List.mem_append] at hp
    exact Or.inr hp
  · obtain ⟨_, _, _, _, _, hz, hn⟩ := hW
    refine ⟨hok, _, _, ([] ++ pa) ++ pv, ⟨[] ++ pa, pv, trodAll_append (hargs _ (fun _ _ => rfl)) (hres _ _ _), hvars _ (fun _ _ => rfl), rfl, ?_, ?_⟩, ?_⟩
    · intro b off hp
      have hin : MemPlace.cell b off ∈ before := by rw [hps]; simpa using hp
      rw [hb.frozen (hlt _ hin)]
      exact hz b off hin
    · intro ha
      have := hn ha
      rw [hps] at this
      simpa using this
    · intro p hp _
      rw [hps]
      simpa using hp
end

theorem own : ownKnob Tryz.prog.godebug = none := by kernel_rfl
theorem gOff : Tryz.prog.globalNamed "bringup/clock.off" = some 0 := by kernel_rfl
abbrev laidL : List (String × DataW Unit) := [("bringup/clock.off", Rows.laid_bringup_clock_off)]
theorem tOff : (Tryz.prog.globals[0]?).map (·.type) = some 198 := by kernel_rfl
theorem c198 : Tryz.prog.cellsOf 198 = 2 := by kernel_rfl
theorem c3 : Tryz.prog.cellsOf 3 = 1 := by kernel_rfl
set_option maxRecDepth 100000 in
/-- what the condition gives: the variable's two cells -/
theorem of_laid {W : World} (h : laidMetH Tryz.prog laidL W) : ∃ e fr, W.heap[0]? = some (.cells #[.int .i64 0, .int .i64 1] e fr) := by
  rw [MakeChecks.laidMetH_plain _ _ _ (by kernel_rfl)] at h
  obtain ⟨ps, ⟨g0, t0, cs0, f0, p0, q0, hg0, ht0, hv0, hd0, _, _⟩, _, _⟩ := h
  obtain rfl := Option.some.inj (gOff.symm.trans hg0)
  obtain rfl := Option.some.inj (tOff.symm.trans ht0)
  obtain ⟨y0, y1, m, hx, hl, h0, h1⟩ := trod_struct2 Tryz.underlying198 hd0
  obtain ⟨a, e1, e2, _⟩ := DataW.trod_int Tryz.underlying3 h0
  obtain ⟨b, e3, e4, _⟩ := DataW.trod_int Tryz.underlying3 h1
  rw [c198] at hl
  rw [c3] at e1 e3
  subst e2 e4
  simp only [Rows.laid_bringup_clock_off, Prod.mk.injEq, DataW.agg.injEq, List.cons.injEq, DataW.lit.injEq, Lit.int.injEq, true_and, and_true] at hx
  obtain ⟨⟨ha, hb⟩, _⟩ := hx
  have hcs : cs0 = #[.int .i64 0, .int .i64 1] := by
    obtain ⟨l⟩ := cs0
    match l, hl with
    | [x, y], _ =>
      simp at e1 e3
      rw [e1, e3, ← ha, ← hb]
  simp only [World.var?, gOff, Option.bind_some] at hv0
  split at hv0
  · rename_i c t fr hc
    cases hv0
    exact ⟨t, fr, by rw [hc, hcs]⟩
  · cases hv0

/-- The door's own heap meets the condition. -/
theorem door_met (os : Os) (args : Array Value) : laidMetH Tryz.prog laidL ((World.doorLaid Tryz.prog 400 os).forCall (fun _ _ => 0) ⟨#[], args, []⟩).memory :=
  laidMetH_of_parts3 (fuel := 8) (laidMet_of_run' 8 (by kernel_rfl) (by kernel_rfl)) (by kernel_rfl) (by kernel_rfl)

theorem lift_int {k : IntKind} {a : Int} (h : (Lit.int k a).wf = true) (hk : k = .u8) : ∃ n : Nat, a = .ofNat n ∧ n < 256 := by
  subst hk
  have h' : 0 ≤ a ∧ a < 256 := by
    have hb : (0 : Int) ≤ a ∧ a ≤ 255 := by
      have e1 : IntKind.u8.min = 0 := by decide
      have e2 : IntKind.u8.max = 255 := by decide
      simp only [Lit.wf, Bool.and_eq_true, decide_eq_true_eq, e1, e2] at h
      exact h
    omega
  obtain ⟨n, rfl⟩ := Int.eq_ofNat_of_zero_le h'.1
  exact ⟨n, rfl, by have := h'.2; omega⟩

set_option maxRecDepth 100000 in
theorem lifted (os : Os) (started : os.Started) (H : Type) (enc : TypeId × Value → H) :
    ReturnsInHanded {} Tryz.checked os 3 .any (fun w args => (Rows.bindingChainSpec.pre enc Tryz.prog Tryz.f3 [] false w args ∧ laidMetH Tryz.prog laidL w) ∧ sizedMet enc Tryz.prog Tryz.f3 (OpenSpec.ofChange Rows.bindingChainSpec) false w args)
      (Rows.bindingChainSpec.post enc Tryz.prog Tryz.f3 false true false false) := by
  refine returnsInHanded_of_change_and (C := Tryz.checked) (X := fun w _ => laidMetH Tryz.prog laidL w) (fun _ _ _ hh h => h.of_heap hh) own started (by kernel_rfl) Tryz.func3
    (ChangeSpec.witness_shaped (enc := enc) (C := Tryz.checked) (os := os) (X := fun w _ => laidMetH Tryz.prog laidL w) false (World.doorLaid Tryz.prog 400 os) #[.int .u8 0, .int .u8 0] 8 rfl (World.shaped_of_RefB (by kernel_rfl) (by kernel_rfl)) (by kernel_rfl) (by kernel_rfl) (by kernel_rfl) (door_met os _)) ?_
  intro W base args ds gs before hval0 hW _ _ hL _
  have hval : ∀ (j : Nat) t v, Tryz.f3.params[j]? = some t → args[j]? = some v → Value.okWide Tryz.prog W .any base t v := hval0
  have hW' := hW
  obtain ⟨p, q, hA0, hV, rfl, hfz, hnd⟩ := hW
  have hA : DataW.TrodAll enc Tryz.prog W 0 (fun _ => true) true Tryz.f3.params.toList args.toList ds p := hA0
  rw [Tryz.params3] at hA hval
  obtain ⟨v0, v1, d0, d1, p0, p1, rfl, rfl, rfl, h0, h1⟩ := trodAll_two hA
  obtain ⟨rfl, rfl⟩ := trodVars_none hV
  obtain ⟨a, rfl, rfl, rfl, wa⟩ := open_int Tryz.underlying5 (hval 0 5 v0 rfl rfl) h0
  obtain ⟨b, rfl, rfl, rfl, wb⟩ := open_int Tryz.underlying5 (hval 1 5 v1 rfl rfl) h1
  obtain ⟨e0, fr0, hheap⟩ := of_laid hL
  clear hA0 hval0
  simp only [List.append_nil] at hW'
  have wa' := wa
  have wb' := wb
  obtain ⟨n, rfl, hn⟩ := lift_int wa' rfl
  obtain ⟨f, rfl, hf⟩ := lift_int wb' rfl
  refine (Go.Ab.chain_calls n f hn hf (Go.Ab.rel_start hheap)).mono fun e W' ⟨he, h1, h2, h3, h4, h5⟩ => ?_
  subst he
  exact ⟨_, rfl, post_below (pa := []) (pv := []) hW' (fun _ _ _ => trodAll_mk1 (shut_bool Tryz.underlying4 _)) (fun sp _ => trodAll_mk2 (shut_int Tryz.underlying5 wa) (shut_int Tryz.underlying5 wb)) (fun _ _ => rfl) rfl
    ⟨h1, h2, h3, h4, h5⟩ (ok_one (by kernel_rfl) rfl (okWide_bool_mk Tryz.underlying4 _))⟩
end Go.Proofs.YtjjdlnghohnhhaaGreatDoor
