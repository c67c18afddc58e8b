/- The law at all arguments, out of the runs. No condition. -/
import Derived.Test.YtjjdlnghohnhhaaGreatDoorKM
import Derived.Test.YtjjdlnghohnhhaaGreatDoorKR0
import Derived.Test.YtjjdlnghohnhhaaGreatDoorKR1
import Derived.Test.YtjjdlnghohnhhaaGreatDoorKR2
import Derived.Test.YtjjdlnghohnhhaaGreatDoorKR3
import Derived.Test.YtjjdlnghohnhhaaGreatDoorKR4
import Derived.Test.YtjjdlnghohnhhaaGreatDoorKR5
import Derived.Test.YtjjdlnghohnhhaaGreatDoorKR6
import Derived.Test.YtjjdlnghohnhhaaGreatDoorKR7
import Derived.Test.YtjjdlnghohnhhaaGreatDoorKR8
set_option maxRecDepth 100000
set_option maxHeartbeats 0
namespace Go.Ab
open Go Go.Proofs
/- ------------------------------------------------ the chain -/
def tF : List Pa := [path 1, path 34, path 35, path 119, path 120]
def tN : List Pa := [path 0, path 21, path 22]
def ksC : Lay := [path 0, path 21, path 22, path 23, path 24, path 5, path 36, path 121]
def csC (k : Nat) : List Value := [.int .u8 (.ofNat k), .int .u8 (.ofNat k), .int .i64 (.ofNat k), vi k, vi (k + 1), vi (k + 1), vi (k + 1), vi (k + 1)]
theorem par3 : af3.params = [path 0, path 1] := by kernel_rfl
theorem res3 : af3.results = [(path 4, none)] := by kernel_rfl
theorem get3 : T.get EE.funcs 3 = some af3 := by kernel_rfl
theorem ctN : codeT tN [] [] 8 af3.code = true := by kernel_rfl
theorem ct0 : codeT tF ksC (csC (nat_lit 0)) (nat_lit 1) af3.code = true := by kernel_rfl
theorem ct1 : codeT tF ksC (csC (nat_lit 1)) (nat_lit 2) af3.code = true := by kernel_rfl
theorem ct2 : codeT tF ksC (csC (nat_lit 2)) (nat_lit 3) af3.code = true := by kernel_rfl
theorem ct3 : codeT tF ksC (csC (nat_lit 3)) (nat_lit 4) af3.code = true := by kernel_rfl
theorem ct4 : codeT tF ksC (csC (nat_lit 4)) (nat_lit 5) af3.code = true := by kernel_rfl
theorem ct5 : codeT tF ksC (csC (nat_lit 5)) (nat_lit 6) af3.code = true := by kernel_rfl
theorem ct6 : codeT tF ksC (csC (nat_lit 6)) (nat_lit 7) af3.code = true := by kernel_rfl
theorem ct7 : codeT tF ksC (csC (nat_lit 7)) (nat_lit 8) af3.code = true := by kernel_rfl
theorem ran_of_isT {k r : Nat} (h : isT (callS EE FF (nat_lit 100001) (fnV (nat_lit 3)) [.int .u8 (.ofNat k), .int .u8 (.ofNat r)] g0) = true) :
    ∃ us τ, Ran EE (KC (callS EE FF 100000)) af3 [.int .u8 (.ofNat k), .int .u8 (.ofNat r)] g0 us τ ∧ resV us = .bool true := by
  generalize ho : callS EE FF (nat_lit 100001) (fnV (nat_lit 3)) [.int .u8 (.ofNat k), .int .u8 (.ofNat r)] g0 = o at h
  cases o with
  | fail => cases h
  | ok v τ =>
    cases v with
    | bool b =>
      have hb : b = true := h
      subst hb
      obtain ⟨af, us, h1, h2, h3⟩ := ran_of_run hF hS (n := 100000) ho
      rw [get3] at h1; cases h1
      exact ⟨us, τ, h2, h3.symm⟩
    | _ => cases h
theorem chain_one {k n f : Nat} (hk : k < 8) (hn : n < 256) (hf : f < 256) (hnk : n % 8 = k) (hc : codeT tF ksC (csC k) (k + 1) af3.code = true)
    (h : isT (callS EE FF (nat_lit 100001) (fnV (nat_lit 3)) [.int .u8 (.ofNat k), .int .u8 (.ofNat (f % (k + 1)))] g0) = true) :
    ∃ us τ, Ran EE (KC (callS EE FF 100000)) af3 [.int .u8 (.ofNat n), .int .u8 (.ofNat f)] g0 us τ ∧ resV us = .bool true := by
  obtain ⟨us, τ, h1, h2⟩ := ran_of_isT h
  have hlt : f % (k + 1) < k + 1 := Nat.mod_lt _ (by omega)
  have t1 : TV (k + 1) (.int .u8 (.ofNat (f % (k + 1)))) (.int .u8 (.ofNat f)) := ⟨.u8, f % (k + 1), f, rfl, rfl, .inl rfl, by omega, hf, Nat.mod_mod _ _⟩
  have t2 : TV 8 (.int .u8 (.ofNat k)) (.int .u8 (.ofNat n)) := ⟨.u8, k, n, rfl, rfl, .inl rfl, by omega, hn, by rw [← hnk]; exact Nat.mod_mod _ _⟩
  have r1 : Ran EE (KC (callS EE FF 100000)) af3 [.int .u8 (.ofNat k), .int .u8 (.ofNat f)] g0 us τ := h1.taint (T := tF) (ks := ksC) (cs := csC k) (M := k + 1)
    (fun r hr => by
      rw [par3] at hr ⊢
      refine start2 (by decide) t1 (by decide) (by decide) (by decide) (fun c hc => ?_) r hr
      have : lk (path 0) ksC (csC k) = some (.int .u8 (.ofNat k)) := rfl
      rw [this] at hc; exact Option.some.inj hc) hc (by rw [res3]; decide)
  have r2 : Ran EE (KC (callS EE FF 100000)) af3 [.int .u8 (.ofNat n), .int .u8 (.ofNat f)] g0 us τ := r1.taint (T := tN) (ks := []) (cs := []) (M := 8)
    (fun r hr => by
      rw [par3] at hr ⊢
      exact start1 (by decide) t2 (by decide) (by decide) r hr) ctN (by rw [res3]; decide)
  exact ⟨us, τ, r2, h2⟩
theorem chain0 (f : Nat) : isT (callS EE FF (nat_lit 100001) (fnV (nat_lit 3)) [.int .u8 (.ofNat 0), .int .u8 (.ofNat (f % 1))] g0) = true := by
  have hlt : f % 1 < 1 := Nat.mod_lt _ (by decide)
  generalize f % 1 = r at hlt
  match r, hlt with
  | 0, _ => exact run_0_0
  | r + 1, h => omega
theorem chain1 (f : Nat) : isT (callS EE FF (nat_lit 100001) (fnV (nat_lit 3)) [.int .u8 (.ofNat 1), .int .u8 (.ofNat (f % 2))] g0) = true := by
  have hlt : f % 2 < 2 := Nat.mod_lt _ (by decide)
  generalize f % 2 = r at hlt
  match r, hlt with
  | 0, _ => exact run_1_0
  | 1, _ => exact run_1_1
  | r + 2, h => omega
theorem chain2 (f : Nat) : isT (callS EE FF (nat_lit 100001) (fnV (nat_lit 3)) [.int .u8 (.ofNat 2), .int .u8 (.ofNat (f % 3))] g0) = true := by
  have hlt : f % 3 < 3 := Nat.mod_lt _ (by decide)
  generalize f % 3 = r at hlt
  match r, hlt with
  | 0, _ => exact run_2_0
  | 1, _ => exact run_2_1
  | 2, _ => exact run_2_2
  | r + 3, h => omega
theorem chain3 (f : Nat) : isT (callS EE FF (nat_lit 100001) (fnV (nat_lit 3)) [.int .u8 (.ofNat 3), .int .u8 (.ofNat (f % 4))] g0) = true := by
  have hlt : f % 4 < 4 := Nat.mod_lt _ (by decide)
  generalize f % 4 = r at hlt
  match r, hlt with
  | 0, _ => exact run_3_0
  | 1, _ => exact run_3_1
  | 2, _ => exact run_3_2
  | 3, _ => exact run_3_3
  | r + 4, h => omega
theorem chain4 (f : Nat) : isT (callS EE FF (nat_lit 100001) (fnV (nat_lit 3)) [.int .u8 (.ofNat 4), .int .u8 (.ofNat (f % 5))] g0) = true := by
  have hlt : f % 5 < 5 := Nat.mod_lt _ (by decide)
  generalize f % 5 = r at hlt
  match r, hlt with
  | 0, _ => exact run_4_0
  | 1, _ => exact run_4_1
  | 2, _ => exact run_4_2
  | 3, _ => exact run_4_3
  | 4, _ => exact run_4_4
  | r + 5, h => omega
theorem chain5 (f : Nat) : isT (callS EE FF (nat_lit 100001) (fnV (nat_lit 3)) [.int .u8 (.ofNat 5), .int .u8 (.ofNat (f % 6))] g0) = true := by
  have hlt : f % 6 < 6 := Nat.mod_lt _ (by decide)
  generalize f % 6 = r at hlt
  match r, hlt with
  | 0, _ => exact run_5_0
  | 1, _ => exact run_5_1
  | 2, _ => exact run_5_2
  | 3, _ => exact run_5_3
  | 4, _ => exact run_5_4
  | 5, _ => exact run_5_5
  | r + 6, h => omega
theorem chain6 (f : Nat) : isT (callS EE FF (nat_lit 100001) (fnV (nat_lit 3)) [.int .u8 (.ofNat 6), .int .u8 (.ofNat (f % 7))] g0) = true := by
  have hlt : f % 7 < 7 := Nat.mod_lt _ (by decide)
  generalize f % 7 = r at hlt
  match r, hlt with
  | 0, _ => exact run_6_0
  | 1, _ => exact run_6_1
  | 2, _ => exact run_6_2
  | 3, _ => exact run_6_3
  | 4, _ => exact run_6_4
  | 5, _ => exact run_6_5
  | 6, _ => exact run_6_6
  | r + 7, h => omega
theorem chain7 (f : Nat) : isT (callS EE FF (nat_lit 100001) (fnV (nat_lit 3)) [.int .u8 (.ofNat 7), .int .u8 (.ofNat (f % 8))] g0) = true := by
  have hlt : f % 8 < 8 := Nat.mod_lt _ (by decide)
  generalize f % 8 = r at hlt
  match r, hlt with
  | 0, _ => exact run_7_0
  | 1, _ => exact run_7_1
  | 2, _ => exact run_7_2
  | 3, _ => exact run_7_3
  | 4, _ => exact run_7_4
  | 5, _ => exact run_7_5
  | 6, _ => exact run_7_6
  | 7, _ => exact run_7_7
  | r + 8, h => omega
theorem chain_all (n f : Nat) (hn : n < 256) (hf : f < 256) : ∃ us τ, Ran EE (KC (callS EE FF 100000)) af3 [.int .u8 (.ofNat n), .int .u8 (.ofNat f)] g0 us τ ∧ resV us = .bool true := by
  have hlt : n % 8 < 8 := Nat.mod_lt _ (by decide)
  generalize hk : n % 8 = k at hlt
  match k, hlt with
  | 0, _ => exact chain_one (by decide) hn hf hk ct0 (chain0 f)
  | 1, _ => exact chain_one (by decide) hn hf hk ct1 (chain1 f)
  | 2, _ => exact chain_one (by decide) hn hf hk ct2 (chain2 f)
  | 3, _ => exact chain_one (by decide) hn hf hk ct3 (chain3 f)
  | 4, _ => exact chain_one (by decide) hn hf hk ct4 (chain4 f)
  | 5, _ => exact chain_one (by decide) hn hf hk ct5 (chain5 f)
  | 6, _ => exact chain_one (by decide) hn hf hk ct6 (chain6 f)
  | 7, _ => exact chain_one (by decide) hn hf hk ct7 (chain7 f)
  | k + 8, h => omega
theorem chain_calls (n f : Nat) (hn : n < 256) (hf : f < 256) {ι : Inj} {w : World} (hr : Rel Tryz.prog EE ι g0 w) :
    Calls Tryz.prog 3 #[.int .u8 (.ofNat n), .int .u8 (.ofNat f)] w fun e w' => e = .returned (.bool true) ∧ w'.os = w.os ∧ w'.tape = w.tape ∧ w'.output = w.output ∧ w.heap.size ≤ w'.heap.size ∧ ∀ k, k < w.heap.size → w'.heap[k]? = w.heap[k]? := by
  obtain ⟨us, τ, h1, h2⟩ := chain_all n f hn hf
  have g := h1.told hE hF (callS_ok hE hF hS 100000) get3 hr (vs' := [.int .u8 (.ofNat n), .int .u8 (.ofNat f)]) (.cons _ _ _ _ (.int _ _) (.cons _ _ _ _ (.int _ _) .nil))
  refine g.mono fun e w' ⟨v', he, κ, k1, _, k3⟩ => ?_
  rw [h2] at k1
  cases k1
  refine ⟨he, k3.below fun A => ?_⟩
  show writable (T.get (T.set .e (nat_lit 0) _) A) = false
  rw [T.get_set]
  split
  · rfl
  · rfl
/-- where the one variable lies -/
def ι1 (z : Nat) : Inj := fun A => if A = 0 then some ⟨0, 0, z, 0⟩ else none
theorem rel_start {w : World} {e : TypeId} {fr : Nat × Nat} (h : w.heap[0]? = some (.cells #[.int .i64 0, .int .i64 1] e fr)) : Rel Tryz.prog EE (ι1 2) g0 w where
  dom A L h0 := by
    unfold ι1 at h0
    split at h0
    · rename_i e; cases h0; subst e; exact ⟨by decide, (Array.getElem?_eq_some_iff.1 h).1⟩
    · cases h0
  fresh A hA := by
    show T.get (T.set .e (nat_lit 0) _) A = none
    have : 1 ≤ A := hA
    rw [T.get_set_ne _ _ (show A ≠ 0 by omega)]; rfl
  lim := Nat.zero_le _
  blk A L b h0 g := by
    unfold ι1 at h0
    split at h0
    · rename_i e0; cases h0; subst e0
      have g' : T.get (T.set .e (nat_lit 0) (.cells [.int .i64 (.ofNat (nat_lit 0)), .int .i64 (.ofNat (nat_lit 1))] (nat_lit 0) false)) 0 = some b := g
      rw [show (nat_lit 0 : Nat) = 0 from rfl, T.get_set_self] at g'
      cases g'
      refine ⟨_, e, fr, h, rfl, by decide, .cons _ _ _ _ (.int _ _) (.cons _ _ _ _ (.int _ _) .nil), ?_, fun h => by cases h⟩
      intro v hv
      simp only [List.mem_cons, List.not_mem_nil, or_false] at hv
      rcases hv with rfl | rfl <;> rfl
    · cases h0
  inj A B L M hne h0 h1 := by
    unfold ι1 at h0 h1
    split at h0
    · split at h1
      · rename_i e1 e2; exact absurd (e1.trans e2.symm) hne
      · cases h1
    · cases h0
  glob g hg := by
    have : g = 0 := by
      have : g < 1 := hg
      omega
    subst this
    exact ⟨⟨0, 0, 2, 0⟩, rfl, rfl, rfl⟩
end Go.Ab
