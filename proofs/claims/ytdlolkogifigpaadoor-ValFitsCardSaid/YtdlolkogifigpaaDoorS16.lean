/- Sh: running code on known data. No statement of the program is proved here. -/
import Derived.Test.YtdlolkogifigpaaDoorS15
set_option linter.unusedSimpArgs false
set_option linter.unusedVariables false
namespace Go.Sh
open Go Go.RowKit
set_option maxHeartbeats 4000000

def hintT (T : List (Nat × Nat)) (j : Nat) (d : Option Nat) : Nat := match lk T (dstId d) with | some m => m | none => j
def killT (T : List (Nat × List Nat)) (id : Nat) : List Nat := match lk T id with | some l => l | none => []
def fpT (T : List (Nat × List (List (Nat × Nat)))) (id : Nat) : List (Nat → Option Nat) := match lk T id with | some ls => ls.map lk | none => [fun _ => none]
def altsE (P : Program) (C : Oracle) (kill : List Nat) : List (List Nat × List SOper) → ES → Option ES
  | [], _ => none
  | (n, l) :: r, s => match runE P C l (s.fgt n) with
    | some s' => some (s'.kill kill)
    | none => altsE P C kill r s
def iter (f : ES → Option (SExit × ES)) : Nat → ES → Option (SExit × ES)
  | 0, _ => none
  | n + 1, s => match f s with
    | some (.normal, s') => iter f n s'
    | r => r
def exec (P : Program) (C : Oracle) (L : Nat) : SCode → ES → Option (SExit × ES)
  | .skip, s => some (.normal, s)
  | .reg alts kill, s => match altsE P C kill alts s with
    | some s' => some (.normal, s')
    | none => none
  | .seq a b, s => match exec P C L a s with
    | some (.normal, s') => exec P C L b s'
    | r => r
  | .cond c a b, s => match c.get s.fs with
    | some (.pv (.v (.bool true))) => exec P C L a s
    | some (.pv (.v (.bool false))) => exec P C L b s
    | _ => none
  | .block id a, s => match exec P C L a s with
    | some (.exit j, s') => match Nat.beq j id with
      | true => some (.normal, s')
      | false => some (.exit j, s')
    | r => r
  | .loop a, s => iter (fun s => exec P C L a s) L s
  | .exit id, s => some (.exit id, s)
  | .ret, s => some (.ret, s)
/-- A call, run: by what is known of it, or by its code. -/
def callF (P : Program) (F : Nat → Option SFunc) (prim : Oracle) (L : Nat) : Nat → Oracle
  | 0 => fun _ _ _ => none
  | n + 1 => fun f xs os => match prim f xs os with
    | some r => some r
    | none => match F f with
      | some G => match Nat.ble xs.length G.N, Nat.ble os.length 1000 with
        | true, true => match exec P (callF P F prim L n) L G.code (startE xs os) with
          | some (.ret, s) => match exitF G os.length s with
            | some (y, os') => match moOk os os' with | true => some (y, os') | false => none
            | none => none
          | some (.normal, s) => match exitF G os.length s with
            | some (y, os') => match moOk os os' with | true => some (y, os') | false => none
            | none => none
          | _ => none
        | _, _ => none
      | none => none

section
variable {P : Program} {g : Glob} {C : Oracle} {L : Nat}
theorem exec_swp (hC : SoundC P g C) : ∀ {c : SCode} {s s' : ES} {e : SExit} {Q : SExit → ES → Prop}, exec P C L c s = some (e, s') → Q e s' → swp P g c Q s
  | .skip, s, s', e, Q, h, hQ => by simp only [exec] at h; cases h; exact hQ
  | .exit id, s, s', e, Q, h, hQ => by simp only [exec] at h; cases h; exact hQ
  | .ret, s, s', e, Q, h, hQ => by simp only [exec] at h; cases h; exact hQ
  | .reg alts kill, s, s', e, Q, h, hQ => by
    simp only [exec] at h
    split at h <;> try (cases h; done)
    rename_i s1 hs1
    cases h
    have key : ∀ (al : List (List Nat × List SOper)), altsE P C kill al s = some s' → ∃ a ∈ al, opsW P g a.2 (fun s' => Q .normal (s'.kill kill)) (s.fgt a.1) := by
      intro al
      induction al with
      | nil => intro h; simp [altsE] at h
      | cons x r ih =>
        intro h
        obtain ⟨n, l⟩ := x
        simp only [altsE] at h
        split at h
        · rename_i s2 h2
          cases h
          exact ⟨(n, l), List.mem_cons_self .., opsW_of_runE hC h2 hQ⟩
        · obtain ⟨a, ha, h3⟩ := ih h
          exact ⟨a, List.mem_cons_of_mem _ ha, h3⟩
    exact key alts hs1
  | .seq a b, s, s', e, Q, h, hQ => by
    simp only [exec] at h
    split at h
    · rename_i s1 h1
      exact exec_swp hC (c := a) h1 (show swp P g b Q s1 from exec_swp hC (c := b) h hQ)
    · rename_i hne
      refine exec_swp hC (c := a) h ?_
      cases e with
      | normal => exact absurd h (hne s')
      | exit id => exact hQ
      | ret => exact hQ
  | .cond c a b, s, s', e, Q, h, hQ => by
    simp only [exec] at h
    split at h
    · rename_i hc; exact ⟨true, hc, exec_swp hC (c := a) h hQ⟩
    · rename_i hc; exact ⟨false, hc, exec_swp hC (c := b) h hQ⟩
    · cases h
  | .block id a, s, s', e, Q, h, hQ => by
    simp only [exec] at h
    split at h
    · rename_i j s1 h1
      split at h
      · rename_i hj
        cases h
        exact exec_swp hC (c := a) h1 (by simp only [blockW]; rw [if_pos (Nat.eq_of_beq_eq_true hj)]; exact hQ)
      · rename_i hj
        cases h
        exact exec_swp hC (c := a) h1 (by simp only [blockW]; rw [if_neg (fun e => by rw [e, Nat.beq_refl] at hj; cases hj)]; exact hQ)
    · rename_i hne
      refine exec_swp hC (c := a) h ?_
      cases e with
      | normal => exact hQ
      | exit id => exact absurd h (hne _ s')
      | ret => exact hQ
  | .loop a, s, s', e, Q, h, hQ => by
    simp only [exec] at h
    refine ⟨fun n s => iter (fun s => exec P C L a s) n s = some (e, s'), L, ⟨s, .refl s, h⟩, fun n s1 h1 => ?_⟩
    cases n with
    | zero => simp [iter] at h1
    | succ n =>
      simp only [iter] at h1
      split at h1
      · rename_i s2 h2
        exact exec_swp hC (c := a) h2 (show ∃ m, _ from ⟨n, Nat.lt_succ_self n, s2, .refl s2, h1⟩)
      · rename_i hne
        refine exec_swp hC (c := a) h1 ?_
        cases e with
        | normal => exact absurd h1 (hne s')
        | exit id => exact hQ
        | ret => exact hQ
def FuncsOk (P : Program) (F : Nat → Option SFunc) : Prop := ∀ f G, F f = some G → ∃ H Fp K keep, transFunc P f H Fp K keep = some G
theorem callF_sound {F : Nat → Option SFunc} {prim : Oracle} (hmix : P.follows .mixedOrders = true) (hF : FuncsOk P F) (hprim : SoundC P g prim) : ∀ n, SoundC P g (callF P F prim L n)
  | 0 => fun f xs os y os' h => by simp [callF] at h
  | n + 1 => fun f xs os y os' h => by
    have ih := callF_sound hmix hF hprim n
    simp only [callF] at h
    split at h
    · rename_i r hr
      cases h
      exact hprim f xs os y os' hr
    · split at h
      · rename_i G hG
        obtain ⟨H, Fp, K, keep, htr⟩ := hF f G hG
        split at h <;> try (cases h; done)
        rename_i hn ho
        have hn := Nat.le_of_ble_eq_true hn
        have ho := Nat.le_of_ble_eq_true ho
        split at h
        · rename_i s1 hs1
          split at h <;> try (cases h; done)
          rename_i y1 os1 hex
          split at h <;> try (cases h; done)
          rename_i hmo
          cases h
          exact call_of_swp hmix htr hn ho hmo (exec_swp ih hs1 ⟨.inl rfl, hex⟩)
        · rename_i s1 hs1
          split at h <;> try (cases h; done)
          rename_i y1 os1 hex
          split at h <;> try (cases h; done)
          rename_i hmo
          cases h
          exact call_of_swp hmix htr hn ho hmo (exec_swp ih hs1 ⟨.inr rfl, hex⟩)
        · cases h
      · cases h
end
end Go.Sh
