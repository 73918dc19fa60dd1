import Derived.Test.YtpfhmodjjljpjaaRk
namespace Go.Proofs.Ytpfhmodjjljpjaa
open Go.RowKit
namespace Lg

theorem HR.lk {w0 w : World} {M : Fp} {U : Nat → Prop} {ρ : Nat → Value} {own : Nat → Option Nat} {o o' : List (Nat × Ob)} (h : HR w0 M U ρ own o w) (hl : ∀ i, o'.lookup i = o.lookup i) : HR w0 M U ρ own o' w :=
  ⟨fun i b hi => h.ob i b (by rw [← hl]; exact hi), h.gr, h.fr, by rw [hl]; exact h.z, h.z0, h.ag⟩
/-- A contract whose last argument is a slice, for the nil slice. -/
theorem spec_nil {P : Program} {f : Nat} {pre : List LV} {b0 sz : Nat} {oc : List (Nat × Ob)} {r : Value} (hs : Spec P f (pre ++ [.r b0]) (b0 + 1) (oc ++ [(b0, .fz sz [])]) (.v r) (b0 + 1) []) (hoc : oc.lookup b0 = none) :
    Spec P f (pre ++ [.v (.slice none 0 0)]) b0 oc (.v r) b0 [] := by
  intro w0 M ρ own w hM hr hu
  have hnil : Rd w (fun k => own k = none) (.sl sz []) (.slice none 0 0) := .sl sz [] none 0 (fun _ _ => undef) (Nat.le_refl _) (Nat.zero_le _) (by simp) (by simp) (by simp) (by simp)
  have hr1 := hr.addFz b0 (Nat.lt_irrefl _) hnil
  have hρ : ∀ i, i < b0 → upd1 ρ b0 (.slice none 0 0) i = ρ i := fun i hi => upd1_other _ _ (by omega)
  have hr2 := (hr1.mono (U' := fun c => c < b0 + 1) (fun i hi => by rcases hi with hi | hi <;> omega)).lk (o' := oc ++ [(b0, .fz sz [])]) (fun i => by
    simp only [lookup_append, List.lookup]
    by_cases hi : i = b0
    · subst hi
      rw [hoc]
      simp
    · have : (i == b0) = false := by simpa using hi
      rw [this]
      cases oc.lookup i <;> rfl)
  have hr3 : HR w0 ⟨M.mt, M.ok, b0 + 1, upd1 ρ b0 (.slice none 0 0)⟩ (fun c => c < b0 + 1) (upd1 ρ b0 (.slice none 0 0)) own (oc ++ [(b0, .fz sz [])]) w :=
    ⟨hr2.ob, hr2.gr, hr2.fr, hr2.z, hr2.z0, fun i hi => ⟨hi, rfl⟩⟩
  have hup : LV.useds (fun c => c < b0) ρ pre := useds_iff.2 (fun x hx => useds_iff.1 hu x (List.mem_append_left _ hx))
  have hup2 : LV.useds (fun c => c < b0 + 1) (upd1 ρ b0 (.slice none 0 0)) pre := useds_mono hρ (fun i hi => by omega) pre hup
  have hu2 : LV.useds (fun c => c < b0 + 1) (upd1 ρ b0 (.slice none 0 0)) (pre ++ [.r b0]) := useds_iff.2 (fun x hx => by
    rcases List.mem_append.1 hx with hx | hx
    · exact useds_iff.1 hup2 x hx
    · simp at hx; subst hx; exact Nat.lt_succ_self _)
  have hv : LV.vals (upd1 ρ b0 (.slice none 0 0)) (pre ++ [.r b0]) = LV.vals ρ (pre ++ [.v (.slice none 0 0)]) := by
    rw [vals_append, vals_append, useds_congr hρ pre hup]
    simp [LV.vals, LV.val, upd1_same]
  have hcall := hs w0 ⟨M.mt, M.ok, b0 + 1, upd1 ρ b0 (.slice none 0 0)⟩ _ own w rfl hr3 hu2
  rw [hv] at hcall
  refine Calls.mono hcall (fun e w' h => ?_)
  obtain ⟨ρ', own', h1, _, h3⟩ := h
  refine ⟨ρ', own', h1, trivial, ⟨fun i b hi => by simp at hi, h3.gr, h3.fr, rfl, by have := hr.z0; exact this, fun i hi => ?_⟩⟩
  have h4 := h3.ag i (show i < b0 + 1 by omega)
  have h5 := hr.ag i hi
  refine ⟨h5.1, h4.2.trans ?_⟩
  show upd1 ρ b0 _ i = _
  rw [hρ i (by omega)]
  exact h5.2
end Lg
end Go.Proofs.Ytpfhmodjjljpjaa
