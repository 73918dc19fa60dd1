import Derived.Test.YtpfhmodjjljpjaaF9
namespace Go.Proofs.Ytpfhmodjjljpjaa
open Go.RowKit
namespace Lg

/-- Depth first from b on: what was seen, what was gone out of; in m calls' depth at most. -/
def visit (next : List (List Int)) (bar : Int) : Nat → Int → List Bool × List Bool → Option (List Bool × List Bool)
  | 0, _, _ => none
  | m + 1, b, st => if b < 0 ∨ b ≥ (next.length : Int) ∨ st.1.getD b.toNat default = true ∨ b = bar then some st
    else ((next.getD b.toNat default).foldlM (fun st n => visit next bar m n st) (st.1.set b.toNat true, st.2)).map fun st => (st.1, st.2.set b.toNat true)

theorem foldlM_take {α β : Type} [Inhabited β] (f : α → β → Option α) : ∀ (l : List β) (a r : α), l.foldlM f a = some r → ∀ j, j ≤ l.length → ∃ st, (l.take j).foldlM f a = some st ∧ (j < l.length → ∃ st', f st (l.getD j default) = some st' ∧ (l.take (j + 1)).foldlM f a = some st')
  | [], a, r, h, j, hj => ⟨a, by simp, fun hj => by simp at hj⟩
  | b :: l, a, r, h, 0, hj => by
    simp only [List.foldlM_cons] at h
    cases hb : f a b with
    | none => rw [hb] at h; cases h
    | some a' => exact ⟨a, by simp, fun _ => ⟨a', by simpa using hb, by simp [hb]⟩⟩
  | b :: l, a, r, h, j + 1, hj => by
    simp only [List.foldlM_cons] at h
    cases hb : f a b with
    | none => rw [hb] at h; cases h
    | some a' =>
      rw [hb] at h
      obtain ⟨st, h1, h2⟩ := foldlM_take f l a' r h j (by simpa using hj)
      refine ⟨st, by simp [hb, h1], fun hj2 => ?_⟩
      obtain ⟨st', h3, h4⟩ := h2 (by simpa using hj2)
      exact ⟨st', by simpa using h3, by simpa [hb] using h4⟩

theorem foldlM_len {β : Type} (f : List Bool × List Bool → β → Option (List Bool × List Bool)) (n : Nat) (hf : ∀ st x st', f st x = some st' → st.1.length = n → st.2.length = n → st'.1.length = n ∧ st'.2.length = n) : ∀ (l : List β) (a r : List Bool × List Bool), l.foldlM f a = some r → a.1.length = n → a.2.length = n → r.1.length = n ∧ r.2.length = n
  | [], a, r, h, h1, h2 => by cases h; exact ⟨h1, h2⟩
  | b :: l, a, r, h, h1, h2 => by
    simp only [List.foldlM_cons] at h
    cases hb : f a b with
    | none => rw [hb] at h; cases h
    | some a' =>
      rw [hb] at h
      obtain ⟨h3, h4⟩ := hf a b a' hb h1 h2
      exact foldlM_len f n hf l a' r h h3 h4

theorem visit_len (next : List (List Int)) (bar : Int) (n : Nat) : ∀ (m : Nat) (b : Int) (st st' : List Bool × List Bool), visit next bar m b st = some st' → st.1.length = n → st.2.length = n → st'.1.length = n ∧ st'.2.length = n
  | 0, b, st, st', h, _, _ => by cases h
  | m + 1, b, st, st', h, h1, h2 => by
    rw [visit] at h
    split at h
    · cases h; exact ⟨h1, h2⟩
    · obtain ⟨r, hr, rfl⟩ := Option.map_eq_some_iff.1 h
      obtain ⟨h3, h4⟩ := foldlM_len _ n (fun st x st' h => visit_len next bar n m x st st' h) _ _ _ hr (by simpa using h1) h2
      exact ⟨h3, by simpa using h4⟩

/-- A step of the fold: what a call of visit hands on. -/
def vnext (next : List (List Int)) (bar : Int) (m : Nat) (b : Int) (st : List Bool × List Bool) : List Bool × List Bool := (visit next bar m b st).getD st
theorem vstep {next : List (List Int)} {bar : Int} {m : Nat} {l : List Int} {a r st : List Bool × List Bool} (h : l.foldlM (fun st n => visit next bar m n st) a = some r) {j : Nat} (hj : j < l.length) (hst : (l.take j).foldlM (fun st n => visit next bar m n st) a = some st) :
    visit next bar m (l.getD j default) st = some (vnext next bar m (l.getD j default) st) ∧ (l.take (j + 1)).foldlM (fun st n => visit next bar m n st) a = some (vnext next bar m (l.getD j default) st) := by
  obtain ⟨st1, h1, h2⟩ := foldlM_take _ l a r h j (by omega)
  obtain ⟨st', h3, h4⟩ := h2 hj
  rw [hst] at h1
  cases h1
  unfold vnext
  rw [h3]
  exact ⟨rfl, h4⟩
theorem flat_eB {e : Nat} (l : List Bool) : FlatOb (.row e 1 (l.map eB)) := fun r hr cl hc => by
  obtain ⟨x, _, rfl⟩ := List.mem_map.1 hr
  simp [eB] at hc
  exact ⟨_, hc⟩
theorem flat_eI {e : Nat} (l : List Int) : FlatOb (.row e 1 (l.map eI)) := fun r hr cl hc => by
  obtain ⟨x, _, rfl⟩ := List.mem_map.1 hr
  simp [eI] at hc
  exact ⟨_, hc⟩
end Lg
end Go.Proofs.Ytpfhmodjjljpjaa
