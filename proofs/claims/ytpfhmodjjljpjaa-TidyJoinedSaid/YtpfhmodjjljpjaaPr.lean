import Derived.Test.YtpfhmodjjljpjaaF11
import Derived.Test.YtpfhmodjjljpjaaNe
namespace Go.Proofs.Ytpfhmodjjljpjaa
open Go.RowKit
namespace Lg

/-! ### Which block takes each in -/
def addTo (fr : List (List Int)) (n i : Int) : List (List Int) := fr.set n.toNat (fr.getD n.toNat default ++ [i])
def fromStep (reached : List Bool) (i : Nat) (fr : List (List Int)) (n : Int) : List (List Int) := if reached.getD i default = true then addTo fr n i else fr
def fromRow (next : List (List Int)) (reached : List Bool) (fr : List (List Int)) (i : Nat) : List (List Int) := (next.getD i default).foldl (fromStep reached i) fr
def fromAll (next : List (List Int)) (reached : List Bool) (nb m : Nat) : List (List Int) := (List.range m).foldl (fromRow next reached) (List.replicate nb [])
def takenAt (f : GFn) (reached : List Bool) (fr : List (List Int)) (i : Nat) : Int :=
  if 0 < i ∧ reached.getD i default = true ∧ (fr.getD i default).length = 1 ∧ ¬ (fr.getD i default).getD 0 default = (i : Int) ∧ (blk f ((fr.getD i default).getD 0 default)).fin = 1 then (fr.getD i default).getD 0 default else -1

theorem addTo_length (fr : List (List Int)) (n i : Int) : (addTo fr n i).length = fr.length := by simp [addTo]
theorem fromStep_length (reached : List Bool) (i : Nat) (fr : List (List Int)) (n : Int) : (fromStep reached i fr n).length = fr.length := by
  unfold fromStep; split
  · exact addTo_length _ _ _
  · rfl
theorem foldl_length {β : Type} (g : List (List Int) → β → List (List Int)) (h : ∀ fr x, (g fr x).length = fr.length) : ∀ (l : List β) (fr : List (List Int)), (l.foldl g fr).length = fr.length
  | [], fr => rfl
  | x :: l, fr => by rw [List.foldl_cons, foldl_length g h l, h]
theorem fromRow_length (next : List (List Int)) (reached : List Bool) (fr : List (List Int)) (i : Nat) : (fromRow next reached fr i).length = fr.length := foldl_length _ (fromStep_length reached i) _ _
theorem fromAll_length (next : List (List Int)) (reached : List Bool) (nb m : Nat) : (fromAll next reached nb m).length = nb := by
  rw [fromAll, foldl_length _ (fromRow_length next reached)]; simp
theorem fromAll_succ (next : List (List Int)) (reached : List Bool) (nb m : Nat) : fromAll next reached nb (m + 1) = fromRow next reached (fromAll next reached nb m) m := by
  simp [fromAll, List.range_succ]
theorem foldl_take_succ {α β : Type} [Inhabited β] (g : α → β → α) (l : List β) (a : α) (j : Nat) (h : j < l.length) : (l.take (j + 1)).foldl g a = g ((l.take j).foldl g a) (l.getD j default) := by
  rw [take_succ_getD h]; simp
theorem step_bound {reached : List Bool} {j c : Nat} {fr : List (List Int)} {n : Int} (h : ∀ q ∈ fr, q.length ≤ c) : ∀ q ∈ fromStep reached j fr n, q.length ≤ c + 1 := fun q hq => by
  unfold fromStep at hq
  split at hq
  · unfold addTo at hq
    rcases List.mem_or_eq_of_mem_set hq with h1 | h1
    · have := h q h1; omega
    · subst h1
      rw [List.length_append, List.length_singleton]
      by_cases hn : n.toNat < fr.length
      · have := h _ (getD_mem (i := n.toNat) hn); omega
      · rw [List.getD_eq_getElem?_getD, List.getElem?_eq_none (by omega)]
        show 0 + 1 ≤ c + 1
        omega
  · have := h q hq; omega
theorem range_getD {n j : Nat} (h : j < n) : (List.range n).getD j default = j := by
  rw [List.getD_eq_getElem?_getD, List.getElem?_range h]; rfl
theorem row_step {F : Nat → Int} {n j : Nat} (h : j < n) {z : Int} (hz : z = F j) : (((List.range n).take j).map F ++ List.replicate (n - j) 0).set j z = ((List.range n).take (j + 1)).map F ++ List.replicate (n - (j + 1)) 0 :=
  fill_step F 0 (List.range n) j n (by simp) h z (by rw [range_getD h]; exact hz)
theorem fromStep_in {reached : List Bool} {j : Nat} {q : Int → Prop} {fr : List (List Int)} {n : Int} (hj : q (j : Int)) (h : ∀ l ∈ fr, ∀ x ∈ l, q x) : ∀ l ∈ fromStep reached j fr n, ∀ x ∈ l, q x := fun l hl x hx => by
  unfold fromStep at hl
  split at hl
  · unfold addTo at hl
    rcases List.mem_or_eq_of_mem_set hl with h1 | h1
    · exact h l h1 x hx
    · subst h1
      rcases List.mem_append.1 hx with h2 | h2
      · by_cases hn : n.toNat < fr.length
        · exact h _ (getD_mem (i := n.toNat) hn) x h2
        · rw [List.getD_eq_getElem?_getD, List.getElem?_eq_none (by omega)] at h2
          cases h2
      · have : x = (j : Int) := by simpa using h2
        rw [this]; exact hj
  · exact h l hl x hx
theorem fromAll_in (next : List (List Int)) (reached : List Bool) (nb : Nat) : ∀ (m : Nat), ∀ l ∈ fromAll next reached nb m, ∀ x ∈ l, 0 ≤ x ∧ x < (m : Int)
  | 0, l, hl, x, hx => by
    have : l = [] := (List.mem_replicate.1 (show l ∈ List.replicate nb [] from hl)).2
    subst this; cases hx
  | m + 1, l, hl, x, hx => by
    rw [fromAll_succ, fromRow] at hl
    have key : ∀ (k : List Int) (fr : List (List Int)), (∀ l ∈ fr, ∀ x ∈ l, 0 ≤ x ∧ x < ((m + 1 : Nat) : Int)) → ∀ l ∈ k.foldl (fromStep reached m) fr, ∀ x ∈ l, 0 ≤ x ∧ x < ((m + 1 : Nat) : Int) := by
      intro k
      induction k with
      | nil => exact fun fr h => h
      | cons n k ih => exact fun fr h => ih _ (fromStep_in (q := fun x => 0 ≤ x ∧ x < ((m + 1 : Nat) : Int)) ⟨by omega, by omega⟩ h)
    exact key _ _ (fun l hl x hx => by have := fromAll_in next reached nb m l hl x hx; omega) l hl x hx
end Lg
end Go.Proofs.Ytpfhmodjjljpjaa
