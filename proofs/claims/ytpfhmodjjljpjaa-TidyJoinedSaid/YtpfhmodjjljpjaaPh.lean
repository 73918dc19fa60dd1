import Derived.Test.YtpfhmodjjljpjaaF14
import Derived.Test.YtpfhmodjjljpjaaRn
namespace Go.Proofs.Ytpfhmodjjljpjaa
open Go.RowKit
namespace Lg
set_option linter.unusedSimpArgs false
set_option linter.unusedVariables false

/-! ### The fixed example -/
def aF : GFn := ⟨1, [⟨[⟨8, 0, 0, 0, 0, 0, 0, 0⟩], 1, 0, 2, 0⟩, ⟨[], 3, 0, 0, 0⟩, ⟨[⟨9, 0, 0, 0, 0, 0, 0, 0⟩], 3, 0, 0, 0⟩]⟩
def aG : GFn := ⟨1, [⟨[⟨8, 0, 0, 0, 0, 0, 0, 0⟩, ⟨9, 0, 0, 0, 0, 0, 0, 0⟩], 3, 0, 0, 0⟩]⟩
theorem aF_in : InN aF := by unfold InN; decide +kernel
theorem aF_g : tidyG aF = aG := by decide +kernel
theorem aF_p : pathsL aF = [[0, 2]] := by decide +kernel
theorem take_len {f : GFn} {p : List Int} {c : Nat} (h : ∀ b ∈ f.blocks, b.ins.length ≤ 1000) (hp : p.length ≤ 1000000) (j : Nat) : (instrs f (p.take j)).length ≤ 1000000000 := by
  have h1 := instrs_le h (p.take j)
  have h2 : (p.take j).length ≤ 1000000 := by rw [List.length_take]; omega
  have h3 := Nat.mul_le_mul_right 1000 h2
  omega
theorem aI (ps : List (List Int)) (h : ∀ p ∈ ps, p.length ≤ 1000000) : ∀ p ∈ ps, ∀ j, (instrs aF (p.take j)).length ≤ 1000000000 := fun p hp j => take_len (c := 0) (by decide) (h p hp) j
theorem aI1 : ∀ p ∈ pathsL aF, ∀ j, (instrs aF (p.take j)).length ≤ 1000000000 := aI _ (by decide +kernel)
theorem aI2 : ∀ p ∈ [[(0 : Int)]], ∀ j, (instrs aF (p.take j)).length ≤ 1000000000 := aI _ (by decide)
theorem aI3 : ∀ p ∈ ([] : List (List Int)), ∀ j, (instrs aF (p.take j)).length ≤ 1000000000 := aI _ (by decide)
end Lg
end Go.Proofs.Ytpfhmodjjljpjaa
