import Derived.Test.YtpfhmodjjljpjaaF6
namespace Go.Proofs.Ytpfhmodjjljpjaa
open Go.RowKit
namespace Lg

/-- A path is gone on with by the one that its last block takes in (in m steps at most). -/
def follow (by_ : List Int) : Nat → List Int → Option (List Int)
  | 0, _ => none
  | m + 1, p => if fstIdx (fun y => y == lastOf p) by_ ≥ 0 then follow by_ m (p ++ [fstIdx (fun y => y == lastOf p) by_]) else some p
theorem block_ext {a b : GBlock} (h1 : a.fin = b.fin) (h2 : a.v = b.v) (h3 : a.to = b.to) (h4 : a.els = b.els) (h5 : a.ins = b.ins) : a = b := by
  cases a; cases b; simp_all
theorem fn_ne {f g : GFn} (h : ¬ f.regs = g.regs ∨ ¬ (f.blocks.length : Int) = (g.blocks.length : Int) ∨ ∃ j, ¬ f.blocks.getD j default = g.blocks.getD j default) : false = decide (f = g) := by
  refine (decide_eq_false (fun e => ?_)).symm
  subst e
  rcases h with h | h | ⟨j, h⟩ <;> exact h rfl
theorem fn_eq {f g : GFn} (h1 : f.regs = g.regs) (h2 : f.blocks.length = g.blocks.length) (h3 : ∀ j, j < f.blocks.length → f.blocks.getD j default = g.blocks.getD j default) : true = decide (f = g) := by
  refine (decide_eq_true ?_).symm
  have h4 := ext_getD h2 h3
  cases f; cases g; simp_all
end Lg
end Go.Proofs.Ytpfhmodjjljpjaa
