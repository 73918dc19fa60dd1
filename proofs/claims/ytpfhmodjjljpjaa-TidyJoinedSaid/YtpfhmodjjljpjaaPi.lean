import Derived.Test.YtpfhmodjjljpjaaF15
namespace Go.Proofs.Ytpfhmodjjljpjaa
open Go.RowKit
namespace Lg

/-! ### Sizes of what comes in, and what the guards say -/
def FnOk (f : GFn) : Prop := f.blocks.length ≤ 140737488351232 ∧ ∀ b ∈ f.blocks, b.ins.length ≤ 140737488351232
def PsOk (ps : List (List Int)) : Prop := ps.length ≤ 140737488351232 ∧ ∀ p ∈ ps, p.length ≤ 140737488351232
theorem sumLen_le {α : Type} {c : Nat} : ∀ (l : List (List α)), (∀ x ∈ l, x.length ≤ c) → sumLen l ≤ l.length * c
  | [], _ => by simp [sumLen]
  | x :: l, h => by
    have h1 := sumLen_le l (fun y hy => h y (List.mem_cons_of_mem _ hy))
    have h2 := h x (by simp)
    have h3 : sumLen (x :: l) = x.length + sumLen l := by simp [sumLen]
    rw [h3, List.length_cons, Nat.succ_mul]
    omega
theorem le_sumLen {α : Type} : ∀ (l : List (List α)) (x : List α), x ∈ l → x.length ≤ sumLen l
  | y :: l, x, h => by
    have h3 : sumLen (y :: l) = y.length + sumLen l := by simp [sumLen]
    rcases List.mem_cons.1 h with rfl | h
    · omega
    · have := le_sumLen l x h; omega
theorem few_sum {f : GFn} (hf : FnOk f) {n : Nat} (hn : f.blocks.length ≤ n) (h1000 : n ≤ 1000) (j : Nat) : sumLen ((insOf f).take j) ≤ 4000000000000000000 := by
  have h1 := sumLen_take_le (insOf f) j
  have h2 := sumLen_le (c := 140737488351232) (insOf f) (fun x hx => by
    obtain ⟨b, hb, rfl⟩ := List.mem_map.1 hx
    exact hf.2 b hb)
  have h3 : (insOf f).length = f.blocks.length := by simp [insOf]
  have h4 := Nat.mul_le_mul_right 140737488351232 (show (insOf f).length ≤ 1000 by omega)
  omega
theorem few_iff {f : GFn} {x y : Int} (h : few f x y = true) : (f.blocks.length : Int) ≤ x ∧ (sumLen (insOf f) : Int) ≤ y := by
  simpa [few] using h
theorem few_ins {f : GFn} {x y : Int} (h : few f x y = true) : ∀ b ∈ f.blocks, (b.ins.length : Int) ≤ y := fun b hb => by
  have h1 := le_sumLen (insOf f) b.ins (List.mem_map_of_mem (f := fun b : GBlock => b.ins) hb)
  have h2 := (few_iff h).2
  omega
def smallP (ps : List (List Int)) (x y : Int) : Bool := decide ((ps.length : Int) ≤ x) && decide ((sumLen ps : Int) ≤ y)
theorem smallP_iff {ps : List (List Int)} {x y : Int} (h : smallP ps x y = true) : (ps.length : Int) ≤ x ∧ ∀ p ∈ ps, (p.length : Int) ≤ y := by
  simp only [smallP, Bool.and_eq_true, decide_eq_true_eq] at h
  exact ⟨h.1, fun p hp => by have := le_sumLen ps p hp; omega⟩
/-- What a contract of Check asks. -/
structure ChkOk (f g : GFn) (ps : List (List Int)) : Prop where
  hl : ps.length ≤ 1000000000
  hpl : ∀ p ∈ ps, p.length ≤ 1000000000
  hgi : ∀ b ∈ g.blocks, b.ins.length ≤ 1000000
  hI : ∀ p ∈ ps, ∀ j, (instrs f (p.take j)).length ≤ 1000000000
theorem chkOk {f g : GFn} {ps : List (List Int)} {a b c d e q : Int} (h1 : few f a b = true) (h2 : few g c d = true) (h3 : smallP ps e q = true) (hb : b ≤ 1000) (hd : d ≤ 1000) (he : e ≤ 1000) (hq : q ≤ 1000) : ChkOk f g ps := by
  have h4 := smallP_iff h3
  refine ⟨by omega, fun p hp => by have := h4.2 p hp; omega, fun x hx => by have := few_ins h2 x hx; omega, fun p hp j => ?_⟩
  exact take_len (c := 0) (fun x hx => by have := few_ins h1 x hx; omega) (by have := h4.2 p hp; omega) j
theorem tcheck_ok {f g : GFn} {ps : List (List Int)} (hc : ChkOk f g ps) : Spec Try.prog 30 [.agg [.v (.int .i64 f.regs), .r 1], .agg [.v (.int .i64 g.regs), .r 2], .r 3] 4 [(1, .fz 5 (f.blocks.map eBlock)), (2, .fz 5 (g.blocks.map eBlock)), (3, .fz 1 (ps.map eIs))] (.v (.bool (tcheck f g ps))) 4 [] := tcheck_spec f g ps hc.hl hc.hpl hc.hgi hc.hI
theorem rcheck_ok {f g : GFn} {ps : List (List Int)} (hc : ChkOk f g ps) : Spec Try.prog 33 [.agg [.v (.int .i64 f.regs), .r 1], .agg [.v (.int .i64 g.regs), .r 2], .r 3] 4 [(1, .fz 5 (f.blocks.map eBlock)), (2, .fz 5 (g.blocks.map eBlock)), (3, .fz 1 (ps.map eIs))] (.v (.bool (tcheck f g ps))) 4 [] := rcheck_spec f g ps hc.hl hc.hpl hc.hgi hc.hI
end Lg
end Go.Proofs.Ytpfhmodjjljpjaa
