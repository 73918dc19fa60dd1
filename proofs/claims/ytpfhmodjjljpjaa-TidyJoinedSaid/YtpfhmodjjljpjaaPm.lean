import Derived.Test.YtpfhmodjjljpjaaF4
namespace Go.Proofs.Ytpfhmodjjljpjaa
open Go.RowKit
namespace Lg

theorem instrs_split (f : GFn) (p : List Int) (k : Nat) (hk : k < p.length) : instrs f p = instrs f (p.take k) ++ ((blk f (p.getD k default)).ins ++ instrs f (p.drop (k + 1))) := by
  have h : p = p.take k ++ (p.getD k default :: p.drop (k + 1)) := by
    rw [List.getD_eq_getElem?_getD, List.getElem?_eq_getElem hk, Option.getD_some, List.getElem_cons_drop, List.take_append_drop]
  conv => lhs; rw [h]
  simp [instrs, blk]
theorem instrs_at (f : GFn) (p : List Int) (k i : Nat) (hk : k < p.length) (hi : i < (blk f (p.getD k default)).ins.length) :
    (instrs f p).getD ((instrs f (p.take k)).length + i) default = (blk f (p.getD k default)).ins.getD i default ∧ (instrs f (p.take k)).length + i < (instrs f p).length := by
  rw [instrs_split f p k hk]
  refine ⟨?_, by simp only [List.length_append]; omega⟩
  have h1 : (instrs f (p.take k) ++ ((blk f (p.getD k default)).ins ++ instrs f (p.drop (k + 1))))[(instrs f (p.take k)).length + i]? = (blk f (p.getD k default)).ins[i]? := by
    rw [List.getElem?_append_right (by omega), Nat.add_sub_cancel_left, List.getElem?_append_left hi]
  generalize (blk f (p.getD k default)).ins = X at *
  rw [List.getD_eq_getElem?_getD, h1, List.getD_eq_getElem?_getD]
theorem made_ins {f : GFn} {b : GBlock} {p : List Int} {ps : List (List Int)} (h : ¬ b.ins = instrs f p) : made f b p ps = false := by
  simp [made, h]
theorem ins_ne {f : GFn} {b : GBlock} {p : List Int} {k i : Nat} (hk : k < p.length) (hi : i < (blk f (p.getD k default)).ins.length)
    (h : b.ins.length ≤ (instrs f (p.take k)).length + i ∨ ¬ b.ins.getD ((instrs f (p.take k)).length + i) default = (blk f (p.getD k default)).ins.getD i default) : ¬ b.ins = instrs f p := fun e => by
  obtain ⟨h1, h2⟩ := instrs_at f p k i hk hi
  rcases h with h | h
  · rw [e] at h; omega
  · rw [e] at h; exact h h1
theorem ins_step {f : GFn} {b : GBlock} {p : List Int} {k i : Nat} (hk : k < p.length) (hi : i < (blk f (p.getD k default)).ins.length) (h : b.ins.getD ((instrs f (p.take k)).length + i) default = (blk f (p.getD k default)).ins.getD i default)
    (hb : ∀ m, m < (instrs f (p.take k)).length + i → b.ins.getD m default = (instrs f p).getD m default) : ∀ m, m < (instrs f (p.take k)).length + (i + 1) → b.ins.getD m default = (instrs f p).getD m default := fun m hm => by
  rcases Nat.lt_or_ge m ((instrs f (p.take k)).length + i) with h1 | h1
  · exact hb m h1
  · rw [show m = (instrs f (p.take k)).length + i by omega, h, (instrs_at f p k i hk hi).1]
theorem take_len_le (f : GFn) (p : List Int) (k : Nat) : (instrs f (p.take k)).length ≤ (instrs f p).length := by
  have h := congrArg (fun q => (instrs f q).length) (List.take_append_drop k p)
  simp only [instrs, List.map_append, List.flatten_append, List.length_append] at h
  simp only [instrs]
  omega
theorem made_tail {f : GFn} {b : GBlock} {p : List Int} {ps : List (List Int)} (hc : chainB f p = true) (e : b.ins = instrs f p) (h1 : b.fin = (blk f (lastOf p)).fin) (h2 : b.v = (blk f (lastOf p)).v) :
    made f b p ps = if b.fin = 1 then leads ps b.to (blk f (lastOf p)).to && b.els == (blk f (lastOf p)).els
      else if b.fin = 2 then leads ps b.to (blk f (lastOf p)).to && leads ps b.els (blk f (lastOf p)).els
      else b.to == (blk f (lastOf p)).to && b.els == (blk f (lastOf p)).els := by
  unfold made
  rw [hc, decide_eq_true e, h1, h2]
  simp only [beq_self_eq_true, Bool.true_and]
theorem made_fin {f : GFn} {b : GBlock} {p : List Int} {ps : List (List Int)} (h : ¬ b.fin = (blk f (lastOf p)).fin) : made f b p ps = false := by
  unfold made
  rw [beq_eq_false_iff_ne.2 h]
  simp
theorem made_v {f : GFn} {b : GBlock} {p : List Int} {ps : List (List Int)} (h : ¬ b.v = (blk f (lastOf p)).v) : made f b p ps = false := by
  unfold made
  rw [beq_eq_false_iff_ne.2 h]
  simp
theorem any_false_getD {α : Type} [Inhabited α] {a : List α} {q : α → Bool} (h : ∀ i, i < a.length → q (a.getD i default) = false) : a.any q = false := by
  rw [List.any_eq_false]
  intro x hx
  obtain ⟨i, hi, rfl⟩ := List.mem_iff_getElem.1 hx
  have := h i hi
  simpa [List.getD_eq_getElem?_getD, List.getElem?_eq_getElem hi] using this
theorem any_true_getD {α : Type} [Inhabited α] {a : List α} {q : α → Bool} {i : Nat} (hi : i < a.length) (h : q (a.getD i default) = true) : a.any q = true := List.any_eq_true.2 ⟨_, getD_mem hi, h⟩
end Lg
end Go.Proofs.Ytpfhmodjjljpjaa
