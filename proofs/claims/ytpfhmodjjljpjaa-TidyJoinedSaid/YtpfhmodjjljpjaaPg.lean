import Derived.Test.YtpfhmodjjljpjaaF13
namespace Go.Proofs.Ytpfhmodjjljpjaa
open Go.RowKit
namespace Lg

/-! ### A function, tidied -/
def begins (ps : List (List Int)) (old : Int) : Int := fstIdx (fun p : List Int => p.getD 0 default == old) ps
def newBlock (f : GFn) (ps : List (List Int)) (p : List Int) : GBlock :=
  ⟨instrs f p, (blk f (lastOf p)).fin, (blk f (lastOf p)).v, if (blk f (lastOf p)).fin = 3 then 0 else begins ps (blk f (lastOf p)).to, if (blk f (lastOf p)).fin = 2 then begins ps (blk f (lastOf p)).els else 0⟩
def tidyG (f : GFn) : GFn := ⟨f.regs, (pathsL f).map (newBlock f (pathsL f))⟩

theorem mem_pathsL {f : GFn} (hi : InN f) {p : List Int} (h : p ∈ pathsL f) : ∃ i q, i < f.blocks.length ∧ isHead f i = true ∧ PathOf f i q ∧ p = ints q := by
  unfold pathsL pathsTo at h
  obtain ⟨i, h1, h2⟩ := List.mem_map.1 h
  obtain ⟨h3, h4⟩ := List.mem_filter.1 h1
  obtain ⟨q, hq⟩ := (path_of hi (by simpa using h3) h4).2
  exact ⟨i, q, by simpa using h3, h4, hq, by rw [← h2, hq.e]⟩
theorem path_in {f : GFn} (hi : InN f) {p : List Int} (h : p ∈ pathsL f) : 1 ≤ p.length ∧ p.length ≤ f.blocks.length ∧ ∀ x ∈ p, 0 ≤ x ∧ x < (f.blocks.length : Int) := by
  obtain ⟨i, q, h1, h2, h3, rfl⟩ := mem_pathsL hi h
  refine ⟨by rw [ints_length]; exact List.length_pos_iff.2 h3.g.ne, by rw [ints_length]; exact nodup_length _ _ h3.g.nd h3.g.lt, fun x hx => ?_⟩
  obtain ⟨y, hy, rfl⟩ := List.mem_map.1 hx
  have := h3.g.lt y hy
  omega
theorem instrs_le {f : GFn} {c : Nat} (hc : ∀ b ∈ f.blocks, b.ins.length ≤ c) : ∀ (p : List Int), (instrs f p).length ≤ p.length * c
  | [] => by simp [instrs]
  | k :: p => by
    have h1 := instrs_le hc p
    have h2 : (f.blocks.getD k.toNat default).ins.length ≤ c := by
      by_cases h : k.toNat < f.blocks.length
      · exact hc _ (getD_mem h)
      · rw [List.getD_eq_getElem?_getD, List.getElem?_eq_none (by omega)]
        exact Nat.zero_le _
    have h3 : (instrs f (k :: p)).length = (f.blocks.getD k.toNat default).ins.length + (instrs f p).length := by simp [instrs]
    rw [h3, List.length_cons, Nat.succ_mul]
    omega
theorem instrs_small {f : GFn} (hb : f.blocks.length ≤ 900000) (hc : ∀ b ∈ f.blocks, b.ins.length ≤ 1000) {p : List Int} (hp : p.length ≤ f.blocks.length) (j : Nat) : (instrs f (p.take j)).length ≤ 1000000000 := by
  have h1 := instrs_le hc (p.take j)
  have h2 : (p.take j).length ≤ 900000 := by rw [List.length_take]; omega
  have h3 := Nat.mul_le_mul_right 1000 h2
  omega
theorem last_in {f : GFn} {p : List Int} (h1 : 1 ≤ p.length) (h : ∀ x ∈ p, 0 ≤ x ∧ x < (f.blocks.length : Int)) : 0 ≤ lastOf p ∧ lastOf p < (f.blocks.length : Int) := h _ (lastOf_mem (List.length_pos_iff.1 h1))
theorem tidy_step {N : List Int → GBlock} {P : List (List Int)} {j : Nat} {b : GBlock} (h : j < P.length) (hb : b = N (P.getD j default)) : (((P.take j).map N) ++ [b]).map eBlock = ((P.take (j + 1)).map N).map eBlock := by
  rw [take_succ_getD h, hb]
  simp
theorem newBlock_eq {f : GFn} {ps : List (List Int)} {p : List Int} {a : List GTac} {b c d e : Int} (ha : a = instrs f p) (hb : b = (blk f (lastOf p)).fin) (hc : c = (blk f (lastOf p)).v) (hd : d = if (blk f (lastOf p)).fin = 3 then 0 else begins ps (blk f (lastOf p)).to) (he : e = if (blk f (lastOf p)).fin = 2 then begins ps (blk f (lastOf p)).els else 0) : (⟨a, b, c, d, e⟩ : GBlock) = newBlock f ps p := by
  subst ha hb hc hd he
  rfl
end Lg
end Go.Proofs.Ytpfhmodjjljpjaa
