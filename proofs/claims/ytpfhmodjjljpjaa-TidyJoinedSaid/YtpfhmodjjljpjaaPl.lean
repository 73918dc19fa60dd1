import Derived.Test.YtpfhmodjjljpjaaEq
namespace Go.Proofs.Ytpfhmodjjljpjaa
open Go.RowKit
namespace Lg
set_option linter.unusedSimpArgs false
set_option linter.unusedVariables false

/-! ### Plain lemmas -/
theorem ext_getD {α : Type} [Inhabited α] {a b : List α} (hl : a.length = b.length) (h : ∀ i, i < a.length → a.getD i default = b.getD i default) : a = b := by
  refine List.ext_getElem? (fun i => ?_)
  by_cases hi : i < a.length
  · have := h i hi
    simp only [List.getD_eq_getElem?_getD, List.getElem?_eq_getElem hi, List.getElem?_eq_getElem (show i < b.length by omega), Option.getD_some] at this
    rw [List.getElem?_eq_getElem hi, List.getElem?_eq_getElem (show i < b.length by omega), this]
  · rw [List.getElem?_eq_none (by omega), List.getElem?_eq_none (by omega)]
theorem ne_of_getD {α : Type} [Inhabited α] {a b : List α} {i : Nat} (h : ¬ a.getD i default = b.getD i default) : ¬ a = b := fun e => h (by rw [e])
theorem ne_of_len {α : Type} {a b : List α} (h : ¬ (a.length : Int) = (b.length : Int)) : ¬ a = b := fun e => h (by rw [e])
theorem getD_mem {α : Type} [Inhabited α] {a : List α} {i : Nat} (h : i < a.length) : a.getD i default ∈ a := by
  rw [List.getD_eq_getElem?_getD, List.getElem?_eq_getElem h]
  exact List.getElem_mem h
theorem all_iff_getD {α : Type} [Inhabited α] {a : List α} {p : α → Bool} : a.all p = true ↔ ∀ i, i < a.length → p (a.getD i default) = true := by
  rw [List.all_eq_true]
  constructor
  · exact fun h i hi => h _ (getD_mem hi)
  · intro h x hx
    obtain ⟨i, hi, rfl⟩ := List.mem_iff_getElem.1 hx
    have := h i hi
    simpa [List.getD_eq_getElem?_getD, List.getElem?_eq_getElem hi] using this
theorem take_succ_getD {α : Type} [Inhabited α] {a : List α} {i : Nat} (h : i < a.length) : a.take (i + 1) = a.take i ++ [a.getD i default] := by
  rw [List.take_add_one, List.getD_eq_getElem?_getD, List.getElem?_eq_getElem h]
  rfl

/-- Is n the number of one of ps that begins with old? -/
def leads (ps : List (List Int)) (n old : Int) : Bool := decide (0 ≤ n) && decide (n < ps.length) && ((ps.getD n.toNat default).getD 0 default == old)
def sumLen {α : Type} (l : List (List α)) : Nat := (l.map List.length).sum
theorem sumLen_take {α : Type} (l : List (List α)) (j : Nat) (h : j < l.length) : sumLen (l.take (j + 1)) = sumLen (l.take j) + (l.getD j default).length := by
  rw [take_succ_getD h]
  simp [sumLen]
theorem sumLen_take_le {α : Type} (l : List (List α)) (j : Nat) : sumLen (l.take j) ≤ sumLen l := by
  have h := congrArg sumLen (List.take_append_drop j l)
  have h2 : sumLen (l.take j ++ l.drop j) = sumLen (l.take j) + sumLen (l.drop j) := by simp only [sumLen, List.map_append, List.sum_append]
  omega
def insOf (f : GFn) : List (List GTac) := f.blocks.map (·.ins)
def few (f : GFn) (blocks most : Int) : Bool := decide ((f.blocks.length : Int) ≤ blocks) && decide ((sumLen (insOf f) : Int) ≤ most)
def outside (f : GFn) (k : Int) : Bool := decide (k < 0) || decide (k ≥ (f.blocks.length : Int))
def fstIdx {α : Type} (q : α → Bool) (p : List α) : Int := match p.findIdx? q with | some i => (i : Int) | none => -1
theorem fstIdx_hit {α : Type} [Inhabited α] (q : α → Bool) (p : List α) {j : Nat} (hj : j < p.length) (h : q (p.getD j default) = true) (hb : ∀ i, i < j → q (p.getD i default) = false) : fstIdx q p = (j : Int) := by
  have : p.findIdx? q = some j := by
    rw [List.findIdx?_eq_some_iff_getElem]
    refine ⟨hj, by simpa [List.getD_eq_getElem?_getD, List.getElem?_eq_getElem hj] using h, fun i hi => ?_⟩
    have := hb i hi
    simpa [List.getD_eq_getElem?_getD, List.getElem?_eq_getElem (show i < p.length by omega)] using this
  simp [fstIdx, this]
theorem fstIdx_none {α : Type} [Inhabited α] (q : α → Bool) (p : List α) (hb : ∀ i, i < p.length → q (p.getD i default) = false) : fstIdx q p = -1 := by
  have : p.findIdx? q = none := by
    rw [List.findIdx?_eq_none_iff]
    intro x hx
    obtain ⟨i, hi, rfl⟩ := List.mem_iff_getElem.1 hx
    have := hb i hi
    simpa [List.getD_eq_getElem?_getD, List.getElem?_eq_getElem hi] using this
  simp [fstIdx, this]
theorem fstIdx_any {α : Type} (q : α → Bool) (p : List α) : decide (fstIdx q p ≥ 0) = p.any q := by
  unfold fstIdx
  cases h : p.findIdx? q with
  | none =>
    rw [List.findIdx?_eq_none_iff] at h
    have : p.any q = false := by rw [List.any_eq_false]; exact fun x hx => by simp [h x hx]
    rw [this]; rfl
  | some i =>
    obtain ⟨hi, h1, _⟩ := List.findIdx?_eq_some_iff_getElem.1 h
    have : p.any q = true := List.any_eq_true.2 ⟨_, List.getElem_mem hi, h1⟩
    rw [this]; simp
def instrs (f : GFn) (p : List Int) : List GTac := (p.map fun k => (f.blocks.getD k.toNat default).ins).flatten
theorem instrs_take (f : GFn) (p : List Int) (j : Nat) (h : j < p.length) : instrs f (p.take (j + 1)) = instrs f (p.take j) ++ (f.blocks.getD (p.getD j default).toNat default).ins := by
  rw [take_succ_getD h]
  simp [instrs]
theorem range_all_true {n : Nat} {q : Nat → Bool} (h : ∀ i, i < n → q i = true) : (List.range n).all q = true := List.all_eq_true.2 (fun i hi => h i (by simpa using hi))
theorem range_all_false {n : Nat} {q : Nat → Bool} {i : Nat} (hi : i < n) (h : q i = false) : (List.range n).all q = false := by
  rw [List.all_eq_false]
  exact ⟨i, by simpa using hi, by simp [h]⟩
def blk (f : GFn) (k : Int) : GBlock := f.blocks.getD k.toNat default
def link (f : GFn) (p : List Int) (i : Nat) : Bool := (blk f (p.getD i default)).fin == 1 && (blk f (p.getD i default)).to == p.getD (i + 1) default
def chainB (f : GFn) (p : List Int) : Bool := (List.range (p.length - 1)).all (link f p)
def lastOf (p : List Int) : Int := p.getD ((p.length : Int) - 1).toNat default
/-- Is a new block made of its path? -/
def made (f : GFn) (b : GBlock) (p : List Int) (ps : List (List Int)) : Bool :=
  chainB f p && decide (b.ins = instrs f p) && b.fin == (blk f (lastOf p)).fin && b.v == (blk f (lastOf p)).v &&
  (if (blk f (lastOf p)).fin = 1 then leads ps b.to (blk f (lastOf p)).to && b.els == (blk f (lastOf p)).els
   else if (blk f (lastOf p)).fin = 2 then leads ps b.to (blk f (lastOf p)).to && leads ps b.els (blk f (lastOf p)).els
   else b.to == (blk f (lastOf p)).to && b.els == (blk f (lastOf p)).els)
theorem chain_t {f : GFn} {p : List Int} {j : Nat} (h : ∀ i, i < j → link f p i = true) (hj : p.length - 1 ≤ j) : chainB f p = true := range_all_true (fun i hi => h i (by omega))
theorem made_f {f : GFn} {b : GBlock} {p : List Int} {ps : List (List Int)} {i : Nat} (hi : i < p.length - 1) (h : link f p i = false) : made f b p ps = false := by
  have : chainB f p = false := range_all_false hi h
  simp [made, this]
def okPath (f : GFn) (p : List Int) : Bool := !decide (p.length = 0) && !p.any (outside f)
theorem okPath_t {f : GFn} {p : List Int} (h1 : 1 ≤ p.length) (h2 : p.any (outside f) = false) : okPath f p = true := by simp only [okPath, h2, decide_eq_false (show ¬ p.length = 0 by omega)]; rfl
theorem okPath_len {f : GFn} {p : List Int} (h : okPath f p = true) : 1 ≤ p.length := by
  simp only [okPath, Bool.and_eq_true, Bool.not_eq_true', decide_eq_false_iff_not] at h; omega
theorem okPath_in {f : GFn} {p : List Int} (h : okPath f p = true) (i : Nat) (hi : i < p.length) : 0 ≤ p.getD i default ∧ p.getD i default < (f.blocks.length : Int) := by
  simp only [okPath, Bool.and_eq_true, Bool.not_eq_true', List.any_eq_false] at h
  have := h.2 _ (getD_mem hi)
  simp only [outside, Bool.or_eq_true, decide_eq_true_eq, not_or] at this
  omega
theorem all_false_at {α : Type} [Inhabited α] {q : α → Bool} {l : List α} {i : Nat} (hi : i < l.length) (h : q (l.getD i default) = false) : l.all q = false := by
  rw [List.all_eq_false]
  exact ⟨_, getD_mem hi, by rw [h]; exact Bool.false_ne_true⟩
/-- Does it do the same? -/
def tcheck (old new : GFn) (ps : List (List Int)) : Bool :=
  if ¬ (ps.length : Int) = (new.blocks.length : Int) ∨ (ps.length : Int) = 0 ∨ ¬ old.regs = new.regs then false
  else if ps.all (okPath old) = false then false
  else if ¬ (ps.getD 0 default).getD 0 default = 0 then false
  else (List.range ps.length).all fun i => made old (new.blocks.getD i default) (ps.getD i default) ps
end Lg
end Go.Proofs.Ytpfhmodjjljpjaa
