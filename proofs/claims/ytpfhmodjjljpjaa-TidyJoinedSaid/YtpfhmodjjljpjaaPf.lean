import Derived.Test.YtpfhmodjjljpjaaF90
import Derived.Test.YtpfhmodjjljpjaaF12
import Derived.Test.YtpfhmodjjljpjaaF7
import Derived.Test.YtpfhmodjjljpjaaPv
import Derived.Test.YtpfhmodjjljpjaaPr
import Derived.Test.YtpfhmodjjljpjaaPn
import Derived.Test.YtpfhmodjjljpjaaJo
namespace Go.Proofs.Ytpfhmodjjljpjaa
open Go.RowKit
namespace Lg

/-! ### The paths of a function -/
def nextL (f : GFn) : List (List Int) := f.blocks.map follows
def reachL (f : GFn) : List Bool := ((visit (nextL f) (-1) ((nextL f).length + 1) 0 (List.replicate (nextL f).length false, List.replicate (nextL f).length false)).getD ([], [])).2
def fromL (f : GFn) : List (List Int) := fromAll (nextL f) (reachL f) f.blocks.length (nextL f).length
def byL (f : GFn) : List Int := (List.range f.blocks.length).map (takenAt f (reachL f) (fromL f))
def pathAt (f : GFn) (i : Nat) : List Int := (follow (byL f) (f.blocks.length + 1) [(i : Int)]).getD [(i : Int)]
def isHead (f : GFn) (i : Nat) : Bool := (reachL f).getD i default && decide ((byL f).getD i default < 0)
def pathsTo (f : GFn) (j : Nat) : List (List Int) := ((List.range j).filter (isHead f)).map (pathAt f)
def pathsL (f : GFn) : List (List Int) := pathsTo f f.blocks.length
/-- The ends of all blocks lead to blocks. -/
def InN (f : GFn) : Prop := ∀ l ∈ nextL f, ∀ x ∈ l, 0 ≤ x ∧ x < (f.blocks.length : Int)

theorem nextL_length (f : GFn) : (nextL f).length = f.blocks.length := by simp [nextL]
theorem nextL_getD (f : GFn) (i : Nat) : (nextL f).getD i default = follows (f.blocks.getD i default) := by
  unfold nextL
  rw [List.getD_eq_getElem?_getD, List.getElem?_map, List.getD_eq_getElem?_getD]
  cases f.blocks[i]? with
  | none => rfl
  | some b => rfl
theorem reachL_some (f : GFn) : ∃ s2, visit (nextL f) (-1) ((nextL f).length + 1) 0 (List.replicate (nextL f).length false, List.replicate (nextL f).length false) = some (s2, reachL f) := by
  obtain ⟨s2, o2, h1, _⟩ := visit_all (nextL f)
  exact ⟨s2, by unfold reachL; rw [h1]; rfl⟩
theorem reachL_length (f : GFn) : (reachL f).length = f.blocks.length := by
  obtain ⟨s2, o2, h1, h2, h3⟩ := visit_all (nextL f)
  unfold reachL; rw [h1, ← nextL_length]; exact h2
theorem reachL_iff (f : GFn) (x : Nat) : (reachL f).getD x default = true ↔ RF (nextL f) (-1) 0 x := by
  obtain ⟨s2, o2, h1, h2, h3⟩ := visit_all (nextL f)
  unfold reachL; rw [h1]; exact h3 x
theorem byL_length (f : GFn) : (byL f).length = f.blocks.length := by simp [byL]
theorem byL_getD (f : GFn) {i : Nat} (h : i < f.blocks.length) : (byL f).getD i default = takenAt f (reachL f) (fromL f) i := by
  unfold byL
  rw [getD_map _ _ (by simpa using h), range_getD h]

/-! What leads to each -/
theorem addTo_getD (fr : List (List Int)) (n i : Int) (k : Nat) : (addTo fr n i).getD k default = if k = n.toNat ∧ k < fr.length then fr.getD k default ++ [i] else fr.getD k default := by
  unfold addTo
  rw [List.getD_eq_getElem?_getD, List.getElem?_set]
  by_cases hk : n.toNat = k
  · subst hk
    by_cases hl : n.toNat < fr.length
    · simp [hl]
    · simp [hl]
  · rw [if_neg hk, if_neg (fun h => hk h.1.symm), List.getD_eq_getElem?_getD]
theorem fromFold_getD (reached : List Bool) (i k : Nat) : ∀ (l : List Int) (fr : List (List Int)), k < fr.length → (∀ x ∈ l, 0 ≤ x) →
    (l.foldl (fromStep reached i) fr).getD k default = fr.getD k default ++ (if reached.getD i default = true then List.replicate (l.count (k : Int)) (i : Int) else [])
  | [], fr, _, _ => by simp
  | x :: l, fr, hk, hx => by
    rw [List.foldl_cons, fromFold_getD reached i k l _ (by rw [fromStep_length]; exact hk) (fun y hy => hx y (List.mem_cons_of_mem _ hy))]
    unfold fromStep
    have hx0 := hx x (by simp)
    split
    · rw [addTo_getD]
      by_cases hxk : k = x.toNat
      · have e : x = (k : Int) := by omega
        rw [if_pos ⟨hxk, hk⟩, e, List.count_cons_self, List.append_assoc]
        rfl
      · have e : x ≠ (k : Int) := by omega
        rw [if_neg (fun h => hxk h.1), List.count_cons_of_ne e]
    · rfl
theorem fromAll_getD (next : List (List Int)) (reached : List Bool) (nb k : Nat) (hk : k < nb) (hn : ∀ l ∈ next, ∀ x ∈ l, 0 ≤ x) : ∀ (m : Nat), m ≤ next.length →
    (fromAll next reached nb m).getD k default = (List.range m).flatMap (fun i => if reached.getD i default = true then List.replicate ((next.getD i default).count (k : Int)) (i : Int) else [])
  | 0, _ => by
    show (List.replicate nb ([] : List Int)).getD k default = []
    rw [List.getD_eq_getElem?_getD, List.getElem?_replicate]
    split <;> rfl
  | m + 1, hm => by
    rw [fromAll_succ, fromRow, fromFold_getD reached m k _ _ (by rw [fromAll_length]; exact hk) (hn _ (getD_mem (by omega))), fromAll_getD next reached nb k hk hn m (by omega), List.range_succ, List.flatMap_append]
    simp

theorem fromL_getD {f : GFn} (hi : InN f) {k : Nat} (hk : k < f.blocks.length) :
    (fromL f).getD k default = (List.range f.blocks.length).flatMap (fun i => if (reachL f).getD i default = true then List.replicate (((nextL f).getD i default).count (k : Int)) (i : Int) else []) := by
  unfold fromL
  rw [fromAll_getD _ _ _ _ hk (fun l hl x hx => (hi l hl x hx).1) _ (Nat.le_refl _), nextL_length]
theorem mem_fromL {f : GFn} (hi : InN f) {k : Nat} (hk : k < f.blocks.length) {x : Int} : x ∈ (fromL f).getD k default ↔ ∃ i : Nat, i < f.blocks.length ∧ x = (i : Int) ∧ (reachL f).getD i default = true ∧ (k : Int) ∈ (nextL f).getD i default := by
  rw [fromL_getD hi hk, List.mem_flatMap]
  constructor
  · rintro ⟨i, h1, h2⟩
    split at h2
    · rename_i h3
      obtain ⟨h4, h5⟩ := List.mem_replicate.1 h2
      exact ⟨i, by simpa using h1, h5, h3, List.count_pos_iff.1 (by omega)⟩
    · cases h2
  · rintro ⟨i, h1, h2, h3, h4⟩
    refine ⟨i, by simpa using h1, ?_⟩
    rw [if_pos h3]
    exact List.mem_replicate.2 ⟨by have := List.count_pos_iff.2 h4; omega, h2⟩

/-- One block is taken in by another. -/
structure Takes (f : GFn) (j k : Nat) : Prop where
  k0 : 0 < k
  jn : j < f.blocks.length
  kn : k < f.blocks.length
  rj : (reachL f).getD j default = true
  rk : (reachL f).getD k default = true
  one : (fromL f).getD k default = [(j : Int)]
  ne : j ≠ k
  fin : (f.blocks.getD j default).fin = 1
  to : (f.blocks.getD j default).to = (k : Int)
theorem takes_iff {f : GFn} (hi : InN f) {k : Nat} (hk : k < f.blocks.length) (x : Int) (hx : 0 ≤ x) : (byL f).getD k default = x ↔ Takes f x.toNat k := by
  rw [byL_getD f hk]
  constructor
  · intro h
    unfold takenAt at h
    split at h
    · rename_i hc
      obtain ⟨c1, c2, c3, c4, c5⟩ := hc
      obtain ⟨y, hy⟩ := List.length_eq_one_iff.1 c3
      rw [hy] at h c4 c5
      have hyx : y = x := by simpa using h
      subst hyx
      have hm : y ∈ (fromL f).getD k default := by rw [hy]; simp
      obtain ⟨i, h1, h2, h3, h4⟩ := (mem_fromL hi hk).1 hm
      subst h2
      have e : ((i : Int)).toNat = i := by omega
      have c5' : (f.blocks.getD i default).fin = 1 := c5
      rw [nextL_getD, follows, if_pos c5', List.mem_singleton] at h4
      refine ⟨c1, by omega, hk, by rw [e]; exact h3, c2, by rw [e]; exact hy, ?_, by rw [e]; exact c5', by rw [e]; exact h4.symm⟩
      rw [e]
      have : ¬ ((i : Int) = (k : Int)) := by simpa using c4
      omega
    · omega
  · intro h
    unfold takenAt
    have e : ((x.toNat : Nat) : Int) = x := by omega
    have h1 := h.one
    rw [e] at h1
    have hne : ¬ x = (k : Int) := by have := h.ne; omega
    rw [h1]
    exact if_pos ⟨h.k0, h.rk, rfl, hne, h.fin⟩
theorem byL_neg {f : GFn} {k : Nat} (hk : k < f.blocks.length) (h : (byL f).getD k default < 0) (hi : InN f) (j : Nat) : ¬ Takes f j k := fun ht => by
  have h2 := (takes_iff hi hk (j : Int) (by omega)).2 (by simpa using ht)
  omega
theorem takes_of {f : GFn} (hi : InN f) {k : Nat} (hk : k < f.blocks.length) (h : ¬ (byL f).getD k default < 0) : Takes f ((byL f).getD k default).toNat k := (takes_iff hi hk _ (by omega)).1 rfl
theorem Takes.uniq {f : GFn} {j k k' : Nat} (h : Takes f j k) (h' : Takes f j k') : k = k' := by
  have := h.to; have := h'.to; omega
theorem Takes.uniq' {f : GFn} {j j' k : Nat} (h : Takes f j k) (h' : Takes f j' k) : j = j' := by
  have h1 := h.one
  rw [h'.one] at h1
  simp at h1
  omega

/-! Paths -/
theorem nodup_length : ∀ (n : Nat) (l : List Nat), l.Nodup → (∀ x ∈ l, x < n) → l.length ≤ n
  | 0, l, _, h => by
    cases l with
    | nil => exact Nat.le_refl _
    | cons x l => exact absurd (h x (by simp)) (by omega)
  | n + 1, l, hd, h => by
    have h1 := nodup_length n (l.erase n) (hd.erase n) (fun x hx => by
      have := h x (List.mem_of_mem_erase hx)
      have hne : x ≠ n := fun e => by subst e; exact (List.Nodup.not_mem_erase hd) hx
      omega)
    by_cases hm : n ∈ l
    · have := List.length_erase_of_mem hm; omega
    · rw [List.erase_of_not_mem hm] at h1; omega

/-- A path, grown from its head: each takes in the next one. -/
structure Grown (f : GFn) (p : List Nat) : Prop where
  ne : p ≠ []
  lt : ∀ x ∈ p, x < f.blocks.length
  rch : ∀ x ∈ p, (reachL f).getD x default = true
  nd : p.Nodup
  link : ∀ i, i + 1 < p.length → Takes f (p.getD i default) (p.getD (i + 1) default)
  hd : (byL f).getD (p.getD 0 default) default < 0
def ints (p : List Nat) : List Int := List.map (fun x : Nat => (x : Int)) p
theorem ints_length (p : List Nat) : (ints p).length = p.length := by simp [ints]
theorem ints_getD (p : List Nat) (i : Nat) : (ints p).getD i default = ((p.getD i default : Nat) : Int) := by
  unfold ints
  rw [List.getD_eq_getElem?_getD, List.getElem?_map, List.getD_eq_getElem?_getD]
  cases p[i]? <;> rfl
def lastN (p : List Nat) : Nat := p.getD (p.length - 1) default
theorem lastOf_ints {p : List Nat} (h : p ≠ []) : lastOf (ints p) = ((lastN p : Nat) : Int) := by
  have : 0 < p.length := List.length_pos_iff.2 h
  unfold lastOf lastN
  rw [ints_length, ints_getD, show ((p.length : Int) - 1).toNat = p.length - 1 by omega]
theorem getD_append_left {α : Type} [Inhabited α] {p q : List α} {i : Nat} (h : i < p.length) : (p ++ q).getD i default = p.getD i default := by
  rw [List.getD_eq_getElem?_getD, List.getElem?_append_left h, List.getD_eq_getElem?_getD]
theorem getD_append_one {α : Type} [Inhabited α] {p : List α} {x : α} : (p ++ [x]).getD p.length default = x := by
  rw [List.getD_eq_getElem?_getD, List.getElem?_append_right (Nat.le_refl _)]; simp
theorem nodup_getD {p : List Nat} (h : p.Nodup) {i j : Nat} (hi : i < p.length) (hj : j < p.length) (e : p.getD i default = p.getD j default) : i = j := by
  rw [List.getD_eq_getElem?_getD, List.getD_eq_getElem?_getD, List.getElem?_eq_getElem hi, List.getElem?_eq_getElem hj] at e
  exact (List.getElem_inj h).1 e
theorem mem_getD {α : Type} [Inhabited α] {p : List α} {x : α} (h : x ∈ p) : ∃ i, i < p.length ∧ p.getD i default = x := by
  obtain ⟨i, hi, e⟩ := List.mem_iff_getElem.1 h
  exact ⟨i, hi, by rw [List.getD_eq_getElem?_getD, List.getElem?_eq_getElem hi, e]; rfl⟩
theorem Grown.snoc {f : GFn} {p : List Nat} (h : Grown f p) {k : Nat} (hi : InN f) (ht : Takes f (lastN p) k) : Grown f (p ++ [k]) := by
  have hl : 0 < p.length := List.length_pos_iff.2 h.ne
  refine ⟨by simp, fun x hx => ?_, fun x hx => ?_, ?_, fun i hi' => ?_, ?_⟩
  · rcases List.mem_append.1 hx with hx | hx
    · exact h.lt x hx
    · simp at hx; subst hx; exact ht.kn
  · rcases List.mem_append.1 hx with hx | hx
    · exact h.rch x hx
    · simp at hx; subst hx; exact ht.rk
  · rw [List.nodup_append]
    refine ⟨h.nd, by simp, fun x hx y hy e => ?_⟩
    simp at hy
    subst hy
    subst e
    obtain ⟨i, hi', e⟩ := mem_getD hx
    cases i with
    | zero =>
      have h1 := h.hd
      rw [e] at h1
      exact byL_neg ht.kn h1 hi _ ht
    | succ i =>
      have h1 := h.link i hi'
      rw [e] at h1
      have h2 := h1.uniq' ht
      have h3 := nodup_getD h.nd (i := i) (j := p.length - 1) (by omega) (by omega) h2
      omega
  · simp at hi'
    by_cases he : i + 1 < p.length
    · rw [getD_append_left (by omega), getD_append_left he]; exact h.link i he
    · have e : i + 1 = p.length := by omega
      rw [getD_append_left (by omega), e, getD_append_one]
      have : lastN p = p.getD i default := by unfold lastN; rw [← e]; rfl
      rw [← this]; exact ht
  · rw [getD_append_left hl]; exact h.hd

theorem fst_takes {f : GFn} (hi : InN f) (j : Nat) : (fstIdx (fun y => y == (j : Int)) (byL f) ≥ 0 → Takes f j (fstIdx (fun y => y == (j : Int)) (byL f)).toNat) ∧ (¬ fstIdx (fun y => y == (j : Int)) (byL f) ≥ 0 → ∀ k, ¬ Takes f j k) := by
  unfold fstIdx
  cases hf : (byL f).findIdx? (fun y => y == (j : Int)) with
  | none =>
    refine ⟨fun h => absurd h (by simp), fun _ k ht => ?_⟩
    rw [List.findIdx?_eq_none_iff] at hf
    have h1 := (takes_iff hi ht.kn (j : Int) (by omega)).2 (by simpa using ht)
    have := hf _ (getD_mem (i := k) (by rw [byL_length]; exact ht.kn))
    rw [h1] at this
    simp at this
  | some k =>
    refine ⟨fun _ => ?_, fun h => absurd (show (k : Int) ≥ 0 by omega) h⟩
    obtain ⟨h1, h2, _⟩ := List.findIdx?_eq_some_iff_getElem.1 hf
    rw [byL_length] at h1
    have h3 : (byL f).getD k default = (j : Int) := by
      rw [List.getD_eq_getElem?_getD, List.getElem?_eq_getElem (by rw [byL_length]; exact h1)]
      simpa using h2
    have := (takes_iff hi h1 (j : Int) (by omega)).1 h3
    simpa using this

theorem follow_grown {f : GFn} (hi : InN f) : ∀ (m : Nat) (p : List Nat), Grown f p → f.blocks.length < m + p.length → ∃ q, follow (byL f) m (ints p) = some (ints (p ++ q)) ∧ Grown f (p ++ q) ∧ ∀ k, ¬ Takes f (lastN (p ++ q)) k
  | 0, p, h, hm => by
    have := nodup_length _ p h.nd h.lt
    omega
  | m + 1, p, h, hm => by
    rw [follow, lastOf_ints h.ne]
    split
    · rename_i hk
      have ht := (fst_takes hi (lastN p)).1 hk
      obtain ⟨q, h1, h2, h3⟩ := follow_grown hi m _ (h.snoc hi ht) (by simp; omega)
      refine ⟨(fstIdx (fun y => y == ((lastN p : Nat) : Int)) (byL f)).toNat :: q, ?_, by simpa using h2, by simpa using h3⟩
      rw [show ints p ++ [fstIdx (fun y => y == ((lastN p : Nat) : Int)) (byL f)] = ints (p ++ [(fstIdx (fun y => y == ((lastN p : Nat) : Int)) (byL f)).toNat]) by simp [ints]; omega, h1]
      simp
    · rename_i hk
      exact ⟨[], by simp, by simpa using h, by simpa using (fst_takes hi (lastN p)).2 hk⟩

theorem grown_one {f : GFn} {i : Nat} (hi : i < f.blocks.length) (h : isHead f i = true) : Grown f [i] := by
  simp only [isHead, Bool.and_eq_true, decide_eq_true_eq] at h
  exact ⟨by simp, fun x hx => by simp at hx; omega, fun x hx => by simp at hx; subst hx; exact h.1, by simp, fun i hi => by simp at hi, h.2⟩
/-- A head's path. -/
structure PathOf (f : GFn) (i : Nat) (p : List Nat) : Prop where
  e : pathAt f i = ints p
  g : Grown f p
  h : p.getD 0 default = i
  last : ∀ k, ¬ Takes f (lastN p) k
theorem path_of {f : GFn} (hi : InN f) {i : Nat} (hl : i < f.blocks.length) (h : isHead f i = true) : follow (byL f) (f.blocks.length + 1) [(i : Int)] = some (pathAt f i) ∧ ∃ p, PathOf f i p := by
  obtain ⟨q, h1, h2, h3⟩ := follow_grown hi (f.blocks.length + 1) [i] (grown_one hl h) (by simp; omega)
  have e : pathAt f i = ints ([i] ++ q) := by
    unfold pathAt
    rw [show [(i : Int)] = ints [i] from rfl, h1]
    rfl
  exact ⟨by rw [e]; exact h1, [i] ++ q, e, h2, rfl, h3⟩
theorem follows_le (f : GFn) : ∀ l ∈ nextL f, l.length ≤ 2 := fun l hl => by
  obtain ⟨b, _, rfl⟩ := List.mem_map.1 hl
  unfold follows
  split
  · simp
  · split <;> simp
theorem isHead_of {f : GFn} {i : Nat} (h1 : (reachL f).getD i default = true) (h2 : (byL f).getD i default < 0) : isHead f i = true := by
  unfold isHead; rw [h1, decide_eq_true h2]; rfl
theorem pathsTo_le (f : GFn) (j : Nat) : (pathsTo f j).length ≤ j := by
  unfold pathsTo
  rw [List.length_map]
  exact Nat.le_trans (List.length_filter_le _ _) (by simp)
theorem pathsTo_t {f : GFn} {j : Nat} (h : isHead f j = true) : pathsTo f (j + 1) = pathsTo f j ++ [pathAt f j] := by
  simp [pathsTo, List.range_succ, List.filter_append, h]
theorem pathsTo_f {f : GFn} {j : Nat} (h : isHead f j = false) : pathsTo f (j + 1) = pathsTo f j := by
  simp [pathsTo, List.range_succ, List.filter_append, h]
end Lg
end Go.Proofs.Ytpfhmodjjljpjaa
