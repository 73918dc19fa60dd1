import Derived.Test.YtpfhmodjjljpjaaPm
namespace Go.Proofs.Ytpfhmodjjljpjaa
open Go.RowKit
namespace Lg

/-! ### What it is that paths hold -/
def linkAB (f : GFn) (a b : Int) : Prop := (blk f a).fin = 1 ∧ (blk f a).to = b
def chn (f : GFn) : List Int → Prop
  | [] => True
  | [_] => True
  | a :: b :: l => linkAB f a b ∧ chn f (b :: l)
def headOf (p : List Int) : Int := p.getD 0 default

theorem chn_iff (f : GFn) : ∀ p : List Int, chn f p ↔ ∀ i, i + 1 < p.length → linkAB f (p.getD i default) (p.getD (i + 1) default)
  | [] => ⟨fun _ i h => by simp at h, fun _ => trivial⟩
  | [_] => ⟨fun _ i h => by simp at h, fun _ => trivial⟩
  | a :: b :: l => by
    rw [chn, chn_iff f (b :: l)]
    constructor
    · rintro ⟨h1, h2⟩ i hi
      cases i with
      | zero => exact h1
      | succ i => exact h2 i (by simpa using hi)
    · intro h
      exact ⟨h 0 (by simp), fun i hi => h (i + 1) (by simpa using hi)⟩
theorem chainB_iff (f : GFn) (p : List Int) : chainB f p = true ↔ chn f p := by
  rw [chn_iff, chainB, List.all_eq_true]
  simp only [List.mem_range, link, Bool.and_eq_true, beq_iff_eq, linkAB]
  exact ⟨fun h i hi => h i (by omega), fun h i hi => h i (by omega)⟩
theorem lastOf_one (k : Int) : lastOf [k] = k := rfl
theorem lastOf_cons (a b : Int) (l : List Int) : lastOf (a :: b :: l) = lastOf (b :: l) := by
  have : (((a :: b :: l).length : Nat) : Int) - 1 = (((b :: l).length : Nat) : Int) - 1 + 1 := by simp
  unfold lastOf
  rw [this, show ((((b :: l).length : Nat) : Int) - 1 + 1).toNat = ((((b :: l).length : Nat) : Int) - 1).toNat + 1 by simp]
  rfl
theorem lastOf_append : ∀ (p q : List Int), q ≠ [] → lastOf (p ++ q) = lastOf q
  | [], q, _ => rfl
  | [a], q, h => by
    cases q with
    | nil => exact absurd rfl h
    | cons b q => exact lastOf_cons a b q
  | a :: b :: p, q, h => by
    show lastOf (a :: b :: (p ++ q)) = _
    rw [lastOf_cons]
    exact lastOf_append (b :: p) q h
theorem headOf_append (p q : List Int) (h : p ≠ []) : headOf (p ++ q) = headOf p := by
  cases p with
  | nil => exact absurd rfl h
  | cons a p => rfl
theorem chn_append (f : GFn) : ∀ (p q : List Int), p ≠ [] → q ≠ [] → (chn f (p ++ q) ↔ chn f p ∧ linkAB f (lastOf p) (headOf q) ∧ chn f q)
  | [], q, h, _ => absurd rfl h
  | [a], q, _, h => by
    cases q with
    | nil => exact absurd rfl h
    | cons b q => exact ⟨fun h => ⟨trivial, h.1, h.2⟩, fun h => ⟨h.2.1, h.2.2⟩⟩
  | a :: b :: p, q, _, h => by
    show linkAB f a b ∧ chn f (b :: p ++ q) ↔ _
    rw [chn_append f (b :: p) q (by simp) h, lastOf_cons]
    exact ⟨fun h => ⟨⟨h.1, h.2.1⟩, h.2.2⟩, fun h => ⟨h.1.1, h.1.2, h.2⟩⟩
theorem lastOf_mem {p : List Int} (h : p ≠ []) : lastOf p ∈ p := by
  have : 0 < p.length := List.length_pos_iff.2 h
  exact getD_mem (by omega)
theorem headOf_mem {p : List Int} (h : p ≠ []) : headOf p ∈ p := getD_mem (List.length_pos_iff.2 h)

/-- A new block's end is its path's end. -/
def endOk (f : GFn) (b : GBlock) (p : List Int) (ps : List (List Int)) : Prop :=
  b.fin = (blk f (lastOf p)).fin ∧ b.v = (blk f (lastOf p)).v ∧
  (if (blk f (lastOf p)).fin = 1 then leads ps b.to (blk f (lastOf p)).to = true ∧ b.els = (blk f (lastOf p)).els
   else if (blk f (lastOf p)).fin = 2 then leads ps b.to (blk f (lastOf p)).to = true ∧ leads ps b.els (blk f (lastOf p)).els = true
   else b.to = (blk f (lastOf p)).to ∧ b.els = (blk f (lastOf p)).els)
theorem made_iff (f : GFn) (b : GBlock) (p : List Int) (ps : List (List Int)) : made f b p ps = true ↔ chn f p ∧ b.ins = instrs f p ∧ endOk f b p ps := by
  rw [← chainB_iff]
  unfold made endOk
  split
  · simp only [Bool.and_eq_true, beq_iff_eq, decide_eq_true_eq, and_assoc]
  · split <;> simp only [Bool.and_eq_true, beq_iff_eq, decide_eq_true_eq, and_assoc]
theorem leads_iff (ps : List (List Int)) (n old : Int) : leads ps n old = true ↔ 0 ≤ n ∧ n < ps.length ∧ headOf (ps.getD n.toNat default) = old := by
  simp only [leads, Bool.and_eq_true, beq_iff_eq, decide_eq_true_eq, headOf, and_assoc]
def pathIn (f : GFn) (p : List Int) : Prop := p ≠ [] ∧ ∀ k ∈ p, 0 ≤ k ∧ k < (f.blocks.length : Int)
theorem okPath_iff (f : GFn) (p : List Int) : okPath f p = true ↔ pathIn f p := by
  simp only [okPath, pathIn, outside, Bool.and_eq_true, Bool.not_eq_true', List.any_eq_false, Bool.or_eq_true, decide_eq_true_eq, not_or, decide_eq_false_iff_not, List.length_eq_zero_iff]
  exact ⟨fun h => ⟨h.1, fun k hk => by have := h.2 k hk; omega⟩, fun h => ⟨h.1, fun k hk => by have := h.2 k hk; omega⟩⟩
structure Holds (old new : GFn) (ps : List (List Int)) : Prop where
  len : ps.length = new.blocks.length
  pos : ps.length ≠ 0
  regs : old.regs = new.regs
  inn : ∀ p ∈ ps, pathIn old p
  first : headOf (ps.getD 0 default) = 0
  each : ∀ i, i < ps.length → chn old (ps.getD i default) ∧ (new.blocks.getD i default).ins = instrs old (ps.getD i default) ∧ endOk old (new.blocks.getD i default) (ps.getD i default) ps
theorem tcheck_iff (old new : GFn) (ps : List (List Int)) : tcheck old new ps = true ↔ Holds old new ps := by
  unfold tcheck
  constructor
  · intro h
    split at h
    · cases h
    · rename_i h1
      split at h
      · cases h
      · rename_i h2
        split at h
        · cases h
        · rename_i h3
          rw [List.all_eq_true] at h
          refine ⟨by omega, by omega, by omega, fun p hp => ?_, ?_, fun i hi => (made_iff _ _ _ _).1 (h i (by simpa using hi))⟩
          · simp only [Bool.not_eq_false, List.all_eq_true] at h2
            exact (okPath_iff _ _).1 (h2 p hp)
          · unfold headOf; omega
  · intro h
    have h1 := h.len
    have h2 := h.pos
    have h3 := h.regs
    have h4 := h.first
    unfold headOf at h4
    rw [if_neg (by omega), if_neg (by simp only [Bool.not_eq_false, List.all_eq_true]; exact fun p hp => (okPath_iff _ _).2 (h.inn p hp)), if_neg (by omega), List.all_eq_true]
    exact fun i hi => (made_iff _ _ _ _).2 (h.each i (by simpa using hi))

/-! ### Paths put together -/
def joinP (P : List (List Int)) (q : List Int) : List Int := (q.map fun k => P.getD k.toNat default).flatten
theorem blk_getD (f : GFn) (k : Int) : blk f k = f.blocks.getD k.toNat default := rfl
theorem instrs_append (f : GFn) (p q : List Int) : instrs f (p ++ q) = instrs f p ++ instrs f q := by simp [instrs]
theorem join_ok {A B : GFn} {P : List (List Int)} (h : Holds A B P) : ∀ (q : List Int), q ≠ [] → (∀ k ∈ q, 0 ≤ k ∧ k < (P.length : Int)) → chn B q →
    joinP P q ≠ [] ∧ (∀ x ∈ joinP P q, 0 ≤ x ∧ x < (A.blocks.length : Int)) ∧ chn A (joinP P q) ∧ headOf (joinP P q) = headOf (P.getD (headOf q).toNat default) ∧ lastOf (joinP P q) = lastOf (P.getD (lastOf q).toNat default) ∧ instrs A (joinP P q) = instrs B q
  | [], h, _, _ => absurd rfl h
  | [k], _, hk, _ => by
    have hk0 := hk k (by simp)
    have hlt : k.toNat < P.length := by omega
    have e : joinP P [k] = P.getD k.toNat default := by simp [joinP]
    have hp := h.inn _ (getD_mem hlt)
    have he := h.each _ hlt
    rw [e]
    refine ⟨hp.1, hp.2, he.1, rfl, rfl, ?_⟩
    rw [← he.2.1]
    simp [instrs]
  | k :: k2 :: l, _, hk, hc => by
    have hk0 := hk k (by simp)
    have hlt : k.toNat < P.length := by omega
    have e : joinP P (k :: k2 :: l) = P.getD k.toNat default ++ joinP P (k2 :: l) := by simp [joinP]
    have hp := h.inn _ (getD_mem hlt)
    have he := h.each _ hlt
    obtain ⟨g1, g2, g3, g4, g5, g6⟩ := join_ok h (k2 :: l) (by simp) (fun x hx => hk x (List.mem_cons_of_mem _ hx)) hc.2
    have hl : linkAB A (lastOf (P.getD k.toNat default)) (headOf (joinP P (k2 :: l))) := by
      have h1 := he.2.2
      unfold endOk at h1
      have h2 := hc.1
      unfold linkAB at h2
      rw [blk_getD] at h2
      have h3 : (blk A (lastOf (P.getD k.toNat default))).fin = 1 := by rw [← h1.1]; exact h2.1
      rw [if_pos h3, h2.2] at h1
      refine ⟨h3, ?_⟩
      rw [g4]
      have := (leads_iff _ _ _).1 h1.2.2.1
      rw [← this.2.2]
      rfl
    rw [e]
    refine ⟨fun e => hp.1 (List.append_eq_nil_iff.1 e).1, fun x hx => ?_, (chn_append A _ _ hp.1 g1).2 ⟨he.1, hl, g3⟩, ?_, ?_, ?_⟩
    · rcases List.mem_append.1 hx with hx | hx
      · exact hp.2 x hx
      · exact g2 x hx
    · rw [headOf_append _ _ hp.1]; rfl
    · rw [lastOf_append _ _ g1, g5, lastOf_cons]
    · rw [instrs_append, g6, ← he.2.1]
      simp [instrs]
theorem getD_map {α β : Type} [Inhabited α] [Inhabited β] (g : α → β) (l : List α) {i : Nat} (h : i < l.length) : (l.map g).getD i default = g (l.getD i default) := by
  simp [List.getD_eq_getElem?_getD, h]
theorem joined_holds {A B C : GFn} {P Q : List (List Int)} (h : Holds A B P) (k : Holds B C Q) : Holds A C (Q.map (joinP P)) := by
  have hPB := h.len
  have hin : ∀ q ∈ Q, ∀ x ∈ q, 0 ≤ x ∧ x < (P.length : Int) := fun q hq x hx => by
    have := (k.inn q hq).2 x hx
    omega
  have hj : ∀ i, i < Q.length → _ := fun i hi => join_ok h (Q.getD i default) (k.inn _ (getD_mem hi)).1 (hin _ (getD_mem hi)) (k.each i hi).1
  have hlead : ∀ n x, leads Q n x = true → 0 ≤ x → x < (P.length : Int) → ∀ y, leads P x y = true → leads (Q.map (joinP P)) n y = true := fun n x h1 hx0 hx1 y h2 => by
    rw [leads_iff] at h1 h2 ⊢
    obtain ⟨a1, a2, a3⟩ := h1
    refine ⟨a1, by simpa using a2, ?_⟩
    have hn : n.toNat < Q.length := by omega
    rw [getD_map _ _ hn, (hj _ hn).2.2.2.1, a3]
    exact h2.2.2
  refine ⟨by simpa using k.len, by simpa using k.pos, h.regs.trans k.regs, fun p hp => ?_, ?_, fun i hi => ?_⟩
  · obtain ⟨q, hq, rfl⟩ := List.mem_map.1 hp
    obtain ⟨i, hi, he⟩ := List.mem_iff_getElem.1 hq
    have e : q = Q.getD i default := by rw [List.getD_eq_getElem?_getD, List.getElem?_eq_getElem hi, ← he]; rfl
    rw [e]
    exact ⟨(hj i hi).1, (hj i hi).2.1⟩
  · have h0 : 0 < Q.length := by have := k.pos; omega
    rw [getD_map _ _ h0, (hj 0 h0).2.2.2.1, k.first]
    exact h.first
  · have hi' : i < Q.length := by simpa using hi
    obtain ⟨g1, g2, g3, g4, g5, g6⟩ := hj i hi'
    obtain ⟨e1, e2, e3⟩ := k.each i hi'
    rw [getD_map _ _ hi']
    refine ⟨g3, e2.trans g6.symm, ?_⟩
    have hq := k.inn _ (getD_mem hi')
    have hlq := hin _ (getD_mem hi') _ (lastOf_mem hq.1)
    have hltq : (lastOf (Q.getD i default)).toNat < P.length := by omega
    obtain ⟨m1, m2, m3⟩ := h.each _ hltq
    unfold endOk at e3 m3 ⊢
    rw [blk_getD B] at e3
    rw [g5]
    obtain ⟨a1, a2, a3⟩ := e3
    obtain ⟨b1, b2, b3⟩ := m3
    refine ⟨a1.trans b1, a2.trans b2, ?_⟩
    have hB : ∀ x, leads Q x (B.blocks.getD (lastOf (Q.getD i default)).toNat default).to = true → True := fun _ _ => trivial
    rw [b1] at a3
    split
    · rename_i hf
      rw [if_pos hf] at a3 b3
      have hb := (leads_iff _ _ _).1 b3.1
      exact ⟨hlead _ _ a3.1 hb.1 hb.2.1 _ b3.1, a3.2.trans b3.2⟩
    · rename_i hf
      rw [if_neg hf] at a3 b3
      split
      · rename_i hf2
        rw [if_pos hf2] at a3 b3
        have hb := (leads_iff _ _ _).1 b3.1
        have hb2 := (leads_iff _ _ _).1 b3.2
        exact ⟨hlead _ _ a3.1 hb.1 hb.2.1 _ b3.1, hlead _ _ a3.2 hb2.1 hb2.2.1 _ b3.2⟩
      · rename_i hf2
        rw [if_neg hf2] at a3 b3
        exact ⟨a3.1.trans b3.1, a3.2.trans b3.2⟩
end Lg
end Go.Proofs.Ytpfhmodjjljpjaa
