import Derived.Test.YtpfhmodjjljpjaaPq
namespace Go.Proofs.Ytpfhmodjjljpjaa
open Go.RowKit
namespace Lg

/-! ### Depth first: what is reached -/
/-- x is reached from b. -/
inductive RF (next : List (List Int)) (bar : Int) (b : Int) : Nat → Prop
  | refl (h0 : 0 ≤ b) (h1 : b < (next.length : Int)) (h2 : b ≠ bar) : RF next bar b b.toNat
  | step {x : Nat} {y : Int} (h : RF next bar b x) (hy : y ∈ next.getD x default) (h0 : 0 ≤ y) (h1 : y < (next.length : Int)) (h2 : y ≠ bar) : RF next bar b y.toNat

theorem RF.lt {next : List (List Int)} {bar b : Int} {x : Nat} (h : RF next bar b x) : x < next.length := by
  cases h <;> omega
theorem RF.head {next : List (List Int)} {bar b y : Int} {x : Nat} (h0 : 0 ≤ b) (h1 : b < (next.length : Int)) (h2 : b ≠ bar) (hy : y ∈ next.getD b.toNat default) (h : RF next bar y x) : RF next bar b x := by
  induction h with
  | refl g0 g1 g2 => exact .step (.refl h0 h1 h2) hy g0 g1 g2
  | step _ hy g0 g1 g2 ih => exact .step ih hy g0 g1 g2

theorem getD_set_true {s : List Bool} {i x : Nat} (h : i < s.length) : (s.set i true).getD x default = if x = i then true else s.getD x default := by
  rw [List.getD_eq_getElem?_getD, List.getElem?_set]
  by_cases hx : i = x
  · subst hx; simp [h]
  · simp [hx, Ne.symm hx, List.getD_eq_getElem?_getD]
theorem count_mono : ∀ {s s' : List Bool}, s'.length = s.length → (∀ x, s.getD x default = true → s'.getD x default = true) → s'.count false ≤ s.count false
  | [], [], _, _ => Nat.le_refl _
  | a :: s, b :: s', hl, h => by
    have h0 := h 0
    have ih := count_mono (s := s) (s' := s') (by simpa using hl) (fun x hx => by have := h (x + 1); simp only [List.getD_cons_succ] at this; exact this hx)
    simp only [List.getD_cons_zero] at h0
    cases a <;> cases b <;> simp_all <;> omega
theorem count_set_lt {s : List Bool} {i : Nat} (h : i < s.length) (hf : s.getD i default = false) : (s.set i true).count false + 1 = s.count false := by
  have hg : s[i] = false := by
    rw [List.getD_eq_getElem?_getD, List.getElem?_eq_getElem h] at hf
    exact hf
  have hpos : 0 < s.count false := List.count_pos_iff.2 (hg ▸ List.getElem_mem h)
  rw [List.count_set h]
  simp [hg]
  omega

structure VOK (next : List (List Int)) (bar b : Int) (s o s' o' : List Bool) : Prop where
  ls : s'.length = next.length
  lo : o'.length = next.length
  mono : ∀ x, s.getD x default = true → s'.getD x default = true
  outs : ∀ x, o'.getD x default = true ↔ o.getD x default = true ∨ (s'.getD x default = true ∧ s.getD x default = false)
  fr : ∀ x, s'.getD x default = true → s.getD x default = true ∨ RF next bar b x
  clos : ∀ x, s'.getD x default = true → s.getD x default = false → ∀ y ∈ next.getD x default, 0 ≤ y → y < (next.length : Int) → y ≠ bar → s'.getD y.toNat default = true
  self : 0 ≤ b → b < (next.length : Int) → b ≠ bar → s'.getD b.toNat default = true

structure FOK (next : List (List Int)) (bar : Int) (l : List Int) (s o s' o' : List Bool) : Prop where
  ls : s'.length = next.length
  lo : o'.length = next.length
  mono : ∀ x, s.getD x default = true → s'.getD x default = true
  outs : ∀ x, o'.getD x default = true ↔ o.getD x default = true ∨ (s'.getD x default = true ∧ s.getD x default = false)
  fr : ∀ x, s'.getD x default = true → s.getD x default = true ∨ ∃ y ∈ l, RF next bar y x
  clos : ∀ x, s'.getD x default = true → s.getD x default = false → ∀ y ∈ next.getD x default, 0 ≤ y → y < (next.length : Int) → y ≠ bar → s'.getD y.toNat default = true
  all : ∀ y ∈ l, 0 ≤ y → y < (next.length : Int) → y ≠ bar → s'.getD y.toNat default = true

theorem bool_cases (b : Bool) : b = true ∨ b = false := by cases b <;> simp

theorem visit_ok (next : List (List Int)) (bar : Int) : ∀ (m : Nat) (b : Int) (s o : List Bool), s.length = next.length → o.length = next.length → s.count false + 1 ≤ m → ∃ s' o', visit next bar m b (s, o) = some (s', o') ∧ VOK next bar b s o s' o'
  | 0, _, _, _, _, _, h => by omega
  | m + 1, b, s, o, hs, ho, hm => by
    rw [visit]
    by_cases hc : b < 0 ∨ b ≥ (next.length : Int) ∨ (s, o).1.getD b.toNat default = true ∨ b = bar
    · rw [if_pos hc]
      refine ⟨s, o, rfl, hs, ho, fun _ h => h, fun x => ⟨fun h => .inl h, fun h => ?_⟩, fun x h => .inl h, fun x h1 h2 => ?_, fun h0 h1 h2 => ?_⟩
      · rcases h with h | ⟨h1, h2⟩
        · exact h
        · rw [h1] at h2; cases h2
      · rw [h1] at h2; cases h2
      · rcases hc with h | h | h | h
        · omega
        · omega
        · exact h
        · exact absurd h h2
    · rw [if_neg hc]
      simp only [not_or] at hc
      obtain ⟨c0, c1, c2, c3⟩ := hc
      have hbl : b.toNat < s.length := by omega
      have hsf : s.getD b.toNat default = false := (bool_cases _).resolve_left c2
      have hcnt := count_set_lt hbl hsf
      have hfold : ∀ (l : List Int) (s1 o1 : List Bool), s1.length = next.length → o1.length = next.length → s1.count false + 1 ≤ m → ∃ s' o', l.foldlM (fun st n => visit next bar m n st) (s1, o1) = some (s', o') ∧ FOK next bar l s1 o1 s' o' := by
        intro l
        induction l with
        | nil =>
          intro s1 o1 h1 h2 _
          refine ⟨s1, o1, rfl, h1, h2, fun _ h => h, fun x => ⟨fun h => .inl h, fun h => ?_⟩, fun x h => .inl h, fun x h1 h2 => ?_, fun y hy => by cases hy⟩
          · rcases h with h | ⟨h1, h2⟩
            · exact h
            · rw [h1] at h2; cases h2
          · rw [h1] at h2; cases h2
        | cons y l ih =>
          intro s1 o1 h1 h2 h3
          obtain ⟨s2, o2, e1, k1⟩ := visit_ok next bar m y s1 o1 h1 h2 h3
          have hle := count_mono (s := s1) (s' := s2) (by rw [k1.ls, h1]) k1.mono
          obtain ⟨s3, o3, e2, k2⟩ := ih s2 o2 k1.ls k1.lo (by omega)
          refine ⟨s3, o3, by rw [List.foldlM_cons, e1]; exact e2, k2.ls, k2.lo, fun x h => k2.mono x (k1.mono x h), fun x => ?_, fun x h => ?_, fun x g1 g2 => ?_, fun z hz => ?_⟩
          · rw [k2.outs, k1.outs]
            constructor
            · rintro ((h | ⟨h, h'⟩) | ⟨h, h'⟩)
              · exact .inl h
              · exact .inr ⟨k2.mono x h, h'⟩
              · refine .inr ⟨h, ?_⟩
                rcases bool_cases (s1.getD x default) with h4 | h4
                · rw [k1.mono x h4] at h'; cases h'
                · exact h4
            · rintro (h | ⟨h, h'⟩)
              · exact .inl (.inl h)
              · rcases bool_cases (s2.getD x default) with h4 | h4
                · exact .inl (.inr ⟨h4, h'⟩)
                · exact .inr ⟨h, h4⟩
          · rcases k2.fr x h with h | ⟨z, hz, h⟩
            · rcases k1.fr x h with h | h
              · exact .inl h
              · exact .inr ⟨y, by simp, h⟩
            · exact .inr ⟨z, List.mem_cons_of_mem _ hz, h⟩
          · rcases bool_cases (s2.getD x default) with h4 | h4
            · exact fun y hy a1 a2 a3 => k2.mono _ (k1.clos x h4 g2 y hy a1 a2 a3)
            · exact k2.clos x g1 h4
          · rcases List.mem_cons.1 hz with rfl | hz
            · exact fun a1 a2 a3 => k2.mono _ (k1.self a1 a2 a3)
            · exact k2.all z hz
      obtain ⟨s2, o2, e1, k⟩ := hfold (next.getD b.toNat default) (s.set b.toNat true) o (by simpa using hs) ho (by omega)
      have hb2 : s2.getD b.toNat default = true := k.mono _ (by rw [getD_set_true hbl, if_pos rfl])
      have hset : ∀ x, (s.set b.toNat true).getD x default = false ↔ s.getD x default = false ∧ x ≠ b.toNat := fun x => by
        rw [getD_set_true hbl]
        split
        · rename_i h; simp [h]
        · rename_i h; simp [h]
      have hset2 : ∀ x, (s.set b.toNat true).getD x default = true ↔ s.getD x default = true ∨ x = b.toNat := fun x => by
        rw [getD_set_true hbl]
        split
        · rename_i h; simp [h]
        · rename_i h; simp [h]
      refine ⟨s2, o2.set b.toNat true, by simp only at e1 ⊢; rw [e1]; rfl, k.ls, by simpa using k.lo, fun x h => k.mono x ((hset2 x).2 (.inl h)), fun x => ?_, fun x h => ?_, fun x h1 h2 y hy a1 a2 a3 => ?_, fun _ _ _ => hb2⟩
      · rw [getD_set_true (by rw [k.lo]; omega)]
        by_cases hx : x = b.toNat
        · rw [if_pos hx, hx]
          exact ⟨fun _ => .inr ⟨hb2, hsf⟩, fun _ => rfl⟩
        · rw [if_neg hx, k.outs]
          constructor
          · rintro (h | ⟨h, h'⟩)
            · exact .inl h
            · exact .inr ⟨h, ((hset x).1 h').1⟩
          · rintro (h | ⟨h, h'⟩)
            · exact .inl h
            · exact .inr ⟨h, (hset x).2 ⟨h', hx⟩⟩
      · rcases k.fr x h with h | ⟨y, hy, h⟩
        · rcases (hset2 x).1 h with h | h
          · exact .inl h
          · rw [h]; exact .inr (.refl (by omega) (by omega) c3)
        · exact .inr (RF.head (by omega) (by omega) c3 hy h)
      · by_cases hx : x = b.toNat
        · rw [hx] at hy
          exact k.all y hy a1 a2 a3
        · exact k.clos x h1 ((hset x).2 ⟨h2, hx⟩) y hy a1 a2 a3

/-- What is reached from the first one. -/
theorem visit_all (next : List (List Int)) : ∃ s2 o2, visit next (-1) (next.length + 1) 0 (List.replicate next.length false, List.replicate next.length false) = some (s2, o2) ∧ o2.length = next.length ∧ ∀ x, o2.getD x default = true ↔ RF next (-1) 0 x := by
  have hf : ∀ x, (List.replicate next.length false).getD x default = false := fun x => by
    rw [List.getD_eq_getElem?_getD, List.getElem?_replicate]
    split <;> rfl
  obtain ⟨s2, o2, h1, h2⟩ := visit_ok next (-1) (next.length + 1) 0 (List.replicate next.length false) (List.replicate next.length false) (by simp) (by simp) (by simp)
  refine ⟨s2, o2, h1, h2.lo, fun x => ?_⟩
  rw [h2.outs]
  have hs : s2.getD x default = true ↔ RF next (-1) 0 x := by
    constructor
    · intro h
      rcases h2.fr x h with h | h
      · rw [hf] at h; cases h
      · exact h
    · intro h
      induction h with
      | refl a0 a1 a2 => exact h2.self a0 a1 a2
      | step _ hy a0 a1 a2 ih => exact h2.clos _ ih (hf _) _ hy a0 a1 a2
  constructor
  · rintro (h | ⟨h, _⟩)
    · rw [hf] at h; cases h
    · exact hs.1 h
  · exact fun h => .inr ⟨hs.2 h, hf x⟩
end Lg
end Go.Proofs.Ytpfhmodjjljpjaa
