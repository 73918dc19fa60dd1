import Derived.Test.YtpfhmodjjljpjaaL10
namespace Go.Proofs.Ytpfhmodjjljpjaa
open Go.RowKit
namespace Lg
set_option linter.unusedSimpArgs false
set_option linter.unusedVariables false

/-! ### Calls: a callee sees a part of the heap, by numbers of its own -/
def fpC (ρ : Nat → Value) (own : Nat → Option Nat) (σ : Nat → Nat) (oc o : List (Nat × Ob)) (b0 : Nat) : Fp :=
  { mt := fun k => ∃ c ob, oc.lookup c = some ob ∧ isMut ob = true ∧ own k = some (σ c), ok := fun k => ownC σ oc o own k = none, n := b0, ρ0 := fun c => ρ (σ c) }

theorem HR.callee {w0 w : World} {M : Fp} {U : Nat → Prop} {ρ : Nat → Value} {own : Nat → Option Nat} {o oc : List (Nat × Ob)} {σ : Nat → Nat} {b0 : Nat} (hr : HR w0 M U ρ own o w) (he : Embs o σ oc) (hb : embB σ b0 oc = true) (h0 : 0 < b0) :
    HR w (fpC ρ own σ oc o b0) (fun c => c < b0) (fun c => ρ (σ c)) (ownC σ oc o own) oc w := by
  have hp : pairB σ oc = true := by
    simp only [embB, Bool.and_eq_true] at hb
    exact hb.1
  refine ⟨fun c ob hc => ?_, Grew.refl _ _, fun k hk hM => ⟨fun h => h, fun h => ?_⟩, ?_, h0, fun i hi => ⟨hi, rfl⟩⟩
  · obtain ⟨h1, h2, _, h3⟩ := emb_rep hr he hb hc
    exact ⟨h1, h2, h3⟩
  · have h1 : ownC σ oc o own k ≠ none := h
    cases hk2 : own k with
    | none => exact absurd (ownC_none hk2) h1
    | some j =>
      cases hf : oc.find? (fun p => σ p.1 == j && !isNo p.2) with
      | none => simp [ownC, hk2, hf]
      | some p =>
        cases hm : isMut p.2 with
        | false =>
          cases hrw : isRow (o.lookup j) with
          | true => exact absurd (by simp [ownC, hk2, hf, hm, hrw]) h1
          | false => simp [ownC, hk2, hf, hm, hrw]
        | true =>
          exfalso
          refine hM ⟨p.1, p.2, lookup_of_mem hp (List.mem_of_find?_eq_some hf), hm, ?_⟩
          have hz := List.find?_some hf
          simp only [Bool.and_eq_true, Bool.not_eq_true', beq_iff_eq] at hz
          rw [hk2, hz.1]
  · cases hl : oc.lookup 0 with
    | none => rfl
    | some ob => exact absurd (emb_rep hr he hb hl).2.2.1 (by omega)

def ownB (own ownc : Nat → Option Nat) (π : Nat → Nat) (b1 : Nat) (keep : Bool) (sz k : Nat) : Option Nat :=
  match ownc k with
  | none => match own k with
    | some j => if k < sz ∧ keep = true then some j else none
    | none => none
  | some c => if c = 0 then (if k < sz then own k else some 0) else if c < b1 then some (π c) else some 0

/-- Objects whose elements hold no slices. -/
def FlatOb : Ob → Prop
  | .row _ _ rows => ∀ r ∈ rows, ∀ cl ∈ r, ∃ x, cl = .v x
  | .fz _ _ => False
  | .nest _ _ _ rows _ => ∀ x ∈ rows, ∀ r ∈ x, ∀ cl ∈ r, ∃ v, cl = .v v
  | _ => True

theorem Rd.flat {w : World} {ok ok' : Nat → Prop} {x : Value} {u : Value} (h : Rd w ok (.v x) u) : Rd w ok' (.v x) u := by
  cases h with
  | v _ h => exact .v _ h

theorem map_lookup {f : Nat → Nat} {g : Ob → Ob} {i : Nat} {ob' : Ob} : ∀ {l : List (Nat × Ob)}, (l.map fun p => (f p.1, g p.2)).lookup i = some ob' → ∃ c ob, l.lookup c = some ob ∧ f c = i ∧ ob' = g ob
  | [], h => by simp at h
  | (c, ob) :: l, h => by
    simp only [List.map_cons, List.lookup] at h
    cases hi : i == f c with
    | true =>
      rw [hi] at h
      exact ⟨c, ob, by simp [List.lookup], by simpa using Eq.symm (by simpa using hi : i = f c), by injection h with h; exact h.symm⟩
    | false =>
      rw [hi] at h
      obtain ⟨c', ob2, h1, h2, h3⟩ := map_lookup h
      refine ⟨c', ob2, ?_, h2, h3⟩
      simp only [List.lookup]
      have : (c' == c) = false := by
        have : c' ≠ c := fun e => by subst e; rw [h2] at hi; simp at hi
        simpa using this
      rw [this]; exact h1
theorem lookup_map {f : Nat → Nat} {g : Ob → Ob} {c : Nat} {ob : Ob} : ∀ {l : List (Nat × Ob)}, l.lookup c = some ob → ∃ ob', (l.map fun p => (f p.1, g p.2)).lookup (f c) = some ob'
  | [], h => by simp at h
  | (c', ob2) :: l, h => by
    simp only [List.map_cons, List.lookup] at h ⊢
    cases hi : f c == f c' with
    | true => exact ⟨_, rfl⟩
    | false =>
      have : (c == c') = false := by
        have : c ≠ c' := fun e => by subst e; simp at hi
        simpa using this
      rw [this] at h
      exact lookup_map h

def piC (σ : Nat → Nat) (b0 B c : Nat) : Nat := if c < b0 then σ c else B + (c - b0)

structure Back (o oc oc' : List (Nat × Ob)) (L : List (Nat × Nat)) (b0 b1 : Nat) (keep : Bool) (frz : List (Nat × Ob)) : Prop where
  le : b0 ≤ b1
  nn : (oc.all fun p => !isNo p.2) = true
  keys : (L.all fun p => (oc.lookup p.1).isSome) = true
  ex : (oc'.all fun p => (decide (b0 ≤ p.1) || ((oc.lookup p.1).any isMut)) && decide (p.1 < b1) && p.2.okB (fun c => decide (c < b1))) = true
  mt : (oc.all fun p => !isMut p.2 || (oc'.lookup p.1).isSome) = true
  frz1 : keep = false → ∀ c ob, oc.lookup c = some ob → isMut ob = false → isRow (o.lookup (sg 0 L c)) = true → ∃ ob, frz.lookup (sg 0 L c) = some ob
  frz2 : ∀ j ob, frz.lookup j = some ob → keep = false ∧ ∃ c ob' sz rows, sg 0 L c = j ∧ oc.lookup c = some (.fz sz rows) ∧ o.lookup j = some ob' ∧ Lend sz rows ob' ∧ ob = .fz sz rows
  flat : keep = false ∨ ∀ c ob, oc'.lookup c = some ob → FlatOb ob

theorem HR.back {w0 w w' : World} {M : Fp} {U : Nat → Prop} {ρ ρc : Nat → Value} {own ownc : Nat → Option Nat} {o oc oc' frz : List (Nat × Ob)} {L : List (Nat × Nat)} {b0 b1 B : Nat} {keep : Bool} (hr : HR w0 M U ρ own o w) (he : Embs o (sg 0 L) oc) (hb : embB (sg 0 L) b0 oc = true)
    (hk : Back o oc oc' L b0 b1 keep frz) (hfr : ∀ i, B ≤ i → i < B + (b1 - b0) → ¬ U i) (hc : HR w (fpC ρ own (sg 0 L) oc o b0) (fun c => c < b1) ρc ownc oc' w') :
    ∃ ρ' own', (∀ i, U i → ρ' i = ρ i) ∧ (∀ c, c < b1 → ρ' (piC (sg 0 L) b0 B c) = ρc c ∧ grow U B (b1 - b0) (piC (sg 0 L) b0 B c)) ∧
      HR w0 M (grow U B (b1 - b0)) ρ' own' ((oc'.map fun p => (piC (sg 0 L) b0 B p.1, p.2.ren (piC (sg 0 L) b0 B))) ++ frz ++ o) w' := by
  have hle := hk.le
  have hnn : ∀ c ob, oc.lookup c = some ob → isNo ob = false := fun c ob h => by
    have := List.all_eq_true.1 hk.nn _ (lookup_mem h)
    simpa using this
  let σ := sg 0 L
  let π := piC σ b0 B
  have hσU : ∀ c, U (σ c) := fun c => by
    show U (sg 0 L c)
    cases hl : L.lookup c with
    | none => simp only [sg, Nat.not_lt_zero, if_false, hl]; exact hr.z0
    | some j =>
      have h1 := List.all_eq_true.1 hk.keys _ (lookup_mem hl)
      obtain ⟨ob, hob⟩ := Option.isSome_iff_exists.1 h1
      have h2 : ∃ ob', o.lookup (sg 0 L c) = some ob' := by
        rcases embs_at he hob with ⟨e, sz, rows, rfl, h2⟩ | ⟨sz, rows, rfl, h2⟩ | ⟨ob', sz, rows, rfl, h2, _⟩ | ⟨e, e2, sz2, rows, rfl, h2⟩ | ⟨t, cs, rfl, h2⟩ | rfl <;> first | exact ⟨_, h2⟩ | exact absurd (hnn _ _ ‹_›) (by simp [isNo])
      obtain ⟨ob', h2⟩ := h2
      exact (hr.ob _ _ h2).2.1
  let ρ' : Nat → Value := fun i => if B ≤ i ∧ i < B + (b1 - b0) then ρc (b0 + (i - B)) else ρ i
  have hρ : ∀ i, U i → ρ' i = ρ i := fun i hi => by
    show (if _ then _ else _) = _
    rw [if_neg (fun h => hfr i h.1 h.2 hi)]
  have hπ : ∀ c, c < b1 → ρ' (π c) = ρc c := fun c hc1 => by
    by_cases hcb : c < b0
    · have h1 : π c = σ c := by simp [π, piC, hcb]
      rw [h1, hρ _ (hσU c)]
      exact ((hc.ag c hcb).2).symm
    · have h1 : π c = B + (c - b0) := by simp [π, piC, hcb]
      rw [h1]
      show (if _ then _ else _) = _
      rw [if_pos ⟨by omega, by omega⟩]
      congr 1
      omega
  have hπU : ∀ c, c < b1 → grow U B (b1 - b0) (π c) := fun c hc1 => by
    by_cases hcb : c < b0
    · have h1 : π c = σ c := by simp [π, piC, hcb]
      rw [h1]; exact .inl (hσU c)
    · have h1 : π c = B + (c - b0) := by simp [π, piC, hcb]
      rw [h1]; exact .inr (by omega)
  let own' : Nat → Option Nat := ownB own ownc π b1 keep w.heap.size
  have hexp : ∀ c ob, oc'.lookup c = some ob → (b0 ≤ c ∨ ∃ ob0, oc.lookup c = some ob0 ∧ isMut ob0 = true) ∧ c < b1 ∧ ob.okB (fun c => decide (c < b1)) = true := fun c ob h => by
    have h1 := List.all_eq_true.1 hk.ex _ (lookup_mem h)
    simp only [Bool.and_eq_true, Bool.or_eq_true, decide_eq_true_eq] at h1
    refine ⟨?_, h1.1.2, h1.2⟩
    rcases h1.1.1 with h2 | h2
    · exact .inl h2
    · right
      cases h3 : oc.lookup c with
      | none => rw [h3] at h2; cases h2
      | some ob0 => rw [h3] at h2; exact ⟨ob0, rfl, h2⟩
  have hp : pairB σ oc = true := by
    simp only [embB, Bool.and_eq_true] at hb
    exact hb.1
  have hob : ∀ c ob, oc.lookup c = some ob → ∃ ob', o.lookup (σ c) = some ob' := fun c ob h => by
    rcases embs_at he h with ⟨e, sz, rows, rfl, h2⟩ | ⟨sz, rows, rfl, h2⟩ | ⟨ob', sz, rows, rfl, h2, _⟩ | ⟨e, e2, sz2, rows, rfl, h2⟩ | ⟨t, cs, rfl, h2⟩ | rfl <;> first | exact ⟨_, h2⟩ | exact absurd (hnn _ _ ‹_›) (by simp [isNo])
  have hc0 : ∀ c ob, oc'.lookup c = some ob → c ≠ 0 := fun c ob h h0 => by subst h0; rw [hc.z] at h; cases h
  let S : Nat → Prop := fun j => (∃ c ob, oc.lookup c = some ob ∧ isMut ob = true ∧ σ c = j) ∨ ∃ ob, frz.lookup j = some ob
  -- blocks that nobody touched
  have hkeep : ∀ k, k < w.heap.size → (∀ j, own k = some j → ¬ S j) → w'.heap[k]? = w.heap[k]? ∧ own' k = own k := fun k hks hno => by
    have hM : ¬ (fpC ρ own σ oc o b0).mt k := fun h => by
      obtain ⟨c, ob, h1, h2, h3⟩ := h
      exact hno _ h3 (.inl ⟨c, ob, h1, h2, rfl⟩)
    refine ⟨hc.gr.block k hks hM, ?_⟩
    by_cases hok : ownC σ oc o own k = none
    · have h1 : ownc k = none := (hc.fr k hks hM).1 hok
      show ownB own ownc π b1 keep w.heap.size k = own k
      simp only [ownB, h1]
      cases hok2 : own k with
      | none => rfl
      | some j =>
        simp only [ownC, hok2] at hok
        cases hf : oc.find? (fun p => σ p.1 == j && !isNo p.2) with
        | none => rw [hf] at hok; cases hok
        | some p =>
          rw [hf] at hok
          cases hm : isMut p.2 with
          | true => simp [hm] at hok
          | false =>
            have hj : σ p.1 = j := by
              have hz := List.find?_some hf
              simp only [Bool.and_eq_true, beq_iff_eq] at hz
              exact hz.1
            have hl := lookup_of_mem hp (List.mem_of_find?_eq_some hf)
            cases hrw : isRow (o.lookup j) with
            | false => simp [hm, hrw] at hok
            | true =>
              cases hkk : keep with
              | true => simp [hks]
              | false => exact absurd (.inr (by rw [← hj]; exact hk.frz1 hkk _ _ hl hm (by rw [← hj] at hrw; exact hrw))) (hno j hok2)
    · have h1 : ownc k = some 0 := (hc.fr k hks hM).2 hok
      show ownB own ownc π b1 keep w.heap.size k = own k
      simp [ownB, h1, hks]
  have hnone : keep = false → ∀ k, ownc k = none → own' k = none := fun hkf k h => by
    show ownB own ownc π b1 keep w.heap.size k = none
    simp only [ownB, h, hkf]
    cases own k <;> simp
  have hown : ∀ c k, c ≠ 0 → c < b1 → ownc k = some c → own' k = some (π c) := fun c k h0 h1 h => by
    show ownB own ownc π b1 keep w.heap.size k = some (π c)
    simp [ownB, h, h0, h1]
  refine ⟨ρ', own', hρ, fun c hc1 => ⟨hπ c hc1, hπU c hc1⟩, ?_⟩
  refine hr.step S hc.gr.os hc.gr.tape hc.gr.output hc.gr.size hkeep hρ (fun i hi => .inl hi) (fun j hj => ?_) (fun i ob hi => ?_) (fun i ob hi => ?_)
  · rw [lookup_append]
    rcases hj with ⟨c, ob, h1, h2, rfl⟩ | ⟨ob, h1⟩
    · have h3 := List.all_eq_true.1 hk.mt _ (lookup_mem h1)
      simp only [h2, Bool.not_true, Bool.false_or] at h3
      obtain ⟨ob', h4⟩ := Option.isSome_iff_exists.1 h3
      obtain ⟨ob2, h5⟩ := lookup_map (f := π) (g := Ob.ren π) h4
      have hcb : c < b0 := (emb_rep hr he hb h1).2.1
      have h6 : π c = σ c := by simp [π, piC, hcb]
      rw [h6] at h5
      have h7 : (oc'.map fun p => (piC (sg 0 L) b0 B p.1, p.2.ren (piC (sg 0 L) b0 B))).lookup (σ c) = some ob2 := h5
      rw [h7]
      exact ⟨_, rfl⟩
    · cases (oc'.map fun p => (piC (sg 0 L) b0 B p.1, p.2.ren (piC (sg 0 L) b0 B))).lookup j with
      | some b => exact ⟨b, rfl⟩
      | none => exact ⟨ob, h1⟩
  · rw [lookup_append] at hi
    cases hl : (oc'.map fun p => (piC (sg 0 L) b0 B p.1, p.2.ren (piC (sg 0 L) b0 B))).lookup i with
    | some b =>
      obtain ⟨c, ob1, h1, h2, h3⟩ := map_lookup hl
      rcases (hexp c ob1 h1).1 with h4 | ⟨ob0, h4, h5⟩
      · right
        rw [← h2]
        have h6 : piC (sg 0 L) b0 B c = B + (c - b0) := by simp [piC, show ¬ c < b0 by omega]
        rw [h6]
        exact hfr _ (by omega) (by have := (hexp c ob1 h1).2.1; omega)
      · left
        have hcb : c < b0 := (emb_rep hr he hb h4).2.1
        have h6 : piC (sg 0 L) b0 B c = σ c := by simp [piC, hcb, σ]
        rw [← h2, h6]
        exact hob c ob0 h4
    | none =>
      rw [hl] at hi
      obtain ⟨_, c, ob', sz, rows, h1, h2, h3, hl', h4⟩ := hk.frz2 i ob hi
      exact .inl ⟨_, h3⟩
  · rw [lookup_append] at hi
    cases hl : (oc'.map fun p => (piC (sg 0 L) b0 B p.1, p.2.ren (piC (sg 0 L) b0 B))).lookup i with
    | some b =>
      rw [hl] at hi
      obtain rfl : b = ob := by injection hi
      obtain ⟨c, ob1, h1, h2, rfl⟩ := map_lookup hl
      obtain ⟨_, hcb1, hokB⟩ := hexp c ob1 h1
      have hcz := hc0 c ob1 h1
      obtain ⟨g1, _, g3⟩ := hc.ob c ob1 h1
      subst h2
      refine ⟨?_, hπU c hcb1, ?_⟩
      · have hmono : keep = false → ∀ k, ownc k = none → k < w'.heap.size → own' k = none ∧ w'.heap[k]? = w'.heap[k]? := fun hkf k h _ => ⟨hnone hkf k h, rfl⟩
        cases ob1 with
        | no => trivial
        | fz sz rows =>
          rcases hk.flat with hkf | hfl
          · show Rd w' _ _ (ρ' (π c))
            rw [hπ c hcb1]
            exact Rd.mono g1 (hmono hkf)
          · exact absurd (hfl c _ h1) (fun h => h)
        | row e sz rows =>
          obtain ⟨g0, cells, q1, q2, q3⟩ := g1
          refine ⟨g0, cells, ?_, fun k hkk => ?_, ?_⟩
          · show w'.ownsRow 0 e sz (ρ' (π c)) rows.length cells
            rw [hπ c hcb1]; exact q1
          · have hkk' : (ρ' (π c)).ownBlock = some k := hkk
            rw [hπ c hcb1] at hkk'
            exact hown c k hcz hcb1 (q2 k hkk')
          · rcases hk.flat with hkf | hfl
            · exact q3.mono (hmono hkf)
            · refine ⟨q3.len, fun i r hi => ⟨(q3.each i r hi).1, fun j cl hj => ?_⟩⟩
              obtain ⟨u, h5, h6⟩ := (q3.each i r hi).2 j cl hj
              obtain ⟨x, rfl⟩ := (hfl c _ h1 : ∀ r ∈ rows, ∀ cl ∈ r, ∃ x, cl = .v x) r (List.mem_of_getElem? hi) cl (List.mem_of_getElem? hj)
              exact ⟨u, h5, h6.flat⟩
        | nest e e2 sz2 rows hole =>
          obtain ⟨vs, hN⟩ := g1
          have hπb : ∀ j b, hole = some (j, b) → ρ' (π b) = ρc b := fun j b hj => by
            subst hj
            exact hπ b (of_decide_eq_true hokB)
          have hhole : ∀ j, (∀ b, (hole.map fun p => (p.1, piC (sg 0 L) b0 B p.2)) ≠ some (j, b)) → ∀ b, hole ≠ some (j, b) := fun j h b hb => by
            subst hb
            exact h _ rfl
          refine ⟨vs, hN.pos, ?_, fun k hkk => ?_, fun j b hb => ?_, fun j r v hj hv hh => ?_, fun j j' v v' k hne hh hh' => hN.dis j j' v v' k hne (hhole j hh) (hhole j' hh')⟩
          · show w'.ownsRow 0 e 1 (ρ' (π c)) rows.length vs
            rw [hπ c hcb1]; exact hN.out
          · have hkk' : (ρ' (π c)).ownBlock = some k := hkk
            rw [hπ c hcb1] at hkk'
            exact hown c k hcz hcb1 (hN.blk k hkk')
          · obtain ⟨q, hq, hq2⟩ := Option.map_eq_some_iff.1 hb
            cases hq2
            show vs[q.1]? = some (ρ' (π q.2))
            rw [hπb q.1 q.2 hq]
            exact hN.hol q.1 q.2 hq
          · obtain ⟨cells, q1, q2, q3⟩ := hN.inn j r v hj hv (hhole j hh)
            refine ⟨cells, q1, ?_, fun k hk1 => ⟨hown c k hcz hcb1 (q3 k hk1).1, ?_⟩⟩
            · rcases hk.flat with hkf | hfl
              · exact q2.mono (hmono hkf)
              · refine ⟨q2.len, fun i1 r1 hi1 => ⟨(q2.each i1 r1 hi1).1, fun j1 cl hj1 => ?_⟩⟩
                obtain ⟨u, h5, h6⟩ := (q2.each i1 r1 hi1).2 j1 cl hj1
                obtain ⟨x, rfl⟩ := (hfl c _ h1 : ∀ x ∈ rows, ∀ r ∈ x, ∀ cl ∈ r, ∃ v, cl = .v v) r (List.mem_of_getElem? hj) r1 (List.mem_of_getElem? hi1) cl (List.mem_of_getElem? hj1)
                exact ⟨u, h5, h6.flat⟩
            · show (ρ' (π c)).ownBlock ≠ some k
              rw [hπ c hcb1]; exact (q3 k hk1).2
        | box t cs =>
          obtain ⟨g, q1, q2, q3⟩ := g1
          refine ⟨g, ?_, hown c g hcz hcb1 q2, ?_⟩
          · show ρ' (π c) = _
            rw [hπ c hcb1]; exact q1
          · show w'.heap[g]? = some (.cells (LV.vals ρ' (LV.rens π cs)).toArray t (0, 0))
            rw [q3, rens_val (p := fun c => decide (c < b1)) (ρ := ρc) (fun c h => hπ c (of_decide_eq_true h)) cs hokB]
      · cases ob1 with
        | box t cs =>
          refine ⟨rens_used (ρ := ρc) (p := fun c => decide (c < b1)) (U := fun c => c < b1) (fun c h => hπ c (of_decide_eq_true h)) (fun c h => hπU c (of_decide_eq_true h)) cs hokB g3.1, ?_⟩
          show (LV.vals ρ' (LV.rens π cs)).all (·.oneCell') = true
          rw [rens_val (p := fun c => decide (c < b1)) (ρ := ρc) (fun c h => hπ c (of_decide_eq_true h)) cs hokB]
          exact g3.2
        | nest e e2 sz2 rows hole =>
          intro j b hb
          obtain ⟨q, hq, hq2⟩ := Option.map_eq_some_iff.1 hb
          cases hq2
          subst hq
          exact hπU q.2 (of_decide_eq_true hokB)
        | _ => trivial
    | none =>
      rw [hl] at hi
      obtain ⟨hkf, c, ob', sz, rows, h1, h2, h3, hl', rfl⟩ := hk.frz2 i ob hi
      obtain ⟨g1, g2, _⟩ := hr.ob _ _ h3
      refine ⟨?_, .inl g2, trivial⟩
      show Rd w' _ _ (ρ' i)
      rw [hρ i g2]
      refine Rd.mono (rd_of_lend hl' g1 (ok := fun k => own k = none ∨ own k = some i) (fun k h => h)) (fun k hk1 hks => ?_)
      have hM : ¬ (fpC ρ own σ oc o b0).mt k := fun h => by
        obtain ⟨c', ob', q1, q2, q3⟩ := h
        rcases hk1 with hk1 | hk1
        · rw [hk1] at q3; cases q3
        · rw [hk1] at q3
          have q4 : i = σ c' := by injection q3
          have q5 := find_mut hp q1 q2
          obtain ⟨p, q6, q7⟩ := find_fz hp h2 rfl rfl
          have q8 : σ c = σ c' := by rw [← q4]; exact h1
          rw [q8, q5] at q6
          cases q6
          rw [q2] at q7; cases q7
      refine ⟨?_, hc.gr.block k hks hM⟩
      rcases hk1 with hk1 | hk1
      · exact (hkeep k hks (fun j hj => by rw [hk1] at hj; cases hj)).2.trans hk1
      · refine hnone hkf k ((hc.fr k hks hM).1 ?_)
        exact ownC_fz hp h2 rfl rfl (by rw [h1, h3]; exact lend_row hl') (hk1.trans (by rw [h1]))
end Lg
end Go.Proofs.Ytpfhmodjjljpjaa
