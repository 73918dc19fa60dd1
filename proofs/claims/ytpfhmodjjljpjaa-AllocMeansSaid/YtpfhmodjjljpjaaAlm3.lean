import Derived.Test.YtpfhmodjjljpjaaAlm2
import Derived.RangeFuncSeq
import Derived.Laws.Cover3
set_option linter.unusedVariables false
set_option linter.unusedSimpArgs false
namespace Go.Proofs.Ytpfhmodjjljpjaa
open Go.RowKit
namespace Lg
set_option linter.unusedSimpArgs false
set_option linter.unusedVariables false
theorem lookup2 {β : Type} {i q p : Nat} {x y z : β} (hiq : i ≠ q) (h : List.lookup p [(i, x), (q, y)] = some z) : (p = i ∧ z = x) ∨ (p = q ∧ z = y) := by
  simp only [List.lookup] at h
  cases hpi : p == i with
  | true => rw [hpi] at h; exact .inl ⟨by simpa using hpi, by injection h with h; exact h.symm⟩
  | false =>
    rw [hpi] at h
    cases hpq : p == q with
    | true => rw [hpq] at h; exact .inr ⟨by simpa using hpq, by injection h with h; exact h.symm⟩
    | false => rw [hpq] at h; cases h
theorem get_set {α : Type} {enc : α → List Cell} {xs : List (List α)} {ys : List α} {j j' : Nat} {r : List (List Cell)} (hj : j < xs.length) (h : ((xs.set j ys).map (List.map enc))[j']? = some r) : (j' = j ∧ r = ys.map enc) ∨ (j' ≠ j ∧ (xs.map (List.map enc))[j']? = some r) := by
  by_cases e : j' = j
  · subst e
    rw [List.getElem?_map, List.getElem?_set_self hj] at h
    exact .inl ⟨rfl, by simpa using h.symm⟩
  · rw [List.getElem?_map, List.getElem?_set_ne (Ne.symm e)] at h
    exact .inr ⟨e, by rw [List.getElem?_map]; exact h⟩
section
variable {w0 w : World} {M : Fp} {U : Nat → Prop} {ρ : Nat → Value} {own : Nat → Option Nat} {o : List (Nat × Ob)}
theorem HR.close {α : Type} {enc : α → List Cell} {xs : List (List α)} {ys : List α} {i q e e2 sz2 j : Nat} (hr : HR w0 M U ρ own o w) (hi : o.lookup i = some (.nest e e2 sz2 (xs.map (List.map enc)) (some (j, q)))) (hq : o.lookup q = some (.row e2 sz2 (ys.map enc))) :
    ∃ own', HR w0 M U ρ own' ([(i, .nest e e2 sz2 ((xs.set j ys).map (List.map enc)) none), (q, .no)] ++ o) w := by
  have hiq : i ≠ q := fun h => by subst h; rw [hi] at hq; cases hq
  obtain ⟨⟨vs, hN⟩, hUi, _⟩ := hr.ob i _ hi
  obtain ⟨⟨_, cellsq, q1, q2, q3⟩, hUq, _⟩ := hr.ob q _ hq
  have hvl : vs.length = xs.length := by rw [hN.out.1]; simp
  have hol := hN.hol j q rfl
  have hj : j < xs.length := by rw [← hvl]; exact (List.getElem?_eq_some_iff.1 hol).1
  have hhole : ∀ j', j' ≠ j → ∀ b, (some (j, q) : Option (Nat × Nat)) ≠ some (j', b) := fun j' hne b hb => by cases hb; exact hne rfl
  let own' : Nat → Option Nat := fun k => if own k = some q then some i else own k
  have hkq : ∀ k, own k ≠ some q → own' k = own k := fun k hk => by simp [own', hk]
  have hnone : ∀ k, own k = none → k < w.heap.size → own' k = none ∧ w.heap[k]? = w.heap[k]? := fun k hk _ => ⟨by simp [own', hk], rfl⟩
  refine ⟨own', ?_⟩
  refine hr.step (fun p => p = i ∨ p = q) rfl rfl rfl (Nat.le_refl _) (fun k hk hp' => ⟨rfl, hkq k (fun h => hp' q h (.inr rfl))⟩) (fun _ _ => rfl) (fun _ h => h) (fun p hp' => ?_) (fun p ob' hp' => ?_) (fun p ob' hp' => ?_)
  · rcases hp' with rfl | rfl
    · exact ⟨_, by simp; rfl⟩
    · exact ⟨.no, by simp [List.lookup, show (p == i) = false by simpa using Ne.symm hiq]⟩
  · rcases lookup2 hiq hp' with ⟨rfl, _⟩ | ⟨rfl, _⟩
    · exact .inl ⟨_, hi⟩
    · exact .inl ⟨_, hq⟩
  · rcases lookup2 hiq hp' with ⟨rfl, rfl⟩ | ⟨rfl, rfl⟩
    · have hlen : ((xs.set j ys).map (List.map enc)).length = (xs.map (List.map enc)).length := by simp
      have hown : ∀ j' v', j' ≠ j → vs[j']? = some v' → ∀ k, v'.ownBlock = some k → own k = some p := fun j' v' hne hv'' k hk => by
        have hj3 : j' < xs.length := by rw [← hvl]; exact (List.getElem?_eq_some_iff.1 hv'').1
        obtain ⟨cells', k1, k2, k3⟩ := hN.inn j' _ v' (by rw [List.getElem?_map, List.getElem?_eq_getElem hj3]; rfl) hv'' (hhole j' hne)
        exact (k3 k hk).1
      refine ⟨⟨vs, hN.pos, by rw [hlen]; exact hN.out, fun k hk => ?_, (fun j' b' hb => by cases hb), fun j' r v' hj' hv' _ => ?_, fun j1 j2 v1 v2 k hne _ _ hv1 hv2 hk1 hk2 => ?_⟩, hUi, (fun j' b' hb => by cases hb)⟩
      · rw [hkq k (by rw [hN.blk k hk]; intro h; exact hiq (Option.some.inj h))]
        exact hN.blk k hk
      · rcases get_set hj hj' with ⟨rfl, rfl⟩ | ⟨hne, hr'⟩
        · rw [hol] at hv'
          cases hv'
          refine ⟨cellsq, q1, q3.mono hnone, fun k hk => ⟨by simp [own', q2 k hk], fun h => ?_⟩⟩
          have h1 := hN.blk k h
          rw [q2 k hk] at h1
          exact hiq (Option.some.inj h1).symm
        · obtain ⟨cells', k1, k2, k3⟩ := hN.inn j' r v' hr' hv' (hhole j' hne)
          exact ⟨cells', k1, k2.mono hnone, fun k hk => ⟨by rw [hkq k (by rw [(k3 k hk).1]; intro h; exact hiq (Option.some.inj h))]; exact (k3 k hk).1, (k3 k hk).2⟩⟩
      · by_cases e1 : j1 = j
        · subst e1
          rw [hol] at hv1
          cases hv1
          have h1 := hown j2 v2 (Ne.symm hne) hv2 k hk2
          rw [q2 k hk1] at h1
          exact hiq (Option.some.inj h1).symm
        · by_cases e2 : j2 = j
          · subst e2
            rw [hol] at hv2
            cases hv2
            have h1 := hown j1 v1 hne hv1 k hk1
            rw [q2 k hk2] at h1
            exact hiq (Option.some.inj h1).symm
          · exact hN.dis j1 j2 v1 v2 k hne (hhole j1 e1) (hhole j2 e2) hv1 hv2 hk1 hk2
    · exact ⟨trivial, hUq, trivial⟩
end
section
variable {P : Program} {N b : Nat} {o : Oper} {st : St} (D : Tab P)
theorem T_ldN2 {t i q e e2 sz2 j j' : Nat} {x : Operand} {rows : List (List (List Cell))} {ty : TyI} (ho : o.op = .load t x) (hx : st.ev x = some (.e i 1 j' 0)) (hob : st.o.lookup i = some (.nest e e2 sz2 rows (some (j, q)))) (hi : D.get t = some ty) (ha : ty.agg = false) (hj : j' = j) : T P N o b [i] st (.r q) 0 [] := by
  intro w0 M U ρ own st' a w hev hp hfrs fr hr
  subst hj
  obtain ⟨hv, hu⟩ := fr.eval ((hev x (by simp [ho, Op.operands])).trans hx)
  obtain ⟨ad, had⟩ := hu.2
  obtain ⟨⟨vs, hN⟩, hUi, hUq⟩ := hr.ob i _ ((hp i (by simp)).trans hob)
  have hol := hN.hol j' q rfl
  have hcell : w.cell? (ad.add (j' * 1 + 0)) = some (ρ q) := by
    rcases hN.out.2 with ⟨h4, h5⟩ | ⟨g, off, cap, cur, he, hh, r⟩
    · have h1 := hN.out.1
      rw [h5] at h1
      have := (List.getElem?_eq_some_iff.1 hol).1
      omega
    · have had' : ad = ⟨g, off, none⟩ := by rw [he] at had; simpa [base] using had.symm
      subst had'
      rw [Nat.mul_one, Nat.add_zero]
      exact hN.out.cells he _ _ hol
  have hrun : (execOp a.eval o).run P w = .ok (.value (ρ q)) w := by
    simp only [execOp, ho]
    rw [Sem.run_bind, run_load1 (D.ok t ty hi) ha (a := ad.add (j' * 1 + 0)) (by rw [hv]; simp [LV.val, ptrOf, had]) hcell]
    rfl
  exact does_value hrun ⟨ρ, own, rfl, fun _ _ => rfl, .inl (hUq j' q rfl), hr.mono (fun i hi => .inl hi)⟩
theorem range1 (f : Nat → Value) (v : Value) : ((Array.range 1).map f).setIfInBounds 0 v = #[v] := by
  apply Array.ext
  · simp
  · intro i h1 h2
    have : i = 0 := by simpa using h2
    subst this
    simp
theorem T_bsN {α : Type} {enc : α → List Cell} {ys : List α} {t q e2 sz2 : Nat} {y : Operand} {ty ety : TyI} (ho : o.op = .buildSlice t 1 #[(0, y)]) (hi : D.get t = some ty) (he0 : (ty.elem == 0) = false) (he : D.get ty.elem = some ety) (hz : ety.zero = [.slice none 0 0]) (hsz : ety.size = 1) (hy : st.ev y = some (.r q)) (hoq : st.o.lookup q = some (.row e2 sz2 (ys.map enc))) :
    T P N o b [q] st (.r b) 1 [(b, .nest ty.elem e2 sz2 ([ys].map (List.map enc)) none), (q, .no)] := by
  intro w0 M U ρ own st' a w hev hp hfrs fr hr
  obtain ⟨hv, hu⟩ := fr.eval ((hev y (by simp [ho, Op.operands])).trans hy)
  have hoq' := (hp q (by simp)).trans hoq
  obtain ⟨hq1, hUq, _⟩ := hr.ob q _ hoq'
  obtain ⟨A, c, hA⟩ := row_slice hq1
  obtain ⟨hpos, cellsq, q1, q2, q3⟩ := hq1
  have hbU : ¬ U b := hfrs b (Nat.le_refl _) (by omega)
  have hbq : b ≠ q := fun h => hbU (h ▸ hUq)
  have hrun : (execOp a.eval o).run P w = .ok (.value (.slice (some ⟨w.heap.size, 0, none⟩) 1 1)) (w.alloc (.cells #[ρ q] ty.elem)) := by
    simp only [execOp, ho]
    rw [Sem.run_bind, run_buildSlice (D.ok t ty hi) (by simpa using he0) (D.ok _ ety he) (by rw [hsz]; decide) (cells := #[ρ q]) (by
      rw [hsz, hz]
      simp only [List.map_toArray, List.map_cons, List.map_nil, hv, LV.val, hA]
      simp [Instr.fill, madeCells, Value.cells]
      exact range1 _ _)]
    rfl
  let own' : Nat → Option Nat := fun k => if own k = some q ∨ k = w.heap.size then some b else own k
  have hkq : ∀ k, k < w.heap.size → own k ≠ some q → own' k = own k := fun k hk h => by simp [own', h, show k ≠ w.heap.size by omega]
  have hnone : ∀ k, own k = none → k < w.heap.size → own' k = none ∧ (w.alloc (.cells #[ρ q] ty.elem)).heap[k]? = w.heap[k]? := fun k hk hlt => ⟨by rw [hkq k hlt (by rw [hk]; simp)]; exact hk, heap_alloc_old w _ hlt⟩
  have hρ : ∀ p, U p → upd1 ρ b (.slice (some ⟨w.heap.size, 0, none⟩) 1 1) p = ρ p := fun p hp => upd1_other _ _ (fun h => hbU (h ▸ hp))
  have hblt : ∀ k, (ρ q).ownBlock = some k → k < w.heap.size := fun k hk => by
    rcases q1.2 with ⟨h4, _⟩ | ⟨g, off, cap, cur, he', hh, r⟩
    · rw [h4] at hk; cases hk
    · rw [he'] at hk; cases hk; exact heap_lt hh
  refine does_value hrun ⟨upd1 ρ b (.slice (some ⟨w.heap.size, 0, none⟩) 1 1), own', by simp [LV.val, upd1_same], hρ, .inr ⟨Nat.le_refl _, by omega⟩, ?_⟩
  refine hr.step (fun p => p = q) rfl rfl rfl (by rw [World.size_alloc]; omega) (fun k hk hp' => ⟨heap_alloc_old w _ hk, hkq k hk (fun h => hp' q h rfl)⟩) hρ (fun p hp => .inl hp) (fun p hp' => ?_) (fun p ob' hp' => ?_) (fun p ob' hp' => ?_)
  · subst hp'
    exact ⟨.no, by simp [List.lookup, show (p == b) = false by simpa using Ne.symm hbq]⟩
  · rcases lookup2 hbq hp' with ⟨rfl, _⟩ | ⟨rfl, _⟩
    · exact .inr hbU
    · exact .inl ⟨_, hoq'⟩
  · rcases lookup2 hbq hp' with ⟨rfl, rfl⟩ | ⟨rfl, rfl⟩
    · refine ⟨⟨[ρ q], hpos, ?_, fun k hk => ?_, (fun j b hb => by cases hb), fun j r v hj hv' _ => ?_, fun j j' v v' k hne _ _ hv1 hv2 _ _ => ?_⟩, .inr ⟨Nat.le_refl _, by omega⟩, (fun j b hb => by cases hb)⟩
      · rw [upd1_same]
        exact OwnsR.of (World.ownsRow_lit w #[ρ q] 1 (Nat.zero_le _) (by simp [maxLen]) (by simp))
      · rw [upd1_same] at hk
        simp [Value.ownBlock] at hk
        simp [own', ← hk]
      · have hj0 : j = 0 := by have := (List.getElem?_eq_some_iff.1 hv').1; simp at this; exact this
        subst hj0
        simp at hj hv'
        subst hj hv'
        refine ⟨cellsq, owns_same q1 (fun k hk => heap_alloc_old w _ (hblt k hk)), q3.mono hnone, fun k hk => ⟨by simp [own', q2 k hk], ?_⟩⟩
        rw [upd1_same]
        simp only [Value.ownBlock, ne_eq, Option.some.injEq]
        have := hblt k hk
        simp [Value.ownBlock]
        omega
      · have h1 := (List.getElem?_eq_some_iff.1 hv1).1
        have h2 := (List.getElem?_eq_some_iff.1 hv2).1
        simp at h1 h2
        omega
    · exact ⟨trivial, .inl hUq, trivial⟩
theorem lookup3 {β : Type} {i q r p : Nat} {x y u z : β} (h : List.lookup p [(i, x), (q, y), (r, u)] = some z) : (p = i ∧ z = x) ∨ (p ≠ i ∧ p = q ∧ z = y) ∨ (p ≠ i ∧ p ≠ q ∧ p = r ∧ z = u) := by
  simp only [List.lookup] at h
  cases hpi : p == i with
  | true => rw [hpi] at h; exact .inl ⟨by simpa using hpi, by injection h with h; exact h.symm⟩
  | false =>
    rw [hpi] at h
    cases hpq : p == q with
    | true => rw [hpq] at h; exact .inr (.inl ⟨by simpa using hpi, by simpa using hpq, by injection h with h; exact h.symm⟩)
    | false =>
      rw [hpq] at h
      cases hpr : p == r with
      | true => rw [hpr] at h; exact .inr (.inr ⟨by simpa using hpi, by simpa using hpq, by simpa using hpr, by injection h with h; exact h.symm⟩)
      | false => rw [hpr] at h; cases h
theorem T_appendN {α : Type} {enc : α → List Cell} {xs ys : List (List α)} {t i j e e2 sz2 : Nat} {x y : Operand} {ty ety : TyI} (ho : o.op = .call { callee := .builtin .append, args := #[x, y], argTypes := #[t, t] }) (hx : st.ev x = some (.r i)) (hob : st.o.lookup i = some (.nest e e2 sz2 (xs.map (List.map enc)) none)) (hy : st.ev y = some (.r j)) (hob2 : st.o.lookup j = some (.nest e e2 sz2 (ys.map (List.map enc)) none)) (hij : (i == j) = false)
    (hi : D.get t = some ty) (he0 : (ty.elem == 0) = false) (he : D.get ty.elem = some ety) (hs : ety.size = 1) (hee : ty.elem = e) (hzl : ety.zero.length = ety.size) (hl : (xs.length + ys.length) * ety.bytes ≤ 140737488355328) (hl2 : xs.length + ys.length ≤ 9223372036854775807) :
    T P N o b [i, j] st (.r b) 1 [(b, .nest e e2 sz2 ((xs ++ ys).map (List.map enc)) none), (i, .no), (j, .no)] := by
  intro w0 M U ρ own st' a w hev hp hfrs fr hr
  obtain ⟨hv, hu⟩ := fr.eval ((hev x (by simp [ho, Op.operands, Call.operands])).trans hx)
  obtain ⟨hv2, hu2⟩ := fr.eval ((hev y (by simp [ho, Op.operands, Call.operands])).trans hy)
  have hobi := (hp i (by simp)).trans hob
  have hobj := (hp j (by simp)).trans hob2
  obtain ⟨⟨vi, hN⟩, hUi, _⟩ := hr.ob i _ hobi
  obtain ⟨⟨vj, hK⟩, hUj, _⟩ := hr.ob j _ hobj
  have hne : i ≠ j := by simpa using hij
  have hbU : ¬ U b := hfrs b (Nat.le_refl _) (by omega)
  have hbi : b ≠ i := fun h => hbU (h ▸ hUi)
  have hbj : b ≠ j := fun h => hbU (h ▸ hUj)
  subst hee
  obtain ⟨jt, z, hjt, hjz, hjc, hjs, hjb⟩ := (D.ok _ ety he).ti
  have hut := (D.ok t ty hi).sl (by simpa using he0)
  have hs1 : jt.size = 1 := by rw [hjs]; exact hs
  have hzs' : z.cells.size = jt.size := by rw [← Array.length_toList, hjc, hjs]; exact hzl
  have hxl : (xs.map (List.map enc)).length = xs.length := by simp
  have hyl : (ys.map (List.map enc)).length = ys.length := by simp
  have hvil : vi.length = xs.length := by rw [hN.out.1, hxl]; simp
  have hvjl : vj.length = ys.length := by rw [hK.out.1, hyl]; simp
  have hin : ∀ (q : Nat) (v : Value), vi[q]? = some v → ∃ r cells, (xs.map (List.map enc))[q]? = some r ∧ OwnsR w e2 sz2 v r.length cells ∧ RowsRd w (fun k => own k = none) sz2 r cells ∧ ∀ k, v.ownBlock = some k → own k = some i ∧ (ρ i).ownBlock ≠ some k := fun q v hq => by
    have hlt : q < xs.length := by rw [← hvil]; exact (List.getElem?_eq_some_iff.1 hq).1
    have hr' : (xs.map (List.map enc))[q]? = some ((xs[q]).map enc) := by rw [List.getElem?_map, List.getElem?_eq_getElem hlt]; rfl
    obtain ⟨cells, k1, k2, k3⟩ := hN.inn q _ v hr' hq (fun b hb => by cases hb)
    exact ⟨_, cells, hr', k1, k2, k3⟩
  have hjn : ∀ (q : Nat) (v : Value), vj[q]? = some v → ∃ r cells, (ys.map (List.map enc))[q]? = some r ∧ OwnsR w e2 sz2 v r.length cells ∧ RowsRd w (fun k => own k = none) sz2 r cells ∧ ∀ k, v.ownBlock = some k → own k = some j ∧ (ρ j).ownBlock ≠ some k := fun q v hq => by
    have hlt : q < ys.length := by rw [← hvjl]; exact (List.getElem?_eq_some_iff.1 hq).1
    have hr' : (ys.map (List.map enc))[q]? = some ((ys[q]).map enc) := by rw [List.getElem?_map, List.getElem?_eq_getElem hlt]; rfl
    obtain ⟨cells, k1, k2, k3⟩ := hK.inn q _ v hr' hq (fun b hb => by cases hb)
    exact ⟨_, cells, hr', k1, k2, k3⟩
  have hone : ∀ u ∈ vj, u.oneCell' = true := fun u hu => by
    obtain ⟨q, hq⟩ := List.getElem?_of_mem hu
    obtain ⟨r, cells, _, k1, _⟩ := hjn q u hq
    rcases k1.2 with ⟨h4, _⟩ | ⟨g, off, cap, cur, he', _⟩
    · rw [h4]; rfl
    · rw [he']; rfl
  obtain ⟨A, c, hA, hA0⟩ := nest_base (hr.ob i _ hobi).1
  obtain ⟨B, c', hB, hB0⟩ := nest_base (hr.ob j _ hobj).1
  rw [hxl] at hA
  rw [hyl] at hB hB0
  have hownI : OwnsR w ty.elem jt.size (ρ i) xs.length vi := by rw [hs1]; have := hN.out; rwa [hxl] at this
  have hcy : ∀ ad, B = some ad → ∀ (q : Nat) (u : Value), vj[q]? = some u → w.cell? (ad.add q) = some u := fun ad had q u hq => by
    subst had
    rcases hK.out.2 with ⟨h4, _⟩ | ⟨g, off, cap, cur, he', _⟩
    · rw [hB] at h4; cases h4
    · have h5 := he'
      rw [hB] at h5
      have : ad = ⟨g, off, none⟩ := by injection h5 with h5; injection h5
      subst this
      exact hK.out.cells he' q u hq
  obtain ⟨v', w', r1, r2, r3, r4⟩ := run_appendG (ty := o.type) (c := c') (w := w) hut hjt hjz hzs' (by rw [hs1]; decide) hownI (A := B) (m := ys.length) (news := vj) (by rw [hvjl, hs1]; simp) hcy (fun h => by
    have := Nat.eq_zero_or_pos ys.length
    rcases this with h0 | h0
    · exact h0
    · obtain ⟨a0, h1⟩ := hB0 h0; rw [h] at h1; cases h1) hone (by simpa [maxLen] using hl2) (by rw [hjb]; exact hl)
  have hrun : (execOp a.eval o).run P w = .ok (.value v') w' := by
    simp only [execOp, ho, resolve, invoke, builtin, hv, hv2, LV.val, hB, Sem.run_bind, Sem.run_pure, Result.andThen_ok, List.map_toArray, List.map_cons, List.map_nil]
    rw [r1]
    rfl
  let own' : Nat → Option Nat := fun k => if own k = some i ∨ own k = some j ∨ k = w.heap.size then some b else own k
  have hρ : ∀ p, U p → upd1 ρ b v' p = ρ p := fun p hp => upd1_other _ _ (fun h => hbU (h ▸ hp))
  have hblk : ∀ k, k < w.heap.size → (ρ i).ownBlock ≠ some k → w'.heap[k]? = w.heap[k]? := fun k hk h => r3.block k hk (fun h' => h h'.symm)
  have hko : ∀ k, k < w.heap.size → own k ≠ some i → own k ≠ some j → own' k = own k := fun k hk h1 h2 => by simp [own', h1, h2, show k ≠ w.heap.size by omega]
  have hnone : ∀ k, own k = none → k < w.heap.size → own' k = none ∧ w'.heap[k]? = w.heap[k]? := fun k hk hlt => ⟨by rw [hko k hlt (by rw [hk]; simp) (by rw [hk]; simp)]; exact hk, hblk k hlt (fun h => by have := hN.blk k h; rw [hk] at this; cases this)⟩
  have hlt : ∀ {e n : Nat} {v : Value} {cells : List Value}, OwnsR w e sz2 v n cells → ∀ k, v.ownBlock = some k → k < w.heap.size := fun h k hk => by
    rcases h.2 with ⟨h4, _⟩ | ⟨g, off, cap, cur, he', hh, r⟩
    · rw [h4] at hk; cases hk
    · rw [he'] at hk; cases hk; exact heap_lt hh
  refine does_value hrun ⟨upd1 ρ b v', own', by simp [LV.val, upd1_same], hρ, .inr ⟨Nat.le_refl _, by omega⟩, ?_⟩
  refine hr.step (fun p => p = i ∨ p = j) r3.os r3.tape r3.output r3.size (fun k hk hp' => ?_) hρ (fun p hp => .inl hp) (fun p hp' => ?_) (fun p ob' hp' => ?_) (fun p ob' hp' => ?_)
  · have h1 : own k ≠ some i := fun h => hp' i h (.inl rfl)
    have h2 : own k ≠ some j := fun h => hp' j h (.inr rfl)
    exact ⟨hblk k hk (fun h => h1 (hN.blk k h)), hko k hk h1 h2⟩
  · rcases hp' with rfl | rfl
    · exact ⟨.no, by simp [List.lookup, show (p == b) = false by simpa using Ne.symm hbi]⟩
    · exact ⟨.no, by simp [List.lookup, show (p == b) = false by simpa using Ne.symm hbj, show (p == i) = false by simpa using Ne.symm hne]⟩
  · rcases lookup3 hp' with ⟨rfl, _⟩ | ⟨_, rfl, _⟩ | ⟨_, _, rfl, _⟩
    · exact .inr hbU
    · exact .inl ⟨_, hobi⟩
    · exact .inl ⟨_, hobj⟩
  · rcases lookup3 hp' with ⟨rfl, rfl⟩ | ⟨_, rfl, rfl⟩ | ⟨_, _, rfl, rfl⟩
    · have hat : ∀ q v, (vi ++ vj)[q]? = some v → (q < xs.length ∧ vi[q]? = some v) ∨ (xs.length ≤ q ∧ vj[q - xs.length]? = some v) := fun q v hq => by
        rcases Nat.lt_or_ge q xs.length with h | h
        · rw [List.getElem?_append_left (by omega)] at hq; exact .inl ⟨h, hq⟩
        · rw [List.getElem?_append_right (by omega), hvil] at hq; exact .inr ⟨h, hq⟩
      have hvb : ∀ k, v'.ownBlock = some k → k = w.heap.size ∨ (ρ i).ownBlock = some k := fun k hk => by
        rcases r4 with r4 | r4
        · rw [r4] at hk; exact .inr hk
        · rw [r4] at hk; exact .inl (by injection hk with hk; exact hk.symm)
      refine ⟨⟨vi ++ vj, hN.pos, ?_, fun k hk => ?_, (fun q b hb => by cases hb), fun q r v hq hv' _ => ?_, fun q q' v v2 k hqq _ _ h1 h2 hk1 hk2 => ?_⟩, .inr ⟨Nat.le_refl _, by omega⟩, (fun q b hb => by cases hb)⟩
      · rw [upd1_same]
        have h9 : ((xs ++ ys).map (List.map enc)).length = xs.length + ys.length := by simp
        rw [h9]
        rw [hs1] at r2
        exact r2
      · rw [upd1_same] at hk
        rcases hvb k hk with h | h
        · simp [own', h]
        · simp [own', hN.blk k h]
      · rcases hat q v hv' with ⟨hlq, hvq⟩ | ⟨hlq, hvq⟩
        · obtain ⟨r', cells, e1, k1, k2, k3⟩ := hin q v hvq
          have er : r = r' := by
            rw [List.map_append, List.getElem?_append_left (by rw [hxl]; exact hlq)] at hq
            rw [hq] at e1; injection e1
          subst er
          refine ⟨cells, owns_same k1 (fun k hk => hblk k (hlt k1 k hk) (k3 k hk).2), k2.mono hnone, fun k hk => ⟨by simp [own', (k3 k hk).1], fun h => ?_⟩⟩
          rw [upd1_same] at h
          rcases hvb k h with h | h
          · have := hlt k1 k hk; omega
          · exact (k3 k hk).2 h
        · obtain ⟨r', cells, e1, k1, k2, k3⟩ := hjn _ v hvq
          have er : r = r' := by
            rw [List.map_append, List.getElem?_append_right (by rw [hxl]; exact hlq), hxl] at hq
            rw [hq] at e1; injection e1
          subst er
          have hni : ∀ k, v.ownBlock = some k → (ρ i).ownBlock ≠ some k := fun k hk h => by
            have h1 := hN.blk k h
            rw [(k3 k hk).1] at h1
            exact hne (Option.some.inj h1).symm
          refine ⟨cells, owns_same k1 (fun k hk => hblk k (hlt k1 k hk) (hni k hk)), k2.mono hnone, fun k hk => ⟨by simp [own', (k3 k hk).1], fun h => ?_⟩⟩
          rw [upd1_same] at h
          rcases hvb k h with h | h
          · have := hlt k1 k hk; omega
          · exact hni k hk h
      · rcases hat q v h1 with ⟨l1, g1⟩ | ⟨l1, g1⟩ <;> rcases hat q' v2 h2 with ⟨l2, g2⟩ | ⟨l2, g2⟩
        · exact hN.dis q q' v v2 k hqq (fun b hb => by cases hb) (fun b hb => by cases hb) g1 g2 hk1 hk2
        · obtain ⟨_, _, _, _, _, k3⟩ := hin q v g1
          obtain ⟨_, _, _, _, _, k4⟩ := hjn _ v2 g2
          have := (k3 k hk1).1
          rw [(k4 k hk2).1] at this
          exact hne (Option.some.inj this).symm
        · obtain ⟨_, _, _, _, _, k3⟩ := hjn _ v g1
          obtain ⟨_, _, _, _, _, k4⟩ := hin q' v2 g2
          have := (k4 k hk2).1
          rw [(k3 k hk1).1] at this
          exact hne (Option.some.inj this).symm
        · exact hK.dis _ _ v v2 k (by omega) (fun b hb => by cases hb) (fun b hb => by cases hb) g1 g2 hk1 hk2
    · exact ⟨trivial, .inl hUi, trivial⟩
    · exact ⟨trivial, .inl hUj, trivial⟩
theorem flat_nest {i e e2 sz2 : Nat} {rows : List (List (List Cell))} {hole : Option (Nat × Nat)} (h : st.o.lookup i = some (.nest e e2 sz2 rows hole)) : Flat st (.r i) [.r i] [i] := fun _ _ _ _ ρ _ o' hp hr hu => by
  obtain ⟨A, c, hA, _⟩ := nest_base (hr.ob i _ ((hp i (by simp)).trans h)).1
  exact ⟨by simp [LV.val, LV.vals, hA, Value.cells], ⟨hu, trivial⟩, by simp [LV.val, LV.vals, hA, Value.oneCell']⟩
theorem T_indexAddrM {α : Type} {enc : α → List Cell} {xs : List (List α)} {t i e e2 sz2 j : Nat} {hole : Option (Nat × Nat)} {x y : Operand} {k : IntKind} {ty ety : TyI} (ho : o.op = .indexAddr t x y) (hx : st.ev x = some (.r i)) (hob : st.o.lookup i = some (.nest e e2 sz2 (xs.map (List.map enc)) hole)) (hy : st.ev y = some (.v (.int k (j : Int))))
    (hi : D.get t = some ty) (he0 : (ty.elem == 0) = false) (he : D.get ty.elem = some ety) (hs : ety.size = 1) (h1 : j < xs.length) : T P N o b [i] st (.e i 1 j 0) 0 [] := T_indexAddrN D ho hx hob hy hi he0 he hs (by omega) (by omega)
end
end Lg
end Go.Proofs.Ytpfhmodjjljpjaa

namespace Go.Proofs.Ytpfhmodjjljpjaa
open Go.RowKit
namespace Lg
set_option linter.unusedSimpArgs false
set_option linter.unusedVariables false
set_option maxRecDepth 100000
structure Mid (w0 : World) (M : Fp) (U : Nat → Prop) (ρ : Nat → Value) (b0 : Nat) (Ds : List Nat) (l : Nat) (rec : Loop) (ρ' : Nat → Value) (own' : Nat → Option Nat) (o : List (Nat × Ob)) (W : World) : Prop where
  hr : HR w0 M U ρ' own' o W
  hb : M.n ≤ b0
  ag : ∀ c, c < b0 → U c ∧ ρ' c = ρ c
  ol : own' l = some 0
  l0 : w0.heap.size ≤ l
  mks : Marks w0 own' Ds W
  hl : W.heap[l]? = some (.loop rec)
section
variable {w0 W W' : World} {M : Fp} {U U' : Nat → Prop} {ρ ρ' ρ2 : Nat → Value} {b0 : Nat} {Ds : List Nat} {l : Nat} {rec : Loop} {own' own2 : Nat → Option Nat} {o o2 : List (Nat × Ob)} {ds : List Deferred}
theorem Mid.based (m : Mid w0 M U ρ b0 Ds l rec ρ' own' o W) (k : HR W (reb b0 ρ' own' ds) U' ρ2 own2 o2 W') : Mid w0 M U' ρ b0 Ds l rec ρ2 own2 o2 W' := by
  obtain ⟨h1, h2⟩ := k.based m.ol (heap_lt m.hl)
  exact ⟨m.hr.unbase m.hb k, m.hb, fun c hc => ⟨(k.ag c hc).1, (k.ag c hc).2.trans (m.ag c hc).2⟩, h1, m.l0, m.mks.based k, h2.trans m.hl⟩
theorem Mid.base (m : Mid w0 M U ρ b0 Ds l rec ρ' own' o W) : HR W (reb b0 ρ' own' ds) U ρ' own' o W := m.hr.rebase (fun i hi => (m.ag i hi).1)
theorem Mid.poke (m : Mid w0 M U ρ b0 Ds l rec ρ' own' o W) (rec' : Loop) : Mid w0 M U ρ b0 Ds l rec' ρ' own' o (W.putObj l (.loop rec')) := by
  refine ⟨m.hr.poke (own' := own') m.ol m.l0 rfl rfl rfl (by simp) (fun k _ hk => World.putObj_heap_other hk) (fun _ _ => rfl), m.hb, m.ag, m.ol, m.l0, ⟨m.mks.nd, fun D hD => ?_⟩, World.putObj_heap_same (heap_lt m.hl)⟩
  obtain ⟨h1, h2, h3⟩ := m.mks.at_ D hD
  refine ⟨h1, h2, (World.putObj_heap_other (fun e => ?_)).trans h3⟩
  subst e
  rw [m.hl] at h3
  cases h3
theorem Mid.rep {N : Nat} {s : List (Nat × LV)} {a : Act} (m : Mid w0 M U ρ b0 Ds l rec ρ' own' o W) (fr : FR N U ρ' s a) (hd : a.defers = ds) : RepD N W (reb b0 ρ' own' ds) U ⟨s, o⟩ a W := ⟨ρ', own', [], fr, m.base, hd, ⟨List.nodup_nil, fun D hD => by cases hD⟩⟩
theorem Mid.rep1 {N : Nat} {s : List (Nat × LV)} {a : Act} (m : Mid w0 M U ρ b0 Ds l rec ρ' own' o W) (fr : FR N U ρ' s a) (hd : a.defers = ds) : Rep N W (reb b0 ρ' own' ds) U ⟨s, o⟩ a W := ⟨ρ', own', fr, m.base, hd⟩
end
def asgK (ro : Option Nat) (P : Program) (N n : Nat) (body : Code) (K : Exit → Nat → St → Prop) : Exit → Nat → St → Prop := fun x b s => x = .normal ∧ W ro P N n body b s K
def endRK {ι : Type} (b0 : Nat) (O : ι → List (Nat × Ob)) (J : ι → Prop) : Exit → Nat → St → Prop := fun x _ s => x = .normal ∧ ∃ i, J i ∧ Le b0 s b0 ⟨[], O i⟩
theorem fr_agree {N : Nat} {U' : Nat → Prop} {ρ ρ' : Nat → Value} {s : List (Nat × LV)} {a : Act} {b0 : Nat} (h : FR N (fun c => c < b0) ρ s a) (hag : ∀ c, c < b0 → U' c ∧ ρ' c = ρ c) : FR N U' ρ' s a := h.keep (fun i hi => (hag i hi).2) (fun i hi => (hag i hi).1)
theorem round_of {ι : Type} {P : Program} {N b0 B l p0 p1 : Nat} {s : List (Nat × LV)} {O : ι → List (Nat × Ob)} {J' : ι → Prop} {lv0 lv1 : LV} {o : List (Nat × Ob)} {rec : Loop} (hps : rec.params = #[p0, p1]) (hst : rec.state = .ready) (hpe : rec.pending = none) (hp0 : p0 < N) (hp1 : p1 < N)
    (hW : W (some l) P N b0 rec.assign B ⟨(p1, lv1) :: (p0, lv0) :: s, o⟩ (asgK (some l) P N b0 rec.body (endRK b0 O J')))
    {w0 W0 : World} {M : Fp} {ρ ρ' : Nat → Value} {own' : Nat → Option Nat} {Ds : List Nat} (m : Mid w0 M (fun c => c < B) ρ b0 Ds l rec ρ' own' o W0) (fr : FR N (fun c => c < b0) ρ s ⟨rec.tmps, []⟩)
    (hu0 : lv0.used (fun c => c < B) ρ') (hu1 : lv1.used (fun c => c < B) ρ') :
    YieldAt (Fw none) 0 P l #[lv0.val ρ', lv1.val ρ'] W0 (fun e W' => e = .returned (.bool true) ∧ ∃ i ρ2 own2, J' i ∧ Mid w0 M (fun c => c < b0) ρ b0 Ds l rec ρ2 own2 (O i) W') := by
  refine ⟨rec.fn, _, rec.assign, rec.body, run_yield m.hl (by rw [hps]; rfl), roundIn_of_wpIn trivial ?_⟩
  have fr0 : FR N (fun c => c < B) ρ' s ⟨rec.tmps, []⟩ := fr_agree fr m.ag
  have fr1 := (fr0.put (fun _ _ => rfl) (fun _ h => h) hu0 p0 hp0).put (fun _ _ => rfl) (fun _ h => h) hu1 p1 hp1
  have ht : (rec.params.zip #[lv0.val ρ', lv1.val ρ']).foldl (fun tmps (x : Tmp × Value) => tmps.setIfInBounds x.1 x.2) rec.tmps = (rec.tmps.setIfInBounds p0 (lv0.val ρ')).setIfInBounds p1 (lv1.val ρ') := by rw [hps]; simp
  have ht' : (rec.params.zip #[lv0.val ρ', lv1.val ρ']).foldl (fun tmps (t, a) => tmps.setIfInBounds t a) rec.tmps = (rec.tmps.setIfInBounds p0 (lv0.val ρ')).setIfInBounds p1 (lv1.val ρ') := ht
  rw [ht']
  refine hW W0 (reb b0 ρ' own' []) _ _ W0 rfl (fun x b' st' a1 w1 hk hr1 => ?_) (m.rep fr1 rfl)
  obtain ⟨rfl, hbody⟩ := hk
  obtain ⟨ρ1, own1, Ds1, fr1', hr1', hd1, mk1⟩ := hr1
  have m1 := m.based hr1'
  have hbr := run_beginRound (P := P) m1.hl hst
  refine ⟨_, hbr, ?_⟩
  have m2 := m1.poke { rec with state := .busy }
  refine hbody _ (reb b0 ρ1 own1 a1.defers) _ a1 _ rfl (fun x b2 st2 a2 w2 hk2 hr2 => ?_) ⟨ρ1, own1, [], fr1', m2.base, rfl, ⟨List.nodup_nil, fun D hD => by cases hD⟩⟩
  obtain ⟨rfl, i, hi, hle⟩ := hk2
  obtain ⟨ρ2, own2, Ds2, fr2, hr2', hd2, mk2⟩ := hr2.le rfl hle
  have m3 := m2.based hr2'
  have m4 := m3.poke rec
  refine ⟨_, _, run_endRound none m3.hl, rfl, i, ρ2, own2, hi, ?_⟩
  have e : ({ ({ rec with state := .busy } : Loop) with state := if (none : Option Code).isNone = true then .ready else .done, pending := none } : Loop) = rec := by
    obtain ⟨a1, a2, a3, a4, a5, a6, a7, a8⟩ := rec
    simp only at hst hpe
    subst hst hpe
    rfl
  rw [e]
  exact m4
def IterB (P : Program) (f sz : Nat) : Prop :=
  ∀ {ι α : Type} [Inhabited α] (enc : α → List Cell) (xs : List α) (bt c j : Nat) (w0 : World) (M : Fp) (ρ : Nat → Value) (b0 : Nat) (Ds : List Nat) (l : Nat) (rec : Loop) (O : ι → List (Nat × Ob)) (J : Nat → ι → Prop) (W : World),
    c < b0 → (∃ a, base (ρ c) = some a) → xs.length ≤ maxLen → (∀ x ∈ xs, (enc x).length = sz ∧ cellsN (enc x) ≤ 16) → (∀ i, (O i).lookup c = some (.box bt [.r j])) → (∀ i, ((O i).lookup j).bind Ob.rows? = some (sz, xs.map enc)) →
    (∀ k i W ρ' own', k < xs.length → J (k + 1) i → Mid w0 M (fun q => q < b0 + 96) ρ b0 Ds l rec ρ' own' (cellsOb (b0 + 80) (enc (xs.getD k default)) ++ O i) W → (LV.agg (cellsLV (b0 + 80) (enc (xs.getD k default)))).used (fun q => q < b0 + 96) ρ' →
      YieldAt (Fw none) 0 P l #[.int .i64 (k : Int), LV.val ρ' (.agg (cellsLV (b0 + 80) (enc (xs.getD k default))))] W (fun e W' => e = .returned (.bool true) ∧ ∃ i' ρ2 own2, J k i' ∧ Mid w0 M (fun q => q < b0) ρ b0 Ds l rec ρ2 own2 (O i') W')) →
    (∃ i ρ' own', J xs.length i ∧ Mid w0 M (fun q => q < b0) ρ b0 Ds l rec ρ' own' (O i) W) →
    CallsIn (Fw none) 0 P f #[.func (.yield l) #[] #[], ptrOf (ρ c) 0] W (fun e W' => (∃ v, e = .returned v) ∧ ∃ i ρ' own', J 0 i ∧ Mid w0 M (fun q => q < b0) ρ b0 Ds l rec ρ' own' (O i) W')
theorem W_range {P : Program} {N n b b0 f sz : Nat} (hit : IterB P f sz) {g : Operand} {p0 p1 : Nat} {assign body : Code} {st : St} {K : Exit → Nat → St → Prop} {ι α : Type} [Inhabited α] {enc : α → List Cell} {xs : List α} (bt c j : Nat) (s : List (Nat × LV)) (O : ι → List (Nat × Ob)) (J : Nat → ι → Prop) (i0 : ι)
    (hJ : J xs.length i0) (hle : Le n st b0 ⟨s, O i0⟩) (hg : (⟨s, O i0⟩ : St).ev g = some (.fn f [.p c 0])) (hcb : decide (c < b0) = true) (hxl : xs.length ≤ maxLen) (hx : ∀ x ∈ xs, (enc x).length = sz ∧ cellsN (enc x) ≤ 16) (hc : ∀ i, (O i).lookup c = some (.box bt [.r j])) (hj : ∀ i, ((O i).lookup j).bind Ob.rows? = some (sz, xs.map enc))
    (hp0 : decide (p0 < N) = true) (hp1 : decide (p1 < N) = true) (hef : ∀ args w, (callFunc f args).run P w = .ok (.enter f args) w)
    (round : ∀ k i l, k < xs.length → J (k + 1) i → W (some l) P N b0 assign (b0 + 96) ⟨(p1, .agg (cellsLV (b0 + 80) (enc (xs.getD k default)))) :: (p0, .v (.int .i64 (k : Int))) :: s, cellsOb (b0 + 80) (enc (xs.getD k default)) ++ O i⟩ (asgK (some l) P N b0 body (endRK b0 O (J k))))
    (h : ∀ i, J 0 i → K .normal b0 ⟨s, O i⟩) : W none P N n (.rangeFunc g #[p0, p1] assign body) b st K := by
  intro w0 M Q a w hM hq hr
  have hle' := hle
  obtain ⟨_, _, _, hB⟩ := hle'
  simp only [leB, Bool.and_eq_true, decide_eq_true_eq] at hB
  have hnb : M.n ≤ b0 := by have := hB.1.2; omega
  obtain ⟨ρ, own, Ds, fr, hh, hdf, mk⟩ := hr.le hM hle
  have hgv := (fr.eval hg)
  have hcb' : c < b0 := of_decide_eq_true hcb
  obtain ⟨⟨_, ad, had⟩, _⟩ := hgv.2
  refine wpIn_rangeFunc (fun fn _ => ?_)
  obtain ⟨rec, hrec⟩ : ∃ rec : Loop, rec = { state := .ready, pending := none, fn, tmps := a.tmps, params := #[p0, p1], assign, body, defers := w.heap.size } := ⟨_, rfl⟩
  obtain ⟨W1, hW1⟩ : ∃ W1, (w.alloc (.deferred (some []))).alloc (.loop rec) = W1 := ⟨_, rfl⟩
  have hL1 : W1.heap[w.heap.size + 1]? = some (.loop rec) := by
    rw [← hW1]; have := World.alloc_heap_new (w.alloc (.deferred (some []))) (.loop rec); rwa [World.size_alloc] at this
  have hold : ∀ k, k < w.heap.size → W1.heap[k]? = w.heap[k]? := fun k hk => by
    rw [← hW1]; exact (Below.heap_alloc _ _ k (by simp; omega)).trans (Below.heap_alloc _ _ k hk)
  have hD1 : W1.heap[w.heap.size]? = some (.deferred (some [])) := by
    rw [← hW1]; exact (Below.heap_alloc _ _ _ (by simp)).trans (World.alloc_heap_new w _)
  have hsz1 : W1.heap.size = w.heap.size + 2 := by rw [← hW1]; simp
  have hgs := hh.gr.size
  let own1 : Nat → Option Nat := fun k => if w.heap.size ≤ k then some 0 else own k
  have hh1 : HR w0 M (fun q => q < b0) ρ own1 (O i0) W1 := by
    have := hh.step (w' := W1) (U' := fun q => q < b0) (ρ' := ρ) (own' := own1) (upd := []) (fun _ => False) (by rw [← hW1]; rfl) (by rw [← hW1]; rfl) (by rw [← hW1]; rfl) (by omega) (fun k hk _ => ⟨hold k hk, by simp [own1]; omega⟩) (fun _ _ => rfl) (fun _ h => h) (fun _ h => h.elim) (fun _ _ h => by cases h) (fun _ _ h => by cases h)
    exact this
  have mk1 : Marks w0 own1 (w.heap.size :: Ds) W1 := ⟨List.nodup_cons.2 ⟨fun h => by have := heap_lt (mk.at_ _ h).2.2; omega, mk.nd⟩, fun D hD => by
    rcases List.mem_cons.1 hD with rfl | hD
    · exact ⟨by simp [own1], by omega, hD1⟩
    · obtain ⟨h1, h2, h3⟩ := mk.at_ D hD
      have := heap_lt h3
      exact ⟨by simp only [own1]; rw [if_neg (by omega)]; exact h1, h2, (hold D this).trans h3⟩⟩
  have m1 : Mid w0 M (fun q => q < b0) ρ b0 (w.heap.size :: Ds) (w.heap.size + 1) rec ρ own1 (O i0) W1 :=
    ⟨hh1, hnb, fun q hq => ⟨hq, rfl⟩, by simp [own1], by omega, mk1, hL1⟩
  have frt : FR N (fun c => c < b0) ρ s ⟨rec.tmps, []⟩ := ⟨by rw [hrec]; exact fr.sz, by rw [hrec]; exact fr.sl⟩
  refine ⟨w.heap.size + 1, [markD w.heap.size], W1, { target := .fn (.func f) #[ptrOf (ρ c) 0], args := #[.func (.yield (w.heap.size + 1)) #[] #[]] }, W1, f, #[.func (.yield (w.heap.size + 1)) #[] #[]] ++ #[ptrOf (ρ c) 0], W1, ?_, ?_, fun _ _ => trivial, ?_, fun h => (by cases h), ?_⟩
  · rw [← hW1, hrec]; exact run_enterLoop_outer _ _ _ _ _
  · have hev : a.eval g = .func (.func f) #[] #[ptrOf (ρ c) 0] := by rw [hgv.1]; rfl
    simp only [resolve, rangeCall, hev]
    simp [go_sem]
  · simp [invoke, go_sem, hef]
  · refine (hit enc xs bt c j w0 M ρ b0 (w.heap.size :: Ds) (w.heap.size + 1) rec O J W1 hcb' ⟨ad, had⟩ hxl hx hc hj (fun k i W ρ' own' hk hJk m hu => ?_) ⟨i0, ρ, own1, hJ, m1⟩).mono (fun e W2 hE => ?_)
    · have hRd := round_of (rec := rec) (P := P) (p0 := p0) (p1 := p1) (lv0 := .v (.int .i64 (k : Int))) (by rw [hrec]) (by rw [hrec]) (by rw [hrec]) (of_decide_eq_true hp0) (of_decide_eq_true hp1) (by rw [hrec]; exact round k i (w.heap.size + 1) hk hJk) m frt trivial hu
      exact hRd
    · obtain ⟨⟨v, rfl⟩, i, ρ2, own2, hJ0, m2⟩ := hE
      have m3 := m2.poke { rec with state := .exhausted }
      have hend := run_endLoop (P := P) m2.hl (by rw [hrec]; simp)
      have hp : rec.pending = none := by rw [hrec]
      refine ⟨none, _, hend.trans (congrArg (fun p => Result.ok p _) hp), ?_⟩
      refine hq _ _ _ _ _ (h i hJ0) ⟨ρ2, own2, w.heap.size :: Ds, ?_, m3.hr, ?_, m3.mks⟩
      · exact ⟨fr.sz, (fr_agree fr m2.ag).sl⟩
      · simp [hdf]
end Lg
end Go.Proofs.Ytpfhmodjjljpjaa

namespace Go.Proofs.Ytpfhmodjjljpjaa
open Go.RowKit
namespace Lg
set_option linter.unusedSimpArgs false
set_option linter.unusedVariables false
set_option maxRecDepth 100000
theorem HR.shrink {w0 w1 w w' : World} {M M' : Fp} {U U' : Nat → Prop} {ρ ρ' : Nat → Value} {own own' : Nat → Option Nat} {o : List (Nat × Ob)} (h : HR w0 M U ρ own o w) (h' : HR w1 M' U' ρ' own' o w') (hρ : ∀ i, U' i → ρ i = ρ' i) (hn : ∀ i, i < M.n → U' i) : HR w0 M U' ρ own o w :=
  ⟨fun i b hi => ⟨(h.ob i b hi).1, (h'.ob i b hi).2.1, Ob.used_mono hρ (fun _ h => h) (h'.ob i b hi).2.2⟩, h.gr, h.fr, h.z, h'.z0, fun i hi => ⟨hn i hi, (h.ag i hi).2⟩⟩
section
variable {w0 W W' : World} {M : Fp} {U : Nat → Prop} {ρ ρ' ρ2 : Nat → Value} {b0 : Nat} {Ds : List Nat} {l : Nat} {rec : Loop} {own' own2 : Nat → Option Nat} {o : List (Nat × Ob)} {ds : List Deferred}
theorem Mid.shrink {N : Nat} {a : Act} {s s' : List (Nat × LV)} (m : Mid w0 M (fun q => q < b0) ρ b0 Ds l rec ρ' own' o W) (k : HR W (reb b0 ρ' own' ds) U ρ2 own2 o W') (fr : FR N U ρ2 s a) (hs : ∀ p ∈ s', s.lookup p.1 = some p.2) (hu : (∀ q, q < b0 → q < b0 ∧ ρ2 q = ρ q) → ∀ p ∈ s', p.2.used (fun q => q < b0) ρ2) :
    Mid w0 M (fun q => q < b0) ρ b0 Ds l rec ρ2 own2 o W' ∧ FR N (fun q => q < b0) ρ2 s' a := by
  have m1 := m.based k
  have hag : ∀ q, q < b0 → q < b0 ∧ ρ2 q = ρ q := fun q hq => ⟨hq, (m1.ag q hq).2⟩
  refine ⟨⟨m1.hr.shrink m.hr (fun q hq => (m1.ag q hq).2.trans (m.ag q hq).2.symm) (fun q hq => Nat.lt_of_lt_of_le hq m.hb), m1.hb, hag, m1.ol, m1.l0, m1.mks, m1.hl⟩, fr.sz, fun d lv hd => ?_⟩
  have hm : ∃ p ∈ s', p.1 = d ∧ p.2 = lv := ⟨(d, lv), lookup_mem hd, rfl, rfl⟩
  obtain ⟨p, hp, rfl, rfl⟩ := hm
  exact ⟨(fr.sl _ _ (hs p hp)).1, hu hag p hp⟩
end
theorem op_step {ro : Option Nat} {P : Program} {N b nn j : Nat} {ops : Array Oper} {o : Oper} {rest : List Nat} {pre : List Nat} {st : St} {lv : LV} {upd : List (Nat × Ob)} {w0 : World} {M : Fp} {U U' : Nat → Prop} {a : Act} {w : World} {Q : Exit → Act → World → Prop} (h : Rep N w0 M U st a w) (ho : ops[j]? = some o) (hg : On ops st o true) (ht : T P N o b pre st lv nn upd) (hd : ∀ d, o.dst = some d → d < N)
    (hf : ∀ i, b ≤ i → i < b + nn → ¬ U i) (hU : ∀ i, grow U b nn i → U' i) (next : ∀ a' w', Rep N w0 M U' (st.app o.dst lv upd) a' w' → wpOpsIn (Fw ro) 0 P ops Q rest a' w') : wpOpsIn (Fw ro) 0 P ops Q (j :: rest) a w := by
  have h' := h
  obtain ⟨ρ, own, fr, hh, hdf⟩ := h'
  simp only [wpOpsIn, ho, wanted_of hg fr, if_true]
  exact rep_op ht h (fun _ _ => rfl) (fun _ _ => rfl) hf hU hd _ Q next
theorem op_step0 {ro : Option Nat} {P : Program} {N b j : Nat} {ops : Array Oper} {o : Oper} {rest : List Nat} {pre : List Nat} {st : St} {lv : LV} {upd : List (Nat × Ob)} {w0 : World} {M : Fp} {U : Nat → Prop} {a : Act} {w : World} {Q : Exit → Act → World → Prop} (h : Rep N w0 M U st a w) (ho : ops[j]? = some o) (hg : On ops st o true) (ht : T P N o b pre st lv 0 upd) (hd : ∀ d, o.dst = some d → d < N)
    (next : ∀ a' w', Rep N w0 M U (st.app o.dst lv upd) a' w' → wpOpsIn (Fw ro) 0 P ops Q rest a' w') : wpOpsIn (Fw ro) 0 P ops Q (j :: rest) a w :=
  op_step h ho hg ht hd (fun i h1 h2 => by omega) (fun i hi => by rcases hi with hi | hi; exact hi; omega) next
theorem FR.swap {N : Nat} {U U' : Nat → Prop} {ρ ρ' : Nat → Value} {s s' : List (Nat × LV)} {a : Act} (fr : FR N U ρ s a) (hs : ∀ p ∈ s', s.lookup p.1 = some p.2) (hv : ∀ p ∈ s', p.2.val ρ' = p.2.val ρ ∧ p.2.used U' ρ') : FR N U' ρ' s' a :=
  ⟨fr.sz, fun d lv hd => by
    have hm := lookup_mem hd
    exact ⟨by rw [(fr.sl _ _ (hs _ hm)).1, (hv _ hm).1], (hv _ hm).2⟩⟩
theorem yield_op {P : Program} {j l : Nat} {ops : Array Oper} {o : Oper} {rest : List Nat} {x y1 y2 : Operand} {ts : Array TypeId} {a : Act} {w : World} {Q R} (ho : ops[j]? = some o) (hgd : o.guard = none) (hop : o.op = .call { callee := .value x, args := #[y1, y2], argTypes := ts }) (hx : a.eval x = .func (.yield l) #[] #[]) (hY : YieldAt (Fw none) 0 P l #[a.eval y1, a.eval y2] w R)
    (next : ∀ e w', R e w' → ∃ v, e = .returned v ∧ wpOpsIn (Fw none) 0 P ops Q rest (a.put o.dst v) w') : wpOpsIn (Fw none) 0 P ops Q (j :: rest) a w := by
  obtain ⟨fn, tmps, assign, body, hy, hR⟩ := hY
  have hw : Region.wanted o (yielded ops a.tmps) = true := by simp [Region.wanted, hgd]
  simp only [wpOpsIn, ho, hw, if_true]
  refine ⟨fun _ _ => trivial, ?_⟩
  have key : ∀ ev : Operand → Value, ev x = .func (.yield l) #[] #[] → (Instr.yield l #[ev y1, ev y2]).run P w = .ok (.round l fn tmps assign body) w → (execOp ev o).run P w = .ok (.round l fn tmps assign body) w := fun ev h1 h2 => by
    simp only [execOp, hop, resolve, h1]
    simp [go_sem, invoke, h2]
  have hrun : (o.semAt (Fw none).round a.eval).run P w = .ok (.round l fn tmps assign body) w := by
    rw [show (Fw none).round = none from rfl, Oper.semAt_none]
    exact key _ hx hy
  rw [hrun]
  refine ⟨fun h => (by cases h), hR.mono (fun e w' he => ?_)⟩
  obtain ⟨v, rfl, h⟩ := next e w' he
  exact h
set_option maxHeartbeats 1600000 in
theorem iter129 : IterB Try.prog 129 8 := by
  intro ι α _ enc xs bt c j w0 M ρ b0 Ds l rec O J W hc hb hxl hx hOc hOj hY hI
  obtain ⟨ad, had⟩ := hb
  have hlen : (xs.length : Int) ≤ 9223372036854775807 := by simp only [maxLen] at hxl; omega
  refine callsIn_of_wp (fn := Try.f129) (c := _) Try.func129 rfl trivial ?_ rfl
  obtain ⟨i, ρ', own', hJ0, m⟩ := hI
  let y : Value := .func (.yield l) #[] #[]
  have frI : ∀ ρ', (∀ q, q < b0 → q < b0 ∧ ρ' q = ρ q) → (LV.p c 0).used (fun q => q < b0) ρ' := fun ρ' hag => ⟨hc, ad, by rw [(hag c hc).2]; exact had⟩
  have fr0 : FR 19 (fun q => q < b0) ρ' [(0, .v y), (1, .p c 0)] { tmps := #[y, ptrOf (ρ c) 0] ++ Array.replicate (19 - 2) undef, defers := [] } := by
    refine ⟨rfl, fun d lv hd => ?_⟩
    simp only [List.lookup] at hd
    have hρc := (m.ag c hc).2
    split at hd
    · rename_i h; obtain rfl : d = 0 := by simpa using h
      cases hd; exact ⟨by simp [LV.val], trivial⟩
    · split at hd
      · rename_i h; obtain rfl : d = 1 := by simpa using h
        cases hd; exact ⟨by simp [LV.val, hρc], frI ρ' m.ag⟩
      · cases hd
  refine wpIn_seq ?_
  refine region_seq (N := 19) (bs := b0) rfl (.op rfl (.plain rfl) (T_load_b D rfl rfl (hOc i) rfl rfl rfl) rfl <| .op rfl (.plain rfl) (T_len D rfl rfl (hOj i) rfl rfl rfl) rfl <| .op rfl (.plain rfl) (T_sub64 rfl rfl rfl (by omega)) rfl <| .op rfl (.plain rfl) (T_assign rfl rfl) rfl <| .done rfl) (m.rep1 fr0 rfl) (fun a1 W1 hr1 => ?_)
  obtain ⟨ρ1, own1, fr1, hr1', hd1⟩ := hr1
  obtain ⟨m1, fr1⟩ := Mid.shrink m hr1' fr1 (s' := [(0, .v y), (1, .p c 0), (3, .v (.int .i64 ((xs.length : Int) - 1)))]) (fun p hp => by simp only [List.mem_cons, List.not_mem_nil, or_false] at hp; rcases hp with rfl | rfl | rfl <;> rfl) (fun hag p hp => by simp only [List.mem_cons, List.not_mem_nil, or_false] at hp; rcases hp with rfl | rfl | rfl <;> first | trivial | exact frI _ hag)
  refine wpIn_block (wpIn_lessen (fun k a W => ∃ (n : Nat) (i : ι) (ρ' : Nat → Value) (own' : Nat → Option Nat), k = n ∧ n ≤ xs.length ∧ J n i ∧ Mid w0 M (fun q => q < b0) ρ b0 Ds l rec ρ' own' (O i) W ∧ FR 19 (fun q => q < b0) ρ' [(0, .v y), (1, .p c 0), (3, .v (.int .i64 ((n : Int) - 1)))] a ∧ a.defers = []) xs.length ⟨xs.length, i, ρ1, own1, rfl, Nat.le_refl _, hJ0, m1, fr1, hd1⟩ (fun n a W hk => ?_))
  obtain ⟨_, i, ρ', own', rfl, hn, hJn, m, fr, hd⟩ := hk
  refine wpIn_seq (wpIn_seq ?_)
  refine region_seq (N := 19) (bs := b0) rfl (.op rfl (.plain rfl) (T_move rfl rfl) rfl <| .op rfl (.plain rfl) (T_cmp rfl rfl rfl rfl) rfl <| .done rfl) (m.rep1 fr hd) (fun a1 W1 hr1 => ?_)
  obtain ⟨ρ1, own1, fr1, hr1', hd1⟩ := hr1
  have h8 := (FR.eval (st := ⟨_, []⟩) (x := .tmp 8) fr1 rfl).1
  obtain ⟨m1, fr1⟩ := Mid.shrink m hr1' fr1 (s' := [(0, .v y), (1, .p c 0), (3, .v (.int .i64 ((n : Int) - 1)))]) (fun p hp => by simp only [List.mem_cons, List.not_mem_nil, or_false] at hp; rcases hp with rfl | rfl | rfl <;> rfl) (fun hag p hp => by simp only [List.mem_cons, List.not_mem_nil, or_false] at hp; rcases hp with rfl | rfl | rfl <;> first | trivial | exact frI _ hag)
  refine wpIn_cond_split h8 (fun hge => ?_) (fun hlt => ?_)
  · refine wpIn_skip ?_
    have hn0 : (n : Int) - 1 ≥ 0 := of_decide_eq_true hge
    obtain ⟨k, rfl⟩ : ∃ k, n = k + 1 := ⟨n - 1, by omega⟩
    have e : ((k + 1 : Nat) : Int) - 1 = (k : Int) := by omega
    rw [e] at fr1
    have hk : k < xs.length := by omega
    have hxk := hx _ (getD_mem hk)
    refine wpIn_seq (wpIn_block (wpIn_seq (wpIn_region ?_)))
    show wpOpsIn (Fw none) 0 Try.prog _ _ [0, 1, 2, 3, 4, 5, 6, 7] a1 W1
    refine op_step0 (b := b0) (m1.rep1 fr1 hd1) rfl (.plain rfl) (T_move rfl rfl) (fun d hd => by cases hd; decide) (fun a2 W2 h2 => ?_)
    refine op_step0 (b := b0) h2 rfl (.plain rfl) (T_move rfl rfl) (fun d hd => by cases hd; decide) (fun a3 W3 h3 => ?_)
    refine op_step0 (b := b0) h3 rfl (.plain rfl) (T_load_b D rfl rfl (hOc i) rfl rfl rfl) (fun d hd => by cases hd; decide) (fun a4 W4 h4 => ?_)
    refine op_step0 (b := b0) h4 rfl (.plain rfl) (T_move rfl rfl) (fun d hd => by cases hd; decide) (fun a5 W5 h5 => ?_)
    refine op_step0 (b := b0) h5 rfl (.plain rfl) (T_indexAddr D rfl rfl (hOj i) rfl rfl rfl rfl rfl hk) (fun d hd => by cases hd; decide) (fun a6 W6 h6 => ?_)
    refine op_step (b := b0 + 80) (U' := fun q => q < b0 + 96) h6 rfl (.plain rfl) (T_ldEA D rfl rfl (hOj i) rfl rfl hk (cls := enc (xs.getD k default)) (by rw [List.drop_zero]; exact List.take_of_length_le (Nat.le_of_eq hxk.1)) hxk.1 rfl rfl rfl) (fun d hd => by cases hd; decide) (fun q h1 h2 h3 => by omega) (fun q hq => by rcases hq with hq | hq <;> omega) (fun a7 W7 h7 => ?_)
    obtain ⟨ρ7, own7, fr7, hr7, hd7⟩ := h7
    have m7 := m1.based hr7
    have e0 := FR.eval (st := ⟨_, []⟩) (x := .tmp 11) fr7 rfl
    have e1 := FR.eval (st := ⟨_, []⟩) (x := .tmp 12) fr7 rfl
    have e2 := FR.eval (st := ⟨_, []⟩) (x := .tmp 16) fr7 rfl
    refine yield_op (l := l) rfl rfl rfl e0.1 (by rw [e1.1, e2.1]; exact hY k i _ ρ7 own7 hk hJn m7 e2.2) (fun e W8 he => ?_)
    obtain ⟨rfl, i', ρ8, own8, hJ8, m8⟩ := he
    refine ⟨.bool true, rfl, ?_⟩
    have fr8 : FR 19 (fun q => q < b0) ρ8 [(0, .v y), (1, .p c 0), (3, .v (.int .i64 (k : Int)))] a7 := fr7.swap (fun p hp => by simp only [List.mem_cons, List.not_mem_nil, or_false] at hp; rcases hp with rfl | rfl | rfl <;> rfl) (fun p hp => by
      simp only [List.mem_cons, List.not_mem_nil, or_false] at hp
      rcases hp with rfl | rfl | rfl
      · exact ⟨rfl, trivial⟩
      · exact ⟨by simp only [LV.val]; rw [(m8.ag c hc).2, (m7.ag c hc).2], frI _ m8.ag⟩
      · exact ⟨rfl, trivial⟩)
    have fr9 := fr8.put (fun _ _ => rfl) (fun _ h => h) (lv := .v (.bool true)) trivial 17 (by decide)
    refine op_step0 (b := b0) (m8.rep1 fr9 ((put_defers _ _ _).trans hd7)) rfl (.plain rfl) (T_not rfl rfl) (fun d hd => by cases hd; decide) (fun a9 W9 h9 => ?_)
    obtain ⟨ρ9, own9, fr9', hr9, hd9⟩ := h9
    have h18 := (FR.eval (st := ⟨_, []⟩) (x := .tmp 18) fr9' rfl).1
    obtain ⟨m9, fr9⟩ := Mid.shrink m8 hr9 fr9' (s' := [(0, .v y), (1, .p c 0), (3, .v (.int .i64 (k : Int)))]) (fun p hp => by simp only [List.mem_cons, List.not_mem_nil, or_false] at hp; rcases hp with rfl | rfl | rfl <;> rfl) (fun hag p hp => by simp only [List.mem_cons, List.not_mem_nil, or_false] at hp; rcases hp with rfl | rfl | rfl <;> first | trivial | exact frI _ hag)
    refine wpIn_cond_split h18 (fun h => by cases h) (fun _ => wpIn_skip ?_)
    refine region_seq (N := 19) (bs := b0) rfl (.op rfl (.plain rfl) (T_move rfl rfl) rfl <| .op rfl (.plain rfl) (T_sub64 rfl rfl rfl (by omega)) rfl <| .op rfl (.plain rfl) (T_assign rfl rfl) rfl <| .done rfl) (m9.rep1 fr9 hd9) (fun a10 W10 hr10 => ?_)
    obtain ⟨ρ10, own10, fr10, hr10', hd10⟩ := hr10
    obtain ⟨m10, fr10⟩ := Mid.shrink m9 hr10' fr10 (s' := [(0, .v y), (1, .p c 0), (3, .v (.int .i64 ((k : Int) - 1)))]) (fun p hp => by simp only [List.mem_cons, List.not_mem_nil, or_false] at hp; rcases hp with rfl | rfl | rfl <;> rfl) (fun hag p hp => by simp only [List.mem_cons, List.not_mem_nil, or_false] at hp; rcases hp with rfl | rfl | rfl <;> first | trivial | exact frI _ hag)
    exact ⟨k, Nat.lt_succ_self k, k, i', ρ10, own10, rfl, by omega, hJ8, m10, fr10, hd10⟩
  · refine wpIn_exit ?_
    have hn0 : ¬ ((n : Int) - 1 ≥ 0) := of_decide_eq_false hlt
    obtain rfl : n = 0 := by omega
    exact ⟨hd1, _, results_none rfl _ _ _, ⟨_, rfl⟩, i, ρ1, own1, hJn, m1⟩
set_option maxHeartbeats 1600000 in
theorem iter126 : IterB Try.prog 126 5 := by
  intro ι α _ enc xs bt c j w0 M ρ b0 Ds l rec O J W hc hb hxl hx hOc hOj hY hI
  obtain ⟨ad, had⟩ := hb
  have hlen : (xs.length : Int) ≤ 9223372036854775807 := by simp only [maxLen] at hxl; omega
  refine callsIn_of_wp (fn := Try.f126) (c := _) Try.func126 rfl trivial ?_ rfl
  obtain ⟨i, ρ', own', hJ0, m⟩ := hI
  let y : Value := .func (.yield l) #[] #[]
  have frI : ∀ ρ', (∀ q, q < b0 → q < b0 ∧ ρ' q = ρ q) → (LV.p c 0).used (fun q => q < b0) ρ' := fun ρ' hag => ⟨hc, ad, by rw [(hag c hc).2]; exact had⟩
  have fr0 : FR 19 (fun q => q < b0) ρ' [(0, .v y), (1, .p c 0)] { tmps := #[y, ptrOf (ρ c) 0] ++ Array.replicate (19 - 2) undef, defers := [] } := by
    refine ⟨rfl, fun d lv hd => ?_⟩
    simp only [List.lookup] at hd
    have hρc := (m.ag c hc).2
    split at hd
    · rename_i h; obtain rfl : d = 0 := by simpa using h
      cases hd; exact ⟨by simp [LV.val], trivial⟩
    · split at hd
      · rename_i h; obtain rfl : d = 1 := by simpa using h
        cases hd; exact ⟨by simp [LV.val, hρc], frI ρ' m.ag⟩
      · cases hd
  refine wpIn_seq ?_
  refine region_seq (N := 19) (bs := b0) rfl (.op rfl (.plain rfl) (T_load_b D rfl rfl (hOc i) rfl rfl rfl) rfl <| .op rfl (.plain rfl) (T_len D rfl rfl (hOj i) rfl rfl rfl) rfl <| .op rfl (.plain rfl) (T_sub64 rfl rfl rfl (by omega)) rfl <| .op rfl (.plain rfl) (T_assign rfl rfl) rfl <| .done rfl) (m.rep1 fr0 rfl) (fun a1 W1 hr1 => ?_)
  obtain ⟨ρ1, own1, fr1, hr1', hd1⟩ := hr1
  obtain ⟨m1, fr1⟩ := Mid.shrink m hr1' fr1 (s' := [(0, .v y), (1, .p c 0), (3, .v (.int .i64 ((xs.length : Int) - 1)))]) (fun p hp => by simp only [List.mem_cons, List.not_mem_nil, or_false] at hp; rcases hp with rfl | rfl | rfl <;> rfl) (fun hag p hp => by simp only [List.mem_cons, List.not_mem_nil, or_false] at hp; rcases hp with rfl | rfl | rfl <;> first | trivial | exact frI _ hag)
  refine wpIn_block (wpIn_lessen (fun k a W => ∃ (n : Nat) (i : ι) (ρ' : Nat → Value) (own' : Nat → Option Nat), k = n ∧ n ≤ xs.length ∧ J n i ∧ Mid w0 M (fun q => q < b0) ρ b0 Ds l rec ρ' own' (O i) W ∧ FR 19 (fun q => q < b0) ρ' [(0, .v y), (1, .p c 0), (3, .v (.int .i64 ((n : Int) - 1)))] a ∧ a.defers = []) xs.length ⟨xs.length, i, ρ1, own1, rfl, Nat.le_refl _, hJ0, m1, fr1, hd1⟩ (fun n a W hk => ?_))
  obtain ⟨_, i, ρ', own', rfl, hn, hJn, m, fr, hd⟩ := hk
  refine wpIn_seq (wpIn_seq ?_)
  refine region_seq (N := 19) (bs := b0) rfl (.op rfl (.plain rfl) (T_move rfl rfl) rfl <| .op rfl (.plain rfl) (T_cmp rfl rfl rfl rfl) rfl <| .done rfl) (m.rep1 fr hd) (fun a1 W1 hr1 => ?_)
  obtain ⟨ρ1, own1, fr1, hr1', hd1⟩ := hr1
  have h8 := (FR.eval (st := ⟨_, []⟩) (x := .tmp 8) fr1 rfl).1
  obtain ⟨m1, fr1⟩ := Mid.shrink m hr1' fr1 (s' := [(0, .v y), (1, .p c 0), (3, .v (.int .i64 ((n : Int) - 1)))]) (fun p hp => by simp only [List.mem_cons, List.not_mem_nil, or_false] at hp; rcases hp with rfl | rfl | rfl <;> rfl) (fun hag p hp => by simp only [List.mem_cons, List.not_mem_nil, or_false] at hp; rcases hp with rfl | rfl | rfl <;> first | trivial | exact frI _ hag)
  refine wpIn_cond_split h8 (fun hge => ?_) (fun hlt => ?_)
  · refine wpIn_skip ?_
    have hn0 : (n : Int) - 1 ≥ 0 := of_decide_eq_true hge
    obtain ⟨k, rfl⟩ : ∃ k, n = k + 1 := ⟨n - 1, by omega⟩
    have e : ((k + 1 : Nat) : Int) - 1 = (k : Int) := by omega
    rw [e] at fr1
    have hk : k < xs.length := by omega
    have hxk := hx _ (getD_mem hk)
    refine wpIn_seq (wpIn_block (wpIn_seq (wpIn_region ?_)))
    show wpOpsIn (Fw none) 0 Try.prog _ _ [0, 1, 2, 3, 4, 5, 6, 7] a1 W1
    refine op_step0 (b := b0) (m1.rep1 fr1 hd1) rfl (.plain rfl) (T_move rfl rfl) (fun d hd => by cases hd; decide) (fun a2 W2 h2 => ?_)
    refine op_step0 (b := b0) h2 rfl (.plain rfl) (T_move rfl rfl) (fun d hd => by cases hd; decide) (fun a3 W3 h3 => ?_)
    refine op_step0 (b := b0) h3 rfl (.plain rfl) (T_load_b D rfl rfl (hOc i) rfl rfl rfl) (fun d hd => by cases hd; decide) (fun a4 W4 h4 => ?_)
    refine op_step0 (b := b0) h4 rfl (.plain rfl) (T_move rfl rfl) (fun d hd => by cases hd; decide) (fun a5 W5 h5 => ?_)
    refine op_step0 (b := b0) h5 rfl (.plain rfl) (T_indexAddr D rfl rfl (hOj i) rfl rfl rfl rfl rfl hk) (fun d hd => by cases hd; decide) (fun a6 W6 h6 => ?_)
    refine op_step (b := b0 + 80) (U' := fun q => q < b0 + 96) h6 rfl (.plain rfl) (T_ldEA D rfl rfl (hOj i) rfl rfl hk (cls := enc (xs.getD k default)) (by rw [List.drop_zero]; exact List.take_of_length_le (Nat.le_of_eq hxk.1)) hxk.1 rfl rfl rfl) (fun d hd => by cases hd; decide) (fun q h1 h2 h3 => by omega) (fun q hq => by rcases hq with hq | hq <;> omega) (fun a7 W7 h7 => ?_)
    obtain ⟨ρ7, own7, fr7, hr7, hd7⟩ := h7
    have m7 := m1.based hr7
    have e0 := FR.eval (st := ⟨_, []⟩) (x := .tmp 11) fr7 rfl
    have e1 := FR.eval (st := ⟨_, []⟩) (x := .tmp 12) fr7 rfl
    have e2 := FR.eval (st := ⟨_, []⟩) (x := .tmp 16) fr7 rfl
    refine yield_op (l := l) rfl rfl rfl e0.1 (by rw [e1.1, e2.1]; exact hY k i _ ρ7 own7 hk hJn m7 e2.2) (fun e W8 he => ?_)
    obtain ⟨rfl, i', ρ8, own8, hJ8, m8⟩ := he
    refine ⟨.bool true, rfl, ?_⟩
    have fr8 : FR 19 (fun q => q < b0) ρ8 [(0, .v y), (1, .p c 0), (3, .v (.int .i64 (k : Int)))] a7 := fr7.swap (fun p hp => by simp only [List.mem_cons, List.not_mem_nil, or_false] at hp; rcases hp with rfl | rfl | rfl <;> rfl) (fun p hp => by
      simp only [List.mem_cons, List.not_mem_nil, or_false] at hp
      rcases hp with rfl | rfl | rfl
      · exact ⟨rfl, trivial⟩
      · exact ⟨by simp only [LV.val]; rw [(m8.ag c hc).2, (m7.ag c hc).2], frI _ m8.ag⟩
      · exact ⟨rfl, trivial⟩)
    have fr9 := fr8.put (fun _ _ => rfl) (fun _ h => h) (lv := .v (.bool true)) trivial 17 (by decide)
    refine op_step0 (b := b0) (m8.rep1 fr9 ((put_defers _ _ _).trans hd7)) rfl (.plain rfl) (T_not rfl rfl) (fun d hd => by cases hd; decide) (fun a9 W9 h9 => ?_)
    obtain ⟨ρ9, own9, fr9', hr9, hd9⟩ := h9
    have h18 := (FR.eval (st := ⟨_, []⟩) (x := .tmp 18) fr9' rfl).1
    obtain ⟨m9, fr9⟩ := Mid.shrink m8 hr9 fr9' (s' := [(0, .v y), (1, .p c 0), (3, .v (.int .i64 (k : Int)))]) (fun p hp => by simp only [List.mem_cons, List.not_mem_nil, or_false] at hp; rcases hp with rfl | rfl | rfl <;> rfl) (fun hag p hp => by simp only [List.mem_cons, List.not_mem_nil, or_false] at hp; rcases hp with rfl | rfl | rfl <;> first | trivial | exact frI _ hag)
    refine wpIn_cond_split h18 (fun h => by cases h) (fun _ => wpIn_skip ?_)
    refine region_seq (N := 19) (bs := b0) rfl (.op rfl (.plain rfl) (T_move rfl rfl) rfl <| .op rfl (.plain rfl) (T_sub64 rfl rfl rfl (by omega)) rfl <| .op rfl (.plain rfl) (T_assign rfl rfl) rfl <| .done rfl) (m9.rep1 fr9 hd9) (fun a10 W10 hr10 => ?_)
    obtain ⟨ρ10, own10, fr10, hr10', hd10⟩ := hr10
    obtain ⟨m10, fr10⟩ := Mid.shrink m9 hr10' fr10 (s' := [(0, .v y), (1, .p c 0), (3, .v (.int .i64 ((k : Int) - 1)))]) (fun p hp => by simp only [List.mem_cons, List.not_mem_nil, or_false] at hp; rcases hp with rfl | rfl | rfl <;> rfl) (fun hag p hp => by simp only [List.mem_cons, List.not_mem_nil, or_false] at hp; rcases hp with rfl | rfl | rfl <;> first | trivial | exact frI _ hag)
    exact ⟨k, Nat.lt_succ_self k, k, i', ρ10, own10, rfl, by omega, hJ8, m10, fr10, hd10⟩
  · refine wpIn_exit ?_
    have hn0 : ¬ ((n : Int) - 1 ≥ 0) := of_decide_eq_false hlt
    obtain rfl : n = 0 := by omega
    exact ⟨hd1, _, results_none rfl _ _ _, ⟨_, rfl⟩, i, ρ1, own1, hJn, m1⟩
end Lg
end Go.Proofs.Ytpfhmodjjljpjaa

namespace Go.Proofs.Ytpfhmodjjljpjaa
open Go.RowKit
namespace Lg
set_option linter.unusedSimpArgs false
set_option linter.unusedVariables false
inductive Clo : St → St → Prop
  | refl {st : St} : Clo st st
  | step {α : Type} {enc : α → List Cell} {xs : List (List α)} {ys : List α} {i q e e2 sz2 j : Nat} {st st' : St} (hi : st.o.lookup i = some (.nest e e2 sz2 (xs.map (List.map enc)) (some (j, q)))) (hq : st.o.lookup q = some (.row e2 sz2 (ys.map enc)))
      (h : Clo ⟨st.s, (i, .nest e e2 sz2 ((xs.set j ys).map (List.map enc)) none) :: (q, .no) :: st.o⟩ st') : Clo st st'
  | nil {α : Type} {enc : α → List Cell} {i e e2 sz2 : Nat} {st st' : St} (hi : st.o.lookup i = some (.row e 1 [])) (hs : (0 < sz2) = True) (h : Clo ⟨st.s, (i, .nest e e2 sz2 (([] : List (List α)).map (List.map enc)) none) :: st.o⟩ st') : Clo st st'
theorem Rep.clo {N : Nat} {w0 : World} {M : Fp} {U : Nat → Prop} {st st' : St} {a : Act} {w : World} (c : Clo st st') (h : Rep N w0 M U st a w) : Rep N w0 M U st' a w := by
  induction c with
  | refl => exact h
  | @step α enc xs ys i q e e2 sz2 j st st' hi hq _ ih =>
    obtain ⟨ρ, own, fr, hr, hd⟩ := h
    obtain ⟨own', hr'⟩ := hr.close hi hq
    exact ih ⟨ρ, own', fr, hr', hd⟩
  | @nil α enc i e e2 sz2 st st' hi hs _ ih =>
    obtain ⟨ρ, own, fr, hr, hd⟩ := h
    have h1 := hr.retell hi (ob' := .nest e e2 sz2 (([] : List (List α)).map (List.map enc)) none) (fun h => by
      have := nest_of_nils (e := e) (e2 := e2) (m := 0) (of_eq_true hs) (by simpa using h)
      simpa using this) (fun _ => fun j b hb => by cases hb)
    exact ih ⟨ρ, own, fr, h1, hd⟩
section
variable {ro : Option Nat} {P : Program} {N n b b' id : Nat} {st : St} {ops : Array Oper} {K : Exit → Nat → St → Prop}
theorem W_clo {c : Code} {st' : St} (hc : Clo st st') (h : W ro P N n c b st' K) : W ro P N n c b st K := by
  intro w0 M Q a w hn hq hr
  obtain ⟨M', h1, h2, h3⟩ := hr.via
  exact h w0 M Q a w hn hq (h3 _ _ _ _ (h2.clo hc))
theorem W_seqC (hd : dstsOk ops N = true) (hb : b + 16 * ops.size = b') (r : RunK P N ops b 0 st (fun _ st' => ∃ st2, Clo st' st2 ∧ K .normal b' st2)) : W ro P N n (.region id ops false) b st K := by
  obtain ⟨tr, st', r, st2, hc, h⟩ := r
  intro w0 M Q a w hn hq hr
  subst hb
  obtain ⟨M', h1, h2, h3⟩ := hr.via
  exact region_seq hd r h2 (fun a' w' hr' => hq _ _ _ _ _ h (h3 _ _ _ _ (hr'.clo hc)))
theorem W_anyC (hm : P.follows .mixedOrders = true) (hd : dstsOk ops N = true) (hb : b + 16 * ops.size = b') (r : RunK P N ops b 0 st (fun tr st' => chk ops tr = true ∧ ∃ st2, Clo st' st2 ∧ K .normal b' st2)) : W ro P N n (.region id ops true) b st K := by
  obtain ⟨tr, st', r, hk, st2, hc, h⟩ := r
  intro w0 M Q a w hn hq hr
  subst hb
  obtain ⟨M', h1, h2, h3⟩ := hr.via
  exact region_any hm hd r hk h2 (fun a' w' hr' => hq _ _ _ _ _ h (h3 _ _ _ _ (hr'.clo hc)))
theorem W_nilR {o0 o1 : Oper} {d0 d1 i sz : Nat} {x0 : Operand} {t t' : TypeId} {v : Value} {rows : List (List Cell)} (hd : dstsOk #[o0, o1] N = true) (h0 : o0.op = .move x0) (h0d : o0.dst = some d0) (h0g : o0.guard = none) (hx0 : st.ev x0 = some (.r i)) (h1 : o1.op = .binOp .eql t (.tmp d0) (.const v) t') (hv : v = .slice none 0 0) (h1d : o1.dst = some d1) (h1g : o1.guard = none)
    (ht : (match P.underlying t with | some (.slice _) => true | _ => false) = true) (hob : (st.o.lookup i).bind Ob.rows? = some (sz, rows)) (hb : b + 32 = b') (h : ∀ c, (c = true → rows = []) → K .normal b' ⟨(d1, .v (.bool c)) :: (d0, .r i) :: st.s, st.o⟩) : W ro P N n (.region id #[o0, o1] false) b st K := by
  intro w0 M Q a w hn hq hr
  subst hb hv
  obtain ⟨M', e1, e2, e3⟩ := hr.via
  refine wpIn_region ?_
  show wpOpsIn _ _ _ _ _ [0, 1] _ _
  refine op_step0 (b := b) e2 (o := o0) rfl (.plain h0g) (T_move h0 hx0) (fun d hd' => dsts_ok hd (j := 0) rfl d hd') (fun a1 w1 r1 => ?_)
  obtain ⟨ρ, own, fr, hh, hdf⟩ := r1
  have hst : (⟨st.s, st.o⟩ : St) = st := rfl
  simp only [St.app, h0d, List.nil_append] at fr hh
  have hv0 := FR.eval (st := ⟨(d0, .r i) :: st.s, []⟩) (x := .tmp d0) (lv := .r i) fr (by simp [St.ev])
  obtain ⟨ob, ho1, ho2⟩ := Option.bind_eq_some_iff.1 hob
  obtain ⟨g1, g2, _⟩ := hh.ob i _ ho1
  obtain ⟨A, c, hA, _, hne⟩ := rows_base g1 ho2
  have hw : Region.wanted o1 (yielded #[o0, o1] a1.tmps) = true := by simp [Region.wanted, h1g]
  obtain ⟨cb, hcb, hcr⟩ : ∃ cb : Bool, (execOp a1.eval o1).run P w1 = .ok (.value (.bool cb)) w1 ∧ (cb = true → rows = []) := by
    have key : ∀ ev : Operand → Value, ev (.tmp d0) = .slice A rows.length c → ev (.const (.slice none 0 0)) = .slice none 0 0 → (execOp ev o1).run P w1 = .ok (.value (.bool A.isNone)) w1 := fun ev k1 k2 => by
      simp only [execOp, h1, k1, k2]
      cases hu : P.underlying t with
      | none => rw [hu] at ht; cases ht
      | some q =>
        rw [hu] at ht
        cases q with
        | slice e => simp [eqGuard, binOp, run_equal_slice_nil w1 t e A rows.length c hu]
        | _ => cases ht
    refine ⟨A.isNone, key _ (by rw [hv0.1]; exact hA) rfl, fun hn => ?_⟩
    cases hr0 : rows with
    | nil => rfl
    | cons r rs =>
      obtain ⟨a0, ha0⟩ := hne (by rw [hr0]; simp)
      rw [ha0] at hn; cases hn
  simp only [wpOpsIn, List.getElem?_toArray]
  show (if Region.wanted o1 (yielded #[o0, o1] a1.tmps) = true then _ else _)
  rw [if_pos hw]
  refine (OpDoes.wpIn (R := fun v w' => v = .bool cb ∧ w' = w1) (does_value hcb ⟨rfl, rfl⟩)) _ _ (fun v w' hv' => ?_)
  obtain ⟨rfl, rfl⟩ := hv'
  refine hq _ _ _ _ _ (h cb hcr) (e3 _ _ _ _ ?_)
  refine ⟨ρ, own, ?_, hh.mono (fun i hi => by omega), (put_defers _ _ _).trans hdf⟩
  rw [h1d]
  exact fr.put (fun _ _ => rfl) (fun i hi => by omega) (lv := .v (.bool cb)) trivial d1 (dsts_ok hd (j := 1) rfl d1 h1d)
end
end Lg
end Go.Proofs.Ytpfhmodjjljpjaa

namespace Go.Proofs.Ytpfhmodjjljpjaa
open Go.RowKit
namespace Lg
set_option linter.unusedSimpArgs false
set_option linter.unusedVariables false
def withinS (s t : List Bool) : Bool := (List.range s.length).all fun i => !(s.getD i default) || t.getD i default
theorem withinS_iff {s t : List Bool} : withinS s t = true ↔ ∀ i, i < s.length → s.getD i default = true → t.getD i default = true := by
  unfold withinS
  rw [List.all_eq_true]
  constructor
  · intro h i hi hs
    have := h i (List.mem_range.2 hi)
    rw [hs] at this
    simpa using this
  · intro h i hi
    have := h i (List.mem_range.1 hi)
    cases hs : s.getD i default
    · rfl
    · rw [this hs]; rfl
theorem withinS_no {s t : List Bool} {j : Nat} (hj : j < s.length) (h1 : s.getD j default = true) (h2 : t.getD j default = false) : false = withinS s t := by
  cases h : withinS s t
  · rfl
  · have := withinS_iff.1 h j hj h1
    rw [h2] at this; cases this
theorem withinS_yes {s t : List Bool} (h : ∀ i, i < s.length → s.getD i default = true → t.getD i default = true) : true = withinS s t := (withinS_iff.2 h).symm
def addJ (s t : List Bool) : Nat → List Bool × Bool
  | 0 => (s, false)
  | j + 1 => if t.getD j default = true ∧ (addJ s t j).1.getD j default = false then ((addJ s t j).1.set j true, true) else addJ s t j
theorem addJ_yes {s t : List Bool} {j : Nat} (h1 : t.getD j default = true) (h2 : (addJ s t j).1.getD j default = false) : addJ s t (j + 1) = ((addJ s t j).1.set j true, true) := by rw [addJ, if_pos ⟨h1, h2⟩]
theorem addJ_no1 {s t : List Bool} {j : Nat} (h1 : t.getD j default = false) : addJ s t (j + 1) = addJ s t j := by rw [addJ, if_neg (fun h => by rw [h1] at h; cases h.1)]
theorem addJ_no2 {s t : List Bool} {j : Nat} (h1 : (addJ s t j).1.getD j default = true) : addJ s t (j + 1) = addJ s t j := by rw [addJ, if_neg (fun h => by rw [h1] at h; cases h.2)]
theorem addJ_len (s t : List Bool) : ∀ j, (addJ s t j).1.length = s.length
  | 0 => rfl
  | j + 1 => by
    rw [addJ]
    split
    · simp [addJ_len s t j]
    · exact addJ_len s t j
def addS (s t : List Bool) : List Bool := (addJ s t t.length).1
def moreS (s t : List Bool) : Bool := (addJ s t t.length).2
theorem addS_len (s t : List Bool) : (addS s t).length = s.length := addJ_len s t _
theorem getD_set {s : List Bool} {j i : Nat} {v : Bool} (hj : j < s.length) : (s.set j v).getD i default = if i = j then v else s.getD i default := by
  simp only [List.getD, List.getElem?_set]
  by_cases h : j = i
  · subst h; simp [hj]
  · rw [if_neg h, if_neg (fun e => h e.symm)]
theorem addJ_get (s t : List Bool) (hl : t.length ≤ s.length) : ∀ (j : Nat), j ≤ t.length → ∀ i, (addJ s t j).1.getD i default = (s.getD i default || (decide (i < j) && t.getD i default))
  | 0, _, i => by simp [addJ]
  | j + 1, hj, i => by
    have ih := addJ_get s t hl j (by omega)
    have hlen := addJ_len s t j
    rw [addJ]
    split
    · rename_i h
      rw [getD_set (by omega)]
      by_cases e : i = j
      · subst e; rw [if_pos rfl, h.1]; simp
      · rw [if_neg e, ih i]
        have : decide (i < j + 1) = decide (i < j) := by by_cases h : i < j <;> simp [h] <;> omega
        rw [this]
    · rename_i h
      rw [ih i]
      by_cases e : i = j
      · subst e
        have h2 := ih i
        simp only [Nat.lt_irrefl, decide_false, Bool.false_and, Bool.or_false] at h2
        rw [h2] at h
        cases ht : t.getD i default <;> cases hs : s.getD i default <;> simp_all
      · have : decide (i < j + 1) = decide (i < j) := by by_cases h : i < j <;> simp [h] <;> omega
        rw [this]
theorem addS_get {s t : List Bool} (hl : t.length ≤ s.length) (i : Nat) : (addS s t).getD i default = (s.getD i default || t.getD i default) := by
  rw [addS, addJ_get s t hl _ (Nat.le_refl _)]
  by_cases h : i < t.length
  · simp [h]
  · have : t.getD i default = false := by rw [List.getD, List.getElem?_eq_none (by omega)]; rfl
    rw [this]; simp
def aheadT (t : GTac) (s : List Bool) : List Bool := (usesT t).foldl (fun s u => s.set u.toNat true) (if 0 ≤ setsT t then s.set (setsT t).toNat false else s)
def aheadJ (t : GTac) (s : List Bool) (j : Nat) : List Bool := ((usesT t).take j).foldl (fun s u => s.set u.toNat true) (if 0 ≤ setsT t then s.set (setsT t).toNat false else s)
theorem aheadJ_t {t : GTac} {s : List Bool} (h : setsT t ≥ 0) : aheadJ t s 0 = s.set (setsT t).toNat false := by simp [aheadJ, show 0 ≤ setsT t from h]
theorem aheadJ_f {t : GTac} {s : List Bool} (h : ¬ setsT t ≥ 0) : aheadJ t s 0 = s := by simp [aheadJ, show ¬ 0 ≤ setsT t from h]
theorem aheadJ_succ {t : GTac} {s : List Bool} {j : Nat} (h : j < (usesT t).length) : aheadJ t s (j + 1) = (aheadJ t s j).set ((usesT t).getD j default).toNat true := by
  unfold aheadJ
  rw [List.take_add_one, List.getElem?_eq_getElem h, List.foldl_append]
  simp [List.getD, List.getElem?_eq_getElem h]
theorem aheadJ_all {t : GTac} {s : List Bool} {j : Nat} (h : (usesT t).length ≤ j) : aheadJ t s j = aheadT t s := by unfold aheadJ aheadT; rw [List.take_of_length_le h]
theorem setAll_len : ∀ (l : List Int) (s : List Bool), (l.foldl (fun s (u : Int) => s.set u.toNat true) s).length = s.length
  | [], _ => rfl
  | u :: l, s => by rw [List.foldl_cons, setAll_len l]; simp
theorem aheadJ_len (t : GTac) (s : List Bool) (j : Nat) : (aheadJ t s j).length = s.length := by
  unfold aheadJ
  rw [setAll_len]
  split <;> simp
theorem aheadT_len (t : GTac) (s : List Bool) : (aheadT t s).length = s.length := by rw [← aheadJ_all (Nat.le_refl _)]; exact aheadJ_len t s _
def endS (b : GBlock) (out : List Bool) : List Bool := if b.fin = 2 then out.set b.v.toNat true else out
theorem endS_len (b : GBlock) (out : List Bool) : (endS b out).length = out.length := by unfold endS; split <;> simp
theorem endS_t {b : GBlock} {out : List Bool} (h : b.fin = 2) : endS b out = out.set b.v.toNat true := if_pos h
theorem endS_f {b : GBlock} {out : List Bool} (h : ¬ b.fin = 2) : endS b out = out := if_neg h
def thrK (b : GBlock) (out : List Bool) (k : Nat) : List Bool := (b.ins.drop k).foldr aheadT (endS b out)
def thrS (b : GBlock) (out : List Bool) : List Bool := thrK b out 0
theorem thrK_len (b : GBlock) (out : List Bool) (k : Nat) : (thrK b out k).length = out.length := by
  unfold thrK
  generalize b.ins.drop k = l
  induction l with
  | nil => exact endS_len b out
  | cons t l ih => rw [List.foldr_cons, aheadT_len, ih]
theorem thrS_len (b : GBlock) (out : List Bool) : (thrS b out).length = out.length := thrK_len b out 0
theorem thrK_end (b : GBlock) (out : List Bool) {k : Nat} (h : b.ins.length ≤ k) : thrK b out k = endS b out := by unfold thrK; rw [List.drop_of_length_le h]; rfl
theorem thrK_step (b : GBlock) (out : List Bool) {k : Nat} (h : k < b.ins.length) : thrK b out k = aheadT (b.ins.getD k default) (thrK b out (k + 1)) := by
  unfold thrK
  rw [List.drop_eq_getElem_cons h, List.foldr_cons, List.getD, List.getElem?_eq_getElem h]
  rfl
def behL (b : GBlock) (out : List Bool) : List (List Bool) := (List.range b.ins.length).map fun i => thrK b out (i + 1)
theorem thrK_prev (b : GBlock) (out : List Bool) {k : Nat} (h0 : 0 < k) (hk : k ≤ b.ins.length) : thrK b out (k - 1) = aheadT (b.ins.getD ((k : Int) - 1).toNat default) (thrK b out k) := by
  rw [thrK_step b out (k := k - 1) (by omega), show k - 1 + 1 = k by omega, show ((k : Int) - 1).toNat = k - 1 by omega]
theorem behL_len (b : GBlock) (out : List Bool) : (behL b out).length = b.ins.length := by simp [behL]
theorem behL_getD (b : GBlock) (out : List Bool) {k : Nat} (h : k < b.ins.length) : (behL b out).getD k default = thrK b out (k + 1) := by
  simp [behL, List.getD, h]
theorem fill_back {α : Type} [Inhabited α] (L : List α) (d z : α) {k : Nat} (h : k < L.length) (hz : z = L.getD k default) : (List.replicate (k + 1) d ++ L.drop (k + 1)).set k z = List.replicate k d ++ L.drop k := by
  subst hz
  rw [List.set_append, if_pos (by simp), List.drop_eq_getElem_cons h, List.replicate_succ']
  rw [List.set_append, if_neg (by simp)]
  simp [List.getD, h]
def TOk (n : Nat) (t : GTac) : Prop := (0 ≤ setsT t → setsT t < (n : Int)) ∧ ∀ u ∈ usesT t, 0 ≤ u ∧ u < (n : Int)
def BOk (n : Nat) (b : GBlock) : Prop := (∀ t ∈ b.ins, TOk n t) ∧ (b.fin = 2 → 0 ≤ b.v ∧ b.v < (n : Int))
structure LF (f : GFn) : Prop where
  len : f.blocks.length ≤ 1000
  regs : 0 ≤ f.regs ∧ f.regs ≤ 4000
  ins : ∀ b ∈ f.blocks, b.ins.length ≤ 1000
  ok : ∀ b ∈ f.blocks, BOk f.regs.toNat b
  nx : ∀ b ∈ f.blocks, ∀ x ∈ follows b, 0 ≤ x ∧ x < (f.blocks.length : Int)
def wrongLen (m : Int) (s : List Bool) : Bool := decide ((s.length : Int) ≠ m)
def sizedB (l : List (List Bool)) (n m : Int) : Bool := decide ((l.length : Int) = n) && !(l.any (wrongLen m))
theorem sizedB_iff {l : List (List Bool)} {n m : Int} : sizedB l n m = true ↔ (l.length : Int) = n ∧ ∀ s ∈ l, (s.length : Int) = m := by
  unfold sizedB wrongLen
  simp only [Bool.and_eq_true, decide_eq_true_eq, Bool.not_eq_true', List.any_eq_false, Decidable.not_not]
theorem sizedB_no1 {l : List (List Bool)} {n m : Int} (h : ¬ (l.length : Int) = n) : false = sizedB l n m := by
  cases h1 : sizedB l n m
  · rfl
  · exact absurd (sizedB_iff.1 h1).1 h
theorem sizedB_no2 {l : List (List Bool)} {n m : Int} {j : Nat} (hj : j < l.length) (h : ¬ ((l.getD j default).length : Int) = m) : false = sizedB l n m := by
  cases h1 : sizedB l n m
  · rfl
  · exact absurd ((sizedB_iff.1 h1).2 _ (getD_mem hj)) h
theorem sizedB_yes {l : List (List Bool)} {n m : Int} (h : (l.length : Int) = n) (h2 : ∀ i, i < l.length → ((l.getD i default).length : Int) = m) : true = sizedB l n m :=
  (sizedB_iff.2 ⟨h, fun s hs => by obtain ⟨i, hi, rfl⟩ := mem_getD hs; exact h2 i hi⟩).symm
def sizedL (f : GFn) (li lo : List (List Bool)) : Bool := sizedB li f.blocks.length f.regs && sizedB lo f.blocks.length f.regs
theorem sizedL_iff {f : GFn} {li lo : List (List Bool)} : sizedL f li lo = true ↔ sizedB li f.blocks.length f.regs = true ∧ sizedB lo f.blocks.length f.regs = true := by
  unfold sizedL; rw [Bool.and_eq_true]
structure SzL (f : GFn) (l : List (List Bool)) : Prop where
  len : l.length = f.blocks.length
  each : ∀ s ∈ l, s.length = f.regs.toNat
theorem szL_of {f : GFn} {l : List (List Bool)} (h : sizedB l f.blocks.length f.regs = true) : SzL f l := by
  obtain ⟨h1, h2⟩ := sizedB_iff.1 h
  exact ⟨by omega, fun s hs => by have := h2 s hs; omega⟩
theorem SzL.sized {f : GFn} {l : List (List Bool)} (h : SzL f l) (hr : 0 ≤ f.regs) : sizedB l f.blocks.length f.regs = true :=
  sizedB_iff.2 ⟨by rw [h.len], fun s hs => by rw [h.each s hs]; omega⟩
theorem SzL.at {f : GFn} {l : List (List Bool)} (h : SzL f l) {k : Nat} (hk : k < f.blocks.length) : (l.getD k default).length = f.regs.toNat := h.each _ (getD_mem (by rw [h.len]; exact hk))
theorem LF.follow {f : GFn} (h : LF f) {j m : Nat} (hj : j < f.blocks.length) (hm : m < ((nextL f).getD j default).length) : 0 ≤ ((nextL f).getD j default).getD m default ∧ ((nextL f).getD j default).getD m default < (f.blocks.length : Int) := by
  have := h.nx _ (getD_mem hj) (((nextL f).getD j default).getD m default) (by rw [← nextL_getD]; exact getD_mem hm)
  exact this
def okB (f : GFn) (li lo : List (List Bool)) (b : Nat) : Bool := ((nextL f).getD b default).all (fun k => withinS (li.getD k.toNat default) (lo.getD b default)) && withinS (thrS (f.blocks.getD b default) (lo.getD b default)) (li.getD b default)
def checkL (f : GFn) (li lo : List (List Bool)) : Bool := sizedL f li lo && (List.range f.blocks.length).all (okB f li lo)
theorem okB_iff {f : GFn} {li lo : List (List Bool)} {b : Nat} : okB f li lo b = true ↔ (∀ m, m < ((nextL f).getD b default).length → withinS (li.getD (((nextL f).getD b default).getD m default).toNat default) (lo.getD b default) = true) ∧ withinS (thrS (f.blocks.getD b default) (lo.getD b default)) (li.getD b default) = true := by
  unfold okB
  rw [Bool.and_eq_true, List.all_eq_true]
  constructor
  · exact fun h => ⟨fun m hm => h.1 _ (getD_mem hm), h.2⟩
  · exact fun h => ⟨fun k hk => by obtain ⟨m, hm, rfl⟩ := mem_getD hk; exact h.1 m hm, h.2⟩
theorem checkL_iff {f : GFn} {li lo : List (List Bool)} : checkL f li lo = true ↔ sizedL f li lo = true ∧ ∀ b, b < f.blocks.length → okB f li lo b = true := by
  unfold checkL
  rw [Bool.and_eq_true, List.all_eq_true]
  exact ⟨fun h => ⟨h.1, fun b hb => h.2 b (List.mem_range.2 hb)⟩, fun h => ⟨h.1, fun b hb => h.2 b (List.mem_range.1 hb)⟩⟩
theorem checkL_no1 {f : GFn} {li lo : List (List Bool)} (h : sizedL f li lo = false) : false = checkL f li lo := by unfold checkL; rw [h]; rfl
theorem checkL_no {f : GFn} {li lo : List (List Bool)} {j : Nat} (hj : j < f.blocks.length) (h : okB f li lo j = false) : false = checkL f li lo := by
  cases h1 : checkL f li lo
  · rfl
  · have := (checkL_iff.1 h1).2 j hj
    rw [h] at this; cases this
theorem okB_no1 {f : GFn} {li lo : List (List Bool)} {j m : Nat} (hm : m < ((nextL f).getD j default).length) (h : withinS (li.getD (((nextL f).getD j default).getD m default).toNat default) (lo.getD j default) = false) : okB f li lo j = false := by
  cases h1 : okB f li lo j
  · rfl
  · have := (okB_iff.1 h1).1 m hm
    rw [h] at this; cases this
theorem okB_no2 {f : GFn} {li lo : List (List Bool)} {j : Nat} (h : withinS (thrS (f.blocks.getD j default) (lo.getD j default)) (li.getD j default) = false) : okB f li lo j = false := by
  cases h1 : okB f li lo j
  · rfl
  · have := (okB_iff.1 h1).2
    rw [h] at this; cases this
theorem checkL_yes {f : GFn} {li lo : List (List Bool)} (h : sizedL f li lo = true) (h2 : ∀ b, b < f.blocks.length → okB f li lo b = true) : true = checkL f li lo := (checkL_iff.2 ⟨h, h2⟩).symm
theorem sizedL_f1 {f : GFn} {li lo : List (List Bool)} (h : sizedB li f.blocks.length f.regs = false) : sizedL f li lo = false := by unfold sizedL; rw [h]; rfl
theorem sizedL_f2 {f : GFn} {li lo : List (List Bool)} (h : sizedB lo f.blocks.length f.regs = false) : sizedL f li lo = false := by unfold sizedL; rw [h, Bool.and_false]
theorem within_eq {a b : List Bool} (hl : a.length = b.length) (h1 : withinS a b = true) (h2 : withinS b a = true) : a = b := by
  refine List.ext_getElem hl (fun i hi hi2 => ?_)
  have e1 : a.getD i default = a[i] := by simp [List.getD, hi]
  have e2 : b.getD i default = b[i] := by simp [List.getD, hi2]
  have k1 := withinS_iff.1 h1 i hi
  have k2 := withinS_iff.1 h2 i hi2
  rw [e1, e2] at k1 k2
  cases ha : a[i] <;> cases hb : b[i] <;> simp_all
theorem within_self (a : List Bool) : withinS a a = true := withinS_iff.2 fun _ _ h => h
theorem within_ne {a b : List Bool} (h : withinS a b = false) : a ≠ b := fun e => by subst e; rw [within_self] at h; cases h
theorem within_ne' {a b : List Bool} (h : withinS b a = false) : a ≠ b := fun e => by subst e; rw [within_self] at h; cases h
theorem bne_f {x y : Bool} (h : (x != y) = false) : x = y := by cases x <;> cases y <;> first | rfl | cases h
theorem bne_t {x y : Bool} (h : (x != y) = true) : x ≠ y := by cases x <;> cases y <;> first | (intro h; cases h; done) | cases h
end Lg
end Go.Proofs.Ytpfhmodjjljpjaa

namespace Go.Proofs.Ytpfhmodjjljpjaa
open Go.RowKit
namespace Lg
set_option maxRecDepth 100000
set_option linter.unusedVariables false
set_option linter.unusedSimpArgs false
theorem body125 : (Try.prog.funcs[125]?).map (fun fn => (fn.name == "runtime.NumGoroutine" || fn.body.isNone)) = some false := by kernel_rfl
theorem within_spec (i n : Int) : Spec Try.prog 125 [.v (.int .i64 i), .v (.int .i64 n)] 1 [] (.v (.bool (withinB i n))) 1 [] := by
 refine spec_of D (fn := Try.f125) rfl rfl (Nat.le_of_ble_eq_true rfl) ?_
 refine W_seq ?_
 refine W_seqK (b' := 17) rfl rfl ?_
 refine q0 4 1 1 rfl rfl (T_assign rfl rfl) rfl ?_
 refine k_done rfl ?_
 refine thenK_n ?_
 refine W_seq ?_
 refine W_seqK (b' := 145) rfl rfl ?_
 refine q0 5 17 1 rfl rfl (T_move rfl rfl) rfl ?_
 refine q0 6 33 2 rfl rfl (T_cmp rfl rfl rfl rfl) rfl ?_
 refine q0 7 49 3 rfl rfl (T_move rfl rfl) rfl ?_
 refine k_split (d := 7) rfl (fun g1 => ?_) (fun g1 => ?_)
 ·have h1 := c_geq_t g1
  refine k_op0 (d := 8) (b := 65) (j' := 4) rfl rfl rfl rfl (g_tt rfl rfl rfl g1) (T_move rfl rfl) rfl ?_
  refine k_op0 (d := 9) (b := 81) (j' := 5) rfl rfl rfl rfl (g_tt rfl rfl rfl g1) (T_move rfl rfl) rfl ?_
  refine k_op0 (d := 10) (b := 97) (j' := 6) rfl rfl rfl rfl (g_tt rfl rfl rfl g1) (T_cmp rfl rfl rfl rfl) rfl ?_
  refine q0 11 113 7 rfl rfl (T_pick_t rfl rfl rfl g1) rfl ?_
  refine q0 4 129 8 rfl rfl (T_assign rfl rfl) rfl ?_
  refine k_done rfl ?_
  refine thenK_n ?_
  refine W_ret ?_
  exact .mk [] (.inr rfl) (.tmp rfl (.nil)) (by (simp only [resLV, LV.ren, LV.v.injEq, Value.bool.injEq]; unfold withinB; rw [decide_eq_true (by omega)]; rfl)) (.nil) rfl
 ·have h1 := c_geq_f g1
  refine k_no (d := 8) (j' := 4) rfl rfl rfl (g_tf rfl rfl rfl g1) ?_
  refine k_no (d := 9) (j' := 5) rfl rfl rfl (g_tf rfl rfl rfl g1) ?_
  refine k_no (d := 10) (j' := 6) rfl rfl rfl (g_tf rfl rfl rfl g1) ?_
  refine q0 11 113 7 rfl rfl (T_pick_f rfl rfl rfl g1) rfl ?_
  refine q0 4 129 8 rfl rfl (T_assign rfl rfl) rfl ?_
  refine k_done rfl ?_
  refine thenK_n ?_
  refine W_ret ?_
  exact .mk [] (.inr rfl) (.tmp rfl (.nil)) (by (simp only [resLV, LV.ren, LV.v.injEq, Value.bool.injEq]; unfold withinB; rw [decide_eq_false (p := 0 ≤ i) (by omega)]; rfl)) (.nil) rfl
theorem body86 : (Try.prog.funcs[86]?).map (fun fn => (fn.name == "runtime.NumGoroutine" || fn.body.isNone)) = some false := by kernel_rfl
theorem sets_spec (t : GTac) : Spec Try.prog 86 [.agg [.v (.int .i64 t.op), .v (.int .i64 t.d), .v (.int .i64 t.a), .v (.int .i64 t.b), .v (.int .i64 t.k), .v (.int .i64 t.base), .v (.int .i64 t.size), .v (.int .u32 t.n)]] 1 [] (.v (.int .i64 (setsT t))) 1 [] := by
 refine spec_of D (fn := Try.f86) rfl rfl (Nat.le_of_ble_eq_true rfl) ?_
 refine W_seq ?_
 refine W_seqK (b' := 33) rfl rfl ?_
 refine q1 1 1 1 rfl rfl (T_box rfl rfl flat_agg) rfl ?_
 refine q0 2 17 2 rfl rfl (T_assign rfl rfl) rfl ?_
 refine k_done rfl ?_
 refine thenK_n ?_
 refine W_seq ?_
 refine W_seq ?_
 refine W_seqK (b' := 65) rfl rfl ?_
 refine q0 3 33 1 rfl rfl (T_fa D (m := 0) rfl rfl rfl rfl rfl rfl) rfl ?_
 refine q0 4 49 2 rfl rfl (T_load_b D rfl rfl rfl rfl rfl rfl) rfl ?_
 refine k_done rfl ?_
 refine thenK_n ?_
 refine W_block ?_
 refine W_seq ?_
 refine W_seq ?_
 refine W_seqK (b' := 97) rfl rfl ?_
 refine q0 6 65 1 rfl rfl (T_cmp rfl rfl rfl rfl) rfl ?_
 refine q0 5 81 2 rfl rfl (T_assign rfl rfl) rfl ?_
 refine k_done rfl ?_
 refine thenK_n ?_
 refine W_cond rfl (fun g1 => ?_) (fun g1 => ?_)
 ·have h1 := c_eql_t g1
  refine W_skip ?_
  refine thenK_n ?_
  refine W_cond rfl (fun g2 => ?_) (fun g2 => ?_)
  ·skip
   refine W_seq ?_
   refine W_seqK (b' := 145) rfl rfl ?_
   refine q0 12 97 1 rfl rfl (T_fa D (m := 1) rfl rfl rfl rfl rfl rfl) rfl ?_
   refine q0 13 113 2 rfl rfl (T_load_b D rfl rfl rfl rfl rfl rfl) rfl ?_
   refine q0 2 129 3 rfl rfl (T_assign rfl rfl) rfl ?_
   refine k_done rfl ?_
   refine thenK_n ?_
   refine W_ret ?_
   refine blockK_r ?_
   refine thenK_r ?_
   exact .mk [] (.inr rfl) (.tmp rfl (.nil)) (by (simp only [resLV, LV.ren, LV.v.injEq, Value.int.injEq, true_and]; unfold setsT; rw [setsOp_t (by omega)]; rfl)) (.nil) rfl
  ·exact absurd (g2.symm.trans g1) (by decide)
 ·have h1 := c_eql_f g1
  refine W_seq ?_
  refine W_seqK (b' := 129) rfl rfl ?_
  refine q0 7 97 1 rfl rfl (T_cmp rfl rfl rfl rfl) rfl ?_
  refine q0 5 113 2 rfl rfl (T_assign rfl rfl) rfl ?_
  refine k_done rfl ?_
  refine thenK_n ?_
  refine W_cond rfl (fun g3 => ?_) (fun g3 => ?_)
  ·have h3 := c_eql_t g3
   refine W_skip ?_
   refine thenK_n ?_
   refine W_cond rfl (fun g4 => ?_) (fun g4 => ?_)
   ·skip
    refine W_seq ?_
    refine W_seqK (b' := 177) rfl rfl ?_
    refine q0 12 129 1 rfl rfl (T_fa D (m := 1) rfl rfl rfl rfl rfl rfl) rfl ?_
    refine q0 13 145 2 rfl rfl (T_load_b D rfl rfl rfl rfl rfl rfl) rfl ?_
    refine q0 2 161 3 rfl rfl (T_assign rfl rfl) rfl ?_
    refine k_done rfl ?_
    refine thenK_n ?_
    refine W_ret ?_
    refine blockK_r ?_
    refine thenK_r ?_
    exact .mk [] (.inr rfl) (.tmp rfl (.nil)) (by (simp only [resLV, LV.ren, LV.v.injEq, Value.int.injEq, true_and]; unfold setsT; rw [setsOp_t (by omega)]; rfl)) (.nil) rfl
   ·exact absurd (g4.symm.trans g3) (by decide)
  ·have h3 := c_eql_f g3
   refine W_seq ?_
   refine W_seqK (b' := 161) rfl rfl ?_
   refine q0 8 129 1 rfl rfl (T_cmp rfl rfl rfl rfl) rfl ?_
   refine q0 5 145 2 rfl rfl (T_assign rfl rfl) rfl ?_
   refine k_done rfl ?_
   refine thenK_n ?_
   refine W_cond rfl (fun g5 => ?_) (fun g5 => ?_)
   ·have h5 := c_eql_t g5
    refine W_skip ?_
    refine thenK_n ?_
    refine W_cond rfl (fun g6 => ?_) (fun g6 => ?_)
    ·skip
     refine W_seq ?_
     refine W_seqK (b' := 209) rfl rfl ?_
     refine q0 12 161 1 rfl rfl (T_fa D (m := 1) rfl rfl rfl rfl rfl rfl) rfl ?_
     refine q0 13 177 2 rfl rfl (T_load_b D rfl rfl rfl rfl rfl rfl) rfl ?_
     refine q0 2 193 3 rfl rfl (T_assign rfl rfl) rfl ?_
     refine k_done rfl ?_
     refine thenK_n ?_
     refine W_ret ?_
     refine blockK_r ?_
     refine thenK_r ?_
     exact .mk [] (.inr rfl) (.tmp rfl (.nil)) (by (simp only [resLV, LV.ren, LV.v.injEq, Value.int.injEq, true_and]; unfold setsT; rw [setsOp_t (by omega)]; rfl)) (.nil) rfl
    ·exact absurd (g6.symm.trans g5) (by decide)
   ·have h5 := c_eql_f g5
    refine W_seq ?_
    refine W_seqK (b' := 193) rfl rfl ?_
    refine q0 9 161 1 rfl rfl (T_cmp rfl rfl rfl rfl) rfl ?_
    refine q0 5 177 2 rfl rfl (T_assign rfl rfl) rfl ?_
    refine k_done rfl ?_
    refine thenK_n ?_
    refine W_cond rfl (fun g7 => ?_) (fun g7 => ?_)
    ·have h7 := c_eql_t g7
     refine W_skip ?_
     refine thenK_n ?_
     refine W_cond rfl (fun g8 => ?_) (fun g8 => ?_)
     ·skip
      refine W_seq ?_
      refine W_seqK (b' := 241) rfl rfl ?_
      refine q0 12 193 1 rfl rfl (T_fa D (m := 1) rfl rfl rfl rfl rfl rfl) rfl ?_
      refine q0 13 209 2 rfl rfl (T_load_b D rfl rfl rfl rfl rfl rfl) rfl ?_
      refine q0 2 225 3 rfl rfl (T_assign rfl rfl) rfl ?_
      refine k_done rfl ?_
      refine thenK_n ?_
      refine W_ret ?_
      refine blockK_r ?_
      refine thenK_r ?_
      exact .mk [] (.inr rfl) (.tmp rfl (.nil)) (by (simp only [resLV, LV.ren, LV.v.injEq, Value.int.injEq, true_and]; unfold setsT; rw [setsOp_t (by omega)]; rfl)) (.nil) rfl
     ·exact absurd (g8.symm.trans g7) (by decide)
    ·have h7 := c_eql_f g7
     refine W_seq ?_
     refine W_seqK (b' := 225) rfl rfl ?_
     refine q0 10 193 1 rfl rfl (T_cmp rfl rfl rfl rfl) rfl ?_
     refine q0 5 209 2 rfl rfl (T_assign rfl rfl) rfl ?_
     refine k_done rfl ?_
     refine thenK_n ?_
     refine W_cond rfl (fun g9 => ?_) (fun g9 => ?_)
     ·have h9 := c_eql_t g9
      refine W_skip ?_
      refine thenK_n ?_
      refine W_cond rfl (fun g10 => ?_) (fun g10 => ?_)
      ·skip
       refine W_seq ?_
       refine W_seqK (b' := 273) rfl rfl ?_
       refine q0 12 225 1 rfl rfl (T_fa D (m := 1) rfl rfl rfl rfl rfl rfl) rfl ?_
       refine q0 13 241 2 rfl rfl (T_load_b D rfl rfl rfl rfl rfl rfl) rfl ?_
       refine q0 2 257 3 rfl rfl (T_assign rfl rfl) rfl ?_
       refine k_done rfl ?_
       refine thenK_n ?_
       refine W_ret ?_
       refine blockK_r ?_
       refine thenK_r ?_
       exact .mk [] (.inr rfl) (.tmp rfl (.nil)) (by (simp only [resLV, LV.ren, LV.v.injEq, Value.int.injEq, true_and]; unfold setsT; rw [setsOp_t (by omega)]; rfl)) (.nil) rfl
      ·exact absurd (g10.symm.trans g9) (by decide)
     ·have h9 := c_eql_f g9
      refine W_seqK (b' := 257) rfl rfl ?_
      refine q0 11 225 1 rfl rfl (T_cmp rfl rfl rfl rfl) rfl ?_
      refine q0 5 241 2 rfl rfl (T_assign rfl rfl) rfl ?_
      refine k_done rfl ?_
      refine thenK_n ?_
      refine W_cond rfl (fun g11 => ?_) (fun g11 => ?_)
      ·have h11 := c_eql_t g11
       refine W_seq ?_
       refine W_seqK (b' := 305) rfl rfl ?_
       refine q0 12 257 1 rfl rfl (T_fa D (m := 1) rfl rfl rfl rfl rfl rfl) rfl ?_
       refine q0 13 273 2 rfl rfl (T_load_b D rfl rfl rfl rfl rfl rfl) rfl ?_
       refine q0 2 289 3 rfl rfl (T_assign rfl rfl) rfl ?_
       refine k_done rfl ?_
       refine thenK_n ?_
       refine W_ret ?_
       refine blockK_r ?_
       refine thenK_r ?_
       exact .mk [] (.inr rfl) (.tmp rfl (.nil)) (by (simp only [resLV, LV.ren, LV.v.injEq, Value.int.injEq, true_and]; unfold setsT; rw [setsOp_t (by omega)]; rfl)) (.nil) rfl
      ·have h11 := c_eql_f g11
       refine W_skip ?_
       refine blockK_n ?_
       refine thenK_n ?_
       refine W_seq ?_
       refine W_seqK (b' := 273) rfl rfl ?_
       refine q0 2 257 1 rfl rfl (T_assign rfl rfl) rfl ?_
       refine k_done rfl ?_
       refine thenK_n ?_
       refine W_ret ?_
       exact .mk [] (.inr rfl) (.tmp rfl (.nil)) (by (simp only [resLV, LV.ren, LV.v.injEq, Value.int.injEq, true_and]; unfold setsT; rw [setsOp_f (by omega)]; rfl)) (.nil) rfl
theorem body60 : (Try.prog.funcs[60]?).map (fun fn => (fn.name == "runtime.NumGoroutine" || fn.body.isNone)) = some false := by kernel_rfl
theorem uses_spec (t : GTac) : Spec Try.prog 60 [.agg [.v (.int .i64 t.op), .v (.int .i64 t.d), .v (.int .i64 t.a), .v (.int .i64 t.b), .v (.int .i64 t.k), .v (.int .i64 t.base), .v (.int .i64 t.size), .v (.int .u32 t.n)]] 1 [] (.r 1) 2 [(1, .row 3 1 ((usesT t).map eI))] := by
 refine spec_of D (fn := Try.f60) rfl rfl (Nat.le_of_ble_eq_true rfl) ?_
 refine W_seq ?_
 refine W_seqK (b' := 33) rfl rfl ?_
 refine q1 1 1 1 rfl rfl (T_box rfl rfl flat_agg) rfl ?_
 refine q1 2 17 2 rfl rfl (T_nils [(3, 1)] (T_assign rfl rfl) rfl (.inr ⟨rfl, rfl⟩) (.cons (.nil rfl) .nil) (lv' := .r 17) (upd' := [(17, .row 3 1 (List.map eI ([] : List (Int))))]) (nn' := 1) rfl rfl) rfl ?_
 refine k_done rfl ?_
 refine thenK_n ?_
 refine W_seq ?_
 refine W_seq ?_
 refine W_seqK (b' := 65) rfl rfl ?_
 refine q0 3 33 1 rfl rfl (T_fa D (m := 0) rfl rfl rfl rfl rfl rfl) rfl ?_
 refine q0 4 49 2 rfl rfl (T_load_b D rfl rfl rfl rfl rfl rfl) rfl ?_
 refine k_done rfl ?_
 refine thenK_n ?_
 refine W_block ?_
 refine W_seq ?_
 refine W_seq ?_
 refine W_seqK (b' := 97) rfl rfl ?_
 refine q0 6 65 1 rfl rfl (T_cmp rfl rfl rfl rfl) rfl ?_
 refine q0 5 81 2 rfl rfl (T_assign rfl rfl) rfl ?_
 refine k_done rfl ?_
 refine thenK_n ?_
 refine W_cond rfl (fun g1 => ?_) (fun g1 => ?_)
 ·have h1 := c_eql_t g1
  refine W_skip ?_
  refine thenK_n ?_
  refine W_cond rfl (fun g2 => ?_) (fun g2 => ?_)
  ·skip
   refine W_seq ?_
   refine W_seqK (b' := 161) rfl rfl ?_
   refine q0 10 97 1 rfl rfl (T_fa D (m := 2) rfl rfl rfl rfl rfl rfl) rfl ?_
   refine q0 11 113 2 rfl rfl (T_load_b D rfl rfl rfl rfl rfl rfl) rfl ?_
   refine q1 12 129 3 rfl rfl (T_bs D (ys := [_]) (enc := eI) (l := [_]) rfl rfl rfl rfl rfl rfl (.cons rfl (flat_v rfl) (.nil)) rfl rfl rfl rfl (.v rfl (.nil)) rfl rfl) rfl ?_
   refine q0 2 145 4 rfl rfl (T_assign rfl rfl) rfl ?_
   refine k_done rfl ?_
   refine thenK_n ?_
   refine W_ret ?_
   refine blockK_r ?_
   refine thenK_r ?_
   exact .mk [(1, 129)] (.inr rfl) (.tmp rfl (.nil)) rfl (.rowE rfl (.nil) (by (unfold usesT; rw [if_pos (by omega)]; done))) rfl
  ·exact absurd (g2.symm.trans g1) (by decide)
 ·have h1 := c_eql_f g1
  refine W_seq ?_
  refine W_seqK (b' := 129) rfl rfl ?_
  refine q0 7 97 1 rfl rfl (T_cmp rfl rfl rfl rfl) rfl ?_
  refine q0 5 113 2 rfl rfl (T_assign rfl rfl) rfl ?_
  refine k_done rfl ?_
  refine thenK_n ?_
  refine W_cond rfl (fun g3 => ?_) (fun g3 => ?_)
  ·have h3 := c_eql_t g3
   refine W_skip ?_
   refine thenK_n ?_
   refine W_cond rfl (fun g4 => ?_) (fun g4 => ?_)
   ·skip
    refine W_seq ?_
    refine W_seqK (b' := 193) rfl rfl ?_
    refine q0 10 129 1 rfl rfl (T_fa D (m := 2) rfl rfl rfl rfl rfl rfl) rfl ?_
    refine q0 11 145 2 rfl rfl (T_load_b D rfl rfl rfl rfl rfl rfl) rfl ?_
    refine q1 12 161 3 rfl rfl (T_bs D (ys := [_]) (enc := eI) (l := [_]) rfl rfl rfl rfl rfl rfl (.cons rfl (flat_v rfl) (.nil)) rfl rfl rfl rfl (.v rfl (.nil)) rfl rfl) rfl ?_
    refine q0 2 177 4 rfl rfl (T_assign rfl rfl) rfl ?_
    refine k_done rfl ?_
    refine thenK_n ?_
    refine W_ret ?_
    refine blockK_r ?_
    refine thenK_r ?_
    exact .mk [(1, 161)] (.inr rfl) (.tmp rfl (.nil)) rfl (.rowE rfl (.nil) (by (unfold usesT; rw [if_pos (by omega)]; done))) rfl
   ·exact absurd (g4.symm.trans g3) (by decide)
  ·have h3 := c_eql_f g3
   refine W_seq ?_
   refine W_seqK (b' := 161) rfl rfl ?_
   refine q0 8 129 1 rfl rfl (T_cmp rfl rfl rfl rfl) rfl ?_
   refine q0 5 145 2 rfl rfl (T_assign rfl rfl) rfl ?_
   refine k_done rfl ?_
   refine thenK_n ?_
   refine W_cond rfl (fun g5 => ?_) (fun g5 => ?_)
   ·have h5 := c_eql_t g5
    refine W_skip ?_
    refine thenK_n ?_
    refine W_cond rfl (fun g6 => ?_) (fun g6 => ?_)
    ·skip
     refine W_seq ?_
     refine W_seqK (b' := 225) rfl rfl ?_
     refine q0 10 161 1 rfl rfl (T_fa D (m := 2) rfl rfl rfl rfl rfl rfl) rfl ?_
     refine q0 11 177 2 rfl rfl (T_load_b D rfl rfl rfl rfl rfl rfl) rfl ?_
     refine q1 12 193 3 rfl rfl (T_bs D (ys := [_]) (enc := eI) (l := [_]) rfl rfl rfl rfl rfl rfl (.cons rfl (flat_v rfl) (.nil)) rfl rfl rfl rfl (.v rfl (.nil)) rfl rfl) rfl ?_
     refine q0 2 209 4 rfl rfl (T_assign rfl rfl) rfl ?_
     refine k_done rfl ?_
     refine thenK_n ?_
     refine W_ret ?_
     refine blockK_r ?_
     refine thenK_r ?_
     exact .mk [(1, 193)] (.inr rfl) (.tmp rfl (.nil)) rfl (.rowE rfl (.nil) (by (unfold usesT; rw [if_pos (by omega)]; done))) rfl
    ·exact absurd (g6.symm.trans g5) (by decide)
   ·have h5 := c_eql_f g5
    refine W_seqK (b' := 193) rfl rfl ?_
    refine q0 9 161 1 rfl rfl (T_cmp rfl rfl rfl rfl) rfl ?_
    refine q0 5 177 2 rfl rfl (T_assign rfl rfl) rfl ?_
    refine k_done rfl ?_
    refine thenK_n ?_
    refine W_cond rfl (fun g7 => ?_) (fun g7 => ?_)
    ·have h7 := c_eql_t g7
     refine W_seq ?_
     refine W_seqK (b' := 257) rfl rfl ?_
     refine q0 10 193 1 rfl rfl (T_fa D (m := 2) rfl rfl rfl rfl rfl rfl) rfl ?_
     refine q0 11 209 2 rfl rfl (T_load_b D rfl rfl rfl rfl rfl rfl) rfl ?_
     refine q1 12 225 3 rfl rfl (T_bs D (ys := [_]) (enc := eI) (l := [_]) rfl rfl rfl rfl rfl rfl (.cons rfl (flat_v rfl) (.nil)) rfl rfl rfl rfl (.v rfl (.nil)) rfl rfl) rfl ?_
     refine q0 2 241 4 rfl rfl (T_assign rfl rfl) rfl ?_
     refine k_done rfl ?_
     refine thenK_n ?_
     refine W_ret ?_
     refine blockK_r ?_
     refine thenK_r ?_
     exact .mk [(1, 225)] (.inr rfl) (.tmp rfl (.nil)) rfl (.rowE rfl (.nil) (by (unfold usesT; rw [if_pos (by omega)]; done))) rfl
    ·have h7 := c_eql_f g7
     refine W_seq ?_
     refine W_seq ?_
     refine W_seqK (b' := 225) rfl rfl ?_
     refine q0 14 193 1 rfl rfl (T_cmp rfl rfl rfl rfl) rfl ?_
     refine q0 13 209 2 rfl rfl (T_assign rfl rfl) rfl ?_
     refine k_done rfl ?_
     refine thenK_n ?_
     refine W_cond rfl (fun g8 => ?_) (fun g8 => ?_)
     ·have h8 := c_eql_t g8
      refine W_skip ?_
      refine thenK_n ?_
      refine W_cond rfl (fun g9 => ?_) (fun g9 => ?_)
      ·skip
       refine W_seq ?_
       refine W_seqK (b' := 321) rfl rfl ?_
       refine q0 16 225 1 rfl rfl (T_fa D (m := 2) rfl rfl rfl rfl rfl rfl) rfl ?_
       refine q0 17 241 2 rfl rfl (T_load_b D rfl rfl rfl rfl rfl rfl) rfl ?_
       refine q0 18 257 3 rfl rfl (T_fa D (m := 3) rfl rfl rfl rfl rfl rfl) rfl ?_
       refine q0 19 273 4 rfl rfl (T_load_b D rfl rfl rfl rfl rfl rfl) rfl ?_
       refine q1 20 289 5 rfl rfl (T_bs D (ys := [_, _]) (enc := eI) (l := [_, _]) rfl rfl rfl rfl rfl rfl (.cons rfl (flat_v rfl) (.cons rfl (flat_v rfl) (.nil))) rfl rfl rfl rfl (.v rfl (.v rfl (.nil))) rfl rfl) rfl ?_
       refine q0 2 305 6 rfl rfl (T_assign rfl rfl) rfl ?_
       refine k_done rfl ?_
       refine thenK_n ?_
       refine W_ret ?_
       refine blockK_r ?_
       refine thenK_r ?_
       exact .mk [(1, 289)] (.inr rfl) (.tmp rfl (.nil)) rfl (.rowE rfl (.nil) (by (unfold usesT; rw [if_neg (by omega), if_pos (by omega)]; done))) rfl
      ·exact absurd (g9.symm.trans g8) (by decide)
     ·have h8 := c_eql_f g8
      refine W_seqK (b' := 257) rfl rfl ?_
      refine q0 15 225 1 rfl rfl (T_cmp rfl rfl rfl rfl) rfl ?_
      refine q0 13 241 2 rfl rfl (T_assign rfl rfl) rfl ?_
      refine k_done rfl ?_
      refine thenK_n ?_
      refine W_cond rfl (fun g10 => ?_) (fun g10 => ?_)
      ·have h10 := c_eql_t g10
       refine W_seq ?_
       refine W_seqK (b' := 353) rfl rfl ?_
       refine q0 16 257 1 rfl rfl (T_fa D (m := 2) rfl rfl rfl rfl rfl rfl) rfl ?_
       refine q0 17 273 2 rfl rfl (T_load_b D rfl rfl rfl rfl rfl rfl) rfl ?_
       refine q0 18 289 3 rfl rfl (T_fa D (m := 3) rfl rfl rfl rfl rfl rfl) rfl ?_
       refine q0 19 305 4 rfl rfl (T_load_b D rfl rfl rfl rfl rfl rfl) rfl ?_
       refine q1 20 321 5 rfl rfl (T_bs D (ys := [_, _]) (enc := eI) (l := [_, _]) rfl rfl rfl rfl rfl rfl (.cons rfl (flat_v rfl) (.cons rfl (flat_v rfl) (.nil))) rfl rfl rfl rfl (.v rfl (.v rfl (.nil))) rfl rfl) rfl ?_
       refine q0 2 337 6 rfl rfl (T_assign rfl rfl) rfl ?_
       refine k_done rfl ?_
       refine thenK_n ?_
       refine W_ret ?_
       refine blockK_r ?_
       refine thenK_r ?_
       exact .mk [(1, 321)] (.inr rfl) (.tmp rfl (.nil)) rfl (.rowE rfl (.nil) (by (unfold usesT; rw [if_neg (by omega), if_pos (by omega)]; done))) rfl
      ·have h10 := c_eql_f g10
       refine W_skip ?_
       refine blockK_n ?_
       refine thenK_n ?_
       refine W_seq ?_
       refine W_seqK (b' := 273) rfl rfl ?_
       refine q1 2 257 1 rfl rfl (T_nils [(3, 1)] (T_assign rfl rfl) rfl (.inr ⟨rfl, rfl⟩) (.cons (.nil rfl) .nil) (lv' := .r 257) (upd' := [(257, .row 3 1 (List.map eI ([] : List (Int))))]) (nn' := 1) rfl rfl) rfl ?_
       refine k_done rfl ?_
       refine thenK_n ?_
       refine W_ret ?_
       exact .mk [(1, 257)] (.inr rfl) (.tmp rfl (.nil)) rfl (.rowE rfl (.nil) (by (unfold usesT; rw [if_neg (by omega), if_neg (by omega)]; done))) rfl
theorem body87 : (Try.prog.funcs[87]?).map (fun fn => (fn.name == "runtime.NumGoroutine" || fn.body.isNone)) = some false := by kernel_rfl
theorem ends_spec (b : GBlock) (n r : Int) : Spec Try.prog 87 [.agg [.r 1, .v (.int .i64 b.fin), .v (.int .i64 b.v), .v (.int .i64 b.to), .v (.int .i64 b.els)], .v (.int .i64 n), .v (.int .i64 r)] 2 [(1, .fz 8 (b.ins.map eTac))] (.v (.bool (endsB b n r))) 2 [] := by
 refine spec_of D (fn := Try.f87) rfl rfl (Nat.le_of_ble_eq_true rfl) ?_
 refine W_seq ?_
 refine W_seqK (b' := 34) rfl rfl ?_
 refine q1 3 2 1 rfl rfl (T_box rfl rfl flat_agg) rfl ?_
 refine q0 6 18 2 rfl rfl (T_assign rfl rfl) rfl ?_
 refine k_done rfl ?_
 refine thenK_n ?_
 refine W_seq ?_
 refine W_seq ?_
 refine W_seqK (b' := 66) rfl rfl ?_
 refine q0 7 34 1 rfl rfl (T_fa D (m := 1) rfl rfl rfl rfl rfl rfl) rfl ?_
 refine q0 8 50 2 rfl rfl (T_load_b D rfl rfl rfl rfl rfl rfl) rfl ?_
 refine k_done rfl ?_
 refine thenK_n ?_
 refine W_block ?_
 refine W_seq ?_
 refine W_seqK (b' := 98) rfl rfl ?_
 refine q0 10 66 1 rfl rfl (T_cmp rfl rfl rfl rfl) rfl ?_
 refine q0 9 82 2 rfl rfl (T_assign rfl rfl) rfl ?_
 refine k_done rfl ?_
 refine thenK_n ?_
 refine W_cond rfl (fun g1 => ?_) (fun g1 => ?_)
 ·have h1 := c_eql_t g1
  refine W_seq ?_
  refine W_seqK (b' := 338) rfl rfl ?_
  refine q0 11 98 1 rfl rfl (T_fa D (m := 3) rfl rfl rfl rfl rfl rfl) rfl ?_
  refine q0 12 114 2 rfl rfl (T_load_b D rfl rfl rfl rfl rfl rfl) rfl ?_
  refine q0 13 130 3 rfl rfl (T_move rfl rfl) rfl ?_
  refine q0 14 146 4 rfl rfl (T_callV (lvs := [_, _]) (L := []) (within_spec _ _) body125 rfl rfl rfl rfl (.nil) rfl) rfl ?_
  refine q0 15 162 5 rfl rfl (T_move rfl rfl) rfl ?_
  refine k_split (d := 15) rfl (fun g2 => ?_) (fun g2 => ?_)
  ·have h2 := g2; (try simp only [cmpB, decide_eq_true_eq, decide_eq_false_iff_not, beq_iff_eq, beq_eq_false_iff_ne, bne_iff_ne, ne_eq, bne_eq_false_iff_eq, Bool.not_eq_true', Bool.not_eq_false', Int.not_lt, Int.not_le] at h2)
   refine k_op0 (d := 16) (b := 178) (j' := 6) rfl rfl rfl rfl (g_tt rfl rfl rfl g2) (T_fa D (m := 2) rfl rfl rfl rfl rfl rfl) rfl ?_
   refine k_op0 (d := 17) (b := 194) (j' := 7) rfl rfl rfl rfl (g_tt rfl rfl rfl g2) (T_load_b D rfl rfl rfl rfl rfl rfl) rfl ?_
   refine k_op0 (d := 18) (b := 210) (j' := 8) rfl rfl rfl rfl (g_tt rfl rfl rfl g2) (T_cmp rfl rfl rfl rfl) rfl ?_
   refine q0 19 226 9 rfl rfl (T_pick_t rfl rfl rfl g2) rfl ?_
   refine q0 20 242 10 rfl rfl (T_move rfl rfl) rfl ?_
   refine k_split (d := 20) rfl (fun g3 => ?_) (fun g3 => ?_)
   ·have h3 := c_eql_t g3
    refine k_op0 (d := 21) (b := 258) (j' := 11) rfl rfl rfl rfl (g_tt rfl rfl rfl g3) (T_fa D (m := 4) rfl rfl rfl rfl rfl rfl) rfl ?_
    refine k_op0 (d := 22) (b := 274) (j' := 12) rfl rfl rfl rfl (g_tt rfl rfl rfl g3) (T_load_b D rfl rfl rfl rfl rfl rfl) rfl ?_
    refine k_op0 (d := 23) (b := 290) (j' := 13) rfl rfl rfl rfl (g_tt rfl rfl rfl g3) (T_cmp rfl rfl rfl rfl) rfl ?_
    refine q0 24 306 14 rfl rfl (T_pick_t rfl rfl rfl g3) rfl ?_
    refine q0 6 322 15 rfl rfl (T_assign rfl rfl) rfl ?_
    refine k_done rfl ?_
    refine thenK_n ?_
    refine W_ret ?_
    refine blockK_r ?_
    refine thenK_r ?_
    exact .mk [] (.inr rfl) (.tmp rfl (.nil)) (by (simp only [resLV, LV.ren, LV.v.injEq, Value.bool.injEq]; unfold endsB; rw [if_pos (by omega)]; simp [*, cmpB]; done)) (.nil) rfl
   ·have h3 := c_eql_f g3
    refine k_no (d := 21) (j' := 11) rfl rfl rfl (g_tf rfl rfl rfl g3) ?_
    refine k_no (d := 22) (j' := 12) rfl rfl rfl (g_tf rfl rfl rfl g3) ?_
    refine k_no (d := 23) (j' := 13) rfl rfl rfl (g_tf rfl rfl rfl g3) ?_
    refine q0 24 306 14 rfl rfl (T_pick_f rfl rfl rfl g3) rfl ?_
    refine q0 6 322 15 rfl rfl (T_assign rfl rfl) rfl ?_
    refine k_done rfl ?_
    refine thenK_n ?_
    refine W_ret ?_
    refine blockK_r ?_
    refine thenK_r ?_
    exact .mk [] (.inr rfl) (.tmp rfl (.nil)) (by (simp only [resLV, LV.ren, LV.v.injEq, Value.bool.injEq]; unfold endsB; rw [if_pos (by omega)]; simp [*, cmpB]; done)) (.nil) rfl
  ·have h2 := g2; (try simp only [cmpB, decide_eq_true_eq, decide_eq_false_iff_not, beq_iff_eq, beq_eq_false_iff_ne, bne_iff_ne, ne_eq, bne_eq_false_iff_eq, Bool.not_eq_true', Bool.not_eq_false', Int.not_lt, Int.not_le] at h2)
   refine k_no (d := 16) (j' := 6) rfl rfl rfl (g_tf rfl rfl rfl g2) ?_
   refine k_no (d := 17) (j' := 7) rfl rfl rfl (g_tf rfl rfl rfl g2) ?_
   refine k_no (d := 18) (j' := 8) rfl rfl rfl (g_tf rfl rfl rfl g2) ?_
   refine q0 19 226 9 rfl rfl (T_pick_f rfl rfl rfl g2) rfl ?_
   refine q0 20 242 10 rfl rfl (T_move rfl rfl) rfl ?_
   refine k_no (d := 21) (j' := 11) rfl rfl rfl (g_tf rfl rfl rfl rfl) ?_
   refine k_no (d := 22) (j' := 12) rfl rfl rfl (g_tf rfl rfl rfl rfl) ?_
   refine k_no (d := 23) (j' := 13) rfl rfl rfl (g_tf rfl rfl rfl rfl) ?_
   refine q0 24 306 14 rfl rfl (T_pick_f rfl rfl rfl rfl) rfl ?_
   refine q0 6 322 15 rfl rfl (T_assign rfl rfl) rfl ?_
   refine k_done rfl ?_
   refine thenK_n ?_
   refine W_ret ?_
   refine blockK_r ?_
   refine thenK_r ?_
   exact .mk [] (.inr rfl) (.tmp rfl (.nil)) (by (simp only [resLV, LV.ren, LV.v.injEq, Value.bool.injEq]; unfold endsB; rw [if_pos (by omega)]; simp [*, cmpB]; done)) (.nil) rfl
 ·have h1 := c_eql_f g1
  refine W_seq ?_
  refine W_seqK (b' := 130) rfl rfl ?_
  refine q0 26 98 1 rfl rfl (T_cmp rfl rfl rfl rfl) rfl ?_
  refine q0 25 114 2 rfl rfl (T_assign rfl rfl) rfl ?_
  refine k_done rfl ?_
  refine thenK_n ?_
  refine W_cond rfl (fun g4 => ?_) (fun g4 => ?_)
  ·have h4 := c_eql_t g4
   refine W_seq ?_
   refine W_seqK (b' := 402) rfl rfl ?_
   refine q0 27 130 1 rfl rfl (T_fa D (m := 3) rfl rfl rfl rfl rfl rfl) rfl ?_
   refine q0 28 146 2 rfl rfl (T_load_b D rfl rfl rfl rfl rfl rfl) rfl ?_
   refine q0 29 162 3 rfl rfl (T_move rfl rfl) rfl ?_
   refine q0 30 178 4 rfl rfl (T_callV (lvs := [_, _]) (L := []) (within_spec _ _) body125 rfl rfl rfl rfl (.nil) rfl) rfl ?_
   refine q0 31 194 5 rfl rfl (T_move rfl rfl) rfl ?_
   refine k_split (d := 31) rfl (fun g5 => ?_) (fun g5 => ?_)
   ·have h5 := g5; (try simp only [cmpB, decide_eq_true_eq, decide_eq_false_iff_not, beq_iff_eq, beq_eq_false_iff_ne, bne_iff_ne, ne_eq, bne_eq_false_iff_eq, Bool.not_eq_true', Bool.not_eq_false', Int.not_lt, Int.not_le] at h5)
    refine k_op0 (d := 32) (b := 210) (j' := 6) rfl rfl rfl rfl (g_tt rfl rfl rfl g5) (T_fa D (m := 4) rfl rfl rfl rfl rfl rfl) rfl ?_
    refine k_op0 (d := 33) (b := 226) (j' := 7) rfl rfl rfl rfl (g_tt rfl rfl rfl g5) (T_load_b D rfl rfl rfl rfl rfl rfl) rfl ?_
    refine k_op0 (d := 34) (b := 242) (j' := 8) rfl rfl rfl rfl (g_tt rfl rfl rfl g5) (T_move rfl rfl) rfl ?_
    refine k_op0 (d := 35) (b := 258) (j' := 9) rfl rfl rfl rfl (g_tt rfl rfl rfl g5) (T_callV (lvs := [_, _]) (L := []) (within_spec _ _) body125 rfl rfl rfl rfl (.nil) rfl) rfl ?_
    refine q0 36 274 10 rfl rfl (T_pick_t rfl rfl rfl g5) rfl ?_
    refine q0 37 290 11 rfl rfl (T_move rfl rfl) rfl ?_
    refine k_split (d := 37) rfl (fun g6 => ?_) (fun g6 => ?_)
    ·have h6 := g6; (try simp only [cmpB, decide_eq_true_eq, decide_eq_false_iff_not, beq_iff_eq, beq_eq_false_iff_ne, bne_iff_ne, ne_eq, bne_eq_false_iff_eq, Bool.not_eq_true', Bool.not_eq_false', Int.not_lt, Int.not_le] at h6)
     refine k_op0 (d := 38) (b := 306) (j' := 12) rfl rfl rfl rfl (g_tt rfl rfl rfl g6) (T_fa D (m := 2) rfl rfl rfl rfl rfl rfl) rfl ?_
     refine k_op0 (d := 39) (b := 322) (j' := 13) rfl rfl rfl rfl (g_tt rfl rfl rfl g6) (T_load_b D rfl rfl rfl rfl rfl rfl) rfl ?_
     refine k_op0 (d := 40) (b := 338) (j' := 14) rfl rfl rfl rfl (g_tt rfl rfl rfl g6) (T_move rfl rfl) rfl ?_
     refine k_op0 (d := 41) (b := 354) (j' := 15) rfl rfl rfl rfl (g_tt rfl rfl rfl g6) (T_callV (lvs := [_, _]) (L := []) (within_spec _ _) body125 rfl rfl rfl rfl (.nil) rfl) rfl ?_
     refine q0 42 370 16 rfl rfl (T_pick_t rfl rfl rfl g6) rfl ?_
     refine q0 6 386 17 rfl rfl (T_assign rfl rfl) rfl ?_
     refine k_done rfl ?_
     refine thenK_n ?_
     refine W_ret ?_
     refine blockK_r ?_
     refine thenK_r ?_
     exact .mk [] (.inr rfl) (.tmp rfl (.nil)) (by (simp only [resLV, LV.ren, LV.v.injEq, Value.bool.injEq]; unfold endsB; rw [if_neg (by omega), if_pos (by omega)]; simp [*, cmpB]; done)) (.nil) rfl
    ·have h6 := g6; (try simp only [cmpB, decide_eq_true_eq, decide_eq_false_iff_not, beq_iff_eq, beq_eq_false_iff_ne, bne_iff_ne, ne_eq, bne_eq_false_iff_eq, Bool.not_eq_true', Bool.not_eq_false', Int.not_lt, Int.not_le] at h6)
     refine k_no (d := 38) (j' := 12) rfl rfl rfl (g_tf rfl rfl rfl g6) ?_
     refine k_no (d := 39) (j' := 13) rfl rfl rfl (g_tf rfl rfl rfl g6) ?_
     refine k_no (d := 40) (j' := 14) rfl rfl rfl (g_tf rfl rfl rfl g6) ?_
     refine k_no (d := 41) (j' := 15) rfl rfl rfl (g_tf rfl rfl rfl g6) ?_
     refine q0 42 370 16 rfl rfl (T_pick_f rfl rfl rfl g6) rfl ?_
     refine q0 6 386 17 rfl rfl (T_assign rfl rfl) rfl ?_
     refine k_done rfl ?_
     refine thenK_n ?_
     refine W_ret ?_
     refine blockK_r ?_
     refine thenK_r ?_
     exact .mk [] (.inr rfl) (.tmp rfl (.nil)) (by (simp only [resLV, LV.ren, LV.v.injEq, Value.bool.injEq]; unfold endsB; rw [if_neg (by omega), if_pos (by omega)]; simp [*, cmpB]; done)) (.nil) rfl
   ·have h5 := g5; (try simp only [cmpB, decide_eq_true_eq, decide_eq_false_iff_not, beq_iff_eq, beq_eq_false_iff_ne, bne_iff_ne, ne_eq, bne_eq_false_iff_eq, Bool.not_eq_true', Bool.not_eq_false', Int.not_lt, Int.not_le] at h5)
    refine k_no (d := 32) (j' := 6) rfl rfl rfl (g_tf rfl rfl rfl g5) ?_
    refine k_no (d := 33) (j' := 7) rfl rfl rfl (g_tf rfl rfl rfl g5) ?_
    refine k_no (d := 34) (j' := 8) rfl rfl rfl (g_tf rfl rfl rfl g5) ?_
    refine k_no (d := 35) (j' := 9) rfl rfl rfl (g_tf rfl rfl rfl g5) ?_
    refine q0 36 274 10 rfl rfl (T_pick_f rfl rfl rfl g5) rfl ?_
    refine q0 37 290 11 rfl rfl (T_move rfl rfl) rfl ?_
    refine k_no (d := 38) (j' := 12) rfl rfl rfl (g_tf rfl rfl rfl rfl) ?_
    refine k_no (d := 39) (j' := 13) rfl rfl rfl (g_tf rfl rfl rfl rfl) ?_
    refine k_no (d := 40) (j' := 14) rfl rfl rfl (g_tf rfl rfl rfl rfl) ?_
    refine k_no (d := 41) (j' := 15) rfl rfl rfl (g_tf rfl rfl rfl rfl) ?_
    refine q0 42 370 16 rfl rfl (T_pick_f rfl rfl rfl rfl) rfl ?_
    refine q0 6 386 17 rfl rfl (T_assign rfl rfl) rfl ?_
    refine k_done rfl ?_
    refine thenK_n ?_
    refine W_ret ?_
    refine blockK_r ?_
    refine thenK_r ?_
    exact .mk [] (.inr rfl) (.tmp rfl (.nil)) (by (simp only [resLV, LV.ren, LV.v.injEq, Value.bool.injEq]; unfold endsB; rw [if_neg (by omega), if_pos (by omega)]; simp [*, cmpB]; done)) (.nil) rfl
  ·have h4 := c_eql_f g4
   refine W_skip ?_
   refine blockK_n ?_
   refine thenK_n ?_
   refine W_seq ?_
   refine W_seqK (b' := 434) rfl rfl ?_
   refine q0 43 130 1 rfl rfl (T_fa D (m := 1) rfl rfl rfl rfl rfl rfl) rfl ?_
   refine q0 44 146 2 rfl rfl (T_load_b D rfl rfl rfl rfl rfl rfl) rfl ?_
   refine q0 45 162 3 rfl rfl (T_cmp rfl rfl rfl rfl) rfl ?_
   refine q0 46 178 4 rfl rfl (T_move rfl rfl) rfl ?_
   refine k_split (d := 46) rfl (fun g7 => ?_) (fun g7 => ?_)
   ·have h7 := c_eql_t g7
    refine k_op0 (d := 47) (b := 194) (j' := 5) rfl rfl rfl rfl (g_tt rfl rfl rfl g7) (T_fa D (m := 2) rfl rfl rfl rfl rfl rfl) rfl ?_
    refine k_op0 (d := 48) (b := 210) (j' := 6) rfl rfl rfl rfl (g_tt rfl rfl rfl g7) (T_load_b D rfl rfl rfl rfl rfl rfl) rfl ?_
    refine k_op0 (d := 49) (b := 226) (j' := 7) rfl rfl rfl rfl (g_tt rfl rfl rfl g7) (T_cmp rfl rfl rfl rfl) rfl ?_
    refine q0 50 242 8 rfl rfl (T_pick_t rfl rfl rfl g7) rfl ?_
    refine q0 51 258 9 rfl rfl (T_move rfl rfl) rfl ?_
    refine k_split (d := 51) rfl (fun g8 => ?_) (fun g8 => ?_)
    ·have h8 := c_eql_t g8
     refine k_op0 (d := 52) (b := 274) (j' := 10) rfl rfl rfl rfl (g_tt rfl rfl rfl g8) (T_fa D (m := 3) rfl rfl rfl rfl rfl rfl) rfl ?_
     refine k_op0 (d := 53) (b := 290) (j' := 11) rfl rfl rfl rfl (g_tt rfl rfl rfl g8) (T_load_b D rfl rfl rfl rfl rfl rfl) rfl ?_
     refine k_op0 (d := 54) (b := 306) (j' := 12) rfl rfl rfl rfl (g_tt rfl rfl rfl g8) (T_cmp rfl rfl rfl rfl) rfl ?_
     refine q0 55 322 13 rfl rfl (T_pick_t rfl rfl rfl g8) rfl ?_
     refine q0 56 338 14 rfl rfl (T_move rfl rfl) rfl ?_
     refine k_split (d := 56) rfl (fun g9 => ?_) (fun g9 => ?_)
     ·have h9 := c_eql_t g9
      refine k_op0 (d := 57) (b := 354) (j' := 15) rfl rfl rfl rfl (g_tt rfl rfl rfl g9) (T_fa D (m := 4) rfl rfl rfl rfl rfl rfl) rfl ?_
      refine k_op0 (d := 58) (b := 370) (j' := 16) rfl rfl rfl rfl (g_tt rfl rfl rfl g9) (T_load_b D rfl rfl rfl rfl rfl rfl) rfl ?_
      refine k_op0 (d := 59) (b := 386) (j' := 17) rfl rfl rfl rfl (g_tt rfl rfl rfl g9) (T_cmp rfl rfl rfl rfl) rfl ?_
      refine q0 60 402 18 rfl rfl (T_pick_t rfl rfl rfl g9) rfl ?_
      refine q0 6 418 19 rfl rfl (T_assign rfl rfl) rfl ?_
      refine k_done rfl ?_
      refine thenK_n ?_
      refine W_ret ?_
      exact .mk [] (.inr rfl) (.tmp rfl (.nil)) (by (simp only [resLV, LV.ren, LV.v.injEq, Value.bool.injEq]; unfold endsB; rw [if_neg (by omega), if_neg (by omega)]; simp [*, cmpB]; done)) (.nil) rfl
     ·have h9 := c_eql_f g9
      refine k_no (d := 57) (j' := 15) rfl rfl rfl (g_tf rfl rfl rfl g9) ?_
      refine k_no (d := 58) (j' := 16) rfl rfl rfl (g_tf rfl rfl rfl g9) ?_
      refine k_no (d := 59) (j' := 17) rfl rfl rfl (g_tf rfl rfl rfl g9) ?_
      refine q0 60 402 18 rfl rfl (T_pick_f rfl rfl rfl g9) rfl ?_
      refine q0 6 418 19 rfl rfl (T_assign rfl rfl) rfl ?_
      refine k_done rfl ?_
      refine thenK_n ?_
      refine W_ret ?_
      exact .mk [] (.inr rfl) (.tmp rfl (.nil)) (by (simp only [resLV, LV.ren, LV.v.injEq, Value.bool.injEq]; unfold endsB; rw [if_neg (by omega), if_neg (by omega)]; simp [*, cmpB]; done)) (.nil) rfl
    ·have h8 := c_eql_f g8
     refine k_no (d := 52) (j' := 10) rfl rfl rfl (g_tf rfl rfl rfl g8) ?_
     refine k_no (d := 53) (j' := 11) rfl rfl rfl (g_tf rfl rfl rfl g8) ?_
     refine k_no (d := 54) (j' := 12) rfl rfl rfl (g_tf rfl rfl rfl g8) ?_
     refine q0 55 322 13 rfl rfl (T_pick_f rfl rfl rfl g8) rfl ?_
     refine q0 56 338 14 rfl rfl (T_move rfl rfl) rfl ?_
     refine k_no (d := 57) (j' := 15) rfl rfl rfl (g_tf rfl rfl rfl rfl) ?_
     refine k_no (d := 58) (j' := 16) rfl rfl rfl (g_tf rfl rfl rfl rfl) ?_
     refine k_no (d := 59) (j' := 17) rfl rfl rfl (g_tf rfl rfl rfl rfl) ?_
     refine q0 60 402 18 rfl rfl (T_pick_f rfl rfl rfl rfl) rfl ?_
     refine q0 6 418 19 rfl rfl (T_assign rfl rfl) rfl ?_
     refine k_done rfl ?_
     refine thenK_n ?_
     refine W_ret ?_
     exact .mk [] (.inr rfl) (.tmp rfl (.nil)) (by (simp only [resLV, LV.ren, LV.v.injEq, Value.bool.injEq]; unfold endsB; rw [if_neg (by omega), if_neg (by omega)]; simp [*, cmpB]; done)) (.nil) rfl
   ·have h7 := c_eql_f g7
    refine k_no (d := 47) (j' := 5) rfl rfl rfl (g_tf rfl rfl rfl g7) ?_
    refine k_no (d := 48) (j' := 6) rfl rfl rfl (g_tf rfl rfl rfl g7) ?_
    refine k_no (d := 49) (j' := 7) rfl rfl rfl (g_tf rfl rfl rfl g7) ?_
    refine q0 50 242 8 rfl rfl (T_pick_f rfl rfl rfl g7) rfl ?_
    refine q0 51 258 9 rfl rfl (T_move rfl rfl) rfl ?_
    refine k_no (d := 52) (j' := 10) rfl rfl rfl (g_tf rfl rfl rfl rfl) ?_
    refine k_no (d := 53) (j' := 11) rfl rfl rfl (g_tf rfl rfl rfl rfl) ?_
    refine k_no (d := 54) (j' := 12) rfl rfl rfl (g_tf rfl rfl rfl rfl) ?_
    refine q0 55 322 13 rfl rfl (T_pick_f rfl rfl rfl rfl) rfl ?_
    refine q0 56 338 14 rfl rfl (T_move rfl rfl) rfl ?_
    refine k_no (d := 57) (j' := 15) rfl rfl rfl (g_tf rfl rfl rfl rfl) ?_
    refine k_no (d := 58) (j' := 16) rfl rfl rfl (g_tf rfl rfl rfl rfl) ?_
    refine k_no (d := 59) (j' := 17) rfl rfl rfl (g_tf rfl rfl rfl rfl) ?_
    refine q0 60 402 18 rfl rfl (T_pick_f rfl rfl rfl rfl) rfl ?_
    refine q0 6 418 19 rfl rfl (T_assign rfl rfl) rfl ?_
    refine k_done rfl ?_
    refine thenK_n ?_
    refine W_ret ?_
    exact .mk [] (.inr rfl) (.tmp rfl (.nil)) (by (simp only [resLV, LV.ren, LV.v.injEq, Value.bool.injEq]; unfold endsB; rw [if_neg (by omega), if_neg (by omega)]; simp [*, cmpB]; done)) (.nil) rfl
end Lg
end Go.Proofs.Ytpfhmodjjljpjaa

namespace Go.Proofs.Ytpfhmodjjljpjaa
open Go.RowKit
namespace Lg
set_option maxRecDepth 100000
set_option linter.unusedVariables false
set_option linter.unusedSimpArgs false
theorem body88 : (Try.prog.funcs[88]?).map (fun fn => (fn.name == "runtime.NumGoroutine" || fn.body.isNone)) = some false := by kernel_rfl
theorem fits_spec (t : GTac) (f regs words : Int) (hw : -4611686018427387904 ≤ words ∧ words ≤ 4611686018427387904) : Spec Try.prog 88 [.agg [.v (.int .i64 t.op), .v (.int .i64 t.d), .v (.int .i64 t.a), .v (.int .i64 t.b), .v (.int .i64 t.k), .v (.int .i64 t.base), .v (.int .i64 t.size), .v (.int .u32 t.n)], .v (.int .i64 f), .v (.int .i64 regs), .v (.int .i64 words)] 1 [] (.v (.bool (fitsB t f regs words))) 1 [] := by
 refine spec_of D (fn := Try.f88) rfl rfl (Nat.le_of_ble_eq_true rfl) ?_
 refine W_seq ?_
 refine W_seqK (b' := 33) rfl rfl ?_
 refine q1 4 1 1 rfl rfl (T_box rfl rfl flat_agg) rfl ?_
 refine q0 8 17 2 rfl rfl (T_assign rfl rfl) rfl ?_
 refine k_done rfl ?_
 refine thenK_n ?_
 refine W_seq ?_
 refine W_seq ?_
 refine W_seqK (b' := 161) rfl rfl ?_
 refine q0 12 33 1 rfl rfl (T_fa D (m := 0) rfl rfl rfl rfl rfl rfl) rfl ?_
 refine q0 13 49 2 rfl rfl (T_load_b D rfl rfl rfl rfl rfl rfl) rfl ?_
 refine q0 14 65 3 rfl rfl (T_cmp rfl rfl rfl rfl) rfl ?_
 refine q0 15 81 4 rfl rfl (T_move rfl rfl) rfl ?_
 refine k_split (d := 15) rfl (fun g1 => ?_) (fun g1 => ?_)
 ·have h1 := c_lss_t g1
  refine k_no (d := 16) (j' := 5) rfl rfl rfl (g_ft rfl rfl rfl g1) ?_
  refine k_no (d := 17) (j' := 6) rfl rfl rfl (g_ft rfl rfl rfl g1) ?_
  refine k_no (d := 18) (j' := 7) rfl rfl rfl (g_ft rfl rfl rfl g1) ?_
  refine q0 19 145 8 rfl rfl (T_pick_t rfl rfl rfl g1) rfl ?_
  refine k_done rfl ?_
  refine thenK_n ?_
  refine W_cond rfl (fun g2 => ?_) (fun g2 => ?_)
  ·skip
   refine W_seq ?_
   refine W_seqK (b' := 177) rfl rfl ?_
   refine q0 8 161 1 rfl rfl (T_assign rfl rfl) rfl ?_
   refine k_done rfl ?_
   refine thenK_n ?_
   refine W_ret ?_
   refine thenK_r ?_
   exact .mk [] (.inr rfl) (.tmp rfl (.nil)) (by (simp only [resLV, LV.ren, LV.v.injEq, Value.bool.injEq]; refine fits_no (fun hF => ?_); obtain ⟨a1, a2, a3, a4, a5, a6, a7, a8⟩ := hF; omega)) (.nil) rfl
  ·exact absurd (g2.symm.trans rfl) (by decide)
 ·have h1 := c_lss_f g1
  refine k_op0 (d := 16) (b := 97) (j' := 5) rfl rfl rfl rfl (g_ff rfl rfl rfl g1) (T_fa D (m := 0) rfl rfl rfl rfl rfl rfl) rfl ?_
  refine k_op0 (d := 17) (b := 113) (j' := 6) rfl rfl rfl rfl (g_ff rfl rfl rfl g1) (T_load_b D rfl rfl rfl rfl rfl rfl) rfl ?_
  refine k_op0 (d := 18) (b := 129) (j' := 7) rfl rfl rfl rfl (g_ff rfl rfl rfl g1) (T_cmp rfl rfl rfl rfl) rfl ?_
  refine q0 19 145 8 rfl rfl (T_pick_f rfl rfl rfl g1) rfl ?_
  refine k_done rfl ?_
  refine thenK_n ?_
  refine W_cond rfl (fun g3 => ?_) (fun g3 => ?_)
  ·have h3 := c_gtr_t g3
   refine W_seq ?_
   refine W_seqK (b' := 177) rfl rfl ?_
   refine q0 8 161 1 rfl rfl (T_assign rfl rfl) rfl ?_
   refine k_done rfl ?_
   refine thenK_n ?_
   refine W_ret ?_
   refine thenK_r ?_
   exact .mk [] (.inr rfl) (.tmp rfl (.nil)) (by (simp only [resLV, LV.ren, LV.v.injEq, Value.bool.injEq]; refine fits_no (fun hF => ?_); obtain ⟨a1, a2, a3, a4, a5, a6, a7, a8⟩ := hF; omega)) (.nil) rfl
  ·have h3 := c_gtr_f g3
   refine W_skip ?_
   refine thenK_n ?_
   refine W_seq ?_
   refine W_seqK (b' := 241) rfl rfl ?_
   refine q0 20 161 1 rfl rfl (T_fa D (m := 0) rfl rfl rfl rfl rfl rfl) rfl ?_
   refine q0 21 177 2 rfl rfl (T_load_b D rfl rfl rfl rfl rfl rfl) rfl ?_
   refine q0 22 193 3 rfl rfl (T_build D (l := [_, _, _, _, _, _, _, _]) rfl rfl rfl rfl (.cons rfl (flat_v rfl) (.nil)) rfl rfl) rfl ?_
   refine q1 9 209 4 rfl rfl (T_alloc D rfl rfl rfl) rfl ?_
   refine s1 225 5 rfl rfl (T_stB D (cs' := [_, _, _, _, _, _, _, _]) rfl rfl rfl rfl flat_agg rfl rfl (Nat.le_of_ble_eq_true rfl) rfl) rfl ?_
   refine k_done rfl ?_
   refine thenK_n ?_
   refine W_join (ι := Unit) 3 (fun _u => ⟨[(1, .v (.int .i64 f)), (2, .v (.int .i64 regs)), (3, .v (.int .i64 words)), (4, .p 1 0), (9, .p 2 0)], [(1, .box 70 [.v (.int .i64 t.op), .v (.int .i64 t.d), .v (.int .i64 t.a), .v (.int .i64 t.b), .v (.int .i64 t.k), .v (.int .i64 t.base), .v (.int .i64 t.size), .v (.int .u32 t.n)]), (2, .box 70 [.v (.int .i64 t.op), .v (.int .i64 (if setsOp t.op = true then t.d else 0)), .v (.int .i64 0), .v (.int .i64 0), .v (.int .i64 0), .v (.int .i64 0), .v (.int .i64 0), .v (.int .u32 0)])]⟩) (fun _ => (1 ≤ t.op ∧ t.op ≤ 10) ∧ (setsOp t.op = true → withinB t.d regs = true)) ?_ (fun _u hj8 => ?_)
   ·skip
    refine W_join (ι := Unit) 3 (fun _u => ⟨[(1, .v (.int .i64 f)), (2, .v (.int .i64 regs)), (3, .v (.int .i64 words)), (4, .p 1 0), (9, .p 2 0), (55, .v (.bool (setsOp t.op)))], [(1, .box 70 [.v (.int .i64 t.op), .v (.int .i64 t.d), .v (.int .i64 t.a), .v (.int .i64 t.b), .v (.int .i64 t.k), .v (.int .i64 t.base), .v (.int .i64 t.size), .v (.int .u32 t.n)]), (2, .box 70 [.v (.int .i64 t.op), .v (.int .i64 0), .v (.int .i64 0), .v (.int .i64 0), .v (.int .i64 0), .v (.int .i64 0), .v (.int .i64 0), .v (.int .u32 0)])]⟩) (fun _ => 1 ≤ t.op ∧ t.op ≤ 10) ?_ (fun _u hj5 => ?_)
    ·skip
     refine W_seqK (b' := 769) rfl rfl ?_
     refine q0 23 241 1 rfl rfl (T_load_bA D (l := [_, _, _, _, _, _, _, _]) rfl rfl rfl rfl rfl rfl rfl) rfl ?_
     refine q0 24 257 2 rfl rfl (T_callV (lvs := [_]) (L := []) (sets_spec _) body86 rfl rfl rfl rfl (.nil) rfl) rfl ?_
     refine q0 25 273 3 rfl rfl (T_cmp rfl rfl rfl rfl) rfl ?_
     refine q0 26 289 4 rfl rfl (T_move rfl rfl) rfl ?_
     refine k_split (d := 26) rfl (fun g4 => ?_) (fun g4 => ?_)
     ·have h4 := c_geq_t g4
      refine k_no (d := 27) (j' := 5) rfl rfl rfl (g_ft rfl rfl rfl g4) ?_
      refine k_no (d := 28) (j' := 6) rfl rfl rfl (g_ft rfl rfl rfl g4) ?_
      refine k_no (d := 29) (j' := 7) rfl rfl rfl (g_ft rfl rfl rfl g4) ?_
      refine q0 30 353 8 rfl rfl (T_pick_t rfl rfl rfl g4) rfl ?_
      refine q0 31 369 9 rfl rfl (T_move rfl rfl) rfl ?_
      refine k_no (d := 32) (j' := 10) rfl rfl rfl (g_ft rfl rfl rfl rfl) ?_
      refine k_no (d := 33) (j' := 11) rfl rfl rfl (g_ft rfl rfl rfl rfl) ?_
      refine k_no (d := 34) (j' := 12) rfl rfl rfl (g_ft rfl rfl rfl rfl) ?_
      refine q0 35 433 13 rfl rfl (T_pick_t rfl rfl rfl rfl) rfl ?_
      refine q0 36 449 14 rfl rfl (T_move rfl rfl) rfl ?_
      refine k_no (d := 37) (j' := 15) rfl rfl rfl (g_ft rfl rfl rfl rfl) ?_
      refine k_no (d := 38) (j' := 16) rfl rfl rfl (g_ft rfl rfl rfl rfl) ?_
      refine k_no (d := 39) (j' := 17) rfl rfl rfl (g_ft rfl rfl rfl rfl) ?_
      refine q0 40 513 18 rfl rfl (T_pick_t rfl rfl rfl rfl) rfl ?_
      refine q0 41 529 19 rfl rfl (T_move rfl rfl) rfl ?_
      refine k_no (d := 42) (j' := 20) rfl rfl rfl (g_ft rfl rfl rfl rfl) ?_
      refine k_no (d := 43) (j' := 21) rfl rfl rfl (g_ft rfl rfl rfl rfl) ?_
      refine k_no (d := 44) (j' := 22) rfl rfl rfl (g_ft rfl rfl rfl rfl) ?_
      refine q0 45 593 23 rfl rfl (T_pick_t rfl rfl rfl rfl) rfl ?_
      refine q0 46 609 24 rfl rfl (T_move rfl rfl) rfl ?_
      refine k_no (d := 47) (j' := 25) rfl rfl rfl (g_ft rfl rfl rfl rfl) ?_
      refine k_no (d := 48) (j' := 26) rfl rfl rfl (g_ft rfl rfl rfl rfl) ?_
      refine k_no (d := 49) (j' := 27) rfl rfl rfl (g_ft rfl rfl rfl rfl) ?_
      refine q0 50 673 28 rfl rfl (T_pick_t rfl rfl rfl rfl) rfl ?_
      refine q0 51 689 29 rfl rfl (T_move rfl rfl) rfl ?_
      refine k_no (d := 52) (j' := 30) rfl rfl rfl (g_ft rfl rfl rfl rfl) ?_
      refine k_no (d := 53) (j' := 31) rfl rfl rfl (g_ft rfl rfl rfl rfl) ?_
      refine k_no (d := 54) (j' := 32) rfl rfl rfl (g_ft rfl rfl rfl rfl) ?_
      refine q0 55 753 33 rfl rfl (T_pick_t rfl rfl rfl rfl) rfl ?_
      refine k_done rfl ?_
      refine thenK_n ?_
      refine ⟨(), by (try dsimp only); omega, ?_⟩
      exact ⟨[(1, 1), (2, 209)], .eq rfl (.eq rfl (.eq rfl (.same rfl rfl (.same rfl rfl (.eq rfl (.nil) (by (rw [setsT_ge (by assumption)]; done))))) (by rfl)) (by rfl)) (by rfl), .box (by rfl) (.box (by rfl) (.nil)), rfl⟩
     ·have h4 := c_geq_f g4
      refine k_op0 (d := 27) (b := 305) (j' := 5) rfl rfl rfl rfl (g_ff rfl rfl rfl g4) (T_fa D (m := 0) rfl rfl rfl rfl rfl rfl) rfl ?_
      refine k_op0 (d := 28) (b := 321) (j' := 6) rfl rfl rfl rfl (g_ff rfl rfl rfl g4) (T_load_b D rfl rfl rfl rfl rfl rfl) rfl ?_
      refine k_op0 (d := 29) (b := 337) (j' := 7) rfl rfl rfl rfl (g_ff rfl rfl rfl g4) (T_cmp rfl rfl rfl rfl) rfl ?_
      refine q0 30 353 8 rfl rfl (T_pick_f rfl rfl rfl g4) rfl ?_
      refine q0 31 369 9 rfl rfl (T_move rfl rfl) rfl ?_
      refine k_split (d := 31) rfl (fun g5 => ?_) (fun g5 => ?_)
      ·have h5 := c_eql_t g5
       refine k_no (d := 32) (j' := 10) rfl rfl rfl (g_ft rfl rfl rfl g5) ?_
       refine k_no (d := 33) (j' := 11) rfl rfl rfl (g_ft rfl rfl rfl g5) ?_
       refine k_no (d := 34) (j' := 12) rfl rfl rfl (g_ft rfl rfl rfl g5) ?_
       refine q0 35 433 13 rfl rfl (T_pick_t rfl rfl rfl g5) rfl ?_
       refine q0 36 449 14 rfl rfl (T_move rfl rfl) rfl ?_
       refine k_no (d := 37) (j' := 15) rfl rfl rfl (g_ft rfl rfl rfl rfl) ?_
       refine k_no (d := 38) (j' := 16) rfl rfl rfl (g_ft rfl rfl rfl rfl) ?_
       refine k_no (d := 39) (j' := 17) rfl rfl rfl (g_ft rfl rfl rfl rfl) ?_
       refine q0 40 513 18 rfl rfl (T_pick_t rfl rfl rfl rfl) rfl ?_
       refine q0 41 529 19 rfl rfl (T_move rfl rfl) rfl ?_
       refine k_no (d := 42) (j' := 20) rfl rfl rfl (g_ft rfl rfl rfl rfl) ?_
       refine k_no (d := 43) (j' := 21) rfl rfl rfl (g_ft rfl rfl rfl rfl) ?_
       refine k_no (d := 44) (j' := 22) rfl rfl rfl (g_ft rfl rfl rfl rfl) ?_
       refine q0 45 593 23 rfl rfl (T_pick_t rfl rfl rfl rfl) rfl ?_
       refine q0 46 609 24 rfl rfl (T_move rfl rfl) rfl ?_
       refine k_no (d := 47) (j' := 25) rfl rfl rfl (g_ft rfl rfl rfl rfl) ?_
       refine k_no (d := 48) (j' := 26) rfl rfl rfl (g_ft rfl rfl rfl rfl) ?_
       refine k_no (d := 49) (j' := 27) rfl rfl rfl (g_ft rfl rfl rfl rfl) ?_
       refine q0 50 673 28 rfl rfl (T_pick_t rfl rfl rfl rfl) rfl ?_
       refine q0 51 689 29 rfl rfl (T_move rfl rfl) rfl ?_
       refine k_no (d := 52) (j' := 30) rfl rfl rfl (g_ft rfl rfl rfl rfl) ?_
       refine k_no (d := 53) (j' := 31) rfl rfl rfl (g_ft rfl rfl rfl rfl) ?_
       refine k_no (d := 54) (j' := 32) rfl rfl rfl (g_ft rfl rfl rfl rfl) ?_
       refine q0 55 753 33 rfl rfl (T_pick_t rfl rfl rfl rfl) rfl ?_
       refine k_done rfl ?_
       refine thenK_n ?_
       refine ⟨(), by (try dsimp only); omega, ?_⟩
       exact ⟨[(1, 1), (2, 209)], .eq rfl (.eq rfl (.eq rfl (.same rfl rfl (.same rfl rfl (.eq rfl (.nil) (by (rw [setsOp_t (by omega)]; done))))) (by rfl)) (by rfl)) (by rfl), .box (by rfl) (.box (by rfl) (.nil)), rfl⟩
      ·have h5 := c_eql_f g5
       refine k_op0 (d := 32) (b := 385) (j' := 10) rfl rfl rfl rfl (g_ff rfl rfl rfl g5) (T_fa D (m := 0) rfl rfl rfl rfl rfl rfl) rfl ?_
       refine k_op0 (d := 33) (b := 401) (j' := 11) rfl rfl rfl rfl (g_ff rfl rfl rfl g5) (T_load_b D rfl rfl rfl rfl rfl rfl) rfl ?_
       refine k_op0 (d := 34) (b := 417) (j' := 12) rfl rfl rfl rfl (g_ff rfl rfl rfl g5) (T_cmp rfl rfl rfl rfl) rfl ?_
       refine q0 35 433 13 rfl rfl (T_pick_f rfl rfl rfl g5) rfl ?_
       refine q0 36 449 14 rfl rfl (T_move rfl rfl) rfl ?_
       refine k_split (d := 36) rfl (fun g6 => ?_) (fun g6 => ?_)
       ·have h6 := c_eql_t g6
        refine k_no (d := 37) (j' := 15) rfl rfl rfl (g_ft rfl rfl rfl g6) ?_
        refine k_no (d := 38) (j' := 16) rfl rfl rfl (g_ft rfl rfl rfl g6) ?_
        refine k_no (d := 39) (j' := 17) rfl rfl rfl (g_ft rfl rfl rfl g6) ?_
        refine q0 40 513 18 rfl rfl (T_pick_t rfl rfl rfl g6) rfl ?_
        refine q0 41 529 19 rfl rfl (T_move rfl rfl) rfl ?_
        refine k_no (d := 42) (j' := 20) rfl rfl rfl (g_ft rfl rfl rfl rfl) ?_
        refine k_no (d := 43) (j' := 21) rfl rfl rfl (g_ft rfl rfl rfl rfl) ?_
        refine k_no (d := 44) (j' := 22) rfl rfl rfl (g_ft rfl rfl rfl rfl) ?_
        refine q0 45 593 23 rfl rfl (T_pick_t rfl rfl rfl rfl) rfl ?_
        refine q0 46 609 24 rfl rfl (T_move rfl rfl) rfl ?_
        refine k_no (d := 47) (j' := 25) rfl rfl rfl (g_ft rfl rfl rfl rfl) ?_
        refine k_no (d := 48) (j' := 26) rfl rfl rfl (g_ft rfl rfl rfl rfl) ?_
        refine k_no (d := 49) (j' := 27) rfl rfl rfl (g_ft rfl rfl rfl rfl) ?_
        refine q0 50 673 28 rfl rfl (T_pick_t rfl rfl rfl rfl) rfl ?_
        refine q0 51 689 29 rfl rfl (T_move rfl rfl) rfl ?_
        refine k_no (d := 52) (j' := 30) rfl rfl rfl (g_ft rfl rfl rfl rfl) ?_
        refine k_no (d := 53) (j' := 31) rfl rfl rfl (g_ft rfl rfl rfl rfl) ?_
        refine k_no (d := 54) (j' := 32) rfl rfl rfl (g_ft rfl rfl rfl rfl) ?_
        refine q0 55 753 33 rfl rfl (T_pick_t rfl rfl rfl rfl) rfl ?_
        refine k_done rfl ?_
        refine thenK_n ?_
        refine ⟨(), by (try dsimp only); omega, ?_⟩
        exact ⟨[(1, 1), (2, 209)], .eq rfl (.eq rfl (.eq rfl (.same rfl rfl (.same rfl rfl (.eq rfl (.nil) (by (rw [setsOp_t (by omega)]; done))))) (by rfl)) (by rfl)) (by rfl), .box (by rfl) (.box (by rfl) (.nil)), rfl⟩
       ·have h6 := c_eql_f g6
        refine k_op0 (d := 37) (b := 465) (j' := 15) rfl rfl rfl rfl (g_ff rfl rfl rfl g6) (T_fa D (m := 0) rfl rfl rfl rfl rfl rfl) rfl ?_
        refine k_op0 (d := 38) (b := 481) (j' := 16) rfl rfl rfl rfl (g_ff rfl rfl rfl g6) (T_load_b D rfl rfl rfl rfl rfl rfl) rfl ?_
        refine k_op0 (d := 39) (b := 497) (j' := 17) rfl rfl rfl rfl (g_ff rfl rfl rfl g6) (T_cmp rfl rfl rfl rfl) rfl ?_
        refine q0 40 513 18 rfl rfl (T_pick_f rfl rfl rfl g6) rfl ?_
        refine q0 41 529 19 rfl rfl (T_move rfl rfl) rfl ?_
        refine k_split (d := 41) rfl (fun g7 => ?_) (fun g7 => ?_)
        ·have h7 := c_eql_t g7
         refine k_no (d := 42) (j' := 20) rfl rfl rfl (g_ft rfl rfl rfl g7) ?_
         refine k_no (d := 43) (j' := 21) rfl rfl rfl (g_ft rfl rfl rfl g7) ?_
         refine k_no (d := 44) (j' := 22) rfl rfl rfl (g_ft rfl rfl rfl g7) ?_
         refine q0 45 593 23 rfl rfl (T_pick_t rfl rfl rfl g7) rfl ?_
         refine q0 46 609 24 rfl rfl (T_move rfl rfl) rfl ?_
         refine k_no (d := 47) (j' := 25) rfl rfl rfl (g_ft rfl rfl rfl rfl) ?_
         refine k_no (d := 48) (j' := 26) rfl rfl rfl (g_ft rfl rfl rfl rfl) ?_
         refine k_no (d := 49) (j' := 27) rfl rfl rfl (g_ft rfl rfl rfl rfl) ?_
         refine q0 50 673 28 rfl rfl (T_pick_t rfl rfl rfl rfl) rfl ?_
         refine q0 51 689 29 rfl rfl (T_move rfl rfl) rfl ?_
         refine k_no (d := 52) (j' := 30) rfl rfl rfl (g_ft rfl rfl rfl rfl) ?_
         refine k_no (d := 53) (j' := 31) rfl rfl rfl (g_ft rfl rfl rfl rfl) ?_
         refine k_no (d := 54) (j' := 32) rfl rfl rfl (g_ft rfl rfl rfl rfl) ?_
         refine q0 55 753 33 rfl rfl (T_pick_t rfl rfl rfl rfl) rfl ?_
         refine k_done rfl ?_
         refine thenK_n ?_
         refine ⟨(), by (try dsimp only); omega, ?_⟩
         exact ⟨[(1, 1), (2, 209)], .eq rfl (.eq rfl (.eq rfl (.same rfl rfl (.same rfl rfl (.eq rfl (.nil) (by (rw [setsOp_t (by omega)]; done))))) (by rfl)) (by rfl)) (by rfl), .box (by rfl) (.box (by rfl) (.nil)), rfl⟩
        ·have h7 := c_eql_f g7
         refine k_op0 (d := 42) (b := 545) (j' := 20) rfl rfl rfl rfl (g_ff rfl rfl rfl g7) (T_fa D (m := 0) rfl rfl rfl rfl rfl rfl) rfl ?_
         refine k_op0 (d := 43) (b := 561) (j' := 21) rfl rfl rfl rfl (g_ff rfl rfl rfl g7) (T_load_b D rfl rfl rfl rfl rfl rfl) rfl ?_
         refine k_op0 (d := 44) (b := 577) (j' := 22) rfl rfl rfl rfl (g_ff rfl rfl rfl g7) (T_cmp rfl rfl rfl rfl) rfl ?_
         refine q0 45 593 23 rfl rfl (T_pick_f rfl rfl rfl g7) rfl ?_
         refine q0 46 609 24 rfl rfl (T_move rfl rfl) rfl ?_
         refine k_split (d := 46) rfl (fun g8 => ?_) (fun g8 => ?_)
         ·have h8 := c_eql_t g8
          refine k_no (d := 47) (j' := 25) rfl rfl rfl (g_ft rfl rfl rfl g8) ?_
          refine k_no (d := 48) (j' := 26) rfl rfl rfl (g_ft rfl rfl rfl g8) ?_
          refine k_no (d := 49) (j' := 27) rfl rfl rfl (g_ft rfl rfl rfl g8) ?_
          refine q0 50 673 28 rfl rfl (T_pick_t rfl rfl rfl g8) rfl ?_
          refine q0 51 689 29 rfl rfl (T_move rfl rfl) rfl ?_
          refine k_no (d := 52) (j' := 30) rfl rfl rfl (g_ft rfl rfl rfl rfl) ?_
          refine k_no (d := 53) (j' := 31) rfl rfl rfl (g_ft rfl rfl rfl rfl) ?_
          refine k_no (d := 54) (j' := 32) rfl rfl rfl (g_ft rfl rfl rfl rfl) ?_
          refine q0 55 753 33 rfl rfl (T_pick_t rfl rfl rfl rfl) rfl ?_
          refine k_done rfl ?_
          refine thenK_n ?_
          refine ⟨(), by (try dsimp only); omega, ?_⟩
          exact ⟨[(1, 1), (2, 209)], .eq rfl (.eq rfl (.eq rfl (.same rfl rfl (.same rfl rfl (.eq rfl (.nil) (by (rw [setsOp_t (by omega)]; done))))) (by rfl)) (by rfl)) (by rfl), .box (by rfl) (.box (by rfl) (.nil)), rfl⟩
         ·have h8 := c_eql_f g8
          refine k_op0 (d := 47) (b := 625) (j' := 25) rfl rfl rfl rfl (g_ff rfl rfl rfl g8) (T_fa D (m := 0) rfl rfl rfl rfl rfl rfl) rfl ?_
          refine k_op0 (d := 48) (b := 641) (j' := 26) rfl rfl rfl rfl (g_ff rfl rfl rfl g8) (T_load_b D rfl rfl rfl rfl rfl rfl) rfl ?_
          refine k_op0 (d := 49) (b := 657) (j' := 27) rfl rfl rfl rfl (g_ff rfl rfl rfl g8) (T_cmp rfl rfl rfl rfl) rfl ?_
          refine q0 50 673 28 rfl rfl (T_pick_f rfl rfl rfl g8) rfl ?_
          refine q0 51 689 29 rfl rfl (T_move rfl rfl) rfl ?_
          refine k_split (d := 51) rfl (fun g9 => ?_) (fun g9 => ?_)
          ·have h9 := c_eql_t g9
           refine k_no (d := 52) (j' := 30) rfl rfl rfl (g_ft rfl rfl rfl g9) ?_
           refine k_no (d := 53) (j' := 31) rfl rfl rfl (g_ft rfl rfl rfl g9) ?_
           refine k_no (d := 54) (j' := 32) rfl rfl rfl (g_ft rfl rfl rfl g9) ?_
           refine q0 55 753 33 rfl rfl (T_pick_t rfl rfl rfl g9) rfl ?_
           refine k_done rfl ?_
           refine thenK_n ?_
           refine ⟨(), by (try dsimp only); omega, ?_⟩
           exact ⟨[(1, 1), (2, 209)], .eq rfl (.eq rfl (.eq rfl (.same rfl rfl (.same rfl rfl (.eq rfl (.nil) (by (rw [setsOp_t (by omega)]; done))))) (by rfl)) (by rfl)) (by rfl), .box (by rfl) (.box (by rfl) (.nil)), rfl⟩
          ·have h9 := c_eql_f g9
           refine k_op0 (d := 52) (b := 705) (j' := 30) rfl rfl rfl rfl (g_ff rfl rfl rfl g9) (T_fa D (m := 0) rfl rfl rfl rfl rfl rfl) rfl ?_
           refine k_op0 (d := 53) (b := 721) (j' := 31) rfl rfl rfl rfl (g_ff rfl rfl rfl g9) (T_load_b D rfl rfl rfl rfl rfl rfl) rfl ?_
           refine k_op0 (d := 54) (b := 737) (j' := 32) rfl rfl rfl rfl (g_ff rfl rfl rfl g9) (T_cmp rfl rfl rfl rfl) rfl ?_
           refine q0 55 753 33 rfl rfl (T_pick_f rfl rfl rfl g9) rfl ?_
           refine k_done rfl ?_
           refine thenK_n ?_
           refine ⟨(), by (try dsimp only); omega, ?_⟩
           exact ⟨[(1, 1), (2, 209)], .eq rfl (.eq rfl (.eq rfl (.same rfl rfl (.same rfl rfl (.eq rfl (.nil) (by (by_cases h8 : t.op = 8; (rw [setsOp_t (by omega)]; simp [cmpB, h8]); (rw [setsOp_f (by omega)]; simp [cmpB, h8])))))) (by rfl)) (by rfl)) (by rfl), .box (by rfl) (.box (by rfl) (.nil)), rfl⟩
    refine W_cond rfl (fun g10 => ?_) (fun g10 => ?_)
    ·have h10 := g10; (try simp only [cmpB, decide_eq_true_eq, decide_eq_false_iff_not, beq_iff_eq, beq_eq_false_iff_ne, bne_iff_ne, ne_eq, bne_eq_false_iff_eq, Bool.not_eq_true', Bool.not_eq_false', Int.not_lt, Int.not_le] at h10)
     refine W_seq ?_
     refine W_seqK (b' := 67) rfl rfl ?_
     refine q0 56 3 1 rfl rfl (T_fa D (m := 1) rfl rfl rfl rfl rfl rfl) rfl ?_
     refine q0 57 19 2 rfl rfl (T_load_b D rfl rfl rfl rfl rfl rfl) rfl ?_
     refine q0 58 35 3 rfl rfl (T_fa D (m := 1) rfl rfl rfl rfl rfl rfl) rfl ?_
     refine s1 51 4 rfl rfl (T_stB D (cs' := [_, _, _, _, _, _, _, _]) rfl rfl rfl rfl (flat_v rfl) rfl rfl (Nat.le_of_ble_eq_true rfl) rfl) rfl ?_
     refine k_done rfl ?_
     refine thenK_n ?_
     refine W_seq ?_
     refine W_seqK (b' := 147) rfl rfl ?_
     refine q0 59 67 1 rfl rfl (T_fa D (m := 1) rfl rfl rfl rfl rfl rfl) rfl ?_
     refine q0 60 83 2 rfl rfl (T_load_b D rfl rfl rfl rfl rfl rfl) rfl ?_
     refine q0 61 99 3 rfl rfl (T_move rfl rfl) rfl ?_
     refine q0 62 115 4 rfl rfl (T_callV (lvs := [_, _]) (L := []) (within_spec _ _) body125 rfl rfl rfl rfl (.nil) rfl) rfl ?_
     refine q0 63 131 5 rfl rfl (T_not rfl rfl) rfl ?_
     refine k_done rfl ?_
     refine thenK_n ?_
     refine W_cond rfl (fun g11 => ?_) (fun g11 => ?_)
     ·have h11 := g11; (try simp only [cmpB, decide_eq_true_eq, decide_eq_false_iff_not, beq_iff_eq, beq_eq_false_iff_ne, bne_iff_ne, ne_eq, bne_eq_false_iff_eq, Bool.not_eq_true', Bool.not_eq_false', Int.not_lt, Int.not_le] at h11)
      refine W_seq ?_
      refine W_seqK (b' := 163) rfl rfl ?_
      refine q0 8 147 1 rfl rfl (T_assign rfl rfl) rfl ?_
      refine k_done rfl ?_
      refine thenK_n ?_
      refine W_ret ?_
      refine thenK_r ?_
      exact .mk [] (.inr rfl) (.tmp rfl (.nil)) (by (simp only [resLV, LV.ren, LV.v.injEq, Value.bool.injEq]; refine fits_no (fun hF => ?_); obtain ⟨a1, a2, a3, a4, a5, a6, a7, a8⟩ := hF; exact absurd ((a2 (by assumption)).symm.trans (by assumption : _ = false)) (by decide))) (.nil) rfl
     ·have h11 := g11; (try simp only [cmpB, decide_eq_true_eq, decide_eq_false_iff_not, beq_iff_eq, beq_eq_false_iff_ne, bne_iff_ne, ne_eq, bne_eq_false_iff_eq, Bool.not_eq_true', Bool.not_eq_false', Int.not_lt, Int.not_le] at h11)
      refine W_skip ?_
      refine thenK_n ?_
      refine ⟨(), by (try dsimp only); exact ⟨hj5, fun hs => by assumption⟩, ?_⟩
      exact ⟨[(1, 1), (2, 2)], .eq rfl (.eq rfl (.eq rfl (.same rfl rfl (.same rfl rfl (.nil))) (by rfl)) (by rfl)) (by rfl), .box (by rfl) (.box (by (rw [if_pos (by assumption)]; rfl)) (.nil)), rfl⟩
    ·have h10 := g10; (try simp only [cmpB, decide_eq_true_eq, decide_eq_false_iff_not, beq_iff_eq, beq_eq_false_iff_ne, bne_iff_ne, ne_eq, bne_eq_false_iff_eq, Bool.not_eq_true', Bool.not_eq_false', Int.not_lt, Int.not_le] at h10)
     refine W_skip ?_
     refine thenK_n ?_
     refine ⟨(), by (try dsimp only); exact ⟨hj5, fun hs => by exact absurd (hs.symm.trans (by assumption : _ = false)) (by decide)⟩, ?_⟩
     exact ⟨[(1, 1), (2, 2)], .eq rfl (.eq rfl (.eq rfl (.same rfl rfl (.same rfl rfl (.nil))) (by rfl)) (by rfl)) (by rfl), .box (by rfl) (.box (by (rw [if_neg (fun hs => absurd (hs.symm.trans (by assumption : _ = false)) (by decide))]; rfl)) (.nil)), rfl⟩
   refine W_seq ?_
   refine W_seqK (b' := 51) rfl rfl ?_
   refine q0 64 3 1 rfl rfl (T_load_bA D (l := [_, _, _, _, _, _, _, _]) rfl rfl rfl rfl rfl rfl rfl) rfl ?_
   refine q1 65 19 2 rfl rfl (T_callR (lvs := [_]) (L := []) (keep := false) (uses_spec _) body60 rfl rfl rfl rfl (.nil) rfl (.inl rfl) rfl) rfl ?_
   refine q0 10 35 3 rfl rfl (T_assign rfl rfl) rfl ?_
   refine k_done rfl ?_
   refine thenK_n ?_
   refine W_seq ?_
   refine W_seq ?_
   refine W_seqK (b' := 67) rfl rfl ?_
   refine q0 11 51 1 rfl rfl (T_assign rfl rfl) rfl ?_
   refine k_done rfl ?_
   refine thenK_n ?_
   refine W_block ?_
   refine W_loop (ι := Nat) 4 (fun j => ⟨[(1, .v (.int .i64 f)), (2, .v (.int .i64 regs)), (3, .v (.int .i64 words)), (4, .p 1 0), (9, .p 2 0), (10, .r 3), (11, .v (.int .i64 (j : Int)))], [(1, .box 70 [.v (.int .i64 t.op), .v (.int .i64 t.d), .v (.int .i64 t.a), .v (.int .i64 t.b), .v (.int .i64 t.k), .v (.int .i64 t.base), .v (.int .i64 t.size), .v (.int .u32 t.n)]), (2, .box 70 [.v (.int .i64 t.op), .v (.int .i64 (if setsOp t.op = true then t.d else 0)), .v (.int .i64 0), .v (.int .i64 0), .v (.int .i64 0), .v (.int .i64 0), .v (.int .i64 0), .v (.int .u32 0)]), (3, .row 3 1 ((usesT t).map eI))]⟩) (fun j => j ≤ (usesT t).length ∧ ∀ i, i < j → withinB ((usesT t).getD i default) regs = true) (fun j => (usesT t).length - j) (0) (by exact ⟨Nat.zero_le _, fun i h => absurd h (Nat.not_lt_zero _)⟩) ?_ (fun j hJ => ?_)
   ·exact ⟨[(1, 1), (2, 2), (3, 19)], .eq rfl (.eq rfl (.eq rfl (.same rfl rfl (.same rfl rfl (.same rfl rfl (.eq rfl (.nil) (by rfl))))) (by rfl)) (by rfl)) (by rfl), .box (by rfl) (.box (by rfl) (.rowE rfl (.nil) (by rfl))), rfl⟩
   have hul := usesT_le t
   refine W_seq ?_
   refine W_seq ?_
   refine W_seqK (b' := 68) rfl rfl ?_
   refine q0 66 4 1 rfl rfl (T_move rfl rfl) rfl ?_
   refine q0 67 20 2 rfl rfl (T_move rfl rfl) rfl ?_
   refine q0 68 36 3 rfl rfl (T_len D rfl rfl rfl rfl rfl rfl) rfl ?_
   refine q0 69 52 4 rfl rfl (T_cmp rfl rfl rfl rfl) rfl ?_
   refine k_done rfl ?_
   refine thenK_n ?_
   refine W_cond rfl (fun g12 => ?_) (fun g12 => ?_)
   ·have h12 := c_lss_t g12
    refine W_skip ?_
    refine thenK_n ?_
    refine W_seq ?_
    refine W_block ?_
    refine W_seq ?_
    refine W_seqK (b' := 180) rfl rfl ?_
    refine q0 72 68 1 rfl rfl (T_move rfl rfl) rfl ?_
    refine q0 73 84 2 rfl rfl (T_move rfl rfl) rfl ?_
    refine q0 74 100 3 rfl rfl (T_indexAddr D rfl rfl rfl rfl rfl rfl rfl rfl (by omega)) rfl ?_
    refine q0 75 116 4 rfl rfl (T_ldE D (lv := .v _) (nn := 0) (upd := []) rfl rfl rfl rfl rfl (by omega) rfl rfl rfl rfl) rfl ?_
    refine q0 76 132 5 rfl rfl (T_move rfl rfl) rfl ?_
    refine q0 77 148 6 rfl rfl (T_callV (lvs := [_, _]) (L := []) (within_spec _ _) body125 rfl rfl rfl rfl (.nil) rfl) rfl ?_
    refine q0 78 164 7 rfl rfl (T_not rfl rfl) rfl ?_
    refine k_done rfl ?_
    refine thenK_n ?_
    refine W_cond rfl (fun g13 => ?_) (fun g13 => ?_)
    ·have h13 := g13; (try simp only [cmpB, decide_eq_true_eq, decide_eq_false_iff_not, beq_iff_eq, beq_eq_false_iff_ne, bne_iff_ne, ne_eq, bne_eq_false_iff_eq, Bool.not_eq_true', Bool.not_eq_false', Int.not_lt, Int.not_le] at h13)
     refine W_seq ?_
     refine W_seqK (b' := 196) rfl rfl ?_
     refine q0 8 180 1 rfl rfl (T_assign rfl rfl) rfl ?_
     refine k_done rfl ?_
     refine thenK_n ?_
     refine W_ret ?_
     refine blockK_r ?_
     refine thenK_r ?_
     refine thenK_r ?_
     refine blockK_r ?_
     refine thenK_r ?_
     exact .mk [] (.inr rfl) (.tmp rfl (.nil)) (by (simp only [resLV, LV.ren, LV.v.injEq, Value.bool.injEq]; refine fits_no (fun hF => ?_); obtain ⟨a1, a2, a3, a4, a5, a6, a7, a8⟩ := hF; exact absurd ((a3 _ (getD_mem (i := j) (by omega))).symm.trans (by assumption : _ = false)) (by decide))) (.nil) rfl
    ·have h13 := g13; (try simp only [cmpB, decide_eq_true_eq, decide_eq_false_iff_not, beq_iff_eq, beq_eq_false_iff_ne, bne_iff_ne, ne_eq, bne_eq_false_iff_eq, Bool.not_eq_true', Bool.not_eq_false', Int.not_lt, Int.not_le] at h13)
     refine W_skip ?_
     refine blockK_n ?_
     refine thenK_n ?_
     refine W_seqK (b' := 228) rfl rfl ?_
     refine q0 70 180 1 rfl rfl (T_move rfl rfl) rfl ?_
     refine q0 71 196 2 rfl rfl (T_add64 rfl rfl rfl (by omega)) rfl ?_
     refine q0 11 212 3 rfl rfl (T_assign rfl rfl) rfl ?_
     refine k_done rfl ?_
     refine thenK_n ?_
     refine ⟨j + 1, by (try dsimp only); exact ⟨by omega, fun i hi => by rcases Nat.lt_or_ge i j with h | h; exact hJ.2 i h; rw [show i = j by omega]; assumption⟩, by (try dsimp only); omega, ?_⟩
     exact ⟨[(1, 1), (2, 2), (3, 3)], .eq rfl (.eq rfl (.eq rfl (.same rfl rfl (.same rfl rfl (.same rfl rfl (.eq rfl (.nil) (by rfl))))) rfl) rfl) rfl, .box (by rfl) (.box (by rfl) (.rowE rfl (.nil) (by rfl))), rfl⟩
   ·have h12 := c_lss_f g12
    refine W_exit ?_
    refine thenK_e ?_
    refine thenK_e ?_
    refine blockK_hit ?_
    refine thenK_n ?_
    refine W_join (ι := Unit) 4 (fun _u => ⟨[(1, .v (.int .i64 f)), (3, .v (.int .i64 words)), (4, .p 1 0), (9, .p 2 0), (10, .r 3)], [(1, .box 70 [.v (.int .i64 t.op), .v (.int .i64 t.d), .v (.int .i64 t.a), .v (.int .i64 t.b), .v (.int .i64 t.k), .v (.int .i64 t.base), .v (.int .i64 t.size), .v (.int .u32 t.n)]), (2, .box 70 [.v (.int .i64 t.op), .v (.int .i64 (if setsOp t.op = true then t.d else 0)), .v (.int .i64 (if 0 < (usesT t).length then t.a else 0)), .v (.int .i64 0), .v (.int .i64 0), .v (.int .i64 0), .v (.int .i64 0), .v (.int .u32 0)]), (3, .row 3 1 ((usesT t).map eI))]⟩) (fun _ => (1 ≤ t.op ∧ t.op ≤ 10) ∧ (setsOp t.op = true → withinB t.d regs = true) ∧ (∀ u ∈ usesT t, withinB u regs = true)) ?_ (fun _u hj16 => ?_)
    ·skip
     refine W_seq ?_
     refine W_seqK (b' := 116) rfl rfl ?_
     refine q0 79 68 1 rfl rfl (T_move rfl rfl) rfl ?_
     refine q0 80 84 2 rfl rfl (T_len D rfl rfl rfl rfl rfl rfl) rfl ?_
     refine q0 81 100 3 rfl rfl (T_cmp rfl rfl rfl rfl) rfl ?_
     refine k_done rfl ?_
     refine thenK_n ?_
     refine W_cond rfl (fun g14 => ?_) (fun g14 => ?_)
     ·have h14 := c_gtr_t g14
      refine W_seqK (b' := 180) rfl rfl ?_
      refine q0 82 116 1 rfl rfl (T_fa D (m := 2) rfl rfl rfl rfl rfl rfl) rfl ?_
      refine q0 83 132 2 rfl rfl (T_load_b D rfl rfl rfl rfl rfl rfl) rfl ?_
      refine q0 84 148 3 rfl rfl (T_fa D (m := 2) rfl rfl rfl rfl rfl rfl) rfl ?_
      refine s1 164 4 rfl rfl (T_stB D (cs' := [_, _, _, _, _, _, _, _]) rfl rfl rfl rfl (flat_v rfl) rfl rfl (Nat.le_of_ble_eq_true rfl) rfl) rfl ?_
      refine k_done rfl ?_
      refine thenK_n ?_
      refine ⟨(), by (try dsimp only); exact ⟨hj8.1, hj8.2, fun u hu => by obtain ⟨i, hi, rfl⟩ := mem_getD hu; exact hJ.2 i (by omega)⟩, ?_⟩
      exact ⟨[(1, 1), (2, 2), (3, 3)], .eq rfl (.eq rfl (.same rfl rfl (.same rfl rfl (.same rfl rfl (.nil)))) (by rfl)) (by rfl), .box (by rfl) (.box (by (rw [if_pos (show 0 < (usesT t).length by omega)]; rfl)) (.rowE rfl (.nil) (by rfl))), rfl⟩
     ·have h14 := c_gtr_f g14
      refine W_skip ?_
      refine thenK_n ?_
      refine ⟨(), by (try dsimp only); exact ⟨hj8.1, hj8.2, fun u hu => by obtain ⟨i, hi, rfl⟩ := mem_getD hu; exact hJ.2 i (by omega)⟩, ?_⟩
      exact ⟨[(1, 1), (2, 2), (3, 3)], .eq rfl (.eq rfl (.same rfl rfl (.same rfl rfl (.same rfl rfl (.nil)))) (by rfl)) (by rfl), .box (by rfl) (.box (by (rw [if_neg (show ¬ 0 < (usesT t).length by omega)]; rfl)) (.rowE rfl (.nil) (by rfl))), rfl⟩
    refine W_join (ι := Unit) 3 (fun _u => ⟨[(1, .v (.int .i64 f)), (3, .v (.int .i64 words)), (4, .p 1 0), (9, .p 2 0)], [(1, .box 70 [.v (.int .i64 t.op), .v (.int .i64 t.d), .v (.int .i64 t.a), .v (.int .i64 t.b), .v (.int .i64 t.k), .v (.int .i64 t.base), .v (.int .i64 t.size), .v (.int .u32 t.n)]), (2, .box 70 [.v (.int .i64 t.op), .v (.int .i64 (if setsOp t.op = true then t.d else 0)), .v (.int .i64 (if 0 < (usesT t).length then t.a else 0)), .v (.int .i64 (if 1 < (usesT t).length then t.b else 0)), .v (.int .i64 0), .v (.int .i64 0), .v (.int .i64 0), .v (.int .u32 0)])]⟩) (fun _ => (1 ≤ t.op ∧ t.op ≤ 10) ∧ (setsOp t.op = true → withinB t.d regs = true) ∧ (∀ u ∈ usesT t, withinB u regs = true)) ?_ (fun _u hj18 => ?_)
    ·skip
     refine W_seq ?_
     refine W_seqK (b' := 52) rfl rfl ?_
     refine q0 85 4 1 rfl rfl (T_move rfl rfl) rfl ?_
     refine q0 86 20 2 rfl rfl (T_len D rfl rfl rfl rfl rfl rfl) rfl ?_
     refine q0 87 36 3 rfl rfl (T_cmp rfl rfl rfl rfl) rfl ?_
     refine k_done rfl ?_
     refine thenK_n ?_
     refine W_cond rfl (fun g15 => ?_) (fun g15 => ?_)
     ·have h15 := c_gtr_t g15
      refine W_seqK (b' := 116) rfl rfl ?_
      refine q0 88 52 1 rfl rfl (T_fa D (m := 3) rfl rfl rfl rfl rfl rfl) rfl ?_
      refine q0 89 68 2 rfl rfl (T_load_b D rfl rfl rfl rfl rfl rfl) rfl ?_
      refine q0 90 84 3 rfl rfl (T_fa D (m := 3) rfl rfl rfl rfl rfl rfl) rfl ?_
      refine s1 100 4 rfl rfl (T_stB D (cs' := [_, _, _, _, _, _, _, _]) rfl rfl rfl rfl (flat_v rfl) rfl rfl (Nat.le_of_ble_eq_true rfl) rfl) rfl ?_
      refine k_done rfl ?_
      refine thenK_n ?_
      refine ⟨(), by (try dsimp only); exact hj16, ?_⟩
      exact ⟨[(1, 1), (2, 2)], .eq rfl (.eq rfl (.same rfl rfl (.same rfl rfl (.nil))) (by rfl)) (by rfl), .box (by rfl) (.box (by (rw [if_pos (show 1 < (usesT t).length by omega)]; rfl)) (.nil)), rfl⟩
     ·have h15 := c_gtr_f g15
      refine W_skip ?_
      refine thenK_n ?_
      refine ⟨(), by (try dsimp only); exact hj16, ?_⟩
      exact ⟨[(1, 1), (2, 2)], .eq rfl (.eq rfl (.same rfl rfl (.same rfl rfl (.nil))) (by rfl)) (by rfl), .box (by rfl) (.box (by (rw [if_neg (show ¬ 1 < (usesT t).length by omega)]; rfl)) (.nil)), rfl⟩
    refine W_seq ?_
    refine W_seq ?_
    refine W_seqK (b' := 35) rfl rfl ?_
    refine q0 91 3 1 rfl rfl (T_fa D (m := 0) rfl rfl rfl rfl rfl rfl) rfl ?_
    refine q0 92 19 2 rfl rfl (T_load_b D rfl rfl rfl rfl rfl rfl) rfl ?_
    refine k_done rfl ?_
    refine thenK_n ?_
    refine W_block ?_
    refine W_seq ?_
    refine W_seqK (b' := 67) rfl rfl ?_
    refine q0 94 35 1 rfl rfl (T_cmp rfl rfl rfl rfl) rfl ?_
    refine q0 93 51 2 rfl rfl (T_assign rfl rfl) rfl ?_
    refine k_done rfl ?_
    refine thenK_n ?_
    refine W_cond rfl (fun g16 => ?_) (fun g16 => ?_)
    ·have h16 := c_eql_t g16
     refine W_seqK (b' := 131) rfl rfl ?_
     refine q0 95 67 1 rfl rfl (T_fa D (m := 7) rfl rfl rfl rfl rfl rfl) rfl ?_
     refine q0 96 83 2 rfl rfl (T_load_b D rfl rfl rfl rfl rfl rfl) rfl ?_
     refine q0 97 99 3 rfl rfl (T_fa D (m := 7) rfl rfl rfl rfl rfl rfl) rfl ?_
     refine s1 115 4 rfl rfl (T_stB D (cs' := [_, _, _, _, _, _, _, _]) rfl rfl rfl rfl (flat_v rfl) rfl rfl (Nat.le_of_ble_eq_true rfl) rfl) rfl ?_
     refine k_done rfl ?_
     refine blockK_n ?_
     refine thenK_n ?_
     refine W_seq ?_
     refine W_seqK (b' := 195) rfl rfl ?_
     refine q0 163 131 1 rfl rfl (T_load_bA D (l := [_, _, _, _, _, _, _, _]) rfl rfl rfl rfl rfl rfl rfl) rfl ?_
     refine q0 164 147 2 rfl rfl (T_load_bA D (l := [_, _, _, _, _, _, _, _]) rfl rfl rfl rfl rfl rfl rfl) rfl ?_
     refine q0 165 163 3 rfl rfl (T_eqTac8 t rfl rfl rfl) rfl ?_
     refine q0 8 179 4 rfl rfl (T_assign rfl rfl) rfl ?_
     refine k_done rfl ?_
     refine thenK_n ?_
     refine W_ret ?_
     exact .mk [] (.inr rfl) (.tmp rfl (.nil)) (by (simp only [resLV, LV.ren, LV.v.injEq, Value.bool.injEq]; exact fits_fin hj18 (fun _ => by omega) (fun _ => by (exfalso; omega)) (fun _ => by omega) (fun _ => by (exfalso; omega)) (by exact (if_neg (by omega)).symm) (by exact (if_neg (by omega)).symm) (by exact (if_neg (by omega)).symm) (by exact (if_pos (by omega)).symm))) (.nil) rfl
    ·have h16 := c_eql_f g16
     refine W_seq ?_
     refine W_seqK (b' := 99) rfl rfl ?_
     refine q0 99 67 1 rfl rfl (T_cmp rfl rfl rfl rfl) rfl ?_
     refine q0 98 83 2 rfl rfl (T_assign rfl rfl) rfl ?_
     refine k_done rfl ?_
     refine thenK_n ?_
     refine W_cond rfl (fun g17 => ?_) (fun g17 => ?_)
     ·have h17 := c_eql_t g17
      refine W_seq ?_
      refine W_seqK (b' := 163) rfl rfl ?_
      refine q0 100 99 1 rfl rfl (T_fa D (m := 4) rfl rfl rfl rfl rfl rfl) rfl ?_
      refine q0 101 115 2 rfl rfl (T_load_b D rfl rfl rfl rfl rfl rfl) rfl ?_
      refine q0 102 131 3 rfl rfl (T_fa D (m := 4) rfl rfl rfl rfl rfl rfl) rfl ?_
      refine s1 147 4 rfl rfl (T_stB D (cs' := [_, _, _, _, _, _, _, _]) rfl rfl rfl rfl (flat_v rfl) rfl rfl (Nat.le_of_ble_eq_true rfl) rfl) rfl ?_
      refine k_done rfl ?_
      refine thenK_n ?_
      refine W_seq ?_
      refine W_seqK (b' := 291) rfl rfl ?_
      refine q0 103 163 1 rfl rfl (T_fa D (m := 4) rfl rfl rfl rfl rfl rfl) rfl ?_
      refine q0 104 179 2 rfl rfl (T_load_b D rfl rfl rfl rfl rfl rfl) rfl ?_
      refine q0 105 195 3 rfl rfl (T_cmp rfl rfl rfl rfl) rfl ?_
      refine q0 106 211 4 rfl rfl (T_move rfl rfl) rfl ?_
      refine k_split (d := 106) rfl (fun g18 => ?_) (fun g18 => ?_)
      ·have h18 := c_lss_t g18
       refine k_no (d := 107) (j' := 5) rfl rfl rfl (g_ft rfl rfl rfl g18) ?_
       refine k_no (d := 108) (j' := 6) rfl rfl rfl (g_ft rfl rfl rfl g18) ?_
       refine k_no (d := 109) (j' := 7) rfl rfl rfl (g_ft rfl rfl rfl g18) ?_
       refine q0 110 275 8 rfl rfl (T_pick_t rfl rfl rfl g18) rfl ?_
       refine k_done rfl ?_
       refine thenK_n ?_
       refine W_cond rfl (fun g19 => ?_) (fun g19 => ?_)
       ·skip
        refine W_seq ?_
        refine W_seqK (b' := 307) rfl rfl ?_
        refine q0 8 291 1 rfl rfl (T_assign rfl rfl) rfl ?_
        refine k_done rfl ?_
        refine thenK_n ?_
        refine W_ret ?_
        refine blockK_r ?_
        refine thenK_r ?_
        exact .mk [] (.inr rfl) (.tmp rfl (.nil)) (by (simp only [resLV, LV.ren, LV.v.injEq, Value.bool.injEq]; refine fits_no (fun hF => ?_); obtain ⟨a1, a2, a3, a4, a5, a6, a7, a8⟩ := hF; omega)) (.nil) rfl
       ·exact absurd (g19.symm.trans rfl) (by decide)
      ·have h18 := c_lss_f g18
       refine k_op0 (d := 107) (b := 227) (j' := 5) rfl rfl rfl rfl (g_ff rfl rfl rfl g18) (T_fa D (m := 4) rfl rfl rfl rfl rfl rfl) rfl ?_
       refine k_op0 (d := 108) (b := 243) (j' := 6) rfl rfl rfl rfl (g_ff rfl rfl rfl g18) (T_load_b D rfl rfl rfl rfl rfl rfl) rfl ?_
       refine k_op0 (d := 109) (b := 259) (j' := 7) rfl rfl rfl rfl (g_ff rfl rfl rfl g18) (T_cmp rfl rfl rfl rfl) rfl ?_
       refine q0 110 275 8 rfl rfl (T_pick_f rfl rfl rfl g18) rfl ?_
       refine k_done rfl ?_
       refine thenK_n ?_
       refine W_cond rfl (fun g20 => ?_) (fun g20 => ?_)
       ·have h20 := c_gtr_t g20
        refine W_seq ?_
        refine W_seqK (b' := 307) rfl rfl ?_
        refine q0 8 291 1 rfl rfl (T_assign rfl rfl) rfl ?_
        refine k_done rfl ?_
        refine thenK_n ?_
        refine W_ret ?_
        refine blockK_r ?_
        refine thenK_r ?_
        exact .mk [] (.inr rfl) (.tmp rfl (.nil)) (by (simp only [resLV, LV.ren, LV.v.injEq, Value.bool.injEq]; refine fits_no (fun hF => ?_); obtain ⟨a1, a2, a3, a4, a5, a6, a7, a8⟩ := hF; omega)) (.nil) rfl
       ·have h20 := c_gtr_f g20
        refine W_skip ?_
        refine blockK_n ?_
        refine thenK_n ?_
        refine W_seq ?_
        refine W_seqK (b' := 355) rfl rfl ?_
        refine q0 163 291 1 rfl rfl (T_load_bA D (l := [_, _, _, _, _, _, _, _]) rfl rfl rfl rfl rfl rfl rfl) rfl ?_
        refine q0 164 307 2 rfl rfl (T_load_bA D (l := [_, _, _, _, _, _, _, _]) rfl rfl rfl rfl rfl rfl rfl) rfl ?_
        refine q0 165 323 3 rfl rfl (T_eqTac8 t rfl rfl rfl) rfl ?_
        refine q0 8 339 4 rfl rfl (T_assign rfl rfl) rfl ?_
        refine k_done rfl ?_
        refine thenK_n ?_
        refine W_ret ?_
        exact .mk [] (.inr rfl) (.tmp rfl (.nil)) (by (simp only [resLV, LV.ren, LV.v.injEq, Value.bool.injEq]; exact fits_fin hj18 (fun _ => by omega) (fun _ => by (exfalso; omega)) (fun _ => by omega) (fun _ => by (exfalso; omega)) (by exact (if_pos (by omega)).symm) (by exact (if_neg (by omega)).symm) (by exact (if_neg (by omega)).symm) (by exact (if_neg (by omega)).symm))) (.nil) rfl
     ·have h17 := c_eql_f g17
      refine W_seq ?_
      refine W_seq ?_
      refine W_seqK (b' := 131) rfl rfl ?_
      refine q0 112 99 1 rfl rfl (T_cmp rfl rfl rfl rfl) rfl ?_
      refine q0 111 115 2 rfl rfl (T_assign rfl rfl) rfl ?_
      refine k_done rfl ?_
      refine thenK_n ?_
      refine W_cond rfl (fun g21 => ?_) (fun g21 => ?_)
      ·have h21 := c_eql_t g21
       refine W_skip ?_
       refine thenK_n ?_
       refine W_cond rfl (fun g22 => ?_) (fun g22 => ?_)
       ·skip
        refine W_seq ?_
        refine W_seqK (b' := 195) rfl rfl ?_
        refine q0 114 131 1 rfl rfl (T_fa D (m := 5) rfl rfl rfl rfl rfl rfl) rfl ?_
        refine q0 115 147 2 rfl rfl (T_load_b D rfl rfl rfl rfl rfl rfl) rfl ?_
        refine q0 116 163 3 rfl rfl (T_fa D (m := 5) rfl rfl rfl rfl rfl rfl) rfl ?_
        refine s1 179 4 rfl rfl (T_stB D (cs' := [_, _, _, _, _, _, _, _]) rfl rfl rfl rfl (flat_v rfl) rfl rfl (Nat.le_of_ble_eq_true rfl) rfl) rfl ?_
        refine k_done rfl ?_
        refine thenK_n ?_
        refine W_seq ?_
        refine W_seqK (b' := 275) rfl rfl ?_
        refine q0 117 195 1 rfl rfl (T_fa D (m := 5) rfl rfl rfl rfl rfl rfl) rfl ?_
        refine q0 118 211 2 rfl rfl (T_load_b D rfl rfl rfl rfl rfl rfl) rfl ?_
        refine q0 119 227 3 rfl rfl (T_move rfl rfl) rfl ?_
        refine q0 120 243 4 rfl rfl (T_callV (lvs := [_, _]) (L := []) (within_spec _ _) body125 rfl rfl rfl rfl (.nil) rfl) rfl ?_
        refine q0 121 259 5 rfl rfl (T_not rfl rfl) rfl ?_
        refine k_done rfl ?_
        refine thenK_n ?_
        refine W_cond rfl (fun g23 => ?_) (fun g23 => ?_)
        ·have h23 := g23; (try simp only [cmpB, decide_eq_true_eq, decide_eq_false_iff_not, beq_iff_eq, beq_eq_false_iff_ne, bne_iff_ne, ne_eq, bne_eq_false_iff_eq, Bool.not_eq_true', Bool.not_eq_false', Int.not_lt, Int.not_le] at h23)
         refine W_seq ?_
         refine W_seqK (b' := 291) rfl rfl ?_
         refine q0 8 275 1 rfl rfl (T_assign rfl rfl) rfl ?_
         refine k_done rfl ?_
         refine thenK_n ?_
         refine W_ret ?_
         refine blockK_r ?_
         refine thenK_r ?_
         exact .mk [] (.inr rfl) (.tmp rfl (.nil)) (by (simp only [resLV, LV.ren, LV.v.injEq, Value.bool.injEq]; refine fits_no (fun hF => ?_); obtain ⟨a1, a2, a3, a4, a5, a6, a7, a8⟩ := hF; exact absurd ((a5 (by omega)).symm.trans (by assumption : _ = false)) (by decide))) (.nil) rfl
        ·have h23 := g23; (try simp only [cmpB, decide_eq_true_eq, decide_eq_false_iff_not, beq_iff_eq, beq_eq_false_iff_ne, bne_iff_ne, ne_eq, bne_eq_false_iff_eq, Bool.not_eq_true', Bool.not_eq_false', Int.not_lt, Int.not_le] at h23)
         refine W_skip ?_
         refine blockK_n ?_
         refine thenK_n ?_
         refine W_seq ?_
         refine W_seqK (b' := 339) rfl rfl ?_
         refine q0 163 275 1 rfl rfl (T_load_bA D (l := [_, _, _, _, _, _, _, _]) rfl rfl rfl rfl rfl rfl rfl) rfl ?_
         refine q0 164 291 2 rfl rfl (T_load_bA D (l := [_, _, _, _, _, _, _, _]) rfl rfl rfl rfl rfl rfl rfl) rfl ?_
         refine q0 165 307 3 rfl rfl (T_eqTac8 t rfl rfl rfl) rfl ?_
         refine q0 8 323 4 rfl rfl (T_assign rfl rfl) rfl ?_
         refine k_done rfl ?_
         refine thenK_n ?_
         refine W_ret ?_
         exact .mk [] (.inr rfl) (.tmp rfl (.nil)) (by (simp only [resLV, LV.ren, LV.v.injEq, Value.bool.injEq]; exact fits_fin hj18 (fun _ => by omega) (fun _ => by assumption) (fun _ => by omega) (fun _ => by (exfalso; omega)) (by exact (if_neg (by omega)).symm) (by exact (if_pos (by omega)).symm) (by exact (if_neg (by omega)).symm) (by exact (if_neg (by omega)).symm))) (.nil) rfl
       ·exact absurd (g22.symm.trans g21) (by decide)
      ·have h21 := c_eql_f g21
       refine W_seqK (b' := 163) rfl rfl ?_
       refine q0 113 131 1 rfl rfl (T_cmp rfl rfl rfl rfl) rfl ?_
       refine q0 111 147 2 rfl rfl (T_assign rfl rfl) rfl ?_
       refine k_done rfl ?_
       refine thenK_n ?_
       refine W_cond rfl (fun g24 => ?_) (fun g24 => ?_)
       ·have h24 := c_eql_t g24
        refine W_seq ?_
        refine W_seqK (b' := 227) rfl rfl ?_
        refine q0 114 163 1 rfl rfl (T_fa D (m := 5) rfl rfl rfl rfl rfl rfl) rfl ?_
        refine q0 115 179 2 rfl rfl (T_load_b D rfl rfl rfl rfl rfl rfl) rfl ?_
        refine q0 116 195 3 rfl rfl (T_fa D (m := 5) rfl rfl rfl rfl rfl rfl) rfl ?_
        refine s1 211 4 rfl rfl (T_stB D (cs' := [_, _, _, _, _, _, _, _]) rfl rfl rfl rfl (flat_v rfl) rfl rfl (Nat.le_of_ble_eq_true rfl) rfl) rfl ?_
        refine k_done rfl ?_
        refine thenK_n ?_
        refine W_seq ?_
        refine W_seqK (b' := 307) rfl rfl ?_
        refine q0 117 227 1 rfl rfl (T_fa D (m := 5) rfl rfl rfl rfl rfl rfl) rfl ?_
        refine q0 118 243 2 rfl rfl (T_load_b D rfl rfl rfl rfl rfl rfl) rfl ?_
        refine q0 119 259 3 rfl rfl (T_move rfl rfl) rfl ?_
        refine q0 120 275 4 rfl rfl (T_callV (lvs := [_, _]) (L := []) (within_spec _ _) body125 rfl rfl rfl rfl (.nil) rfl) rfl ?_
        refine q0 121 291 5 rfl rfl (T_not rfl rfl) rfl ?_
        refine k_done rfl ?_
        refine thenK_n ?_
        refine W_cond rfl (fun g25 => ?_) (fun g25 => ?_)
        ·have h25 := g25; (try simp only [cmpB, decide_eq_true_eq, decide_eq_false_iff_not, beq_iff_eq, beq_eq_false_iff_ne, bne_iff_ne, ne_eq, bne_eq_false_iff_eq, Bool.not_eq_true', Bool.not_eq_false', Int.not_lt, Int.not_le] at h25)
         refine W_seq ?_
         refine W_seqK (b' := 323) rfl rfl ?_
         refine q0 8 307 1 rfl rfl (T_assign rfl rfl) rfl ?_
         refine k_done rfl ?_
         refine thenK_n ?_
         refine W_ret ?_
         refine blockK_r ?_
         refine thenK_r ?_
         exact .mk [] (.inr rfl) (.tmp rfl (.nil)) (by (simp only [resLV, LV.ren, LV.v.injEq, Value.bool.injEq]; refine fits_no (fun hF => ?_); obtain ⟨a1, a2, a3, a4, a5, a6, a7, a8⟩ := hF; exact absurd ((a5 (by omega)).symm.trans (by assumption : _ = false)) (by decide))) (.nil) rfl
        ·have h25 := g25; (try simp only [cmpB, decide_eq_true_eq, decide_eq_false_iff_not, beq_iff_eq, beq_eq_false_iff_ne, bne_iff_ne, ne_eq, bne_eq_false_iff_eq, Bool.not_eq_true', Bool.not_eq_false', Int.not_lt, Int.not_le] at h25)
         refine W_skip ?_
         refine blockK_n ?_
         refine thenK_n ?_
         refine W_seq ?_
         refine W_seqK (b' := 371) rfl rfl ?_
         refine q0 163 307 1 rfl rfl (T_load_bA D (l := [_, _, _, _, _, _, _, _]) rfl rfl rfl rfl rfl rfl rfl) rfl ?_
         refine q0 164 323 2 rfl rfl (T_load_bA D (l := [_, _, _, _, _, _, _, _]) rfl rfl rfl rfl rfl rfl rfl) rfl ?_
         refine q0 165 339 3 rfl rfl (T_eqTac8 t rfl rfl rfl) rfl ?_
         refine q0 8 355 4 rfl rfl (T_assign rfl rfl) rfl ?_
         refine k_done rfl ?_
         refine thenK_n ?_
         refine W_ret ?_
         exact .mk [] (.inr rfl) (.tmp rfl (.nil)) (by (simp only [resLV, LV.ren, LV.v.injEq, Value.bool.injEq]; exact fits_fin hj18 (fun _ => by omega) (fun _ => by assumption) (fun _ => by omega) (fun _ => by (exfalso; omega)) (by exact (if_neg (by omega)).symm) (by exact (if_pos (by omega)).symm) (by exact (if_neg (by omega)).symm) (by exact (if_neg (by omega)).symm))) (.nil) rfl
       ·have h24 := c_eql_f g24
        refine W_seq ?_
        refine W_seq ?_
        refine W_seqK (b' := 195) rfl rfl ?_
        refine q0 123 163 1 rfl rfl (T_cmp rfl rfl rfl rfl) rfl ?_
        refine q0 122 179 2 rfl rfl (T_assign rfl rfl) rfl ?_
        refine k_done rfl ?_
        refine thenK_n ?_
        refine W_cond rfl (fun g26 => ?_) (fun g26 => ?_)
        ·have h26 := c_eql_t g26
         refine W_skip ?_
         refine thenK_n ?_
         refine W_cond rfl (fun g27 => ?_) (fun g27 => ?_)
         ·skip
          refine W_seq ?_
          refine W_anyK (b' := 323) rfl rfl rfl ?_
          refine q0 125 195 1 rfl rfl (T_fa D (m := 5) rfl rfl rfl rfl rfl rfl) rfl ?_
          refine q0 126 211 2 rfl rfl (T_load_b D rfl rfl rfl rfl rfl rfl) rfl ?_
          refine q0 127 227 3 rfl rfl (T_fa D (m := 6) rfl rfl rfl rfl rfl rfl) rfl ?_
          refine q0 128 243 4 rfl rfl (T_load_b D rfl rfl rfl rfl rfl rfl) rfl ?_
          refine q0 129 259 5 rfl rfl (T_fa D (m := 5) rfl rfl rfl rfl rfl rfl) rfl ?_
          refine s1 275 6 rfl rfl (T_stB D (cs' := [_, _, _, _, _, _, _, _]) rfl rfl rfl rfl (flat_v rfl) rfl rfl (Nat.le_of_ble_eq_true rfl) rfl) rfl ?_
          refine q0 130 291 7 rfl rfl (T_fa D (m := 6) rfl rfl rfl rfl rfl rfl) rfl ?_
          refine s1 307 8 rfl rfl (T_stB D (cs' := [_, _, _, _, _, _, _, _]) rfl rfl rfl rfl (flat_v rfl) rfl rfl (Nat.le_of_ble_eq_true rfl) rfl) rfl ?_
          refine k_done rfl ?_
          refine ⟨rfl, ?_⟩
          refine thenK_n ?_
          refine W_seq ?_
          refine W_seqK (b' := 675) rfl rfl ?_
          refine q0 131 323 1 rfl rfl (T_fa D (m := 6) rfl rfl rfl rfl rfl rfl) rfl ?_
          refine q0 132 339 2 rfl rfl (T_load_b D rfl rfl rfl rfl rfl rfl) rfl ?_
          refine q0 133 355 3 rfl rfl (T_cmp rfl rfl rfl rfl) rfl ?_
          refine q0 134 371 4 rfl rfl (T_move rfl rfl) rfl ?_
          refine k_split (d := 134) rfl (fun g28 => ?_) (fun g28 => ?_)
          ·have h28 := c_lss_t g28
           refine k_no (d := 135) (j' := 5) rfl rfl rfl (g_ft rfl rfl rfl g28) ?_
           refine k_no (d := 136) (j' := 6) rfl rfl rfl (g_ft rfl rfl rfl g28) ?_
           refine k_no (d := 137) (j' := 7) rfl rfl rfl (g_ft rfl rfl rfl g28) ?_
           refine q0 138 435 8 rfl rfl (T_pick_t rfl rfl rfl g28) rfl ?_
           refine q0 139 451 9 rfl rfl (T_move rfl rfl) rfl ?_
           refine k_no (d := 140) (j' := 10) rfl rfl rfl (g_ft rfl rfl rfl rfl) ?_
           refine k_no (d := 141) (j' := 11) rfl rfl rfl (g_ft rfl rfl rfl rfl) ?_
           refine k_no (d := 142) (j' := 12) rfl rfl rfl (g_ft rfl rfl rfl rfl) ?_
           refine q0 143 515 13 rfl rfl (T_pick_t rfl rfl rfl rfl) rfl ?_
           refine q0 144 531 14 rfl rfl (T_move rfl rfl) rfl ?_
           refine k_no (d := 145) (j' := 15) rfl rfl rfl (g_ft rfl rfl rfl rfl) ?_
           refine k_no (d := 146) (j' := 16) rfl rfl rfl (g_ft rfl rfl rfl rfl) ?_
           refine k_no (d := 147) (j' := 17) rfl rfl rfl (g_ft rfl rfl rfl rfl) ?_
           refine k_no (d := 148) (j' := 18) rfl rfl rfl (g_ft rfl rfl rfl rfl) ?_
           refine k_no (d := 149) (j' := 19) rfl rfl rfl (g_ft rfl rfl rfl rfl) ?_
           refine k_no (d := 150) (j' := 20) rfl rfl rfl (g_ft rfl rfl rfl rfl) ?_
           refine k_no (d := 151) (j' := 21) rfl rfl rfl (g_ft rfl rfl rfl rfl) ?_
           refine q0 152 659 22 rfl rfl (T_pick_t rfl rfl rfl rfl) rfl ?_
           refine k_done rfl ?_
           refine thenK_n ?_
           refine W_cond rfl (fun g29 => ?_) (fun g29 => ?_)
           ·skip
            refine W_seq ?_
            refine W_seqK (b' := 691) rfl rfl ?_
            refine q0 8 675 1 rfl rfl (T_assign rfl rfl) rfl ?_
            refine k_done rfl ?_
            refine thenK_n ?_
            refine W_ret ?_
            refine blockK_r ?_
            refine thenK_r ?_
            exact .mk [] (.inr rfl) (.tmp rfl (.nil)) (by (simp only [resLV, LV.ren, LV.v.injEq, Value.bool.injEq]; refine fits_no (fun hF => ?_); obtain ⟨a1, a2, a3, a4, a5, a6, a7, a8⟩ := hF; omega)) (.nil) rfl
           ·exact absurd (g29.symm.trans rfl) (by decide)
          ·have h28 := c_lss_f g28
           refine k_op0 (d := 135) (b := 387) (j' := 5) rfl rfl rfl rfl (g_ff rfl rfl rfl g28) (T_fa D (m := 6) rfl rfl rfl rfl rfl rfl) rfl ?_
           refine k_op0 (d := 136) (b := 403) (j' := 6) rfl rfl rfl rfl (g_ff rfl rfl rfl g28) (T_load_b D rfl rfl rfl rfl rfl rfl) rfl ?_
           refine k_op0 (d := 137) (b := 419) (j' := 7) rfl rfl rfl rfl (g_ff rfl rfl rfl g28) (T_cmp rfl rfl rfl rfl) rfl ?_
           refine q0 138 435 8 rfl rfl (T_pick_f rfl rfl rfl g28) rfl ?_
           refine q0 139 451 9 rfl rfl (T_move rfl rfl) rfl ?_
           refine k_split (d := 139) rfl (fun g30 => ?_) (fun g30 => ?_)
           ·have h30 := c_gtr_t g30
            refine k_no (d := 140) (j' := 10) rfl rfl rfl (g_ft rfl rfl rfl g30) ?_
            refine k_no (d := 141) (j' := 11) rfl rfl rfl (g_ft rfl rfl rfl g30) ?_
            refine k_no (d := 142) (j' := 12) rfl rfl rfl (g_ft rfl rfl rfl g30) ?_
            refine q0 143 515 13 rfl rfl (T_pick_t rfl rfl rfl g30) rfl ?_
            refine q0 144 531 14 rfl rfl (T_move rfl rfl) rfl ?_
            refine k_no (d := 145) (j' := 15) rfl rfl rfl (g_ft rfl rfl rfl rfl) ?_
            refine k_no (d := 146) (j' := 16) rfl rfl rfl (g_ft rfl rfl rfl rfl) ?_
            refine k_no (d := 147) (j' := 17) rfl rfl rfl (g_ft rfl rfl rfl rfl) ?_
            refine k_no (d := 148) (j' := 18) rfl rfl rfl (g_ft rfl rfl rfl rfl) ?_
            refine k_no (d := 149) (j' := 19) rfl rfl rfl (g_ft rfl rfl rfl rfl) ?_
            refine k_no (d := 150) (j' := 20) rfl rfl rfl (g_ft rfl rfl rfl rfl) ?_
            refine k_no (d := 151) (j' := 21) rfl rfl rfl (g_ft rfl rfl rfl rfl) ?_
            refine q0 152 659 22 rfl rfl (T_pick_t rfl rfl rfl rfl) rfl ?_
            refine k_done rfl ?_
            refine thenK_n ?_
            refine W_cond rfl (fun g31 => ?_) (fun g31 => ?_)
            ·skip
             refine W_seq ?_
             refine W_seqK (b' := 691) rfl rfl ?_
             refine q0 8 675 1 rfl rfl (T_assign rfl rfl) rfl ?_
             refine k_done rfl ?_
             refine thenK_n ?_
             refine W_ret ?_
             refine blockK_r ?_
             refine thenK_r ?_
             exact .mk [] (.inr rfl) (.tmp rfl (.nil)) (by (simp only [resLV, LV.ren, LV.v.injEq, Value.bool.injEq]; refine fits_no (fun hF => ?_); obtain ⟨a1, a2, a3, a4, a5, a6, a7, a8⟩ := hF; omega)) (.nil) rfl
            ·exact absurd (g31.symm.trans rfl) (by decide)
           ·have h30 := c_gtr_f g30
            refine k_op0 (d := 140) (b := 467) (j' := 10) rfl rfl rfl rfl (g_ff rfl rfl rfl g30) (T_fa D (m := 5) rfl rfl rfl rfl rfl rfl) rfl ?_
            refine k_op0 (d := 141) (b := 483) (j' := 11) rfl rfl rfl rfl (g_ff rfl rfl rfl g30) (T_load_b D rfl rfl rfl rfl rfl rfl) rfl ?_
            refine k_op0 (d := 142) (b := 499) (j' := 12) rfl rfl rfl rfl (g_ff rfl rfl rfl g30) (T_cmp rfl rfl rfl rfl) rfl ?_
            refine q0 143 515 13 rfl rfl (T_pick_f rfl rfl rfl g30) rfl ?_
            refine q0 144 531 14 rfl rfl (T_move rfl rfl) rfl ?_
            refine k_split (d := 144) rfl (fun g32 => ?_) (fun g32 => ?_)
            ·have h32 := c_lss_t g32
             refine k_no (d := 145) (j' := 15) rfl rfl rfl (g_ft rfl rfl rfl g32) ?_
             refine k_no (d := 146) (j' := 16) rfl rfl rfl (g_ft rfl rfl rfl g32) ?_
             refine k_no (d := 147) (j' := 17) rfl rfl rfl (g_ft rfl rfl rfl g32) ?_
             refine k_no (d := 148) (j' := 18) rfl rfl rfl (g_ft rfl rfl rfl g32) ?_
             refine k_no (d := 149) (j' := 19) rfl rfl rfl (g_ft rfl rfl rfl g32) ?_
             refine k_no (d := 150) (j' := 20) rfl rfl rfl (g_ft rfl rfl rfl g32) ?_
             refine k_no (d := 151) (j' := 21) rfl rfl rfl (g_ft rfl rfl rfl g32) ?_
             refine q0 152 659 22 rfl rfl (T_pick_t rfl rfl rfl g32) rfl ?_
             refine k_done rfl ?_
             refine thenK_n ?_
             refine W_cond rfl (fun g33 => ?_) (fun g33 => ?_)
             ·skip
              refine W_seq ?_
              refine W_seqK (b' := 691) rfl rfl ?_
              refine q0 8 675 1 rfl rfl (T_assign rfl rfl) rfl ?_
              refine k_done rfl ?_
              refine thenK_n ?_
              refine W_ret ?_
              refine blockK_r ?_
              refine thenK_r ?_
              exact .mk [] (.inr rfl) (.tmp rfl (.nil)) (by (simp only [resLV, LV.ren, LV.v.injEq, Value.bool.injEq]; refine fits_no (fun hF => ?_); obtain ⟨a1, a2, a3, a4, a5, a6, a7, a8⟩ := hF; omega)) (.nil) rfl
             ·exact absurd (g33.symm.trans rfl) (by decide)
            ·have h32 := c_lss_f g32
             refine k_op0 (d := 145) (b := 547) (j' := 15) rfl rfl rfl rfl (g_ff rfl rfl rfl g32) (T_fa D (m := 5) rfl rfl rfl rfl rfl rfl) rfl ?_
             refine k_op0 (d := 146) (b := 563) (j' := 16) rfl rfl rfl rfl (g_ff rfl rfl rfl g32) (T_load_b D rfl rfl rfl rfl rfl rfl) rfl ?_
             refine k_op0 (d := 147) (b := 579) (j' := 17) rfl rfl rfl rfl (g_ff rfl rfl rfl g32) (T_move rfl rfl) rfl ?_
             refine k_op0 (d := 148) (b := 595) (j' := 18) rfl rfl rfl rfl (g_ff rfl rfl rfl g32) (T_fa D (m := 6) rfl rfl rfl rfl rfl rfl) rfl ?_
             refine k_op0 (d := 149) (b := 611) (j' := 19) rfl rfl rfl rfl (g_ff rfl rfl rfl g32) (T_load_b D rfl rfl rfl rfl rfl rfl) rfl ?_
             refine k_op0 (d := 150) (b := 627) (j' := 20) rfl rfl rfl rfl (g_ff rfl rfl rfl g32) (T_sub64 rfl rfl rfl (by omega)) rfl ?_
             refine k_op0 (d := 151) (b := 643) (j' := 21) rfl rfl rfl rfl (g_ff rfl rfl rfl g32) (T_cmp rfl rfl rfl rfl) rfl ?_
             refine q0 152 659 22 rfl rfl (T_pick_f rfl rfl rfl g32) rfl ?_
             refine k_done rfl ?_
             refine thenK_n ?_
             refine W_cond rfl (fun g34 => ?_) (fun g34 => ?_)
             ·have h34 := c_gtr_t g34
              refine W_seq ?_
              refine W_seqK (b' := 691) rfl rfl ?_
              refine q0 8 675 1 rfl rfl (T_assign rfl rfl) rfl ?_
              refine k_done rfl ?_
              refine thenK_n ?_
              refine W_ret ?_
              refine blockK_r ?_
              refine thenK_r ?_
              exact .mk [] (.inr rfl) (.tmp rfl (.nil)) (by (simp only [resLV, LV.ren, LV.v.injEq, Value.bool.injEq]; refine fits_no (fun hF => ?_); obtain ⟨a1, a2, a3, a4, a5, a6, a7, a8⟩ := hF; omega)) (.nil) rfl
             ·have h34 := c_gtr_f g34
              refine W_skip ?_
              refine blockK_n ?_
              refine thenK_n ?_
              refine W_seq ?_
              refine W_seqK (b' := 739) rfl rfl ?_
              refine q0 163 675 1 rfl rfl (T_load_bA D (l := [_, _, _, _, _, _, _, _]) rfl rfl rfl rfl rfl rfl rfl) rfl ?_
              refine q0 164 691 2 rfl rfl (T_load_bA D (l := [_, _, _, _, _, _, _, _]) rfl rfl rfl rfl rfl rfl rfl) rfl ?_
              refine q0 165 707 3 rfl rfl (T_eqTac8 t rfl rfl rfl) rfl ?_
              refine q0 8 723 4 rfl rfl (T_assign rfl rfl) rfl ?_
              refine k_done rfl ?_
              refine thenK_n ?_
              refine W_ret ?_
              exact .mk [] (.inr rfl) (.tmp rfl (.nil)) (by (simp only [resLV, LV.ren, LV.v.injEq, Value.bool.injEq]; exact fits_fin hj18 (fun _ => by omega) (fun _ => by (exfalso; omega)) (fun _ => by omega) (fun _ => by (exfalso; omega)) (by exact (if_neg (by omega)).symm) (by exact (if_pos (by omega)).symm) (by exact (if_pos (by omega)).symm) (by exact (if_neg (by omega)).symm))) (.nil) rfl
         ·exact absurd (g27.symm.trans g26) (by decide)
        ·have h26 := c_eql_f g26
         refine W_seqK (b' := 227) rfl rfl ?_
         refine q0 124 195 1 rfl rfl (T_cmp rfl rfl rfl rfl) rfl ?_
         refine q0 122 211 2 rfl rfl (T_assign rfl rfl) rfl ?_
         refine k_done rfl ?_
         refine thenK_n ?_
         refine W_cond rfl (fun g35 => ?_) (fun g35 => ?_)
         ·have h35 := c_eql_t g35
          refine W_seq ?_
          refine W_anyK (b' := 355) rfl rfl rfl ?_
          refine q0 125 227 1 rfl rfl (T_fa D (m := 5) rfl rfl rfl rfl rfl rfl) rfl ?_
          refine q0 126 243 2 rfl rfl (T_load_b D rfl rfl rfl rfl rfl rfl) rfl ?_
          refine q0 127 259 3 rfl rfl (T_fa D (m := 6) rfl rfl rfl rfl rfl rfl) rfl ?_
          refine q0 128 275 4 rfl rfl (T_load_b D rfl rfl rfl rfl rfl rfl) rfl ?_
          refine q0 129 291 5 rfl rfl (T_fa D (m := 5) rfl rfl rfl rfl rfl rfl) rfl ?_
          refine s1 307 6 rfl rfl (T_stB D (cs' := [_, _, _, _, _, _, _, _]) rfl rfl rfl rfl (flat_v rfl) rfl rfl (Nat.le_of_ble_eq_true rfl) rfl) rfl ?_
          refine q0 130 323 7 rfl rfl (T_fa D (m := 6) rfl rfl rfl rfl rfl rfl) rfl ?_
          refine s1 339 8 rfl rfl (T_stB D (cs' := [_, _, _, _, _, _, _, _]) rfl rfl rfl rfl (flat_v rfl) rfl rfl (Nat.le_of_ble_eq_true rfl) rfl) rfl ?_
          refine k_done rfl ?_
          refine ⟨rfl, ?_⟩
          refine thenK_n ?_
          refine W_seq ?_
          refine W_seqK (b' := 707) rfl rfl ?_
          refine q0 131 355 1 rfl rfl (T_fa D (m := 6) rfl rfl rfl rfl rfl rfl) rfl ?_
          refine q0 132 371 2 rfl rfl (T_load_b D rfl rfl rfl rfl rfl rfl) rfl ?_
          refine q0 133 387 3 rfl rfl (T_cmp rfl rfl rfl rfl) rfl ?_
          refine q0 134 403 4 rfl rfl (T_move rfl rfl) rfl ?_
          refine k_split (d := 134) rfl (fun g36 => ?_) (fun g36 => ?_)
          ·have h36 := c_lss_t g36
           refine k_no (d := 135) (j' := 5) rfl rfl rfl (g_ft rfl rfl rfl g36) ?_
           refine k_no (d := 136) (j' := 6) rfl rfl rfl (g_ft rfl rfl rfl g36) ?_
           refine k_no (d := 137) (j' := 7) rfl rfl rfl (g_ft rfl rfl rfl g36) ?_
           refine q0 138 467 8 rfl rfl (T_pick_t rfl rfl rfl g36) rfl ?_
           refine q0 139 483 9 rfl rfl (T_move rfl rfl) rfl ?_
           refine k_no (d := 140) (j' := 10) rfl rfl rfl (g_ft rfl rfl rfl rfl) ?_
           refine k_no (d := 141) (j' := 11) rfl rfl rfl (g_ft rfl rfl rfl rfl) ?_
           refine k_no (d := 142) (j' := 12) rfl rfl rfl (g_ft rfl rfl rfl rfl) ?_
           refine q0 143 547 13 rfl rfl (T_pick_t rfl rfl rfl rfl) rfl ?_
           refine q0 144 563 14 rfl rfl (T_move rfl rfl) rfl ?_
           refine k_no (d := 145) (j' := 15) rfl rfl rfl (g_ft rfl rfl rfl rfl) ?_
           refine k_no (d := 146) (j' := 16) rfl rfl rfl (g_ft rfl rfl rfl rfl) ?_
           refine k_no (d := 147) (j' := 17) rfl rfl rfl (g_ft rfl rfl rfl rfl) ?_
           refine k_no (d := 148) (j' := 18) rfl rfl rfl (g_ft rfl rfl rfl rfl) ?_
           refine k_no (d := 149) (j' := 19) rfl rfl rfl (g_ft rfl rfl rfl rfl) ?_
           refine k_no (d := 150) (j' := 20) rfl rfl rfl (g_ft rfl rfl rfl rfl) ?_
           refine k_no (d := 151) (j' := 21) rfl rfl rfl (g_ft rfl rfl rfl rfl) ?_
           refine q0 152 691 22 rfl rfl (T_pick_t rfl rfl rfl rfl) rfl ?_
           refine k_done rfl ?_
           refine thenK_n ?_
           refine W_cond rfl (fun g37 => ?_) (fun g37 => ?_)
           ·skip
            refine W_seq ?_
            refine W_seqK (b' := 723) rfl rfl ?_
            refine q0 8 707 1 rfl rfl (T_assign rfl rfl) rfl ?_
            refine k_done rfl ?_
            refine thenK_n ?_
            refine W_ret ?_
            refine blockK_r ?_
            refine thenK_r ?_
            exact .mk [] (.inr rfl) (.tmp rfl (.nil)) (by (simp only [resLV, LV.ren, LV.v.injEq, Value.bool.injEq]; refine fits_no (fun hF => ?_); obtain ⟨a1, a2, a3, a4, a5, a6, a7, a8⟩ := hF; omega)) (.nil) rfl
           ·exact absurd (g37.symm.trans rfl) (by decide)
          ·have h36 := c_lss_f g36
           refine k_op0 (d := 135) (b := 419) (j' := 5) rfl rfl rfl rfl (g_ff rfl rfl rfl g36) (T_fa D (m := 6) rfl rfl rfl rfl rfl rfl) rfl ?_
           refine k_op0 (d := 136) (b := 435) (j' := 6) rfl rfl rfl rfl (g_ff rfl rfl rfl g36) (T_load_b D rfl rfl rfl rfl rfl rfl) rfl ?_
           refine k_op0 (d := 137) (b := 451) (j' := 7) rfl rfl rfl rfl (g_ff rfl rfl rfl g36) (T_cmp rfl rfl rfl rfl) rfl ?_
           refine q0 138 467 8 rfl rfl (T_pick_f rfl rfl rfl g36) rfl ?_
           refine q0 139 483 9 rfl rfl (T_move rfl rfl) rfl ?_
           refine k_split (d := 139) rfl (fun g38 => ?_) (fun g38 => ?_)
           ·have h38 := c_gtr_t g38
            refine k_no (d := 140) (j' := 10) rfl rfl rfl (g_ft rfl rfl rfl g38) ?_
            refine k_no (d := 141) (j' := 11) rfl rfl rfl (g_ft rfl rfl rfl g38) ?_
            refine k_no (d := 142) (j' := 12) rfl rfl rfl (g_ft rfl rfl rfl g38) ?_
            refine q0 143 547 13 rfl rfl (T_pick_t rfl rfl rfl g38) rfl ?_
            refine q0 144 563 14 rfl rfl (T_move rfl rfl) rfl ?_
            refine k_no (d := 145) (j' := 15) rfl rfl rfl (g_ft rfl rfl rfl rfl) ?_
            refine k_no (d := 146) (j' := 16) rfl rfl rfl (g_ft rfl rfl rfl rfl) ?_
            refine k_no (d := 147) (j' := 17) rfl rfl rfl (g_ft rfl rfl rfl rfl) ?_
            refine k_no (d := 148) (j' := 18) rfl rfl rfl (g_ft rfl rfl rfl rfl) ?_
            refine k_no (d := 149) (j' := 19) rfl rfl rfl (g_ft rfl rfl rfl rfl) ?_
            refine k_no (d := 150) (j' := 20) rfl rfl rfl (g_ft rfl rfl rfl rfl) ?_
            refine k_no (d := 151) (j' := 21) rfl rfl rfl (g_ft rfl rfl rfl rfl) ?_
            refine q0 152 691 22 rfl rfl (T_pick_t rfl rfl rfl rfl) rfl ?_
            refine k_done rfl ?_
            refine thenK_n ?_
            refine W_cond rfl (fun g39 => ?_) (fun g39 => ?_)
            ·skip
             refine W_seq ?_
             refine W_seqK (b' := 723) rfl rfl ?_
             refine q0 8 707 1 rfl rfl (T_assign rfl rfl) rfl ?_
             refine k_done rfl ?_
             refine thenK_n ?_
             refine W_ret ?_
             refine blockK_r ?_
             refine thenK_r ?_
             exact .mk [] (.inr rfl) (.tmp rfl (.nil)) (by (simp only [resLV, LV.ren, LV.v.injEq, Value.bool.injEq]; refine fits_no (fun hF => ?_); obtain ⟨a1, a2, a3, a4, a5, a6, a7, a8⟩ := hF; omega)) (.nil) rfl
            ·exact absurd (g39.symm.trans rfl) (by decide)
           ·have h38 := c_gtr_f g38
            refine k_op0 (d := 140) (b := 499) (j' := 10) rfl rfl rfl rfl (g_ff rfl rfl rfl g38) (T_fa D (m := 5) rfl rfl rfl rfl rfl rfl) rfl ?_
            refine k_op0 (d := 141) (b := 515) (j' := 11) rfl rfl rfl rfl (g_ff rfl rfl rfl g38) (T_load_b D rfl rfl rfl rfl rfl rfl) rfl ?_
            refine k_op0 (d := 142) (b := 531) (j' := 12) rfl rfl rfl rfl (g_ff rfl rfl rfl g38) (T_cmp rfl rfl rfl rfl) rfl ?_
            refine q0 143 547 13 rfl rfl (T_pick_f rfl rfl rfl g38) rfl ?_
            refine q0 144 563 14 rfl rfl (T_move rfl rfl) rfl ?_
            refine k_split (d := 144) rfl (fun g40 => ?_) (fun g40 => ?_)
            ·have h40 := c_lss_t g40
             refine k_no (d := 145) (j' := 15) rfl rfl rfl (g_ft rfl rfl rfl g40) ?_
             refine k_no (d := 146) (j' := 16) rfl rfl rfl (g_ft rfl rfl rfl g40) ?_
             refine k_no (d := 147) (j' := 17) rfl rfl rfl (g_ft rfl rfl rfl g40) ?_
             refine k_no (d := 148) (j' := 18) rfl rfl rfl (g_ft rfl rfl rfl g40) ?_
             refine k_no (d := 149) (j' := 19) rfl rfl rfl (g_ft rfl rfl rfl g40) ?_
             refine k_no (d := 150) (j' := 20) rfl rfl rfl (g_ft rfl rfl rfl g40) ?_
             refine k_no (d := 151) (j' := 21) rfl rfl rfl (g_ft rfl rfl rfl g40) ?_
             refine q0 152 691 22 rfl rfl (T_pick_t rfl rfl rfl g40) rfl ?_
             refine k_done rfl ?_
             refine thenK_n ?_
             refine W_cond rfl (fun g41 => ?_) (fun g41 => ?_)
             ·skip
              refine W_seq ?_
              refine W_seqK (b' := 723) rfl rfl ?_
              refine q0 8 707 1 rfl rfl (T_assign rfl rfl) rfl ?_
              refine k_done rfl ?_
              refine thenK_n ?_
              refine W_ret ?_
              refine blockK_r ?_
              refine thenK_r ?_
              exact .mk [] (.inr rfl) (.tmp rfl (.nil)) (by (simp only [resLV, LV.ren, LV.v.injEq, Value.bool.injEq]; refine fits_no (fun hF => ?_); obtain ⟨a1, a2, a3, a4, a5, a6, a7, a8⟩ := hF; omega)) (.nil) rfl
             ·exact absurd (g41.symm.trans rfl) (by decide)
            ·have h40 := c_lss_f g40
             refine k_op0 (d := 145) (b := 579) (j' := 15) rfl rfl rfl rfl (g_ff rfl rfl rfl g40) (T_fa D (m := 5) rfl rfl rfl rfl rfl rfl) rfl ?_
             refine k_op0 (d := 146) (b := 595) (j' := 16) rfl rfl rfl rfl (g_ff rfl rfl rfl g40) (T_load_b D rfl rfl rfl rfl rfl rfl) rfl ?_
             refine k_op0 (d := 147) (b := 611) (j' := 17) rfl rfl rfl rfl (g_ff rfl rfl rfl g40) (T_move rfl rfl) rfl ?_
             refine k_op0 (d := 148) (b := 627) (j' := 18) rfl rfl rfl rfl (g_ff rfl rfl rfl g40) (T_fa D (m := 6) rfl rfl rfl rfl rfl rfl) rfl ?_
             refine k_op0 (d := 149) (b := 643) (j' := 19) rfl rfl rfl rfl (g_ff rfl rfl rfl g40) (T_load_b D rfl rfl rfl rfl rfl rfl) rfl ?_
             refine k_op0 (d := 150) (b := 659) (j' := 20) rfl rfl rfl rfl (g_ff rfl rfl rfl g40) (T_sub64 rfl rfl rfl (by omega)) rfl ?_
             refine k_op0 (d := 151) (b := 675) (j' := 21) rfl rfl rfl rfl (g_ff rfl rfl rfl g40) (T_cmp rfl rfl rfl rfl) rfl ?_
             refine q0 152 691 22 rfl rfl (T_pick_f rfl rfl rfl g40) rfl ?_
             refine k_done rfl ?_
             refine thenK_n ?_
             refine W_cond rfl (fun g42 => ?_) (fun g42 => ?_)
             ·have h42 := c_gtr_t g42
              refine W_seq ?_
              refine W_seqK (b' := 723) rfl rfl ?_
              refine q0 8 707 1 rfl rfl (T_assign rfl rfl) rfl ?_
              refine k_done rfl ?_
              refine thenK_n ?_
              refine W_ret ?_
              refine blockK_r ?_
              refine thenK_r ?_
              exact .mk [] (.inr rfl) (.tmp rfl (.nil)) (by (simp only [resLV, LV.ren, LV.v.injEq, Value.bool.injEq]; refine fits_no (fun hF => ?_); obtain ⟨a1, a2, a3, a4, a5, a6, a7, a8⟩ := hF; omega)) (.nil) rfl
             ·have h42 := c_gtr_f g42
              refine W_skip ?_
              refine blockK_n ?_
              refine thenK_n ?_
              refine W_seq ?_
              refine W_seqK (b' := 771) rfl rfl ?_
              refine q0 163 707 1 rfl rfl (T_load_bA D (l := [_, _, _, _, _, _, _, _]) rfl rfl rfl rfl rfl rfl rfl) rfl ?_
              refine q0 164 723 2 rfl rfl (T_load_bA D (l := [_, _, _, _, _, _, _, _]) rfl rfl rfl rfl rfl rfl rfl) rfl ?_
              refine q0 165 739 3 rfl rfl (T_eqTac8 t rfl rfl rfl) rfl ?_
              refine q0 8 755 4 rfl rfl (T_assign rfl rfl) rfl ?_
              refine k_done rfl ?_
              refine thenK_n ?_
              refine W_ret ?_
              exact .mk [] (.inr rfl) (.tmp rfl (.nil)) (by (simp only [resLV, LV.ren, LV.v.injEq, Value.bool.injEq]; exact fits_fin hj18 (fun _ => by omega) (fun _ => by (exfalso; omega)) (fun _ => by omega) (fun _ => by (exfalso; omega)) (by exact (if_neg (by omega)).symm) (by exact (if_pos (by omega)).symm) (by exact (if_pos (by omega)).symm) (by exact (if_neg (by omega)).symm))) (.nil) rfl
         ·have h35 := c_eql_f g35
          refine W_seq ?_
          refine W_seqK (b' := 259) rfl rfl ?_
          refine q0 154 227 1 rfl rfl (T_cmp rfl rfl rfl rfl) rfl ?_
          refine q0 153 243 2 rfl rfl (T_assign rfl rfl) rfl ?_
          refine k_done rfl ?_
          refine thenK_n ?_
          refine W_cond rfl (fun g43 => ?_) (fun g43 => ?_)
          ·have h43 := c_eql_t g43
           refine W_seq ?_
           refine W_seqK (b' := 323) rfl rfl ?_
           refine q0 155 259 1 rfl rfl (T_fa D (m := 5) rfl rfl rfl rfl rfl rfl) rfl ?_
           refine q0 156 275 2 rfl rfl (T_load_b D rfl rfl rfl rfl rfl rfl) rfl ?_
           refine q0 157 291 3 rfl rfl (T_fa D (m := 5) rfl rfl rfl rfl rfl rfl) rfl ?_
           refine s1 307 4 rfl rfl (T_stB D (cs' := [_, _, _, _, _, _, _, _]) rfl rfl rfl rfl (flat_v rfl) rfl rfl (Nat.le_of_ble_eq_true rfl) rfl) rfl ?_
           refine k_done rfl ?_
           refine thenK_n ?_
           refine W_seq ?_
           refine W_seqK (b' := 403) rfl rfl ?_
           refine q0 158 323 1 rfl rfl (T_fa D (m := 5) rfl rfl rfl rfl rfl rfl) rfl ?_
           refine q0 159 339 2 rfl rfl (T_load_b D rfl rfl rfl rfl rfl rfl) rfl ?_
           refine q0 160 355 3 rfl rfl (T_move rfl rfl) rfl ?_
           refine q0 161 371 4 rfl rfl (T_callV (lvs := [_, _]) (L := []) (within_spec _ _) body125 rfl rfl rfl rfl (.nil) rfl) rfl ?_
           refine q0 162 387 5 rfl rfl (T_not rfl rfl) rfl ?_
           refine k_done rfl ?_
           refine thenK_n ?_
           refine W_cond rfl (fun g44 => ?_) (fun g44 => ?_)
           ·have h44 := g44; (try simp only [cmpB, decide_eq_true_eq, decide_eq_false_iff_not, beq_iff_eq, beq_eq_false_iff_ne, bne_iff_ne, ne_eq, bne_eq_false_iff_eq, Bool.not_eq_true', Bool.not_eq_false', Int.not_lt, Int.not_le] at h44)
            refine W_seq ?_
            refine W_seqK (b' := 419) rfl rfl ?_
            refine q0 8 403 1 rfl rfl (T_assign rfl rfl) rfl ?_
            refine k_done rfl ?_
            refine thenK_n ?_
            refine W_ret ?_
            refine blockK_r ?_
            refine thenK_r ?_
            exact .mk [] (.inr rfl) (.tmp rfl (.nil)) (by (simp only [resLV, LV.ren, LV.v.injEq, Value.bool.injEq]; refine fits_no (fun hF => ?_); obtain ⟨a1, a2, a3, a4, a5, a6, a7, a8⟩ := hF; exact absurd ((a7 (by omega)).symm.trans (by assumption : _ = false)) (by decide))) (.nil) rfl
           ·have h44 := g44; (try simp only [cmpB, decide_eq_true_eq, decide_eq_false_iff_not, beq_iff_eq, beq_eq_false_iff_ne, bne_iff_ne, ne_eq, bne_eq_false_iff_eq, Bool.not_eq_true', Bool.not_eq_false', Int.not_lt, Int.not_le] at h44)
            refine W_skip ?_
            refine blockK_n ?_
            refine thenK_n ?_
            refine W_seq ?_
            refine W_seqK (b' := 467) rfl rfl ?_
            refine q0 163 403 1 rfl rfl (T_load_bA D (l := [_, _, _, _, _, _, _, _]) rfl rfl rfl rfl rfl rfl rfl) rfl ?_
            refine q0 164 419 2 rfl rfl (T_load_bA D (l := [_, _, _, _, _, _, _, _]) rfl rfl rfl rfl rfl rfl rfl) rfl ?_
            refine q0 165 435 3 rfl rfl (T_eqTac8 t rfl rfl rfl) rfl ?_
            refine q0 8 451 4 rfl rfl (T_assign rfl rfl) rfl ?_
            refine k_done rfl ?_
            refine thenK_n ?_
            refine W_ret ?_
            exact .mk [] (.inr rfl) (.tmp rfl (.nil)) (by (simp only [resLV, LV.ren, LV.v.injEq, Value.bool.injEq]; exact fits_fin hj18 (fun _ => by omega) (fun _ => by (exfalso; omega)) (fun _ => by omega) (fun _ => by assumption) (by exact (if_neg (by omega)).symm) (by exact (if_pos (by omega)).symm) (by exact (if_neg (by omega)).symm) (by exact (if_neg (by omega)).symm))) (.nil) rfl
          ·have h43 := c_eql_f g43
           refine W_skip ?_
           refine blockK_n ?_
           refine thenK_n ?_
           refine W_seq ?_
           refine W_seqK (b' := 323) rfl rfl ?_
           refine q0 163 259 1 rfl rfl (T_load_bA D (l := [_, _, _, _, _, _, _, _]) rfl rfl rfl rfl rfl rfl rfl) rfl ?_
           refine q0 164 275 2 rfl rfl (T_load_bA D (l := [_, _, _, _, _, _, _, _]) rfl rfl rfl rfl rfl rfl rfl) rfl ?_
           refine q0 165 291 3 rfl rfl (T_eqTac8 t rfl rfl rfl) rfl ?_
           refine q0 8 307 4 rfl rfl (T_assign rfl rfl) rfl ?_
           refine k_done rfl ?_
           refine thenK_n ?_
           refine W_ret ?_
           exact .mk [] (.inr rfl) (.tmp rfl (.nil)) (by (simp only [resLV, LV.ren, LV.v.injEq, Value.bool.injEq]; exact fits_fin hj18 (fun _ => by omega) (fun _ => by (exfalso; omega)) (fun _ => by omega) (fun _ => by (exfalso; omega)) (by exact (if_neg (by omega)).symm) (by exact (if_neg (by omega)).symm) (by exact (if_neg (by omega)).symm) (by exact (if_neg (by omega)).symm))) (.nil) rfl
end Lg
end Go.Proofs.Ytpfhmodjjljpjaa

namespace Go.Proofs.Ytpfhmodjjljpjaa
open Go.RowKit
namespace Lg
set_option maxRecDepth 100000
set_option linter.unusedVariables false
set_option linter.unusedSimpArgs false
theorem body47 : (Try.prog.funcs[47]?).map (fun fn => (fn.name == "runtime.NumGoroutine" || fn.body.isNone)) = some false := by kernel_rfl
theorem one_fn_spec (f : GFn) (number words : Int) (hf : FnOk f) (hw : -4611686018427387904 ≤ words ∧ words ≤ 4611686018427387904) : Spec Try.prog 47 [.agg [.v (.int .i64 f.regs), .r 1], .v (.int .i64 number), .v (.int .i64 words)] 2 [(1, .fz 5 (f.blocks.map eBlock))] (.v (.bool (oneB f number words))) 2 [] := by
 have hf1 := hf.1
 refine spec_of D (fn := Try.f47) rfl rfl (Nat.le_of_ble_eq_true rfl) ?_
 refine W_seq ?_
 refine W_seqK (b' := 34) rfl rfl ?_
 refine q1 3 2 1 rfl rfl (T_box rfl rfl flat_agg) rfl ?_
 refine q0 6 18 2 rfl rfl (T_assign rfl rfl) rfl ?_
 refine k_done rfl ?_
 refine thenK_n ?_
 refine W_seq ?_
 refine W_seq ?_
 refine W_seqK (b' := 258) rfl rfl ?_
 refine q0 9 34 1 rfl rfl (T_fa D (m := 0) rfl rfl rfl rfl rfl rfl) rfl ?_
 refine q0 10 50 2 rfl rfl (T_load_b D rfl rfl rfl rfl rfl rfl) rfl ?_
 refine q0 11 66 3 rfl rfl (T_cmp rfl rfl rfl rfl) rfl ?_
 refine q0 12 82 4 rfl rfl (T_move rfl rfl) rfl ?_
 refine k_split (d := 12) rfl (fun g1 => ?_) (fun g1 => ?_)
 ·have h1 := c_lss_t g1
  refine k_no (d := 13) (j' := 5) rfl rfl rfl (g_ft rfl rfl rfl g1) ?_
  refine k_no (d := 14) (j' := 6) rfl rfl rfl (g_ft rfl rfl rfl g1) ?_
  refine k_no (d := 15) (j' := 7) rfl rfl rfl (g_ft rfl rfl rfl g1) ?_
  refine q0 16 146 8 rfl rfl (T_pick_t rfl rfl rfl g1) rfl ?_
  refine q0 17 162 9 rfl rfl (T_move rfl rfl) rfl ?_
  refine k_no (d := 18) (j' := 10) rfl rfl rfl (g_ft rfl rfl rfl rfl) ?_
  refine k_no (d := 19) (j' := 11) rfl rfl rfl (g_ft rfl rfl rfl rfl) ?_
  refine k_no (d := 20) (j' := 12) rfl rfl rfl (g_ft rfl rfl rfl rfl) ?_
  refine k_no (d := 21) (j' := 13) rfl rfl rfl (g_ft rfl rfl rfl rfl) ?_
  refine q0 22 242 14 rfl rfl (T_pick_t rfl rfl rfl rfl) rfl ?_
  refine k_done rfl ?_
  refine thenK_n ?_
  refine W_cond rfl (fun g2 => ?_) (fun g2 => ?_)
  ·skip
   refine W_seq ?_
   refine W_seqK (b' := 274) rfl rfl ?_
   refine q0 6 258 1 rfl rfl (T_assign rfl rfl) rfl ?_
   refine k_done rfl ?_
   refine thenK_n ?_
   refine W_ret ?_
   refine thenK_r ?_
   exact .mk [] (.inr rfl) (.tmp rfl (.nil)) (by (simp only [resLV, LV.ren, LV.v.injEq, Value.bool.injEq]; exact one_no1 (by omega))) (.nil) rfl
  ·exact absurd (g2.symm.trans rfl) (by decide)
 ·have h1 := c_lss_f g1
  refine k_op0 (d := 13) (b := 98) (j' := 5) rfl rfl rfl rfl (g_ff rfl rfl rfl g1) (T_fa D (m := 0) rfl rfl rfl rfl rfl rfl) rfl ?_
  refine k_op0 (d := 14) (b := 114) (j' := 6) rfl rfl rfl rfl (g_ff rfl rfl rfl g1) (T_load_b D rfl rfl rfl rfl rfl rfl) rfl ?_
  refine k_op0 (d := 15) (b := 130) (j' := 7) rfl rfl rfl rfl (g_ff rfl rfl rfl g1) (T_cmp rfl rfl rfl rfl) rfl ?_
  refine q0 16 146 8 rfl rfl (T_pick_f rfl rfl rfl g1) rfl ?_
  refine q0 17 162 9 rfl rfl (T_move rfl rfl) rfl ?_
  refine k_split (d := 17) rfl (fun g3 => ?_) (fun g3 => ?_)
  ·have h3 := c_gtr_t g3
   refine k_no (d := 18) (j' := 10) rfl rfl rfl (g_ft rfl rfl rfl g3) ?_
   refine k_no (d := 19) (j' := 11) rfl rfl rfl (g_ft rfl rfl rfl g3) ?_
   refine k_no (d := 20) (j' := 12) rfl rfl rfl (g_ft rfl rfl rfl g3) ?_
   refine k_no (d := 21) (j' := 13) rfl rfl rfl (g_ft rfl rfl rfl g3) ?_
   refine q0 22 242 14 rfl rfl (T_pick_t rfl rfl rfl g3) rfl ?_
   refine k_done rfl ?_
   refine thenK_n ?_
   refine W_cond rfl (fun g4 => ?_) (fun g4 => ?_)
   ·skip
    refine W_seq ?_
    refine W_seqK (b' := 274) rfl rfl ?_
    refine q0 6 258 1 rfl rfl (T_assign rfl rfl) rfl ?_
    refine k_done rfl ?_
    refine thenK_n ?_
    refine W_ret ?_
    refine thenK_r ?_
    exact .mk [] (.inr rfl) (.tmp rfl (.nil)) (by (simp only [resLV, LV.ren, LV.v.injEq, Value.bool.injEq]; exact one_no1 (by omega))) (.nil) rfl
   ·exact absurd (g4.symm.trans rfl) (by decide)
  ·have h3 := c_gtr_f g3
   refine k_op0 (d := 18) (b := 178) (j' := 10) rfl rfl rfl rfl (g_ff rfl rfl rfl g3) (T_fa D (m := 1) rfl rfl rfl rfl rfl rfl) rfl ?_
   refine k_op0 (d := 19) (b := 194) (j' := 11) rfl rfl rfl rfl (g_ff rfl rfl rfl g3) (T_load_b D rfl rfl rfl rfl rfl rfl) rfl ?_
   refine k_op0 (d := 20) (b := 210) (j' := 12) rfl rfl rfl rfl (g_ff rfl rfl rfl g3) (T_len D rfl rfl rfl rfl rfl rfl) rfl ?_
   refine k_op0 (d := 21) (b := 226) (j' := 13) rfl rfl rfl rfl (g_ff rfl rfl rfl g3) (T_cmp rfl rfl rfl rfl) rfl ?_
   refine q0 22 242 14 rfl rfl (T_pick_f rfl rfl rfl g3) rfl ?_
   refine k_done rfl ?_
   refine thenK_n ?_
   refine W_cond rfl (fun g5 => ?_) (fun g5 => ?_)
   ·have h5 := c_eql_t g5
    refine W_seq ?_
    refine W_seqK (b' := 274) rfl rfl ?_
    refine q0 6 258 1 rfl rfl (T_assign rfl rfl) rfl ?_
    refine k_done rfl ?_
    refine thenK_n ?_
    refine W_ret ?_
    refine thenK_r ?_
    exact .mk [] (.inr rfl) (.tmp rfl (.nil)) (by (simp only [resLV, LV.ren, LV.v.injEq, Value.bool.injEq]; exact one_no1 (by omega))) (.nil) rfl
   ·have h5 := c_eql_f g5
    refine W_skip ?_
    refine thenK_n ?_
    refine W_seq ?_
    refine W_seq ?_
    refine W_seqK (b' := 274) rfl rfl ?_
    refine q0 7 258 1 rfl rfl (T_assign rfl rfl) rfl ?_
    refine k_done rfl ?_
    refine thenK_n ?_
    refine W_block ?_
    refine W_loop (ι := Nat) 3 (fun j => ⟨[(1, .v (.int .i64 number)), (2, .v (.int .i64 words)), (3, .p 2 0), (7, .v (.int .i64 (j : Int)))], [(1, .fz 5 (f.blocks.map eBlock)), (2, .box 29 [.v (.int .i64 f.regs), .r 1])]⟩) (fun j => j ≤ f.blocks.length ∧ ∀ i, i < j → blockB (f.blocks.getD i default) f.blocks.length number f.regs words = true) (fun j => f.blocks.length - j) (0) (by exact ⟨Nat.zero_le _, fun i h => absurd h (Nat.not_lt_zero _)⟩) ?_ (fun j hJ => ?_)
    ·exact ⟨[(2, 2)], .eq rfl (.eq rfl (.same rfl rfl (.eq rfl (.nil) (by rfl))) (by rfl)) (by rfl), .fzE rfl (.box (by rfl) (.nil)) (by rfl), rfl⟩
    refine W_seq ?_
    refine W_seq ?_
    refine W_seqK (b' := 83) rfl rfl ?_
    refine q0 23 3 1 rfl rfl (T_move rfl rfl) rfl ?_
    refine q0 24 19 2 rfl rfl (T_fa D (m := 1) rfl rfl rfl rfl rfl rfl) rfl ?_
    refine q0 25 35 3 rfl rfl (T_load_b D rfl rfl rfl rfl rfl rfl) rfl ?_
    refine q0 26 51 4 rfl rfl (T_len D rfl rfl rfl rfl rfl rfl) rfl ?_
    refine q0 27 67 5 rfl rfl (T_cmp rfl rfl rfl rfl) rfl ?_
    refine k_done rfl ?_
    refine thenK_n ?_
    refine W_cond rfl (fun g6 => ?_) (fun g6 => ?_)
    ·have h6 := c_lss_t g6
     refine W_skip ?_
     refine thenK_n ?_
     refine W_seq ?_
     refine W_block ?_
     refine W_seq ?_
     refine W_seq ?_
     refine W_anyK (b' := 275) rfl rfl rfl ?_
     refine q0 30 83 1 rfl rfl (T_fa D (m := 1) rfl rfl rfl rfl rfl rfl) rfl ?_
     refine q0 31 99 2 rfl rfl (T_load_b D rfl rfl rfl rfl rfl rfl) rfl ?_
     refine q0 32 115 3 rfl rfl (T_move rfl rfl) rfl ?_
     refine q0 33 131 4 rfl rfl (T_indexAddr D rfl rfl rfl rfl rfl rfl rfl rfl (by omega)) rfl ?_
     refine q1 34 147 5 rfl rfl (T_ldEA D (l := [.r 147, .v _, .v _, .v _, .v _]) (nn := 1) (upd := [(147, .fz 8 _)]) rfl rfl rfl rfl rfl (by omega) rfl rfl rfl rfl rfl) rfl ?_
     refine q0 35 163 6 rfl rfl (T_fa D (m := 1) rfl rfl rfl rfl rfl rfl) rfl ?_
     refine q0 36 179 7 rfl rfl (T_load_b D rfl rfl rfl rfl rfl rfl) rfl ?_
     refine q0 37 195 8 rfl rfl (T_len D rfl rfl rfl rfl rfl rfl) rfl ?_
     refine q0 38 211 9 rfl rfl (T_fa D (m := 0) rfl rfl rfl rfl rfl rfl) rfl ?_
     refine q0 39 227 10 rfl rfl (T_load_b D rfl rfl rfl rfl rfl rfl) rfl ?_
     refine q0 40 243 11 rfl rfl (T_callV (lvs := [_, _, _]) (L := [(1, 147)]) (ends_spec _ _ _) body87 rfl rfl rfl rfl (.fz rfl (.nil)) rfl) rfl ?_
     refine q0 41 259 12 rfl rfl (T_not rfl rfl) rfl ?_
     refine k_done rfl ?_
     refine ⟨rfl, ?_⟩
     refine thenK_n ?_
     refine W_cond rfl (fun g7 => ?_) (fun g7 => ?_)
     ·have h7 := g7; (try simp only [cmpB, decide_eq_true_eq, decide_eq_false_iff_not, beq_iff_eq, beq_eq_false_iff_ne, bne_iff_ne, ne_eq, bne_eq_false_iff_eq, Bool.not_eq_true', Bool.not_eq_false', Int.not_lt, Int.not_le] at h7)
      refine W_seq ?_
      refine W_seqK (b' := 291) rfl rfl ?_
      refine q0 6 275 1 rfl rfl (T_assign rfl rfl) rfl ?_
      refine k_done rfl ?_
      refine thenK_n ?_
      refine W_ret ?_
      refine thenK_r ?_
      refine blockK_r ?_
      refine thenK_r ?_
      refine thenK_r ?_
      refine blockK_r ?_
      refine thenK_r ?_
      exact .mk [] (.inr rfl) (.tmp rfl (.nil)) (by (simp only [resLV, LV.ren, LV.v.injEq, Value.bool.injEq]; exact one_no2 (j := j) (by omega) (by assumption))) (.nil) rfl
     ·have h7 := g7; (try simp only [cmpB, decide_eq_true_eq, decide_eq_false_iff_not, beq_iff_eq, beq_eq_false_iff_ne, bne_iff_ne, ne_eq, bne_eq_false_iff_eq, Bool.not_eq_true', Bool.not_eq_false', Int.not_lt, Int.not_le] at h7)
      refine W_skip ?_
      refine thenK_n ?_
      refine W_seq ?_
      refine W_seqK (b' := 291) rfl rfl ?_
      refine q0 8 275 1 rfl rfl (T_assign rfl rfl) rfl ?_
      refine k_done rfl ?_
      refine thenK_n ?_
      refine W_block ?_
      have hij := hf.2 (f.blocks.getD j default) (getD_mem (by omega))
      have hends : endsB (f.blocks.getD j default) f.blocks.length f.regs = true := by assumption
      refine W_loop (ι := Nat) 3 (fun i => ⟨[(1, .v (.int .i64 number)), (2, .v (.int .i64 words)), (3, .p 2 0), (7, .v (.int .i64 (j : Int))), (8, .v (.int .i64 (i : Int)))], [(1, .fz 5 (f.blocks.map eBlock)), (2, .box 29 [.v (.int .i64 f.regs), .r 1])]⟩) (fun i => i ≤ (f.blocks.getD j default).ins.length ∧ ∀ m, m < i → fitsB ((f.blocks.getD j default).ins.getD m default) number f.regs words = true) (fun i => (f.blocks.getD j default).ins.length - i) (0) (by exact ⟨Nat.zero_le _, fun m h => absurd h (Nat.not_lt_zero _)⟩) ?_ (fun i hI => ?_)
      ·exact ⟨[(2, 2)], .eq rfl (.eq rfl (.same rfl rfl (.eq rfl (.eq rfl (.nil) (by rfl)) (by rfl))) (by rfl)) (by rfl), .fzE rfl (.box (by rfl) (.nil)) (by rfl), rfl⟩
      refine W_seq ?_
      refine W_seq ?_
      refine W_seqK (b' := 147) rfl rfl ?_
      refine q0 42 3 1 rfl rfl (T_move rfl rfl) rfl ?_
      refine q0 43 19 2 rfl rfl (T_fa D (m := 1) rfl rfl rfl rfl rfl rfl) rfl ?_
      refine q0 44 35 3 rfl rfl (T_load_b D rfl rfl rfl rfl rfl rfl) rfl ?_
      refine q0 45 51 4 rfl rfl (T_move rfl rfl) rfl ?_
      refine q0 46 67 5 rfl rfl (T_indexAddr D rfl rfl rfl rfl rfl rfl rfl rfl (by omega)) rfl ?_
      refine q0 47 83 6 rfl rfl (T_fae D (m := 0) rfl rfl rfl rfl rfl rfl) rfl ?_
      refine q1 48 99 7 rfl rfl (T_ldE D (lv := .r 99) (nn := 1) (upd := [(99, .fz 8 _)]) rfl rfl rfl rfl rfl (by omega) rfl rfl rfl rfl) rfl ?_
      refine q0 49 115 8 rfl rfl (T_len D rfl rfl rfl rfl rfl rfl) rfl ?_
      refine q0 50 131 9 rfl rfl (T_cmp rfl rfl rfl rfl) rfl ?_
      refine k_done rfl ?_
      refine thenK_n ?_
      refine W_cond rfl (fun g8 => ?_) (fun g8 => ?_)
      ·have h8 := c_lss_t g8
       refine W_skip ?_
       refine thenK_n ?_
       refine W_seq ?_
       refine W_block ?_
       refine W_seq ?_
       refine W_anyK (b' := 387) rfl rfl rfl ?_
       refine q0 53 147 1 rfl rfl (T_fa D (m := 1) rfl rfl rfl rfl rfl rfl) rfl ?_
       refine q0 54 163 2 rfl rfl (T_load_b D rfl rfl rfl rfl rfl rfl) rfl ?_
       refine q0 55 179 3 rfl rfl (T_move rfl rfl) rfl ?_
       refine q0 56 195 4 rfl rfl (T_indexAddr D rfl rfl rfl rfl rfl rfl rfl rfl (by omega)) rfl ?_
       refine q0 57 211 5 rfl rfl (T_fae D (m := 0) rfl rfl rfl rfl rfl rfl) rfl ?_
       refine q1 58 227 6 rfl rfl (T_ldE D (lv := .r 227) (nn := 1) (upd := [(227, .fz 8 _)]) rfl rfl rfl rfl rfl (by omega) rfl rfl rfl rfl) rfl ?_
       refine q0 59 243 7 rfl rfl (T_move rfl rfl) rfl ?_
       refine q0 60 259 8 rfl rfl (T_indexAddr D rfl rfl rfl rfl rfl rfl rfl rfl (by omega)) rfl ?_
       refine q0 61 275 9 rfl rfl (T_ldEA D (l := [.v _, .v _, .v _, .v _, .v _, .v _, .v _, .v _]) (nn := 0) (upd := []) rfl rfl rfl rfl rfl (by omega) rfl rfl rfl rfl rfl) rfl ?_
       refine q0 62 291 10 rfl rfl (T_move rfl rfl) rfl ?_
       refine q0 63 307 11 rfl rfl (T_fa D (m := 0) rfl rfl rfl rfl rfl rfl) rfl ?_
       refine q0 64 323 12 rfl rfl (T_load_b D rfl rfl rfl rfl rfl rfl) rfl ?_
       refine q0 65 339 13 rfl rfl (T_move rfl rfl) rfl ?_
       refine q0 66 355 14 rfl rfl (T_callV (lvs := [_, _, _, _]) (L := []) (fits_spec _ _ _ _ hw) body88 rfl rfl rfl rfl (.nil) rfl) rfl ?_
       refine q0 67 371 15 rfl rfl (T_not rfl rfl) rfl ?_
       refine k_done rfl ?_
       refine ⟨rfl, ?_⟩
       refine thenK_n ?_
       refine W_cond rfl (fun g9 => ?_) (fun g9 => ?_)
       ·have h9 := g9; (try simp only [cmpB, decide_eq_true_eq, decide_eq_false_iff_not, beq_iff_eq, beq_eq_false_iff_ne, bne_iff_ne, ne_eq, bne_eq_false_iff_eq, Bool.not_eq_true', Bool.not_eq_false', Int.not_lt, Int.not_le] at h9)
        refine W_seq ?_
        refine W_seqK (b' := 403) rfl rfl ?_
        refine q0 6 387 1 rfl rfl (T_assign rfl rfl) rfl ?_
        refine k_done rfl ?_
        refine thenK_n ?_
        refine W_ret ?_
        refine blockK_r ?_
        refine thenK_r ?_
        refine thenK_r ?_
        refine blockK_r ?_
        refine blockK_r ?_
        refine thenK_r ?_
        refine thenK_r ?_
        refine blockK_r ?_
        refine thenK_r ?_
        exact .mk [] (.inr rfl) (.tmp rfl (.nil)) (by (simp only [resLV, LV.ren, LV.v.injEq, Value.bool.injEq]; exact one_no3 (j := j) (i := i) (by omega) (by omega) (by assumption))) (.nil) rfl
       ·have h9 := g9; (try simp only [cmpB, decide_eq_true_eq, decide_eq_false_iff_not, beq_iff_eq, beq_eq_false_iff_ne, bne_iff_ne, ne_eq, bne_eq_false_iff_eq, Bool.not_eq_true', Bool.not_eq_false', Int.not_lt, Int.not_le] at h9)
        refine W_skip ?_
        refine blockK_n ?_
        refine thenK_n ?_
        refine W_seqK (b' := 435) rfl rfl ?_
        refine q0 51 387 1 rfl rfl (T_move rfl rfl) rfl ?_
        refine q0 52 403 2 rfl rfl (T_add64 rfl rfl rfl (by omega)) rfl ?_
        refine q0 8 419 3 rfl rfl (T_assign rfl rfl) rfl ?_
        refine k_done rfl ?_
        refine thenK_n ?_
        refine ⟨i + 1, by (try dsimp only); exact ⟨by omega, fun m hm => by rcases Nat.lt_or_ge m i with h | h; exact hI.2 m h; rw [show m = i by omega]; assumption⟩, by (try dsimp only); omega, ?_⟩
        exact ⟨[(2, 2)], .eq rfl (.eq rfl (.same rfl rfl (.eq rfl (.eq rfl (.nil) (by rfl)) rfl)) rfl) rfl, .fzE rfl (.box (by rfl) (.nil)) rfl, rfl⟩
      ·have h8 := c_lss_f g8
       refine W_exit ?_
       refine thenK_e ?_
       refine thenK_e ?_
       refine blockK_hit ?_
       refine blockK_n ?_
       refine thenK_n ?_
       refine W_seqK (b' := 195) rfl rfl ?_
       refine q0 28 147 1 rfl rfl (T_move rfl rfl) rfl ?_
       refine q0 29 163 2 rfl rfl (T_add64 rfl rfl rfl (by omega)) rfl ?_
       refine q0 7 179 3 rfl rfl (T_assign rfl rfl) rfl ?_
       refine k_done rfl ?_
       refine thenK_n ?_
       refine ⟨j + 1, by (try dsimp only); exact ⟨by omega, fun i1 h => by rcases Nat.lt_or_ge i1 j with h0 | h0; exact hJ.2 i1 h0; rw [show i1 = j by omega]; exact blockB_t hends (fun m hm => hI.2 m (by omega))⟩, by (try dsimp only); omega, ?_⟩
       exact ⟨[(2, 2)], .eq rfl (.eq rfl (.same rfl rfl (.eq rfl (.nil) (by rfl))) rfl) rfl, .fzE rfl (.box (by rfl) (.nil)) rfl, rfl⟩
    ·have h6 := c_lss_f g6
     refine W_exit ?_
     refine thenK_e ?_
     refine thenK_e ?_
     refine blockK_hit ?_
     refine thenK_n ?_
     refine W_seq ?_
     refine W_seqK (b' := 99) rfl rfl ?_
     refine q0 6 83 1 rfl rfl (T_assign rfl rfl) rfl ?_
     refine k_done rfl ?_
     refine thenK_n ?_
     refine W_ret ?_
     exact .mk [] (.inr rfl) (.tmp rfl (.nil)) (by (simp only [resLV, LV.ren, LV.v.injEq, Value.bool.injEq]; exact one_yes (by omega) (by omega) (fun i h => hJ.2 i (by omega)))) (.nil) rfl
end Lg
end Go.Proofs.Ytpfhmodjjljpjaa

namespace Go.Proofs.Ytpfhmodjjljpjaa
open Go.RowKit
namespace Lg
def PgOk (p : GProg) : Prop := p.funcs.length ≤ 140737488351232 ∧ ∀ f ∈ p.funcs, FnOk f
theorem pgOk {p : GProg} (h : WProg p) : PgOk p := ⟨by have := h.len; omega, fun f hf => fnOk (h.each f hf)⟩
theorem right_no1 {p : GProg} (h : ¬ (0 ≤ p.words ∧ p.words ≤ 1048576 ∧ ¬ (p.funcs.length : Int) = 0)) : false = rightB p := by
  unfold rightB
  rw [decide_eq_false (fun hk => h ⟨hk.1, hk.2.1, fun e => hk.2.2 (List.eq_nil_of_length_eq_zero (by omega))⟩)]
  rfl
theorem right_no2 {p : GProg} {j : Nat} (hj : j < p.funcs.length) (h : oneB (p.funcs.getD j default) (j : Int) p.words = false) : false = rightB p := by
  unfold rightB
  rw [range_all_false hj h, Bool.and_false]
theorem right_yes {p : GProg} (h : 0 ≤ p.words ∧ p.words ≤ 1048576) (h0 : ¬ (p.funcs.length : Int) = 0) (hb : ∀ i, i < p.funcs.length → oneB (p.funcs.getD i default) (i : Int) p.words = true) : true = rightB p := by
  unfold rightB
  rw [decide_eq_true ⟨h.1, h.2, fun e => h0 (by rw [e]; rfl)⟩, range_all_true hb]
  rfl
def szB (f : GFn) (i : Nat) : Nat := ((f.blocks.take i).map (fun b => 1 + b.ins.length)).sum
def szP (p : GProg) (j : Nat) : Nat := ((p.funcs.take j).map (fun f => szB f f.blocks.length)).sum
theorem szB_succ {f : GFn} {i : Nat} (h : i < f.blocks.length) : szB f (i + 1) = szB f i + 1 + (f.blocks.getD i default).ins.length := by
  unfold szB
  rw [take_succ_getD h]
  simp only [List.map_append, List.sum_append, List.map_cons, List.map_nil, List.sum_cons, List.sum_nil]
  omega
theorem szP_succ {p : GProg} {j : Nat} (h : j < p.funcs.length) : szP p (j + 1) = szP p j + szB (p.funcs.getD j default) (p.funcs.getD j default).blocks.length := by
  unfold szP
  rw [take_succ_getD h]
  simp only [List.map_append, List.sum_append, List.map_cons, List.map_nil, List.sum_cons, List.sum_nil]
  omega
theorem szB_le {f : GFn} (hf : FnOk f) : ∀ (i : Nat), i ≤ f.blocks.length → szB f i ≤ i * 140737488351233
  | 0, _ => by simp [szB]
  | i + 1, h => by
    have h1 := szB_le hf i (by omega)
    have h2 := hf.2 (f.blocks.getD i default) (getD_mem (by omega))
    rw [szB_succ (by omega), Nat.succ_mul]
    omega
def smallF (f : GFn) : Bool := decide (f.regs ≤ 60) && decide ((f.blocks.length : Int) ≤ 40)
def smallG (p : GProg) (most : Int) : Bool := decide (p.words ≤ 500 ∧ (p.funcs.length : Int) ≤ 10) && p.funcs.all smallF && decide ((szP p p.funcs.length : Int) ≤ most) && rightB p
theorem small_no1 {p : GProg} {most : Int} (h : ¬ (p.words ≤ 500 ∧ (p.funcs.length : Int) ≤ 10)) : false = smallG p most := by
  unfold smallG
  rw [decide_eq_false h]; rfl
theorem small_no2 {p : GProg} {most : Int} {j : Nat} (hj : j < p.funcs.length) (h : ¬ ((p.funcs.getD j default).regs ≤ 60 ∧ ((p.funcs.getD j default).blocks.length : Int) ≤ 40)) : false = smallG p most := by
  unfold smallG
  rw [all_false_at hj (by
    unfold smallF
    by_cases h1 : (p.funcs.getD j default).regs ≤ 60
    · rw [decide_eq_false (fun h2 => h ⟨h1, h2⟩), Bool.and_false]
    · rw [decide_eq_false h1]; rfl), Bool.and_false]; rfl
theorem small_yes {p : GProg} {most : Int} {x : Bool} (h : p.words ≤ 500 ∧ (p.funcs.length : Int) ≤ 10) (hj : ∀ j, j < p.funcs.length → (p.funcs.getD j default).regs ≤ 60 ∧ ((p.funcs.getD j default).blocks.length : Int) ≤ 40) (hx : x = (decide ((szP p p.funcs.length : Int) ≤ most) && rightB p)) : x = smallG p most := by
  unfold smallG
  rw [decide_eq_true h, all_iff_getD.2 (fun i hi => by unfold smallF; rw [decide_eq_true (hj i hi).1, decide_eq_true (hj i hi).2]; rfl), hx]
  rfl
end Lg
end Go.Proofs.Ytpfhmodjjljpjaa

namespace Go.Proofs.Ytpfhmodjjljpjaa
end Go.Proofs.Ytpfhmodjjljpjaa
