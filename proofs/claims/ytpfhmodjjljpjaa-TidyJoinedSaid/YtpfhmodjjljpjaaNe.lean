import Derived.Test.YtpfhmodjjljpjaaSl
namespace Go.Proofs.Ytpfhmodjjljpjaa
open Go.RowKit
namespace Lg
set_option linter.unusedSimpArgs false
set_option linter.unusedVariables false

/-! ### Slices of slices that the call owns -/
/-- An object, told in another way. -/
theorem HR.retell {w0 w : World} {M : Fp} {U : Nat → Prop} {ρ : Nat → Value} {own : Nat → Option Nat} {o : List (Nat × Ob)} (hr : HR w0 M U ρ own o w) {i : Nat} {ob ob' : Ob} (hi : o.lookup i = some ob) (h : RepOb w ρ own i ob → RepOb w ρ own i ob') (hu : ob.used U ρ → ob'.used U ρ) : HR w0 M U ρ own ((i, ob') :: o) w := by
  obtain ⟨h1, h2, h3⟩ := hr.ob i ob hi
  refine hr.step (upd := [(i, ob')]) (fun _ => False) rfl rfl rfl (Nat.le_refl _) (fun _ _ _ => ⟨rfl, rfl⟩) (fun _ _ => rfl) (fun _ h => h) (fun _ h => h.elim) (fun q x hq => .inl (by rw [lookup_key hq]; exact ⟨_, hi⟩)) (fun q x hq => ?_)
  have hq' := lookup_key hq
  subst hq'
  obtain rfl : ob' = x := by simpa using hq
  exact ⟨h h1, h2, hu h3⟩

def nilC : Cell := .v (.slice none 0 0)
theorem nest_of_nils {w : World} {ρ : Nat → Value} {own : Nat → Option Nat} {i e e2 sz2 m : Nat} (hs : 0 < sz2) (h : RepOb w ρ own i (.row e 1 ((List.replicate m ()).map fun _ => [nilC]))) : RepOb w ρ own i (.nest e e2 sz2 (List.replicate m []) none) := by
  obtain ⟨h0, cells, h1, h2, h3⟩ := h
  have hlen : ((List.replicate m ()).map fun _ => [nilC]).length = m := by simp
  have hv : ∀ j v, cells[j]? = some v → v = Value.slice none 0 0 := fun j v hj => by
    have hjm : j < m := by
      have := (List.getElem?_eq_some_iff.1 hj).1
      rw [h3.len, hlen] at this; omega
    obtain ⟨u, hu, hR⟩ := (h3.each j [nilC] (by simp [List.getElem?_map, hjm])).2 0 nilC rfl
    rw [Nat.mul_one, Nat.add_zero, hj] at hu
    cases hu
    cases hR with
    | v _ _ => rfl
  refine ⟨cells, hs, by simpa [hlen] using h1, h2, (fun j b hb => by cases hb), fun j r v hj hjv _ => ?_, fun j j' v v' k hne _ _ hjv hjv' hk => ?_⟩
  · have := hv j v hjv
    subst this
    have hr : r = [] := (List.mem_replicate.1 (List.mem_of_getElem? hj)).2
    subst hr
    exact ⟨[], ⟨by simp, .inl ⟨rfl, rfl⟩⟩, ⟨by simp, (fun i r hi => by simp at hi)⟩, (fun k hk => by cases hk)⟩
  · rw [hv j v hjv] at hk; cases hk

section
variable {P : Program} {N b : Nat} {o : Oper} {st : St} (D : Tab P)

theorem T_makeN {t : Nat} {x y : Operand} {m e2 sz2 : Nat} {ty ety : TyI} (ho : o.op = .makeSlice t x y) (hx : st.ev x = some (.v (.int .i64 (m : Int)))) (hy : st.ev y = some (.v (.int .i64 (m : Int))))
    (hi : D.get t = some ty) (he0 : (ty.elem == 0) = false) (he : D.get ty.elem = some ety) (hz : ety.zero = [.slice none 0 0]) (hsz : ety.size = 1) (hs2 : (0 < sz2) = True) (hm : m * ety.bytes ≤ 281474976710656) (hm2 : m ≤ 9223372036854775807) :
    T P N o b [] st (.r b) 1 [(b, .nest ty.elem e2 sz2 (List.replicate m []) none)] := by
  have h := T_make D (enc := fun (_ : Unit) => [nilC]) (zx := ()) (N := N) (b := b) ho hx hy hi he0 he (by rw [hsz]; rfl) (by rw [hz]; exact .v rfl .nil) (by rw [hz, hsz]; rfl) hm hm2
  rw [hsz] at h
  intro w0 M U ρ own st' a w hev hp hf fr hr next Q hn
  refine h w0 M U ρ own st' a w hev hp hf fr hr next Q (fun v w' hv => hn v w' ?_)
  obtain ⟨ρ', own', h1, h2, h3, h4⟩ := hv
  refine ⟨ρ', own', h1, h2, h3, ?_⟩
  have h5 := h4.retell (i := b) (ob := .row ty.elem 1 ((List.replicate m ()).map fun _ => [nilC])) (ob' := .nest ty.elem e2 sz2 (List.replicate m []) none) (by simp) (nest_of_nils (of_eq_true hs2)) (fun _ => fun j q hq => by cases hq)
  refine h5.congr (fun i => ?_)
  simp only [List.cons_append, List.nil_append, List.lookup]
  cases hib : i == b <;> rfl

theorem nest_base {w : World} {ρ : Nat → Value} {own : Nat → Option Nat} {i e e2 sz2 : Nat} {rows : List (List (List Cell))} {hole : Option (Nat × Nat)} (h : RepOb w ρ own i (.nest e e2 sz2 rows hole)) : ∃ A c, ρ i = .slice A rows.length c ∧ (0 < rows.length → ∃ a, A = some a) := by
  obtain ⟨vs, hN⟩ := h
  rcases hN.out.2 with ⟨h4, h5⟩ | ⟨g, cap, cur, he, hg, hh, r1, r2, r3, r4⟩
  · exact ⟨none, 0, by rw [h4, h5], fun hp => by omega⟩
  · exact ⟨_, cap, he, fun _ => ⟨_, rfl⟩⟩

theorem T_lenN {α : Type} {enc : α → List Cell} {xs : List (List α)} {t tt i e e2 sz2 : Nat} {hole : Option (Nat × Nat)} {x : Operand} {ty : TyI} (ho : o.op = .call { callee := .builtin .len, args := #[x], argTypes := #[t] }) (hx : st.ev x = some (.r i)) (hob : st.o.lookup i = some (.nest e e2 sz2 (xs.map (List.map enc)) hole))
    (hi : D.get t = some ty) (he0 : (ty.elem == 0) = false) (_htt : o.type = tt) : T P N o b [i] st (.v (.int .i64 (xs.length : Int))) 0 [] := by
  intro w0 M U ρ own st' a w hev hp hfr fr hr
  obtain ⟨hv, hu⟩ := fr.eval ((hev x (by simp [ho, Op.operands, Call.operands])).trans hx)
  obtain ⟨g1, g2, g3⟩ := hr.ob i _ ((hp i (by simp)).trans hob)
  obtain ⟨A, c, hA, hn⟩ := nest_base g1
  rw [List.length_map] at hA
  have hu' := (D.ok t ty hi).sl (by simpa using he0)
  have hrun : (execOp a.eval o).run P w = .ok (.value (.int .i64 (xs.length : Int))) w := by
    simp [execOp, ho, resolve, invoke, builtin, hv, LV.val, hA, Builtin.len_, run_underlying hu', goInt]
  exact does_value hrun ⟨ρ, own, rfl, fun _ _ => rfl, trivial, hr.mono (fun i hi => .inl hi)⟩

theorem T_indexAddrN {α : Type} {enc : α → List Cell} {xs : List (List α)} {t i e e2 sz2 : Nat} {hole : Option (Nat × Nat)} {x y : Operand} {k : IntKind} {j : Int} {ty ety : TyI} (ho : o.op = .indexAddr t x y) (hx : st.ev x = some (.r i)) (hob : st.o.lookup i = some (.nest e e2 sz2 (xs.map (List.map enc)) hole)) (hy : st.ev y = some (.v (.int k j)))
    (hi : D.get t = some ty) (he0 : (ty.elem == 0) = false) (he : D.get ty.elem = some ety) (hs : ety.size = 1) (h0 : 0 ≤ j) (h1 : j < (xs.length : Int)) : T P N o b [i] st (.e i 1 j.toNat 0) 0 [] := by
  intro w0 M U ρ own st' a w hev hp hfr fr hr
  obtain ⟨hv, hu⟩ := fr.eval ((hev x (by simp [ho, Op.operands])).trans hx)
  obtain ⟨hv2, _⟩ := fr.eval ((hev y (by simp [ho, Op.operands])).trans hy)
  obtain ⟨g1, g2, g3⟩ := hr.ob i _ ((hp i (by simp)).trans hob)
  obtain ⟨A, c, hA, hn⟩ := nest_base g1
  rw [List.length_map] at hA hn
  obtain ⟨ad, rfl⟩ := hn (by omega)
  have hb : base (ρ i) = some ad := by rw [hA]; rfl
  have hrun : (execOp a.eval o).run P w = .ok (.value (.pointer (some (ad.add (j.toNat * 1))))) w := by
    simp only [execOp, ho, hv, hv2, LV.val, hA]
    rw [Sem.run_bind, run_indexAddr (D.ok t ty hi) (by simpa using he0) (D.ok _ ety he) h0 h1, hs]
    rfl
  exact does_value hrun ⟨ρ, own, by simp [LV.val, ptrOf, hb], fun _ _ => rfl, ⟨.inl hu, ad, hb⟩, hr.mono (fun i hi => .inl hi)⟩

theorem owns_same {w w' : World} {e sz n : Nat} {v : Value} {cells : List Value} (h : w.ownsRow 0 e sz v n cells) (hk : ∀ k, v.ownBlock = some k → w'.heap[k]? = w.heap[k]?) : w'.ownsRow 0 e sz v n cells := by
  refine ⟨h.1, ?_⟩
  rcases h.2 with h4 | ⟨g, cap, cur, he, hg, hh, r⟩
  · exact .inl h4
  · exact .inr ⟨g, cap, cur, he, hg, (hk g (by rw [he]; rfl)).trans hh, r⟩

/-- An element slice is split off: an object of its own. -/
theorem T_ldN {α : Type} [Inhabited α] {enc : α → List Cell} {xs : List (List α)} {t i e e2 sz2 j : Nat} {x : Operand} {ty : TyI} (ho : o.op = .load t x) (hx : st.ev x = some (.e i 1 j 0)) (hob : st.o.lookup i = some (.nest e e2 sz2 (xs.map (List.map enc)) none)) (hi : D.get t = some ty) (ha : ty.agg = false) (hj : j < xs.length) :
    T P N o b [i] st (.r b) 1 [(b, .row e2 sz2 ((xs.getD j default).map enc)), (i, .nest e e2 sz2 (xs.map (List.map enc)) (some (j, b)))] := by
  intro w0 M U ρ own st' a w hev hp hfrs fr hr
  obtain ⟨hv, hu⟩ := fr.eval ((hev x (by simp [ho, Op.operands])).trans hx)
  obtain ⟨ad, had⟩ := hu.2
  have hob' := (hp i (by simp)).trans hob
  obtain ⟨⟨vs, hN⟩, hUi, _⟩ := hr.ob i _ hob'
  have hbU : ¬ U b := hfrs b (Nat.le_refl _) (by omega)
  have hbi : b ≠ i := fun h => hbU (h ▸ hUi)
  have hrl : (xs.map (List.map enc)).length = xs.length := by simp
  have hvl : vs.length = xs.length := by rw [hN.out.1, hrl]; simp
  have hjv : vs[j]? = some vs[j] := List.getElem?_eq_getElem (by omega)
  have hrow : (xs.map (List.map enc))[j]? = some ((xs.getD j default).map enc) := by
    rw [List.getElem?_map, List.getElem?_eq_getElem hj, List.getD_eq_getElem?_getD, List.getElem?_eq_getElem hj]; rfl
  generalize hvj : vs[j] = v at hjv
  obtain ⟨cells, g1, g2, g3⟩ := hN.inn j _ v hrow hjv (fun b hb => by cases hb)
  have hcell : w.cell? (ad.add (j * 1 + 0)) = some v := by
    rcases hN.out.2 with ⟨h4, h5⟩ | ⟨g, cap, cur, he, hg, hh, r⟩
    · omega
    · have had' : ad = ⟨g, 0, none⟩ := by rw [he] at had; simpa [base] using had.symm
      subst had'
      rw [Nat.mul_one, Nat.add_zero]
      exact World.ownsRow.cells (he ▸ hN.out) rfl _ _ hjv
  have hrun : (execOp a.eval o).run P w = .ok (.value v) w := by
    simp only [execOp, ho]
    rw [Sem.run_bind, run_load1 (D.ok t ty hi) ha (a := ad.add (j * 1 + 0)) (by rw [hv]; simp [LV.val, ptrOf, had]) hcell]
    rfl
  let own' : Nat → Option Nat := fun k => if own k = some i ∧ v.ownBlock = some k then some b else own k
  have hρ : ∀ q, U q → upd1 ρ b v q = ρ q := fun q hq => upd1_other _ _ (fun h => hbU (h ▸ hq))
  have hnone : ∀ k, own k = none → k < w.heap.size → own' k = none ∧ w.heap[k]? = w.heap[k]? := fun k hk _ => ⟨by simp [own', hk], rfl⟩
  have hkeep : ∀ k, v.ownBlock ≠ some k → own' k = own k := fun k hk => by simp [own', hk]
  refine does_value hrun ⟨upd1 ρ b v, own', by simp [LV.val, upd1_same], hρ, .inr ⟨Nat.le_refl _, by omega⟩, ?_⟩
  refine hr.step (fun q => q = i) rfl rfl rfl (Nat.le_refl _) (fun k hk hq => ⟨rfl, ?_⟩) hρ (fun q hq => .inl hq) (fun q hq => ⟨.nest e e2 sz2 (xs.map (List.map enc)) (some (j, b)), by subst hq; simp [List.lookup, show (q == b) = false by simpa using Ne.symm hbi]⟩) (fun q ob' hq => ?_) (fun q ob' hq => ?_)
  · have : own k ≠ some i := fun h => hq i h rfl
    simp [own', this]
  · simp only [List.lookup] at hq
    cases hqb : q == b with
    | true => exact .inr (by rw [show q = b by simpa using hqb]; exact hbU)
    | false =>
      rw [hqb] at hq
      cases hqi : q == i with
      | true => exact .inl (by rw [show q = i by simpa using hqi]; exact ⟨_, hob'⟩)
      | false => rw [hqi] at hq; cases hq
  · simp only [List.lookup] at hq
    cases hqb : q == b with
    | true =>
      rw [hqb] at hq
      obtain rfl : q = b := by simpa using hqb
      obtain rfl : Ob.row e2 sz2 ((xs.getD j default).map enc) = ob' := by injection hq
      refine ⟨⟨hN.pos, cells, by rw [upd1_same]; exact g1, fun k hk => ?_, g2.mono hnone⟩, .inr ⟨Nat.le_refl _, by omega⟩, trivial⟩
      rw [upd1_same] at hk
      simp [own', (g3 k hk).1, hk]
    | false =>
      rw [hqb] at hq
      cases hqi : q == i with
      | false => rw [hqi] at hq; cases hq
      | true =>
        rw [hqi] at hq
        obtain rfl : q = i := by simpa using hqi
        obtain rfl : Ob.nest e e2 sz2 (xs.map (List.map enc)) (some (j, b)) = ob' := by injection hq
        have hρi := hρ q hUi
        refine ⟨⟨vs, hN.pos, by rw [hρi]; exact hN.out, fun k hk => ?_, fun j' b' hb => ?_, fun j' r v' hj' hv' hh => ?_, fun j1 j2 v1 v2 k hne _ _ => hN.dis j1 j2 v1 v2 k hne (fun b hb => by cases hb) (fun b hb => by cases hb)⟩, .inl hUi, fun j' b' hb => ?_⟩
        · rw [hρi] at hk
          rw [hkeep k (fun h => (g3 k h).2 hk)]
          exact hN.blk k hk
        · cases hb
          rw [upd1_same]; exact hjv
        · have hjj : j ≠ j' := fun h => hh b (by rw [h])
          obtain ⟨cells', k1, k2, k3⟩ := hN.inn j' r v' hj' hv' (fun b hb => by cases hb)
          refine ⟨cells', k1, k2.mono hnone, fun k hk => ?_⟩
          rw [hkeep k (fun h => hN.dis j j' v v' k hjj (fun b hb => by cases hb) (fun b hb => by cases hb) hjv hv' h hk), hρi]
          exact k3 k hk
        · cases hb
          exact .inr ⟨Nat.le_refl _, by omega⟩

/-- A slice of the call's own is stored into an element. -/
theorem T_stN {α : Type} {enc : α → List Cell} {xs : List (List α)} {ys : List α} {t i q e e2 sz2 j : Nat} {hole : Option (Nat × Nat)} {x y : Operand} {ty : TyI} (ho : o.op = .store t x y) (hx : st.ev x = some (.e i 1 j 0)) (hob : st.o.lookup i = some (.nest e e2 sz2 (xs.map (List.map enc)) hole)) (hy : st.ev y = some (.r q)) (hoq : st.o.lookup q = some (.row e2 sz2 (ys.map enc)))
    (hi : D.get t = some ty) (hsz : ty.size = 1) (hiq : (i == q) = false) (hj : j < xs.length) (hh : hole = none ∨ ∃ b0, hole = some (j, b0)) :
    T P N o b [i, q] st (.v undef) 0 [(i, .nest e e2 sz2 ((xs.set j ys).map (List.map enc)) none), (q, .no)] := by
  intro w0 M U ρ own st' a w hev hp hfrs fr hr
  obtain ⟨hv, hu⟩ := fr.eval ((hev x (by simp [ho, Op.operands])).trans hx)
  obtain ⟨hv2, hu2⟩ := fr.eval ((hev y (by simp [ho, Op.operands])).trans hy)
  obtain ⟨ad, had⟩ := hu.2
  have hiq' : i ≠ q := by simpa using hiq
  have hob' := (hp i (by simp)).trans hob
  have hoq' := (hp q (by simp)).trans hoq
  obtain ⟨⟨vs, hN⟩, hUi, _⟩ := hr.ob i _ hob'
  obtain ⟨hq1, hUq, _⟩ := hr.ob q _ hoq'
  obtain ⟨A, c, hA⟩ := row_slice hq1
  obtain ⟨_, cellsq, q1, q2, q3⟩ := hq1
  have hrl : (xs.map (List.map enc)).length = xs.length := by simp
  have hvl : vs.length = xs.length := by rw [hN.out.1, hrl]; simp
  have hhole : ∀ j', j' ≠ j → ∀ b, hole ≠ some (j', b) := fun j' hne b hb => by
    rcases hh with rfl | ⟨b0, rfl⟩
    · cases hb
    · cases hb; exact hne rfl
  rcases hN.out.2 with ⟨h4, h5⟩ | ⟨g, cap, cur, he, hg, hheap, r1, r2, r3, r4⟩
  · omega
  have hgi : own g = some i := hN.blk g (by rw [he]; rfl)
  have hb : base (ρ i) = some ⟨g, 0, none⟩ := by rw [he]; rfl
  have hfits : j + [ρ q].length ≤ cur.size := by simp only [List.length_singleton]; omega
  have hcur : cur.toList.length = cur.size := Array.length_toList
  have hrun : (execOp a.eval o).run P w = .ok .skip (w.setRow g (splice cur.toList j [ρ q]).toArray) := by
    simp only [execOp, ho]
    rw [Sem.run_bind, run_storeAt (D.ok t ty hi) (g := g) (n := j) (vs := [ρ q]) (by rw [hv]; simp [LV.val, ptrOf, hb, add_plain]) (by rw [hv2]; simp [LV.val, hA, Value.cells]) (by simp [hsz]) hheap hfits (fun u hu => by simp at hu; subst hu; rw [hA]; rfl)]
    rfl
  let own' : Nat → Option Nat := fun k => if own k = some q then some i else own k
  have hkq : ∀ k, own k ≠ some q → own' k = own k := fun k hk => by simp [own', hk]
  have hoth : ∀ k, own k ≠ some i → (w.setRow g (splice cur.toList j [ρ q]).toArray).heap[k]? = w.heap[k]? := fun k hk => setRow_other w g k _ (fun h => hk (by rw [h]; exact hgi))
  have hne2 : ∀ k, (ρ i).ownBlock ≠ some k → k ≠ g := fun k hk h => hk (by rw [he, h]; rfl)
  have hnone : ∀ k, own k = none → k < w.heap.size → own' k = none ∧ (w.setRow g (splice cur.toList j [ρ q]).toArray).heap[k]? = w.heap[k]? := fun k hk _ => ⟨by simp [own', hk], hoth k (by rw [hk]; simp)⟩
  refine does_skip hrun ⟨ρ, own', rfl, fun _ _ => rfl, trivial, ?_⟩
  refine HR.mono ?_ (fun i hi => .inl hi)
  refine hr.step (fun p => p = i ∨ p = q) (by simp) (by simp) (by simp) (by simp) (fun k hk hp' => ⟨hoth k (fun h => hp' i h (.inl rfl)), hkq k (fun h => hp' q h (.inr rfl))⟩) (fun _ _ => rfl) (fun _ h => h) (fun p hp' => ?_) (fun p ob' hp' => ?_) (fun p ob' hp' => ?_)
  · rcases hp' with rfl | rfl
    · exact ⟨_, by simp; rfl⟩
    · exact ⟨.no, by simp [List.lookup, show (p == i) = false by simpa using Ne.symm hiq']⟩
  · simp only [List.lookup] at hp'
    cases hpi : p == i with
    | true => exact .inl (by rw [show p = i by simpa using hpi]; exact ⟨_, hob'⟩)
    | false =>
      rw [hpi] at hp'
      cases hpq : p == q with
      | true => exact .inl (by rw [show p = q by simpa using hpq]; exact ⟨_, hoq'⟩)
      | false => rw [hpq] at hp'; cases hp'
  · simp only [List.lookup] at hp'
    cases hpi : p == i with
    | false =>
      rw [hpi] at hp'
      cases hpq : p == q with
      | false => rw [hpq] at hp'; cases hp'
      | true =>
        rw [hpq] at hp'
        obtain rfl : p = q := by simpa using hpq
        obtain rfl : Ob.no = ob' := by injection hp'
        exact ⟨trivial, hUq, trivial⟩
    | true =>
      rw [hpi] at hp'
      obtain rfl : p = i := by simpa using hpi
      obtain rfl : Ob.nest e e2 sz2 ((xs.set j ys).map (List.map enc)) none = ob' := by injection hp'
      have hat : ∀ j' v', (splice vs j [ρ q])[j']? = some v' → (j' = j ∧ v' = ρ q) ∨ (j' ≠ j ∧ vs[j']? = some v') := fun j' v' h => by
        rw [splice_get vs j [ρ q] (by simp; omega)] at h
        simp only [List.length_singleton] at h
        by_cases h1 : j' < j
        · rw [if_pos h1] at h; exact .inr ⟨by omega, h⟩
        · rw [if_neg h1] at h
          by_cases h2 : j' < j + 1
          · rw [if_pos h2] at h
            have : j' = j := by omega
            subst this
            simp at h
            exact .inl ⟨rfl, h.symm⟩
          · rw [if_neg h2] at h; exact .inr ⟨by omega, h⟩
      refine ⟨⟨splice vs j [ρ q], hN.pos, ?_, fun k hk => ?_, (fun j' b' hb => by cases hb), fun j' r v' hj' hv' _ => ?_, fun j1 j2 v1 v2 k hne _ _ hv1 hv2' hk1 hk2 => ?_⟩, hUi, (fun j' b' hb => by cases hb)⟩
      · have hlen : ((xs.set j ys).map (List.map enc)).length = xs.length := by simp
        refine ⟨by rw [splice_length _ _ _ (by simp; omega), hvl, hlen]; simp, .inr ⟨g, cap, _, by rw [he, hrl, hlen], Nat.zero_le _, setRow_heap w g cur _ e _ hheap, by rw [hlen]; omega, r2, ?_, ?_⟩⟩
        · rw [List.size_toArray, splice_length _ _ _ (by rw [hcur]; exact hfits), Array.length_toList, r3]
        · rw [hlen, ← r4, hrl]
          exact splice_take _ _ _ _ (by simp; omega) (by rw [hcur, r3]; omega)
      · rw [hkq k (by rw [hN.blk k hk]; intro h; exact hiq' (Option.some.inj h))]
        exact hN.blk k hk
      · rcases hat j' v' hv' with ⟨rfl, rfl⟩ | ⟨hne, hv''⟩
        · have hr : r = ys.map enc := by
            rw [List.getElem?_map, List.getElem?_set_self (by omega)] at hj'
            simpa using hj'.symm
          subst hr
          refine ⟨cellsq, owns_same q1 (fun k hk => hoth k (by rw [q2 k hk]; intro h; exact hiq' (Option.some.inj h).symm)), q3.mono hnone, fun k hk => ⟨by simp [own', q2 k hk], fun h => ?_⟩⟩
          have h1 := hN.blk k h
          rw [q2 k hk] at h1
          exact hiq' (Option.some.inj h1).symm
        · have hr : (xs.map (List.map enc))[j']? = some r := by
            rw [List.getElem?_map, List.getElem?_set_ne (Ne.symm hne)] at hj'
            rw [List.getElem?_map]; exact hj'
          obtain ⟨cells', k1, k2, k3⟩ := hN.inn j' r v' hr hv'' (hhole j' hne)
          refine ⟨cells', owns_same k1 (fun k hk => setRow_other w g k _ (hne2 k (k3 k hk).2)), k2.mono hnone, fun k hk => ⟨?_, (k3 k hk).2⟩⟩
          rw [hkq k (by rw [(k3 k hk).1]; intro h; exact hiq' (Option.some.inj h))]
          exact (k3 k hk).1
      · have hown : ∀ j' v', j' ≠ j → vs[j']? = some v' → ∀ k, v'.ownBlock = some k → own k = some p := fun j' v' hne hv'' k hk => by
          have hj3 : j' < xs.length := by rw [← hvl]; exact (List.getElem?_eq_some_iff.1 hv'').1
          obtain ⟨cells', k1, k2, k3⟩ := hN.inn j' _ v' (by rw [List.getElem?_map, List.getElem?_eq_getElem hj3]; rfl) hv'' (hhole j' hne)
          exact (k3 k hk).1
        rcases hat j1 v1 hv1 with ⟨rfl, rfl⟩ | ⟨hne1, hv1'⟩
        · rcases hat j2 v2 hv2' with ⟨rfl, rfl⟩ | ⟨hne2', hv2''⟩
          · exact hne rfl
          · have h1 := hown j2 v2 hne2' hv2'' k hk2
            rw [q2 k hk1] at h1
            exact hiq' (Option.some.inj h1).symm
        · rcases hat j2 v2 hv2' with ⟨rfl, rfl⟩ | ⟨hne2', hv2''⟩
          · have h1 := hown j1 v1 hne1 hv1' k hk1
            rw [q2 k hk2] at h1
            exact hiq' (Option.some.inj h1).symm
          · exact hN.dis j1 j2 v1 v2 k hne (hhole j1 hne1) (hhole j2 hne2') hv1' hv2'' hk1 hk2
end
theorem Embs.nestE {o : List (Nat × Ob)} {σ : Nat → Nat} {c e e2 sz2 : Nat} {rows rows' : List (List (List Cell))} {l : List (Nat × Ob)} (h : o.lookup (σ c) = some (.nest e e2 sz2 rows' none)) (t : Embs o σ l) (he : rows' = rows) : Embs o σ ((c, .nest e e2 sz2 rows none) :: l) := .nest (by rw [h, he]) t
theorem Embs.lendNE {o : List (Nat × Ob)} {σ : Nat → Nat} {c e e2 sz2 : Nat} {rows : List (List Cell)} {rows' : List (List (List Cell))} {l : List (Nat × Ob)} (h : o.lookup (σ c) = some (.nest e e2 sz2 rows' none)) (t : Embs o σ l) (he : nestRows sz2 rows' = rows) : Embs o σ ((c, .fz 1 rows) :: l) := by
  subst he
  exact .lendN h t
theorem nestRows_eIs (xs : List (List Int)) : nestRows 1 (xs.map (List.map eI)) = xs.map eIs := by simp [nestRows, eIs, Function.comp_def]
theorem nestRows_eBs (xs : List (List Bool)) : nestRows 1 (xs.map (List.map eB)) = xs.map eBs := by simp [nestRows, eBs, Function.comp_def]
end Lg
end Go.Proofs.Ytpfhmodjjljpjaa
