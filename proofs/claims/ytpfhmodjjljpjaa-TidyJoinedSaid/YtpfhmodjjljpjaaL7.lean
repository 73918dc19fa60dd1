import Derived.Test.YtpfhmodjjljpjaaL6
namespace Go.Proofs.Ytpfhmodjjljpjaa
open Go.RowKit
namespace Lg
set_option linter.unusedSimpArgs false
set_option linter.unusedVariables false

/-! ### Literals -/
def fillL {β : Type} (place : Nat → Option (Nat × Nat)) (cells : List β) : List (Nat × List β) → Option (List β)
  | [] => some cells
  | (i, l) :: rest => match place i with
    | none => none
    | some (off, size) => if (l.length != size || decide (off + l.length > cells.length)) = true then none else fillL place (splice cells off l) rest

theorem foldl_splice (l : List Value) (off : Nat) : ∀ (q : Nat) (cells : Array Value), off + q + l.length ≤ cells.size → (l.zipIdx q).foldl (fun cs (c : Value × Nat) => cs.setIfInBounds (off + c.2) c.1) cells = (splice cells.toList (off + q) l).toArray := by
  induction l with
  | nil =>
    intro q cells h
    simp [splice]
  | cons x l ih =>
    intro q cells h
    simp only [List.length_cons] at h
    rw [List.zipIdx_cons, List.foldl_cons, ih (q + 1) _ (by simp; omega)]
    apply Array.ext'
    simp only [Array.toList_setIfInBounds]
    apply List.ext_getElem?
    intro k
    rw [splice_get _ _ _ (by simp; omega), splice_get _ _ _ (by simp; omega)]
    simp only [List.length_cons]
    by_cases h1 : k < off + q
    · rw [if_pos (by omega), if_pos h1, List.getElem?_set_ne (by omega)]
    · rw [if_neg h1]
      by_cases h2 : k = off + q
      · subst h2
        rw [if_pos (by omega), if_pos (by omega), List.getElem?_set_self (by simp; omega)]
        simp
      · rw [if_neg (by omega)]
        by_cases h3 : k < off + (q + 1) + l.length
        · rw [if_pos h3, if_pos (by omega)]
          have : k - (off + q) = (k - (off + (q + 1))) + 1 := by omega
          rw [this, List.getElem?_cons_succ]
        · rw [if_neg h3, if_neg (by omega), List.getElem?_set_ne (by omega)]

theorem fill_eq (place : Nat → Option (Nat × Nat)) : ∀ (parts : List (Nat × Value)) (cells : List Value), Instr.fill place cells.toArray parts = (fillL place cells (parts.map fun p => (p.1, p.2.cells.toList))).map List.toArray
  | [], cells => rfl
  | (i, v) :: rest, cells => by
    simp only [Instr.fill, List.map_cons, fillL]
    cases hp : place i with
    | none => rfl
    | some os =>
      obtain ⟨off, size⟩ := os
      simp only []
      by_cases hc : (v.cells.size ≠ size ∨ off + v.cells.size > cells.length)
      · rw [if_pos (by simpa using hc), if_pos (by simpa using hc)]
        rfl
      · rw [if_neg (by simpa using hc), if_neg (by simpa using hc)]
        have h1 := foldl_splice v.cells.toList off 0 cells.toArray (by simp at hc ⊢; omega)
        have h2 : (v.cells.zipIdx.foldl (fun cs (c : Value × Nat) => cs.setIfInBounds (off + c.2) c.1) cells.toArray) = (splice cells off v.cells.toList).toArray := by
          rw [← Array.foldl_toList, Array.toList_zipIdx]
          simpa using h1
        have h3 : (v.cells.zipIdx.foldl (fun cs x => match x with | (c, j) => cs.setIfInBounds (off + j) c) cells.toArray) = (splice cells off v.cells.toList).toArray := h2
        rw [h3, fill_eq place rest]

theorem splice_map {β γ : Type} (f : β → γ) (l : List β) (n : Nat) (m : List β) : splice (l.map f) n (m.map f) = (splice l n m).map f := by
  simp [splice]
theorem fillL_map {β γ : Type} (f : β → γ) (place : Nat → Option (Nat × Nat)) : ∀ (parts : List (Nat × List β)) (cells : List β), fillL place (cells.map f) (parts.map fun p => (p.1, p.2.map f)) = (fillL place cells parts).map (·.map f)
  | [], cells => rfl
  | (i, l) :: rest, cells => by
    simp only [List.map_cons, fillL, List.length_map]
    cases hp : place i with
    | none => rfl
    | some os =>
      obtain ⟨off, size⟩ := os
      simp only []
      split
      · rfl
      · rw [splice_map, fillL_map f place rest]

theorem splice_mem {β : Type} {l m : List β} {n : Nat} {x : β} (h : x ∈ splice l n m) : x ∈ l ∨ x ∈ m := by
  unfold splice at h
  rcases List.mem_append.1 h with h | h
  · rcases List.mem_append.1 h with h | h
    · exact .inl (List.mem_of_mem_take h)
    · exact .inr h
  · exact .inl (List.mem_of_mem_drop h)
theorem fillL_mem {β : Type} (place : Nat → Option (Nat × Nat)) : ∀ (parts : List (Nat × List β)) (cells l : List β), fillL place cells parts = some l → ∀ x ∈ l, x ∈ cells ∨ ∃ p ∈ parts, x ∈ p.2
  | [], cells, l, h, x, hx => by cases h; exact .inl hx
  | (i, m) :: rest, cells, l, h, x, hx => by
    simp only [fillL] at h
    cases hp : place i with
    | none => rw [hp] at h; cases h
    | some os =>
      obtain ⟨off, size⟩ := os
      rw [hp] at h
      simp only [] at h
      split at h
      · cases h
      · rcases fillL_mem place rest _ l h x hx with h1 | ⟨p, h1, h2⟩
        · rcases splice_mem h1 with h1 | h1
          · exact .inl h1
          · exact .inr ⟨_, List.mem_cons_self, h1⟩
        · exact .inr ⟨p, List.mem_cons_of_mem _ h1, h2⟩

/-- The parts of a literal, as logical values' cells. -/
inductive PartsOf (st : St) : List (Nat × Operand) → List (Nat × List LV) → List Nat → Prop
  | nil : PartsOf st [] [] []
  | cons {i : Nat} {x : Operand} {lv : LV} {l : List LV} {pre ps ls pre'} (hx : st.ev x = some lv) (hf : Flat st lv l pre) (t : PartsOf st ps ls pre') : PartsOf st ((i, x) :: ps) ((i, l) :: ls) (pre ++ pre')

section
variable {P : Program} {N : Nat} {o : Oper} {b : Nat} {st : St} (D : Tab P)

theorem parts_of {ps : List (Nat × Operand)} {ls : List (Nat × List LV)} {pre : List Nat} (h : PartsOf st ps ls pre) {w0 w : World} {M : Fp} {U : Nat → Prop} {ρ : Nat → Value} {own : Nat → Option Nat} {st' : St} {a : Act} (hev : ∀ p ∈ ps, st'.ev p.2 = st.ev p.2) (hp : ∀ i, i ∈ pre → st'.o.lookup i = st.o.lookup i)
    (fr : FR N U ρ st'.s a) (hr : HR w0 M U ρ own st'.o w) : (ps.map fun p => (p.1, (a.eval p.2).cells.toList)) = (ls.map fun p => (p.1, p.2.map (LV.val ρ))) ∧ ∀ p ∈ ls, ∀ x ∈ p.2, x.used U ρ ∧ (x.val ρ).oneCell' = true := by
  induction h with
  | nil => exact ⟨rfl, fun p h => by simp at h⟩
  | @cons i x lv l pre ps ls pre' hx hf t ih =>
    obtain ⟨h1, h2⟩ := ih (fun p hp => hev p (List.mem_cons_of_mem _ hp)) (fun i hi => hp i (List.mem_append_right _ hi))
    obtain ⟨hv, hu⟩ := fr.eval ((hev _ List.mem_cons_self).trans hx)
    obtain ⟨c1, c2, c3⟩ := hf w0 w M U ρ own st'.o (fun i hi => hp i (List.mem_append_left _ hi)) hr hu
    refine ⟨?_, fun p hp x hx => ?_⟩
    · simp only [List.map_cons, h1]
      rw [hv, c1, vals_eq_map]
    · rcases List.mem_cons.1 hp with rfl | hp
      · refine ⟨useds_iff.1 c2 x hx, ?_⟩
        rw [vals_eq_map, List.all_map] at c3
        exact List.all_eq_true.1 c3 x hx
      · exact h2 p hp x hx

theorem Good.built {t : Nat} {i : TyI} (h : Good P t i) (hf : (i.fields.length == 0) = false) (hnz : i.fields.all (fun p => p.2 != 0) = true) (parts : List (Nat × Value)) : P.built t parts = Instr.fill (i.fields.toArray[·]?) i.zero.toArray parts := by
  have h1 := h.flds
  have hf' : i.fields ≠ [] := fun e => by rw [e] at hf; cases hf
  obtain ⟨j, z, hj, hz, hc, _, _⟩ := h.ti
  cases hu : P.underlying t with
  | none => rw [hu] at h1; exact absurd h1.symm hf'
  | some d =>
    rw [hu] at h1
    cases d <;> try exact absurd h1.symm hf'
    case struct fs =>
      simp only [] at h1
      have hp : fs.toList.mapM (fun f => (P.info? f.type).map fun i => (f.offset, i.size)) = some i.fields := by
        rw [← h1]
        have : ∀ (l : List Field), (∀ f ∈ l, P.cellsOf f.type ≠ 0) → l.mapM (fun f => (P.info? f.type).map fun i => (f.offset, i.size)) = some (l.map fun f => (f.offset, P.cellsOf f.type)) := by
          intro l
          induction l with
          | nil => intro _; rfl
          | cons f l ih =>
            intro hl
            have h2 := hl f (by simp)
            have h3 := ih (fun g hg => hl g (by simp [hg]))
            cases hi : P.info? f.type with
            | none => exact absurd (by simp [Program.cellsOf, hi]) h2
            | some j =>
              rw [List.mapM_cons, hi, h3]
              simp [Program.cellsOf, hi]
        refine this _ (fun f hf2 => ?_)
        have h4 := List.all_eq_true.1 hnz (f.offset, P.cellsOf f.type) (by rw [← h1]; exact List.mem_map_of_mem hf2)
        simpa using h4
      have hzc : z.cells = i.zero.toArray := by rw [← hc]
      unfold Program.built
      simp only [hj, hu, hz, hp, hzc]

/-- T{..} -/
theorem T_build {t : Nat} {parts : Array (Nat × Operand)} {ls : List (Nat × List LV)} {l : List LV} {pre : List Nat} {ty : TyI} (ho : o.op = .build t parts) (hi : D.get t = some ty) (hf : (ty.fields.length == 0) = false) (hnz : ty.fields.all (fun p => p.2 != 0) = true)
    (hp : PartsOf st parts.toList ls pre) (hz : ty.zero.all (·.oneCell') = true) (hl : fillL (fun i => ty.fields[i]?) (ty.zero.map .v) ls = some l) : T P N o b pre st (.agg l) 0 [] := by
  intro w0 M U ρ own st' a w hev hpre hfrs fr hr
  obtain ⟨h1, h2⟩ := parts_of hp (fun p hp => hev p.2 (by simp only [ho, Op.operands]; simp; exact ⟨p.1, by simpa using hp⟩)) hpre fr hr
  have h3 : Instr.fill (ty.fields.toArray[·]?) ty.zero.toArray (parts.map fun p => (p.1, a.eval p.2)).toList = some (LV.vals ρ l).toArray := by
    rw [fill_eq, Array.toList_map, List.map_map]
    have h4 : ((fun p : Nat × Value => (p.1, p.2.cells.toList)) ∘ fun p : Nat × Operand => (p.1, a.eval p.2)) = fun p : Nat × Operand => (p.1, (a.eval p.2).cells.toList) := rfl
    rw [h4, h1]
    have h5 : ty.zero = (ty.zero.map LV.v).map (LV.val ρ) := by simp [Function.comp_def, LV.val]
    have h6 := fillL_map (LV.val ρ) (fun i => ty.fields[i]?) ls (ty.zero.map .v)
    rw [hl, ← h5] at h6
    simp only [List.getElem?_toArray]
    rw [h6]
    simp [vals_eq_map]
  have hrun : (execOp a.eval o).run P w = .ok (.value (.agg (LV.vals ρ l).toArray)) w := by
    simp only [execOp, ho]
    rw [Sem.run_bind, run_build w t _ (LV.vals ρ l).toArray (by rw [(D.ok t ty hi).built hf hnz]; exact h3)]
    rfl
  have hmem := fillL_mem _ ls _ l hl
  refine does_value hrun ⟨ρ, own, rfl, fun _ _ => rfl, ⟨?_, ?_⟩, hr.mono (fun i hi => .inl hi)⟩
  · rw [useds_iff]
    intro x hx
    rcases hmem x hx with h4 | ⟨p, h4, h5⟩
    · obtain ⟨v, _, rfl⟩ := List.mem_map.1 h4
      trivial
    · exact used_mono (fun _ _ => rfl) (fun i hi => .inl hi) x (h2 p h4 x h5).1
  · rw [vals_eq_map, List.all_map, List.all_eq_true]
    intro x hx
    rcases hmem x hx with h4 | ⟨p, h4, h5⟩
    · obtain ⟨v, hv, rfl⟩ := List.mem_map.1 h4
      exact all_get hz v hv
    · exact (h2 p h4 x h5).2

theorem run_buildSlice {t n : Nat} {ty ety : TyI} (hg : Good P t ty) (he0 : ty.elem ≠ 0) (he : Good P ty.elem ety) (hn : n * ety.size ≤ 16777216) {parts : Array (Nat × Value)} {cells : Array Value}
    (hf : Instr.fill (fun i => some (i * ety.size, ety.size)) (madeCells ety.zero.toArray (n * ety.size)) parts.toList = some cells) (w : World) : (Instr.buildSlice t n parts).run P w = .ok (.slice (some ⟨w.heap.size, 0, none⟩) n n) (w.alloc (.cells cells ty.elem)) := by
  obtain ⟨z, hz, hc⟩ := he.zeroV w
  have hzc : z.cells = ety.zero.toArray := by rw [← hc]
  have hbig : ¬ n * ety.size > 2 ^ 24 := by omega
  by_cases h0 : n * ety.size = 0
  · have hf' : Instr.fill (fun i => some (i * ety.size, ety.size)) ((Array.range (n * ety.size)).map (fun q => (#[] : Array Value)[q % (#[] : Array Value).size]!)) parts.toList = some cells := by
      rw [h0] at hf ⊢
      have h1 : ∀ g : Nat → Value, (Array.range 0).map g = #[] := fun g => by simp
      rw [h1]
      simp only [madeCells] at hf
      rw [h1] at hf
      exact hf
    simp only [Instr.buildSlice, Sem.run_bind, run_underlying (hg.sl he0), Result.andThen_ok, he.sizeOf w, if_neg hbig, if_pos h0, Sem.run_pure, hf']
    rfl
  · have hf' : Instr.fill (fun i => some (i * ety.size, ety.size)) ((Array.range (n * ety.size)).map (fun q => z.cells[q % z.cells.size]!)) parts.toList = some cells := by rw [hzc]; exact hf
    simp only [Instr.buildSlice, Sem.run_bind, run_underlying (hg.sl he0), Result.andThen_ok, he.sizeOf w, if_neg hbig, if_neg h0, hz, Sem.run_pure, hf']
    rfl

theorem flatten_get {sz : Nat} : ∀ (rows : List (List Cell)), (∀ r ∈ rows, r.length = sz) → ∀ (i : Nat) (r : List Cell) (f : Nat) (cl : Cell), rows[i]? = some r → r[f]? = some cl → rows.flatten[i * sz + f]? = some cl
  | [], _, i, r, f, cl, h, _ => by simp at h
  | r0 :: rows, hz, 0, r, f, cl, h, hf => by
    simp at h
    subst h
    rw [List.flatten_cons, List.getElem?_append_left (by have := (List.getElem?_eq_some_iff.1 hf).1; omega)]
    simpa using hf
  | r0 :: rows, hz, i + 1, r, f, cl, h, hf => by
    have h0 : r0.length = sz := hz r0 (by simp)
    have h1 : (i + 1) * sz + f - r0.length = i * sz + f := by rw [Nat.succ_mul, h0]; omega
    rw [List.flatten_cons, List.getElem?_append_right (by rw [h0, Nat.succ_mul]; omega), h1]
    exact flatten_get rows (fun r hr => hz r (by simp [hr])) i r f cl (by simpa using h) hf
theorem flatten_len {sz : Nat} : ∀ (rows : List (List Cell)), (∀ r ∈ rows, r.length = sz) → rows.flatten.length = rows.length * sz
  | [], _ => by simp
  | r :: rows, h => by
    rw [List.flatten_cons, List.length_append, flatten_len rows (fun r hr => h r (by simp [hr])), h r (by simp), List.length_cons, Nat.succ_mul]
    omega

/-- []T{x, y, ..} -/
theorem T_buildSlice {α : Type} {enc : α → List Cell} {ys : List α} {t n : Nat} {parts : Array (Nat × Operand)} {ls : List (Nat × List LV)} {l : List LV} {pre pre' : List Nat} {frz : List (Nat × Ob)} {ty ety : TyI} (ho : o.op = .buildSlice t n parts) (hi : D.get t = some ty) (he0 : (ty.elem == 0) = false) (he : D.get ty.elem = some ety) (hs : (ety.size == 0) = false)
    (hn : decide (n * ety.size ≤ 16777216) = true) (hp : PartsOf st parts.toList ls pre) (hl : fillL (fun i => some (i * ety.size, ety.size)) ((madeCells ety.zero.toArray (n * ety.size)).toList.map .v) ls = some l)
    (hc : CellsOf st.o l (ys.map enc).flatten pre' frz) (hy : ys.length = n) (hez : (ys.map enc).all (fun r => r.length == ety.size) = true) :
    T P N o b (pre ++ pre') st (.r b) 1 ((b, .row ty.elem ety.size (ys.map enc)) :: frz) := by
  intro w0 M U ρ own st' a w hev hpre hfrs fr hr
  have hsz : 0 < ety.size := by have : ety.size ≠ 0 := by simpa using hs
                                omega
  obtain ⟨h1, h2⟩ := parts_of hp (fun p hp => hev p.2 (by simp only [ho, Op.operands]; simp; exact ⟨p.1, by simpa using hp⟩)) (fun i hi => hpre i (List.mem_append_left _ hi)) fr hr
  obtain ⟨own', g1, g2, g3, g4, g5, g6⟩ := cells_of hc w0 w M U ρ own st'.o (fun i hi => hpre i (List.mem_append_right _ hi)) hr
  have hz : ∀ r ∈ ys.map enc, r.length = ety.size := fun r hr => by simpa using List.all_eq_true.1 hez r hr
  have hR : RowsRd w (fun k => own' k = none) ety.size (ys.map enc) (LV.vals ρ l) := by
    refine ⟨by rw [g2, flatten_len _ hz], fun i r hi => ⟨hz r (List.mem_of_getElem? hi), fun f cl hf => ?_⟩⟩
    have h5 := flatten_get _ hz i r f cl hi hf
    have h6 : i * ety.size + f < (LV.vals ρ l).length := by rw [g2]; exact (List.getElem?_eq_some_iff.1 h5).1
    exact ⟨_, List.getElem?_eq_getElem h6, g6 _ _ _ h5 (List.getElem?_eq_getElem h6)⟩
  have h3 : Instr.fill (fun i => some (i * ety.size, ety.size)) (madeCells ety.zero.toArray (n * ety.size)) (parts.map fun p => (p.1, a.eval p.2)).toList = some (LV.vals ρ l).toArray := by
    have h7 : madeCells ety.zero.toArray (n * ety.size) = (madeCells ety.zero.toArray (n * ety.size)).toList.toArray := by simp
    rw [h7, fill_eq, Array.toList_map, List.map_map]
    have h4 : ((fun p : Nat × Value => (p.1, p.2.cells.toList)) ∘ fun p : Nat × Operand => (p.1, a.eval p.2)) = fun p : Nat × Operand => (p.1, (a.eval p.2).cells.toList) := rfl
    rw [h4, h1]
    have h5 : ∀ q : List Value, q = (q.map LV.v).map (LV.val ρ) := fun q => by simp [Function.comp_def, LV.val]
    have h6 := fillL_map (LV.val ρ) (fun i => some (i * ety.size, ety.size)) ls ((madeCells ety.zero.toArray (n * ety.size)).toList.map .v)
    rw [hl, ← h5] at h6
    rw [h6]
    simp [vals_eq_map]
  have hlen : (ys.map enc).length = n := by simpa using hy
  have hnle : n ≤ 16777216 := Nat.le_trans (Nat.le_mul_of_pos_right n hsz) (of_decide_eq_true hn)
  have hnr := g1.newRow b ty.elem ety.size (hfrs b (Nat.le_refl _) (by omega)) hsz (by rw [hlen]; simp only [maxLen]; omega) hR
  rw [hlen] at hnr
  have hrun : (execOp a.eval o).run P w = .ok (.value (.slice (some ⟨w.heap.size, 0, none⟩) n n)) (w.alloc (.cells (LV.vals ρ l).toArray ty.elem)) := by
    simp only [execOp, ho]
    rw [Sem.run_bind, run_buildSlice (D.ok t ty hi) (by simpa using he0) (D.ok _ ety he) (of_decide_eq_true hn) h3]
    rfl
  exact does_value hrun ⟨upd1 ρ b (.slice (some ⟨w.heap.size, 0, none⟩) n n), _, by simp [LV.val, upd1_same], fun i hi => upd1_other _ _ (fun h => hfrs b (Nat.le_refl _) (by omega) (h ▸ hi)), .inr ⟨Nat.le_refl _, by omega⟩, hnr⟩

/-- The cells of a row that is read. -/
theorem rows_cells {w : World} {ρ : Nat → Value} {own : Nat → Option Nat} {i sz : Nat} {rows : List (List Cell)} {ob : Ob} (h : RepOb w ρ own i ob) (ho : ob.rows? = some (sz, rows)) (hs : 0 < sz) :
    ∃ A c cells, ρ i = .slice A rows.length c ∧ RowsRd w (fun k => own k = none) sz rows cells ∧ (∀ ad, A = some ad → ∀ (q : Nat) (u : Value), cells[q]? = some u → w.cell? (ad.add q) = some u) ∧ (A = none → rows = []) := by
  cases ob with
  | no => cases ho
  | box t cs => cases ho
  | nest e e2 sz2 rows hole => cases ho
  | fz sz' rows' =>
    simp only [Ob.rows?, Option.some.injEq, Prod.mk.injEq] at ho
    obtain ⟨rfl, rfl⟩ := ho
    have h1 : Rd w (fun k => own k = none) (.sl sz' rows') (ρ i) := h
    generalize ρ i = v at h1
    cases h1 with
    | sl sz rows A c u hc hm hz hn hA hR =>
      have hget : ∀ (j : Nat) (r : List Cell) (f : Nat), rows'[j]? = some r → f < sz' → ((List.range (rows'.length * sz')).map fun q => u (q / sz') (q % sz'))[j * sz' + f]? = some (u j f) := fun j r f hj hf => by
        have hjl : j < rows'.length := (List.getElem?_eq_some_iff.1 hj).1
        have hle : j * sz' + sz' ≤ rows'.length * sz' := by rw [← Nat.succ_mul]; exact Nat.mul_le_mul_right _ hjl
        rw [List.getElem?_map, List.getElem?_range (by omega), Option.map_some]
        have h1 : (j * sz' + f) / sz' = j := by rw [Nat.add_comm, Nat.add_mul_div_right _ _ hs, Nat.div_eq_of_lt hf, Nat.zero_add]
        have h2 : (j * sz' + f) % sz' = f := by rw [Nat.add_comm, Nat.add_mul_mod_self_right, Nat.mod_eq_of_lt hf]
        rw [h1, h2]
      refine ⟨A, c, (List.range (rows'.length * sz')).map fun q => u (q / sz') (q % sz'), rfl, ⟨by simp, fun j r hj => ⟨hz r (List.mem_of_getElem? hj), fun f cl hf => ?_⟩⟩, fun ad had q v hq => ?_, fun hnone => ?_⟩
      · have hfl : f < sz' := by rw [← hz r (List.mem_of_getElem? hj)]; exact (List.getElem?_eq_some_iff.1 hf).1
        exact ⟨u j f, hget j r f hj hfl, hR j r f cl hj hf⟩
      · have hql : q < rows'.length * sz' := by have := (List.getElem?_eq_some_iff.1 hq).1; simpa using this
        have hj : q / sz' < rows'.length := Nat.div_lt_of_lt_mul (by rw [Nat.mul_comm]; exact hql)
        have hf : q % sz' < sz' := Nat.mod_lt _ hs
        have hr := List.getElem?_eq_getElem hj
        have hrl := hz _ (List.getElem_mem hj)
        have hcl := List.getElem?_eq_getElem (show q % sz' < rows'[q / sz'].length by omega)
        obtain ⟨a, ha, _, hcell⟩ := hA _ _ _ _ hr hcl
        rw [had] at ha
        cases ha
        have hqe : q / sz' * sz' + q % sz' = q := by rw [Nat.mul_comm]; exact Nat.div_add_mod q sz'
        rw [hqe] at hcell
        have := hget _ _ (q % sz') hr hf
        rw [hqe, hq] at this
        cases this
        exact hcell
      · by_cases h : rows' = []
        · exact h
        · obtain ⟨a, ha⟩ := hn h
          rw [hnone] at ha
          cases ha
  | row e sz' rows' =>
    simp only [Ob.rows?, Option.some.injEq, Prod.mk.injEq] at ho
    obtain ⟨rfl, rfl⟩ := ho
    obtain ⟨h0, cells, h1, h2, h3⟩ := h
    rcases h1.2 with ⟨h4, h5⟩ | ⟨g, cap, cur, he, hg, hh, r1, r2, r3, r4⟩
    · exact ⟨none, 0, cells, by rw [h4, h5], h3, fun ad had => (by cases had), fun _ => List.eq_nil_of_length_eq_zero h5⟩
    · exact ⟨_, cap, cells, he, h3, fun ad had q u hq => by cases had; exact World.ownsRow.cells (he ▸ h1) rfl _ _ hq, fun h => by cases h⟩

theorem RowsRd.append {w : World} {ok : Nat → Prop} {sz : Nat} {rows rows' : List (List Cell)} {cells cells' : List Value} (h : RowsRd w ok sz rows cells) (h' : RowsRd w ok sz rows' cells') : RowsRd w ok sz (rows ++ rows') (cells ++ cells') := by
  refine ⟨by rw [List.length_append, List.length_append, h.len, h'.len, Nat.add_mul], fun i r hi => ?_⟩
  rcases Nat.lt_or_ge i rows.length with hlt | hge
  · rw [List.getElem?_append_left hlt] at hi
    obtain ⟨h1, h2⟩ := h.each i r hi
    refine ⟨h1, fun j cl hj => ?_⟩
    obtain ⟨u, h3, h4⟩ := h2 j cl hj
    have := (List.getElem?_eq_some_iff.1 h3).1
    exact ⟨u, by rw [List.getElem?_append_left this]; exact h3, h4⟩
  · rw [List.getElem?_append_right hge] at hi
    obtain ⟨h1, h2⟩ := h'.each _ r hi
    refine ⟨h1, fun j cl hj => ?_⟩
    obtain ⟨u, h3, h4⟩ := h2 j cl hj
    refine ⟨u, ?_, h4⟩
    have hle : rows.length * sz ≤ i * sz := Nat.mul_le_mul_right _ hge
    rw [List.getElem?_append_right (by rw [h.len]; omega), h.len]
    have : i * sz + j - rows.length * sz = (i - rows.length) * sz + j := by rw [Nat.sub_mul]; omega
    rw [this]
    exact h3
theorem RowsRd.one {w : World} {ok : Nat → Prop} {sz : Nat} {rows : List (List Cell)} {cells : List Value} (h : RowsRd w ok sz rows cells) (hs : 0 < sz) : ∀ u ∈ cells, u.oneCell' = true := fun u hu => by
  obtain ⟨q, hq⟩ := List.getElem?_of_mem hu
  have hql : q < rows.length * sz := by rw [← h.len]; exact (List.getElem?_eq_some_iff.1 hq).1
  have hj : q / sz < rows.length := Nat.div_lt_of_lt_mul (by rw [Nat.mul_comm]; exact hql)
  obtain ⟨h1, h2⟩ := h.each _ _ (List.getElem?_eq_getElem hj)
  have hf : q % sz < rows[q / sz].length := by rw [h1]; exact Nat.mod_lt _ hs
  obtain ⟨u', h3, h4⟩ := h2 _ _ (List.getElem?_eq_getElem hf)
  have hqe : q / sz * sz + q % sz = q := by rw [Nat.mul_comm]; exact Nat.div_add_mod q sz
  rw [hqe, hq] at h3
  cases h3
  exact h4.one

theorem run_appendG {w : World} {t ty e : TypeId} {i : TypeInfo} {z : Value} (ht : P.underlying t = some (.slice e)) (hi : P.info? e = some i) (hz : i.zero = some z) (hzs : z.cells.size = i.size) (hsz : 0 < i.size)
    {v : Value} {n : Nat} {xs : List Value} (hown : w.ownsRow 0 e i.size v n xs) {A : Option Addr} {m c : Nat} {news : List Value} (hl : news.length = m * i.size) (hnews : ∀ ad, A = some ad → ∀ (q : Nat) (u : Value), news[q]? = some u → w.cell? (ad.add q) = some u) (hA : A = none → m = 0) (h1 : ∀ u ∈ news, u.oneCell' = true)
    (h63 : n + m ≤ maxLen) (hbytes : (n + m) * i.bytes ≤ 140737488355328) :
    ∃ v' w', (Builtin.append_ #[t, t] ty #[v, .slice A m c]).run P w = .ok v' w' ∧ w'.ownsRow 0 e i.size v' (n + m) (xs ++ news) ∧ w.grownBy w' v.ownBlock ∧ (v'.ownBlock = v.ownBlock ∨ v'.ownBlock = some w.heap.size) := by
  cases A with
  | some ad =>
    obtain ⟨v', w', h2, h3, h4, _, h5⟩ := run_append_own_at (P := P) w 0 t ty e i z i.size i.bytes ht hi hz rfl rfl hzs hsz v n xs hown ad m c news hl (hnews ad rfl) h1 h63 hbytes (Nat.zero_le _)
    exact ⟨v', w', h2, h3, h4, h5⟩
  | none =>
    have h0 := hA rfl
    subst h0
    obtain rfl : news = [] := List.eq_nil_of_length_eq_zero (by simpa using hl)
    refine ⟨v, w, ?_, by simpa using hown, World.grownBy.refl w _, .inl rfl⟩
    rcases hown.2 with ⟨rfl, hn⟩ | ⟨g, cap, cur, rfl, _, _, hnc, _⟩
    · simp [Builtin.append_, run_underlying ht, sizeOf, typeInfo, hi, Builtin.lenOf, Builtin.firstCells]
    · simp [Builtin.append_, run_underlying ht, sizeOf, typeInfo, hi, Builtin.lenOf, Builtin.firstCells, hnc, storeCells]

/-- append(x, y...): x a row of the call's own; it is gone behind it. -/
theorem T_append {α : Type} {enc : α → List Cell} {xs ys : List α} {t i j e sz : Nat} {x y : Operand} {ty ety : TyI} (ho : o.op = .call { callee := .builtin .append, args := #[x, y], argTypes := #[t, t] }) (hx : st.ev x = some (.r i)) (hob : st.o.lookup i = some (.row e sz (xs.map enc))) (hy : st.ev y = some (.r j)) (hob2 : (st.o.lookup j).bind Ob.rows? = some (sz, ys.map enc)) (hij : (i == j) = false)
    (hi : D.get t = some ty) (he0 : (ty.elem == 0) = false) (he : D.get ty.elem = some ety) (hs : ety.size = sz) (hee : ty.elem = e) (hzl : ety.zero.length = ety.size) (hl : (xs.length + ys.length) * ety.bytes ≤ 140737488355328) (hl2 : xs.length + ys.length ≤ 9223372036854775807) :
    T P N o b [i, j] st (.r b) 1 [(b, .row e sz ((xs ++ ys).map enc)), (i, .no)] := by
  intro w0 M U ρ own st' a w hev hp hfrs fr hr
  obtain ⟨hv, hu⟩ := fr.eval ((hev x (by simp [ho, Op.operands, Call.operands])).trans hx)
  obtain ⟨hv2, hu2⟩ := fr.eval ((hev y (by simp [ho, Op.operands, Call.operands])).trans hy)
  obtain ⟨⟨hs0, cells, g1, g2, g3⟩, hUi, _⟩ := hr.ob i _ ((hp i (by simp)).trans hob)
  obtain ⟨oby, hoby1, hoby2⟩ := Option.bind_eq_some_iff.1 hob2
  obtain ⟨ry, hUj, _⟩ := hr.ob j _ ((hp j (by simp)).trans hoby1)
  subst hee
  subst hs
  obtain ⟨A, c, cellsy, hA, hRy, hcy, hny⟩ := rows_cells ry hoby2 hs0
  obtain ⟨jt, z, hjt, hjz, hjc, hjs, hjb⟩ := (D.ok _ ety he).ti
  have hut := (D.ok t ty hi).sl (by simpa using he0)
  rw [List.length_map] at hA
  have hRX := g3.append hRy
  rw [← List.map_append] at hRX
  have g1' : w.ownsRow 0 ty.elem jt.size (ρ i) xs.length cells := by rw [hjs]; simpa using g1
  have hzs' : z.cells.size = jt.size := by rw [← Array.length_toList, hjc, hjs]; exact hzl
  obtain ⟨v', w', r1, r2, r3, r4⟩ := run_appendG (ty := o.type) (c := c) (w := w) hut hjt hjz hzs' (by rw [hjs]; exact hs0) g1' (A := A) (m := ys.length) (by rw [hRy.len, hjs, List.length_map]) hcy (fun h => by have := hny h; simpa using this) (hRy.one hs0) (by simpa [maxLen] using hl2) (by rw [hjb]; exact hl)
  have hrun : (execOp a.eval o).run P w = .ok (.value v') w' := by
    simp only [execOp, ho, resolve, invoke, builtin, hv, hv2, LV.val, hA, Sem.run_bind, Sem.run_pure, Result.andThen_ok, List.map_toArray, List.map_cons, List.map_nil]
    rw [r1]
    rfl
  have hρ : ∀ q, U q → upd1 ρ b v' q = ρ q := fun q hq => upd1_other _ _ (fun h => hfrs b (Nat.le_refl _) (by omega) (h ▸ hq))
  have hbi : b ≠ i := fun h => hfrs b (Nat.le_refl _) (by omega) (h ▸ hUi)
  refine does_value hrun ⟨upd1 ρ b v', fun k => if own k = some i ∨ k = w.heap.size then some b else own k, by simp [LV.val, upd1_same], hρ, .inr ⟨Nat.le_refl _, by omega⟩, ?_⟩
  have hblk : ∀ k, k < w.heap.size → own k ≠ some i → w'.heap[k]? = w.heap[k]? := fun k hk hne => r3.block k hk (fun h => hne (g2 k h.symm))
  refine hr.step (fun q => q = i) r3.os r3.tape r3.output r3.size (fun k hk hq => ?_) hρ (fun i hi => .inl hi) (fun q hq => ⟨.no, by subst hq; simp [List.lookup, show (q == b) = false by simpa using Ne.symm hbi]⟩) (fun q ob' hq => by
    simp only [List.lookup] at hq
    cases hqb : q == b with
    | true => exact .inr (by rw [show q = b by simpa using hqb]; exact hfrs b (Nat.le_refl _) (by omega))
    | false =>
      rw [hqb] at hq
      cases hqi : q == i with
      | true => exact .inl (by rw [show q = i by simpa using hqi]; exact ⟨_, (hp i (by simp)).trans hob⟩)
      | false => rw [hqi] at hq; cases hq) (fun q ob' hq => ?_)
  · have hne : own k ≠ some i := fun h => hq i h rfl
    exact ⟨hblk k hk hne, by simp [hne, show k ≠ w.heap.size by omega]⟩
  · simp only [List.lookup] at hq
    cases hqb : q == b with
    | true =>
      rw [hqb] at hq
      obtain rfl : q = b := by simpa using hqb
      obtain rfl : Ob.row ty.elem ety.size ((xs ++ ys).map enc) = ob' := by injection hq
      refine ⟨⟨hs0, cells ++ cellsy, ?_, fun k hk => ?_, ?_⟩, .inr ⟨Nat.le_refl _, by omega⟩, trivial⟩
      · rw [upd1_same, List.length_map, List.length_append, ← hjs]
        exact r2
      · rw [upd1_same] at hk
        rcases r4 with r4 | r4
        · rw [r4] at hk
          simp [g2 k hk]
        · rw [r4] at hk
          cases hk
          simp
      · exact hRX.mono (fun k hk hlt => ⟨by simp [hk, show k ≠ w.heap.size by omega], hblk k hlt (by rw [hk]; simp)⟩)
    | false =>
      rw [hqb] at hq
      cases hqi : q == i with
      | true =>
        rw [hqi] at hq
        obtain rfl : Ob.no = ob' := by injection hq
        obtain rfl : q = i := by simpa using hqi
        exact ⟨trivial, .inl hUi, trivial⟩
      | false => rw [hqi] at hq; cases hq
end
end Lg
end Go.Proofs.Ytpfhmodjjljpjaa
