import Derived.Test.YtpfhmodjjljpjaaL4
import Derived.Laws.CopyRow
namespace Go.Proofs.Ytpfhmodjjljpjaa
open Go.RowKit
namespace Lg
set_option linter.unusedSimpArgs false
set_option linter.unusedVariables false

/-! ### Rows that are frozen: nobody writes them any more -/
theorem rd_of_row {w : World} {ρ : Nat → Value} {own : Nat → Option Nat} {i e sz : Nat} {rows : List (List Cell)} (h : RepOb w ρ own i (.row e sz rows)) {ok : Nat → Prop} (hok : ∀ k, own k = none ∨ own k = some i → ok k) : Rd w ok (.sl sz rows) (ρ i) := by
  obtain ⟨h0, cells, h1, h2, h3⟩ := h
  have hz : ∀ r ∈ rows, r.length = sz := fun r hr => by
    obtain ⟨j, hj⟩ := List.getElem?_of_mem hr
    exact (h3.each j r hj).1
  rcases h1.2 with ⟨h4, h5⟩ | ⟨g, cap, cur, he, hg, hh, r1, r2, r3, r4⟩
  · rw [h4]
    have hr : rows = [] := List.eq_nil_of_length_eq_zero h5
    subst hr
    exact .sl sz [] none 0 (fun _ _ => undef) (Nat.le_refl _) (by simp) hz (fun h => absurd rfl h) (fun i r j cl h => by simp at h) (fun i r j cl h => by simp at h)
  · have hcell : ∀ q u, cells[q]? = some u → w.cell? ((⟨g, 0, none⟩ : Addr).add q) = some u := fun q u hq => World.ownsRow.cells (he ▸ h1) rfl _ _ hq
    rw [he]
    refine .sl sz rows _ cap (fun j f => cells.getD (j * sz + f) undef) r1 (by omega) hz (fun _ => ⟨_, rfl⟩) (fun j r f cl hj hf => ?_) (fun j r f cl hj hf => ?_)
    · obtain ⟨u, hu, hR⟩ := (h3.each j r hj).2 f cl hf
      refine ⟨_, rfl, hok g (.inr (h2 g (by rw [he]; rfl))), ?_⟩
      rw [hcell _ _ hu, List.getD_eq_getElem?_getD, hu]
      rfl
    · obtain ⟨u, hu, hR⟩ := (h3.each j r hj).2 f cl hf
      rw [List.getD_eq_getElem?_getD, hu]
      exact hR.mono (fun k hk _ => ⟨hok k (.inl hk), rfl⟩)

theorem rd_owns {w : World} {e sz : Nat} {rows : List (List Cell)} {v : Value} {cells : List Value} {ok ok' : Nat → Prop} (h1 : w.ownsRow 0 e sz v rows.length cells) (h2 : ∀ k, v.ownBlock = some k → ok k) (h3 : RowsRd w ok' sz rows cells) (hok : ∀ k, ok' k → ok k) : Rd w ok (.sl sz rows) v := by
  have hz : ∀ r ∈ rows, r.length = sz := fun r hr => by
    obtain ⟨j, hj⟩ := List.getElem?_of_mem hr
    exact (h3.each j r hj).1
  rcases h1.2 with ⟨h4, h5⟩ | ⟨g, cap, cur, he, hg, hh, r1, r2, r3, r4⟩
  · rw [h4]
    have hr : rows = [] := List.eq_nil_of_length_eq_zero h5
    subst hr
    exact .sl sz [] none 0 (fun _ _ => undef) (Nat.le_refl _) (by simp) hz (fun h => absurd rfl h) (fun i r j cl h => by simp at h) (fun i r j cl h => by simp at h)
  · have hcell : ∀ q u, cells[q]? = some u → w.cell? ((⟨g, 0, none⟩ : Addr).add q) = some u := fun q u hq => World.ownsRow.cells (he ▸ h1) rfl _ _ hq
    rw [he]
    refine .sl sz rows _ cap (fun j f => cells.getD (j * sz + f) undef) r1 (by omega) hz (fun _ => ⟨_, rfl⟩) (fun j r f cl hj hf => ?_) (fun j r f cl hj hf => ?_)
    · obtain ⟨u, hu, hR⟩ := (h3.each j r hj).2 f cl hf
      refine ⟨_, rfl, h2 g (by rw [he]; rfl), ?_⟩
      rw [hcell _ _ hu, List.getD_eq_getElem?_getD, hu]
      rfl
    · obtain ⟨u, hu, hR⟩ := (h3.each j r hj).2 f cl hf
      rw [List.getD_eq_getElem?_getD, hu]
      exact hR.mono (fun k hk _ => ⟨hok k hk, rfl⟩)

def nestRows (sz2 : Nat) (rows : List (List (List Cell))) : List (List Cell) := rows.map fun r => [.sl sz2 r]

theorem rd_of_nest {w : World} {ρ : Nat → Value} {own : Nat → Option Nat} {i e e2 sz2 : Nat} {rows : List (List (List Cell))} (h : RepOb w ρ own i (.nest e e2 sz2 rows none)) {ok : Nat → Prop} (hok : ∀ k, own k = none ∨ own k = some i → ok k) : Rd w ok (.sl 1 (nestRows sz2 rows)) (ρ i) := by
  obtain ⟨vs, hN⟩ := h
  have hlen : (nestRows sz2 rows).length = rows.length := by simp [nestRows]
  have hv : vs.length = rows.length * 1 := hN.out.1
  refine rd_owns (ok' := ok) (hlen ▸ hN.out) (fun k hk => hok k (.inr (hN.blk k hk))) ⟨by rw [hv, hlen], fun j r hj => ?_⟩ (fun _ h => h)
  simp only [nestRows, List.getElem?_map, Option.map_eq_some_iff] at hj
  obtain ⟨x, hx, rfl⟩ := hj
  refine ⟨rfl, fun f cl hf => ?_⟩
  cases f with
  | succ f => simp at hf
  | zero =>
    simp only [List.getElem?_cons_zero, Option.some.injEq] at hf
    subst hf
    have hj2 : j < vs.length := by rw [hv]; have := (List.getElem?_eq_some_iff.1 hx).1; omega
    obtain ⟨cells, g1, g2, g3⟩ := hN.inn j x vs[j] hx (List.getElem?_eq_getElem hj2) (fun b hb => by cases hb)
    exact ⟨vs[j], by simp [List.getElem?_eq_getElem hj2], rd_owns (ok' := fun k => own k = none) g1 (fun k hk => hok k (.inr (g3 k hk).1)) g2 (fun k hk => hok k (.inl hk))⟩

/-- own, the object i let go of. -/
def thaw (own : Nat → Option Nat) (i : Nat) : Nat → Option Nat := fun k => if own k = some i then none else own k
theorem thaw_none {own : Nat → Option Nat} {i k : Nat} (h : own k = none ∨ own k = some i) : thaw own i k = none := by
  unfold thaw
  rcases h with h | h <;> simp [h]
theorem thaw_other {own : Nat → Option Nat} {i k : Nat} (h : own k ≠ some i) : thaw own i k = own k := by simp [thaw, h]

theorem HR.freeze {w0 w : World} {M : Fp} {U : Nat → Prop} {ρ : Nat → Value} {own : Nat → Option Nat} {ob : List (Nat × Ob)} (hr : HR w0 M U ρ own ob w) {i e sz : Nat} {rows : List (List Cell)} (hi : ob.lookup i = some (.row e sz rows)) :
    HR w0 M U ρ (thaw own i) ([(i, .fz sz rows)] ++ ob) w := by
  obtain ⟨h1, h2, h3⟩ := hr.ob i _ hi
  refine hr.step (fun j => j = i) rfl rfl rfl (Nat.le_refl _) (fun k hk hj => ⟨rfl, thaw_other (fun h => hj i h rfl)⟩) (fun _ _ => rfl) (fun _ h => h) (fun j hj => ⟨.fz sz rows, by simp [List.lookup, hj]⟩) (fun j ob' hj => .inl (by rw [lookup_key hj]; exact ⟨_, hi⟩)) (fun j ob' hj => ?_)
  simp only [List.lookup] at hj
  cases hq : j == i with
  | false => rw [hq] at hj; cases hj
  | true =>
    rw [hq] at hj
    obtain rfl : j = i := by simpa using hq
    obtain rfl : Ob.fz sz rows = ob' := by injection hj
    exact ⟨rd_of_row h1 (fun k hk => thaw_none hk), h2, trivial⟩

theorem HR.congr {w0 w : World} {M : Fp} {U : Nat → Prop} {ρ : Nat → Value} {own : Nat → Option Nat} {ob ob' : List (Nat × Ob)} (hr : HR w0 M U ρ own ob w) (h : ∀ i, ob'.lookup i = ob.lookup i) : HR w0 M U ρ own ob' w :=
  ⟨fun i b hi => hr.ob i b ((h i).symm.trans hi), hr.gr, hr.fr, (h 0).trans hr.z, hr.z0, hr.ag⟩

/-! ### Logical values as cells: rows among them are frozen (frz: the rows to freeze) -/
inductive CellsOf (o : List (Nat × Ob)) : List LV → List Cell → List Nat → List (Nat × Ob) → Prop
  | nil : CellsOf o [] [] [] []
  | v {x : Value} {l cls pre frz} (h : x.oneCell' = true) (t : CellsOf o l cls pre frz) : CellsOf o (.v x :: l) (.v x :: cls) pre frz
  | z {sz : Nat} {l cls pre frz} (t : CellsOf o l cls pre frz) : CellsOf o (.v (.slice none 0 0) :: l) (.sl sz [] :: cls) pre frz
  | fz {i sz : Nat} {rows l cls pre frz} (h : o.lookup i = some (.fz sz rows)) (t : CellsOf o l cls pre frz) : CellsOf o (.r i :: l) (.sl sz rows :: cls) (i :: pre) frz
  | row {i e sz : Nat} {rows l cls pre frz} (h : o.lookup i = some (.row e sz rows)) (t : CellsOf o l cls pre frz) (hn : frz.lookup i = none) : CellsOf o (.r i :: l) (.sl sz rows :: cls) (i :: pre) ((i, .fz sz rows) :: frz)

theorem nil_reads (w : World) (ok : Nat → Prop) (sz : Nat) : Rd w ok (.sl sz []) (.slice none 0 0) :=
  .sl sz [] none 0 (fun _ _ => undef) (Nat.le_refl _) (by simp) (fun r h => by simp at h) (fun h => absurd rfl h) (fun i r j cl h => by simp at h) (fun i r j cl h => by simp at h)

theorem cells_of {o : List (Nat × Ob)} {l : List LV} {cls : List Cell} {pre : List Nat} {frz : List (Nat × Ob)} (h : CellsOf o l cls pre frz) :
    ∀ (w0 w : World) (M : Fp) (U : Nat → Prop) (ρ : Nat → Value) (own : Nat → Option Nat) (o' : List (Nat × Ob)), (∀ i, i ∈ pre → o'.lookup i = o.lookup i) → HR w0 M U ρ own o' w →
    ∃ own', HR w0 M U ρ own' (frz ++ o') w ∧ (LV.vals ρ l).length = cls.length ∧ (∀ k, own k = none → own' k = none) ∧ (∀ k j, own' k = some j → own k = some j) ∧
      (∀ k j, own k = some j → frz.lookup j = none → own' k = some j) ∧ ∀ (j : Nat) (cl : Cell) (u : Value), cls[j]? = some cl → (LV.vals ρ l)[j]? = some u → Rd w (fun k => own' k = none) cl u := by
  induction h with
  | nil => exact fun w0 w M U ρ own o' hp hr => ⟨own, hr, rfl, fun _ h => h, fun _ _ h => h, fun _ _ h _ => h, fun j cl u h => by simp at h⟩
  | @v x l cls pre frz hx t ih =>
    intro w0 w M U ρ own o' hp hr
    obtain ⟨own', h1, h2, h3, h4, h5, h6⟩ := ih w0 w M U ρ own o' hp hr
    refine ⟨own', h1, by simp [LV.vals, h2], h3, h4, h5, fun j cl u hj hu => ?_⟩
    cases j with
    | zero =>
      simp [LV.vals, LV.val] at hj hu
      subst hj; subst hu
      exact .v x hx
    | succ j => exact h6 j cl u (by simpa using hj) (by simpa [LV.vals] using hu)
  | @z sz l cls pre frz t ih =>
    intro w0 w M U ρ own o' hp hr
    obtain ⟨own', h1, h2, h3, h4, h5, h6⟩ := ih w0 w M U ρ own o' hp hr
    refine ⟨own', h1, by simp [LV.vals, h2], h3, h4, h5, fun j cl u hj hu => ?_⟩
    cases j with
    | zero =>
      simp [LV.vals, LV.val] at hj hu
      subst hj; subst hu
      exact nil_reads w _ sz
    | succ j => exact h6 j cl u (by simpa using hj) (by simpa [LV.vals] using hu)
  | @fz i sz rows l cls pre frz hi t ih =>
    intro w0 w M U ρ own o' hp hr
    obtain ⟨own', h1, h2, h3, h4, h5, h6⟩ := ih w0 w M U ρ own o' (fun j hj => hp j (List.mem_cons_of_mem _ hj)) hr
    have hb := (hr.ob i _ ((hp i List.mem_cons_self).trans hi)).1
    refine ⟨own', h1, by simp [LV.vals, h2], h3, h4, h5, fun j cl u hj hu => ?_⟩
    cases j with
    | zero =>
      simp [LV.vals, LV.val] at hj hu
      subst hj; subst hu
      exact Rd.mono (show Rd w (fun k => own k = none) (.sl sz rows) (ρ i) from hb) (fun k hk _ => ⟨h3 k hk, rfl⟩)
    | succ j => exact h6 j cl u (by simpa using hj) (by simpa [LV.vals] using hu)
  | @row i e sz rows l cls pre frz hi t hn ih =>
    intro w0 w M U ρ own o' hp hr
    obtain ⟨own', h1, h2, h3, h4, h5, h6⟩ := ih w0 w M U ρ own o' (fun j hj => hp j (List.mem_cons_of_mem _ hj)) hr
    have hi' : (frz ++ o').lookup i = some (.row e sz rows) := by
      rw [lookup_append, hn]
      exact (hp i List.mem_cons_self).trans hi
    have hf := h1.freeze hi'
    have hb := (hf.ob i (.fz sz rows) (by simp)).1
    refine ⟨thaw own' i, by simpa using hf, by simp [LV.vals, h2], fun k hk => thaw_none (.inl (h3 k hk)), fun k j hj => ?_, fun k j hj hl => ?_, fun j cl u hj hu => ?_⟩
    · unfold thaw at hj
      split at hj
      · cases hj
      · exact h4 k j hj
    · simp only [List.lookup] at hl
      cases hq : j == i with
      | true => rw [hq] at hl; cases hl
      | false =>
        rw [hq] at hl
        rw [thaw_other]
        · exact h5 k j hj hl
        · intro h
          have := h4 k i h
          rw [hj] at this
          cases this
          simp at hq
    · cases j with
      | zero =>
        simp [LV.vals, LV.val] at hj hu
        subst hj; subst hu
        exact hb
      | succ j =>
        exact Rd.mono (h6 j cl u (by simpa using hj) (by simpa [LV.vals] using hu)) (fun k hk _ => ⟨thaw_none (.inl hk), rfl⟩)

section
variable {P : Program} {N : Nat} {o : Oper} {b : Nat} {st : St} (D : Tab P)

theorem run_storeAt {t : Nat} {ty : TyI} (hg : Good P t ty) {g n e : Nat} {v : Value} {pv : Value} (hp : pv = .pointer (some ⟨g, n, none⟩)) {cur : Array Value} {vs : List Value} (hv : v.cells = vs.toArray) (hl : vs.length = ty.size) {w : World} (hh : w.heap[g]? = some (.cells cur e (0, 0))) (hn : n + vs.length ≤ cur.size) (h1 : ∀ u ∈ vs, u.oneCell' = true) :
    (Instr.storeAt t pv v).run P w = .ok () (w.setRow g (cur.toList.take n ++ vs ++ cur.toList.drop (n + vs.length)).toArray) := by
  subst hp
  have h2 := run_storeCells_at P g n e vs 0 cur w hh (by simpa using hn) h1
  simp only [Nat.add_zero] at h2
  have h3 := hg.sizeOf w
  simp only [Instr.storeAt, Instr.sureAddr, Sem.run_bind, Sem.run_pure, Result.andThen_ok, storeVar, h3, hv]
  simp [hl, h2]

theorem T_store_b {t i n : Nat} {x y : Operand} {bt : Nat} {cs l : List LV} {lv : LV} {pre : List Nat} {ty : TyI} (ho : o.op = .store t x y) (hx : st.ev x = some (.p i n)) (hob : st.o.lookup i = some (.box bt cs)) (hy : st.ev y = some lv) (hf : Flat st lv l pre) (hi : D.get t = some ty) (hl : l.length = ty.size) (hn : n + l.length ≤ cs.length) :
    T P N o b (i :: pre) st (.v undef) 0 [(i, .box bt (cs.take n ++ l ++ cs.drop (n + l.length)))] := by
  intro w0 M U ρ own st' a w hev hp hfr fr hr
  obtain ⟨hv, hu⟩ := fr.eval ((hev x (by simp [ho, Op.operands])).trans hx)
  obtain ⟨hv2, hu2⟩ := fr.eval ((hev y (by simp [ho, Op.operands])).trans hy)
  obtain ⟨ad, had⟩ := hu.2
  obtain ⟨⟨g, g1, g2, g3⟩, h2, h3⟩ := hr.ob i _ ((hp i List.mem_cons_self).trans hob)
  obtain ⟨c1, c2, c3⟩ := hf w0 w M U ρ own st'.o (fun j hj => hp j (List.mem_cons_of_mem _ hj)) hr hu2
  rw [g1] at had
  obtain rfl : (⟨g, 0, none⟩ : Addr) = ad := by simpa [base] using had
  have hb : base (ρ i) = some ⟨g, 0, none⟩ := by rw [g1]; rfl
  have hcs : (LV.vals ρ (cs.take n ++ l ++ cs.drop (n + l.length))).toArray = ((LV.vals ρ cs).toArray.toList.take n ++ LV.vals ρ l ++ (LV.vals ρ cs).toArray.toList.drop (n + (LV.vals ρ l).length)).toArray := by
    rw [vals_append, vals_append, vals_length]
    simp only [vals_eq_map, List.map_take, List.map_drop]
  have hrun : (execOp a.eval o).run P w = .ok .skip (w.setRow g (LV.vals ρ (cs.take n ++ l ++ cs.drop (n + l.length))).toArray) := by
    simp only [execOp, ho]
    rw [Sem.run_bind, run_storeAt (D.ok t ty hi) (g := g) (n := n) (vs := LV.vals ρ l) (by rw [hv]; simp [LV.val, ptrOf, hb, add_plain]) (by rw [hv2]; exact c1) (by rw [vals_length]; exact hl) g3 (by simp [vals_length]; exact hn) (by simpa using c3), hcs]
    rfl
  have hone : (LV.vals ρ (cs.take n ++ l ++ cs.drop (n + l.length))).all (·.oneCell') = true := by
    have h4 := h3.2
    rw [vals_append, vals_append, List.all_append, List.all_append, Bool.and_eq_true, Bool.and_eq_true]
    rw [List.all_eq_true] at h4
    refine ⟨⟨?_, c3⟩, ?_⟩
    · rw [vals_eq_map, List.map_take, ← vals_eq_map, List.all_eq_true]
      exact fun u hu => h4 u (List.mem_of_mem_take hu)
    · rw [vals_eq_map, List.map_drop, ← vals_eq_map, List.all_eq_true]
      exact fun u hu => h4 u (List.mem_of_mem_drop hu)
  have huse : LV.useds U ρ (cs.take n ++ l ++ cs.drop (n + l.length)) := by
    rw [useds_iff]
    intro u hu
    rcases List.mem_append.1 hu with hu | hu
    · rcases List.mem_append.1 hu with hu | hu
      · exact useds_iff.1 h3.1 u (List.mem_of_mem_take hu)
      · exact useds_iff.1 c2 u hu
    · exact useds_iff.1 h3.1 u (List.mem_of_mem_drop hu)
  refine does_skip hrun ⟨ρ, own, rfl, fun _ _ => rfl, trivial, ?_⟩
  refine HR.mono ?_ (fun i hi => .inl hi)
  refine hr.step (fun j => j = i) (by simp) (by simp) (by simp) (by simp) (fun k hk hj => ⟨setRow_other w g k _ (fun h => hj i (h ▸ g2) rfl), rfl⟩) (fun _ _ => rfl) (fun _ h => h) (fun j hj => ⟨.box bt (cs.take n ++ l ++ cs.drop (n + l.length)), by simp [List.lookup, hj]⟩) (fun j ob' hj => .inl (by rw [lookup_key hj]; exact ⟨_, (hp i (by simp)).trans hob⟩)) (fun j ob' hj => ?_)
  simp only [List.lookup] at hj
  cases hq : j == i with
  | false => rw [hq] at hj; cases hj
  | true =>
    rw [hq] at hj
    obtain rfl : j = i := by simpa using hq
    obtain rfl : Ob.box bt (cs.take n ++ l ++ cs.drop (n + l.length)) = ob' := by injection hj
    exact ⟨⟨g, g1, g2, setRow_heap w g _ _ bt _ g3⟩, h2, huse, hone⟩
end
end Lg
end Go.Proofs.Ytpfhmodjjljpjaa
