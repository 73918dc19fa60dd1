import Derived.Test.YtpfhmodjjljpjaaL3
namespace Go.Proofs.Ytpfhmodjjljpjaa
open Go.RowKit
namespace Lg
set_option linter.unusedSimpArgs false
set_option linter.unusedVariables false

def Ob.rows? : Ob → Option (Nat × List (List Cell))
  | .row _ sz rows => some (sz, rows)
  | .fz sz rows => some (sz, rows)
  | _ => none

/-- What a row reads as, at one place. -/
theorem elem_reads {w : World} {ρ : Nat → Value} {own : Nat → Option Nat} {i sz : Nat} {rows : List (List Cell)} {ob : Ob} (h : RepOb w ρ own i ob) (ho : ob.rows? = some (sz, rows)) {j f : Nat} {r : List Cell} {cl : Cell} (hj : rows[j]? = some r) (hf : r[f]? = some cl) :
    ∃ a u, base (ρ i) = some a ∧ w.cell? (a.add (j * sz + f)) = some u ∧ Rd w (fun k => own k = none) cl u := by
  cases ob with
  | no => cases ho
  | box t cs => cases ho
  | nest e e2 sz2 rows hole => cases ho
  | fz sz' rows' =>
    simp only [Ob.rows?, Option.some.injEq, Prod.mk.injEq] at ho
    obtain ⟨rfl, rfl⟩ := ho
    have h1 : Rd w (fun k => own k = none) (.sl sz' rows') (ρ i) := h
    generalize ρ i = v at h1
    cases h1 with
    | sl sz rows A c u hc hm hz hn hA hR =>
      obtain ⟨a, ha, _, hcell⟩ := hA j r f cl hj hf
      exact ⟨a, _, ha, hcell, hR j r f cl hj hf⟩
  | row e sz' rows' =>
    simp only [Ob.rows?, Option.some.injEq, Prod.mk.injEq] at ho
    obtain ⟨rfl, rfl⟩ := ho
    obtain ⟨h0, cells, h1, h2, h3⟩ := h
    obtain ⟨u, hu, hR⟩ := (h3.each j r hj).2 f cl hf
    have hlen : j < rows'.length := (List.getElem?_eq_some_iff.1 hj).1
    rcases h1.2 with ⟨_, h4⟩ | ⟨g, cap, cur, he, hg, hh, r1, r2, r3, r4⟩
    · omega
    · refine ⟨⟨g, 0, none⟩, u, by rw [he]; rfl, ?_, hR⟩
      exact World.ownsRow.cells (he ▸ h1) rfl _ _ hu

theorem rows_base {w : World} {ρ : Nat → Value} {own : Nat → Option Nat} {i sz : Nat} {rows : List (List Cell)} {ob : Ob} (h : RepOb w ρ own i ob) (ho : ob.rows? = some (sz, rows)) :
    ∃ A c, ρ i = .slice A rows.length c ∧ rows.length ≤ maxLen ∧ (0 < rows.length → ∃ a, A = some a) := by
  cases ob with
  | no => cases ho
  | box t cs => cases ho
  | nest e e2 sz2 rows hole => cases ho
  | fz sz' rows' =>
    simp only [Ob.rows?, Option.some.injEq, Prod.mk.injEq] at ho
    obtain ⟨rfl, rfl⟩ := ho
    have h1 : Rd w (fun k => own k = none) (.sl sz' rows') (ρ i) := h
    generalize ρ i = v at h1
    cases h1 with
    | sl sz rows A c u hc hm hz hn hA hR => exact ⟨A, c, rfl, hm, fun hp => hn (fun h => by subst h; simp at hp)⟩
  | row e sz' rows' =>
    simp only [Ob.rows?, Option.some.injEq, Prod.mk.injEq] at ho
    obtain ⟨rfl, rfl⟩ := ho
    obtain ⟨h0, cells, h1, h2, h3⟩ := h
    rcases h1.2 with ⟨h4, h5⟩ | ⟨g, cap, cur, he, hg, hh, r1, r2, r3, r4⟩
    · exact ⟨none, 0, by rw [h4, h5], by simp [h5], fun hp => by omega⟩
    · exact ⟨_, cap, he, by omega, fun _ => ⟨_, rfl⟩⟩

/-- A slice that was seen: an object of its own. -/
theorem HR.addFz {w0 w : World} {M : Fp} {U : Nat → Prop} {ρ : Nat → Value} {own : Nat → Option Nat} {ob : List (Nat × Ob)} (hr : HR w0 M U ρ own ob w) (b : Nat) (hb : ¬ U b) {sz : Nat} {rows : List (List Cell)} {u : Value} (hu : Rd w (fun k => own k = none) (.sl sz rows) u) :
    HR w0 M (grow U b 1) (upd1 ρ b u) own ([(b, .fz sz rows)] ++ ob) w := by
  have hρ : ∀ i, U i → upd1 ρ b u i = ρ i := fun i hi => upd1_other _ _ (fun h => hb (h ▸ hi))
  refine hr.step (fun _ => False) rfl rfl rfl (Nat.le_refl _) (fun k hk _ => ⟨rfl, rfl⟩) hρ (fun i hi => .inl hi) (fun _ h => h.elim) (fun i ob' hi => .inr (by rw [lookup_key hi]; exact hb)) (fun i ob' hi => ?_)
  simp only [List.lookup] at hi
  cases hq : i == b with
  | false => rw [hq] at hi; cases hi
  | true =>
    rw [hq] at hi
    obtain rfl : i = b := by simpa using hq
    obtain rfl : Ob.fz sz rows = ob' := by injection hi
    refine ⟨?_, .inr ⟨Nat.le_refl _, by omega⟩, trivial⟩
    show Rd _ _ _ (upd1 ρ i u i)
    rw [upd1_same]
    exact hu

def cellsLV (b : Nat) : List Cell → List LV
  | [] => []
  | .v x :: r => .v x :: cellsLV b r
  | .sl _ _ :: r => .r b :: cellsLV (b + 1) r
def cellsOb (b : Nat) : List Cell → List (Nat × Ob)
  | [] => []
  | .v _ :: r => cellsOb b r
  | .sl sz rows :: r => cellsOb (b + 1) r ++ [(b, .fz sz rows)]
def cellsN : List Cell → Nat
  | [] => 0
  | .v _ :: r => cellsN r
  | .sl _ _ :: r => cellsN r + 1

theorem reads_cells {w0 w : World} {M : Fp} {own : Nat → Option Nat} : ∀ (cls : List Cell) (us : List Value) (b : Nat) (U : Nat → Prop) (ρ : Nat → Value) (ob : List (Nat × Ob)),
    us.length = cls.length → (∀ (j : Nat) (cl : Cell) (u : Value), cls[j]? = some cl → us[j]? = some u → Rd w (fun k => own k = none) cl u) → HR w0 M U ρ own ob w → (∀ i, b ≤ i → i < b + cellsN cls → ¬ U i) →
    ∃ ρ', LV.vals ρ' (cellsLV b cls) = us ∧ (∀ i, U i → ρ' i = ρ i) ∧ LV.useds (grow U b (cellsN cls)) ρ' (cellsLV b cls) ∧ HR w0 M (grow U b (cellsN cls)) ρ' own (cellsOb b cls ++ ob) w
  | [], us, b, U, ρ, ob, hl, hR, hr, hf => by
    obtain rfl : us = [] := List.eq_nil_of_length_eq_zero (by simpa using hl)
    exact ⟨ρ, rfl, fun _ _ => rfl, trivial, hr.mono (fun i hi => .inl hi)⟩
  | .v x :: cls, us, b, U, ρ, ob, hl, hR, hr, hf => by
    cases us with
    | nil => simp at hl
    | cons u us =>
      have h0 : u = x := by
        have := hR 0 _ _ rfl rfl
        cases this with
        | v _ h => rfl
      subst h0
      obtain ⟨ρ', h1, h2, h3, h4⟩ := reads_cells cls us b U ρ ob (by simpa using hl) (fun j cl u' hj hu => hR (j + 1) cl u' (by simpa using hj) (by simpa using hu)) hr (fun i h1 h2 => hf i h1 (by simpa [cellsN] using h2))
      exact ⟨ρ', by simp [cellsLV, LV.vals, LV.val, h1], h2, ⟨trivial, by simpa [cellsN] using h3⟩, by simpa [cellsOb, cellsN] using h4⟩
  | .sl sz rows :: cls, us, b, U, ρ, ob, hl, hR, hr, hf => by
    cases us with
    | nil => simp at hl
    | cons u us =>
      have h0 : Rd w (fun k => own k = none) (.sl sz rows) u := hR 0 _ _ rfl rfl
      have hb : ¬ U b := hf b (Nat.le_refl _) (by simp [cellsN])
      have hr1 := hr.addFz b hb h0
      obtain ⟨ρ', h1, h2, h3, h4⟩ := reads_cells cls us (b + 1) (grow U b 1) (upd1 ρ b u) ([(b, .fz sz rows)] ++ ob) (by simpa using hl) (fun j cl u' hj hu => hR (j + 1) cl u' (by simpa using hj) (by simpa using hu)) hr1
        (fun i h1 h2 h3 => by
          rcases h3 with h3 | h3
          · exact hf i (by omega) (by simp only [cellsN]; omega) h3
          · omega)
      have hg : ∀ i, grow (grow U b 1) (b + 1) (cellsN cls) i → grow U b (cellsN (.sl sz rows :: cls)) i := fun i hi => by
        unfold grow at hi ⊢
        simp only [cellsN]
        rcases hi with (hi | hi) | hi
        · exact .inl hi
        · exact .inr (by omega)
        · exact .inr (by omega)
      refine ⟨ρ', ?_, fun i hi => (h2 i (.inl hi)).trans (upd1_other _ _ (fun h => hb (h ▸ hi))), ⟨hg b (.inl (.inr ⟨Nat.le_refl _, by omega⟩)), useds_mono (fun _ _ => rfl) hg _ h3⟩, ?_⟩
      · simp only [cellsLV, LV.vals, LV.val, h1]
        rw [h2 b (.inr ⟨Nat.le_refl _, by omega⟩), upd1_same]
      · have h5 := h4.mono hg
        simpa [cellsOb] using h5

theorem map_get {α β : Type} [Inhabited α] {enc : α → β} {xs : List α} {j : Nat} (h : j < xs.length) : (xs.map enc)[j]? = some (enc (xs.getD j default)) := by
  simp [List.getD_eq_getElem?_getD, List.getElem?_eq_getElem h]

section
variable {P : Program} {N : Nat} {o : Oper} {b : Nat} {st : St} (D : Tab P)

theorem run_load1 {t : Nat} {ty : TyI} (hg : Good P t ty) (ha : ty.agg = false) {a : Addr} {v pv : Value} (hp : pv = .pointer (some a)) {w : World} (hc : w.cell? a = some v) : (Instr.loadAt t pv).run P w = .ok v w := by
  subst hp
  have := hg.isAgg w
  rw [ha] at this
  simp only [Instr.loadAt, Instr.sureAddr, Sem.run_bind, Sem.run_pure, Result.andThen_ok, loadVar, this]
  simp [run_load, hc]
theorem run_loadA {t : Nat} {ty : TyI} (hg : Good P t ty) (ha : ty.agg = true) {a : Addr} {cs : List Value} {pv : Value} (hp : pv = .pointer (some a)) {w : World} (hl : cs.length = ty.size) (hc : ∀ j v, cs[j]? = some v → w.cell? (a.add j) = some v) : (Instr.loadAt t pv).run P w = .ok (.agg cs.toArray) w := by
  subst hp
  have h1 := hg.isAgg w
  have h2 := hg.sizeOf w
  rw [ha] at h1
  simp only [Instr.loadAt, Instr.sureAddr, Sem.run_bind, Sem.run_pure, Result.andThen_ok, loadVar, h1, h2, if_true, ← hl, run_loadCells_list w a cs hc]

theorem box_cell {w : World} {ρ : Nat → Value} {own : Nat → Option Nat} {i t : Nat} {cs : List LV} (h : RepOb w ρ own i (.box t cs)) {a : Addr} (ha : base (ρ i) = some a) {n : Nat} {lv : LV} (hn : cs[n]? = some lv) : w.cell? (a.add n) = some (lv.val ρ) := by
  obtain ⟨g, h1, h2, h3⟩ := h
  rw [h1] at ha
  obtain rfl : (⟨g, 0, none⟩ : Addr) = a := by simpa [base] using ha
  rw [add_plain]
  simp [World.cell?, h3, vals_getElem?, hn]

theorem T_load_b {t i n : Nat} {x : Operand} {bt : Nat} {cs : List LV} {lv : LV} {ty : TyI} (ho : o.op = .load t x) (hx : st.ev x = some (.p i n)) (hob : st.o.lookup i = some (.box bt cs)) (hi : D.get t = some ty) (ha : ty.agg = false) (hc : cs[n]? = some lv) :
    T P N o b [i] st lv 0 [] := by
  intro w0 M U ρ own st' a w hev hp hfr fr hr
  obtain ⟨hv, hu⟩ := fr.eval ((hev x (by simp [ho, Op.operands])).trans hx)
  obtain ⟨ad, had⟩ := hu.2
  obtain ⟨h1, h2, h3⟩ := hr.ob i _ ((hp i (by simp)).trans hob)
  have hrun : (execOp a.eval o).run P w = .ok (.value (lv.val ρ)) w := by
    simp only [execOp, ho]
    rw [Sem.run_bind, run_load1 (D.ok t ty hi) ha (a := ad.add n) (by rw [hv]; simp [LV.val, ptrOf, had]) (box_cell h1 had hc)]
    rfl
  exact does_value hrun ⟨ρ, own, rfl, fun _ _ => rfl, used_mono (fun _ _ => rfl) (fun i hi => .inl hi) lv (useds_iff.1 h3.1 lv (List.mem_of_getElem? hc)), hr.mono (fun i hi => .inl hi)⟩

theorem T_load_bA {t i n : Nat} {x : Operand} {bt : Nat} {cs l : List LV} {ty : TyI} (ho : o.op = .load t x) (hx : st.ev x = some (.p i n)) (hob : st.o.lookup i = some (.box bt cs)) (hi : D.get t = some ty) (ha : ty.agg = true) (hl : (cs.drop n).take ty.size = l) (hn : l.length = ty.size) :
    T P N o b [i] st (.agg l) 0 [] := by
  intro w0 M U ρ own st' a w hev hp hfr fr hr
  obtain ⟨hv, hu⟩ := fr.eval ((hev x (by simp [ho, Op.operands])).trans hx)
  obtain ⟨ad, had⟩ := hu.2
  obtain ⟨h1, h2, h3⟩ := hr.ob i _ ((hp i (by simp)).trans hob)
  have hrun : (execOp a.eval o).run P w = .ok (.value (LV.val ρ (.agg l))) w := by
    simp only [execOp, ho]
    rw [Sem.run_bind, run_loadA (D.ok t ty hi) ha (a := ad.add n) (cs := LV.vals ρ l) (by rw [hv]; simp [LV.val, ptrOf, had]) (by rw [vals_length]; exact hn) (fun j v hj => ?_)]
    · rfl
    · rw [vals_getElem?, Option.map_eq_some_iff] at hj
      obtain ⟨lv, hlv, rfl⟩ := hj
      rw [add_add]
      refine box_cell h1 had ?_
      rw [← hl, List.getElem?_take] at hlv
      split at hlv
      · rwa [List.getElem?_drop] at hlv
      · cases hlv
  have hmem : ∀ lv, lv ∈ l → lv ∈ cs := fun lv hlv => by
    rw [← hl] at hlv
    exact List.mem_of_mem_drop (List.mem_of_mem_take hlv)
  refine does_value hrun ⟨ρ, own, rfl, fun _ _ => rfl, ⟨?_, ?_⟩, hr.mono (fun i hi => .inl hi)⟩
  · rw [useds_iff]
    exact fun lv hlv => used_mono (fun _ _ => rfl) (fun i hi => .inl hi) lv (useds_iff.1 h3.1 lv (hmem lv hlv))
  · have h4 := h3.2
    rw [vals_eq_map, List.all_map, List.all_eq_true] at h4 ⊢
    exact fun lv hlv => h4 lv (hmem lv hlv)

/-- A cell of an element, read. -/
theorem T_load_e {α : Type} [Inhabited α] {enc : α → List Cell} {xs : List α} {t i sz j f : Nat} {x : Operand} {cl : Cell} {ty : TyI} (ho : o.op = .load t x) (hx : st.ev x = some (.e i sz j f)) (hob : (st.o.lookup i).bind Ob.rows? = some (sz, xs.map enc)) (hi : D.get t = some ty) (ha : ty.agg = false)
    (hj : j < xs.length) (hf : (enc (xs.getD j default))[f]? = some cl) {lv : LV} (hlv : cellsLV b [cl] = [lv]) : T P N o b [i] st lv (cellsN [cl]) (cellsOb b [cl]) := by
  intro w0 M U ρ own st' a w hev hp hfr fr hr
  obtain ⟨hv, hu⟩ := fr.eval ((hev x (by simp [ho, Op.operands])).trans hx)
  obtain ⟨ob, hob1, hob2⟩ := Option.bind_eq_some_iff.1 hob
  obtain ⟨h1, h2, h3⟩ := hr.ob i _ ((hp i (by simp)).trans hob1)
  obtain ⟨ad, u, had, hcell, hR⟩ := elem_reads h1 hob2 (map_get hj) hf
  obtain ⟨ρ', g1, g2, g3, g4⟩ := reads_cells [cl] [u] b U ρ st'.o rfl (fun j' cl' u' hj' hu' => by
    cases j' with
    | zero => simp at hj' hu'; subst hj'; subst hu'; exact hR
    | succ j' => simp at hj') hr hfr
  rw [hlv] at g1 g3
  have hrun : (execOp a.eval o).run P w = .ok (.value u) w := by
    simp only [execOp, ho]
    rw [Sem.run_bind, run_load1 (D.ok t ty hi) ha (a := ad.add (j * sz + f)) (by rw [hv]; simp [LV.val, ptrOf, had]) hcell]
    rfl
  have hu' : u = lv.val ρ' := by simpa [LV.vals] using g1.symm
  exact does_value hrun ⟨ρ', own, hu', g2, g3.1, g4⟩

/-- A whole element, or a part of it, read. -/
theorem T_load_eA {α : Type} [Inhabited α] {enc : α → List Cell} {xs : List α} {t i sz j f : Nat} {x : Operand} {cls : List Cell} {ty : TyI} (ho : o.op = .load t x) (hx : st.ev x = some (.e i sz j f)) (hob : (st.o.lookup i).bind Ob.rows? = some (sz, xs.map enc)) (hi : D.get t = some ty) (ha : ty.agg = true)
    (hj : j < xs.length) (hf : ((enc (xs.getD j default)).drop f).take ty.size = cls) (hn : cls.length = ty.size) : T P N o b [i] st (.agg (cellsLV b cls)) (cellsN cls) (cellsOb b cls) := by
  intro w0 M U ρ own st' a w hev hp hfr fr hr
  obtain ⟨hv, hu⟩ := fr.eval ((hev x (by simp [ho, Op.operands])).trans hx)
  obtain ⟨ad, had⟩ := hu.2
  obtain ⟨ob, hob1, hob2⟩ := Option.bind_eq_some_iff.1 hob
  obtain ⟨h1, h2, h3⟩ := hr.ob i _ ((hp i (by simp)).trans hob1)
  have hcl : ∀ q cl, cls[q]? = some cl → (enc (xs.getD j default))[f + q]? = some cl := fun q cl hq => by
    rw [← hf, List.getElem?_take] at hq
    split at hq
    · rwa [List.getElem?_drop] at hq
    · cases hq
  have hex : ∀ q : Nat, ∃ u : Value, ∀ cl, cls[q]? = some cl → w.cell? (ad.add (j * sz + (f + q))) = some u ∧ Rd w (fun k => own k = none) cl u := fun q => by
    cases hq : cls[q]? with
    | none => exact ⟨undef, fun cl h => by cases h⟩
    | some cl =>
      obtain ⟨ad', u, had', hcell, hR⟩ := elem_reads h1 hob2 (map_get hj) (hcl q cl hq)
      rw [had] at had'
      cases had'
      exact ⟨u, fun cl' h => by cases h; exact ⟨hcell, hR⟩⟩
  let us : List Value := (List.range cls.length).map fun q => (hex q).choose
  have hus : ∀ q u, us[q]? = some u → q < cls.length ∧ u = (hex q).choose := fun q u hq => by
    simp only [us, List.getElem?_map] at hq
    obtain ⟨q', h1, h2⟩ := Option.map_eq_some_iff.1 hq
    have hq' := List.getElem?_eq_some_iff.1 h1
    obtain ⟨h3, h4⟩ := hq'
    simp at h3 h4
    subst h4
    exact ⟨h3, h2.symm⟩
  obtain ⟨ρ', g1, g2, g3, g4⟩ := reads_cells cls us b U ρ st'.o (by simp [us]) (fun q cl u hq hu => by
    obtain ⟨_, rfl⟩ := hus q u hu
    exact ((hex q).choose_spec cl hq).2) hr hfr
  have hrun : (execOp a.eval o).run P w = .ok (.value (.agg us.toArray)) w := by
    simp only [execOp, ho]
    rw [Sem.run_bind, run_loadA (D.ok t ty hi) ha (a := ad.add (j * sz + f)) (cs := us) (by rw [hv]; simp [LV.val, ptrOf, had]) (by simp [us, hn]) (fun q v hq => ?_)]
    · rfl
    · obtain ⟨h4, rfl⟩ := hus q v hq
      rw [add_add, Nat.add_assoc]
      exact ((hex q).choose_spec _ (List.getElem?_eq_getElem h4)).1
  refine does_value hrun ⟨ρ', own, by simp [LV.val, g1], g2, ⟨g3, ?_⟩, g4⟩
  rw [g1, List.all_eq_true]
  intro u hu
  obtain ⟨q, hq⟩ := List.getElem?_of_mem hu
  obtain ⟨h4, rfl⟩ := hus q u hq
  exact ((hex q).choose_spec _ (List.getElem?_eq_getElem h4)).2.one

theorem run_indexAddr {t : Nat} {ty ety : TyI} (hg : Good P t ty) (he0 : ty.elem ≠ 0) (he : Good P ty.elem ety) {A : Addr} {n c : Nat} {k : IntKind} {i : Int} (h0 : 0 ≤ i) (h1 : i < n) (w : World) :
    (Instr.indexAt t (.slice (some A) n c) (.int k i)).run P w = .ok (.pointer (some (A.add (i.toNat * ety.size)))) w := by
  simp only [Instr.indexAt, asIntOf, Sem.run_bind, Sem.run_pure, Result.andThen_ok, run_underlying (hg.sl he0), if_pos (And.intro h0 h1), he.sizeOf]
theorem T_indexAddr {α : Type} {enc : α → List Cell} {xs : List α} {t i sz : Nat} {x y : Operand} {k : IntKind} {j : Nat} {ty ety : TyI} (ho : o.op = .indexAddr t x y) (hx : st.ev x = some (.r i)) (hob : (st.o.lookup i).bind Ob.rows? = some (sz, xs.map enc)) (hy : st.ev y = some (.v (.int k (j : Int))))
    (hi : D.get t = some ty) (he0 : (ty.elem == 0) = false) (he : D.get ty.elem = some ety) (hs : ety.size = sz) (h1 : j < xs.length) : T P N o b [i] st (.e i sz j 0) 0 [] := by
  intro w0 M U ρ own st' a w hev hp hfr fr hr
  obtain ⟨hv, hu⟩ := fr.eval ((hev x (by simp [ho, Op.operands])).trans hx)
  obtain ⟨hv2, _⟩ := fr.eval ((hev y (by simp [ho, Op.operands])).trans hy)
  obtain ⟨ob, hob1, hob2⟩ := Option.bind_eq_some_iff.1 hob
  obtain ⟨g1, g2, g3⟩ := hr.ob i _ ((hp i (by simp)).trans hob1)
  obtain ⟨A, c, hA, hm, hn⟩ := rows_base g1 hob2
  rw [List.length_map] at hA hm hn
  obtain ⟨ad, rfl⟩ := hn (by omega)
  have hb : base (ρ i) = some ad := by rw [hA]; rfl
  have hrun : (execOp a.eval o).run P w = .ok (.value (.pointer (some (ad.add (j * sz))))) w := by
    simp only [execOp, ho, hv, hv2, LV.val, hA]
    rw [Sem.run_bind, run_indexAddr (D.ok t ty hi) (by simpa using he0) (D.ok _ ety he) (Int.natCast_nonneg j) (by omega), hs]
    rfl
  exact does_value hrun ⟨ρ, own, by simp [LV.val, ptrOf, hb], fun _ _ => rfl, ⟨.inl hu, ad, hb⟩, hr.mono (fun i hi => .inl hi)⟩
/-- The index any whole number. -/
theorem T_indexAddrZ {α : Type} {enc : α → List Cell} {xs : List α} {t i sz : Nat} {x y : Operand} {k : IntKind} {j : Int} {ty ety : TyI} (ho : o.op = .indexAddr t x y) (hx : st.ev x = some (.r i)) (hob : (st.o.lookup i).bind Ob.rows? = some (sz, xs.map enc)) (hy : st.ev y = some (.v (.int k j)))
    (hi : D.get t = some ty) (he0 : (ty.elem == 0) = false) (he : D.get ty.elem = some ety) (hs : ety.size = sz) (h0 : 0 ≤ j) (h1 : j < (xs.length : Int)) : T P N o b [i] st (.e i sz j.toNat 0) 0 [] := by
  obtain ⟨n, rfl⟩ := Int.eq_ofNat_of_zero_le h0
  exact T_indexAddr D ho hx hob hy hi he0 he hs (by omega)

theorem T_len {α : Type} {enc : α → List Cell} {xs : List α} {t tt i sz : Nat} {x : Operand} {ty : TyI} (ho : o.op = .call { callee := .builtin .len, args := #[x], argTypes := #[t] }) (hx : st.ev x = some (.r i)) (hob : (st.o.lookup i).bind Ob.rows? = some (sz, xs.map enc))
    (hi : D.get t = some ty) (he0 : (ty.elem == 0) = false) (_htt : o.type = tt) : T P N o b [i] st (.v (.int .i64 (xs.length : Int))) 0 [] := by
  intro w0 M U ρ own st' a w hev hp hfr fr hr
  obtain ⟨hv, hu⟩ := fr.eval ((hev x (by simp [ho, Op.operands, Call.operands])).trans hx)
  obtain ⟨ob, hob1, hob2⟩ := Option.bind_eq_some_iff.1 hob
  obtain ⟨g1, g2, g3⟩ := hr.ob i _ ((hp i (by simp)).trans hob1)
  obtain ⟨A, c, hA, hm, hn⟩ := rows_base g1 hob2
  rw [List.length_map] at hA
  have hu' := (D.ok t ty hi).sl (by simpa using he0)
  have hrun : (execOp a.eval o).run P w = .ok (.value (.int .i64 (xs.length : Int))) w := by
    simp [execOp, ho, resolve, invoke, builtin, hv, LV.val, hA, Builtin.len_, run_underlying hu', goInt]
  exact does_value hrun ⟨ρ, own, rfl, fun _ _ => rfl, trivial, hr.mono (fun i hi => .inl hi)⟩
theorem T_len_nil {t : Nat} {x : Operand} {ty : TyI} (ho : o.op = .call { callee := .builtin .len, args := #[x], argTypes := #[t] }) (hx : st.ev x = some (.v (.slice none 0 0)))
    (hi : D.get t = some ty) (he0 : (ty.elem == 0) = false) : T P N o b [] st (.v (.int .i64 0)) 0 [] := by
  have hu' := (D.ok t ty hi).sl (by simpa using he0)
  exact T_pure (fun ρ ev w hev => by
    have h1 := hev x _ (by simp [ho, Op.operands, Call.operands]) hx
    simp [execOp, ho, resolve, invoke, builtin, h1, LV.val, Builtin.len_, run_underlying hu', goInt]) (fun _ _ _ => trivial)
end
end Lg
end Go.Proofs.Ytpfhmodjjljpjaa
