import Derived.Test.YtpfhmodjjljpjaaL2
import Derived.Deep.MidRow
namespace Go.Proofs.Ytpfhmodjjljpjaa
open Go.RowKit
namespace Lg
set_option linter.unusedSimpArgs false
set_option linter.unusedVariables false

/-! ### What is known of the types -/
structure TyI where
  agg : Bool
  size : Nat
  bytes : Nat
  zero : List Value
  elem : Nat
  fields : List (Nat × Nat)

structure Good (P : Program) (t : Nat) (i : TyI) : Prop where
  info : (P.info? t).map (fun j => (j.zero.map (·.cells.toList), j.size, j.bytes)) = some (some i.zero, i.size, i.bytes)
  agg : (match P.underlying t with | some (.struct _) => some true | some (.array _ _) => some true | some _ => some false | none => none) = some i.agg
  flds : (match P.underlying t with | some (.struct fs) => fs.toList.map (fun f => (f.offset, P.cellsOf f.type)) | _ => []) = i.fields
  slice : (match P.underlying t with | some (.slice e) => e | _ => 0) = i.elem

structure Tab (P : Program) where
  get : Nat → Option TyI
  ok : ∀ t i, get t = some i → Good P t i

section
variable {P : Program} {w : World}

theorem Good.ti {t : Nat} {i : TyI} (h : Good P t i) : ∃ j z, P.info? t = some j ∧ j.zero = some z ∧ z.cells.toList = i.zero ∧ j.size = i.size ∧ j.bytes = i.bytes := by
  obtain ⟨j, hj, he⟩ := Option.map_eq_some_iff.1 h.info
  simp only [Prod.mk.injEq] at he
  obtain ⟨z, hz, hc⟩ := Option.map_eq_some_iff.1 he.1
  exact ⟨j, z, hj, hz, hc, he.2.1, he.2.2⟩
theorem Good.sizeOf {t : Nat} {i : TyI} (h : Good P t i) (w : World) : (Go.sizeOf t).run P w = .ok i.size w := by
  obtain ⟨j, z, hj, _, _, hs, _⟩ := h.ti
  simp [Go.sizeOf, typeInfo, hj, hs]
theorem Good.zeroV {t : Nat} {i : TyI} (h : Good P t i) (w : World) : ∃ z, (zeroValue t).run P w = .ok z w ∧ z.cells.toList = i.zero := by
  obtain ⟨j, z, hj, hz, hc, hs, _⟩ := h.ti
  exact ⟨z, by simp [zeroValue, typeInfo, hj, hz], hc⟩
theorem Good.isAgg {t : Nat} {i : TyI} (h : Good P t i) (w : World) : (Go.isAgg t).run P w = .ok i.agg w := by
  have h1 := h.agg
  simp only [Go.isAgg, underlying]
  cases hu : P.underlying t with
  | none => rw [hu] at h1; cases h1
  | some d =>
    rw [hu] at h1
    cases d <;> simp at h1 <;> simp [hu, ← h1]
theorem Good.sl {t : Nat} {i : TyI} (h : Good P t i) (he : i.elem ≠ 0) : P.underlying t = some (.slice i.elem) := by
  have h1 := h.slice
  cases hu : P.underlying t with
  | none => rw [hu] at h1; exact absurd h1.symm he
  | some d =>
    rw [hu] at h1
    cases d <;> simp at h1 <;> first | (exact absurd h1.symm he) | (rw [h1])
theorem Good.field {t : Nat} {i : TyI} (h : Good P t i) {k off sz : Nat} (hk : i.fields[k]? = some (off, sz)) (hs : sz ≠ 0) {v : Value} {a : Addr} (hv : v = .pointer (some a)) (w : World) :
    (Instr.fieldAt t v k).run P w = .ok (.pointer (some (a.add off))) w := by
  have h1 := h.flds
  subst hv
  cases hu : P.underlying t with
  | none => rw [hu] at h1; rw [← h1] at hk; simp at hk
  | some d =>
    rw [hu] at h1
    cases d <;> simp at h1 <;> try (rw [h1] at hk; simp at hk; done)
    case struct fs =>
      rw [← h1] at hk
      rw [List.getElem?_map, Option.map_eq_some_iff] at hk
      obtain ⟨f, hf, he⟩ := hk
      rw [Array.getElem?_toList] at hf
      simp only [Prod.mk.injEq] at he
      have hc : P.cellsOf f.type = sz := he.2
      have hinfo : ∃ j, P.info? f.type = some j ∧ j.size = sz := by
        unfold Program.cellsOf at hc
        cases hi : P.info? f.type with
        | none => rw [hi] at hc; exact absurd hc.symm (by simpa using hs)
        | some j => rw [hi] at hc; exact ⟨j, rfl, by simpa using hc⟩
      obtain ⟨j, hj, hjs⟩ := hinfo
      simp [Instr.fieldAt, underlying, hu, hf, Instr.sureAddr, fieldPlace, Go.sizeOf, typeInfo, hj, hjs, hs, he.1]
end

theorem add_add (a : Addr) (m n : Nat) : (a.add m).add n = a.add (m + n) := by
  unfold Addr.add
  by_cases h1 : m = 0
  · subst h1; simp
  · by_cases h2 : n = 0
    · subst h2; simp [h1]
    · rw [if_neg h1, if_neg h2, if_neg (by omega)]
      simp [Nat.add_assoc]
theorem add_zero (a : Addr) : a.add 0 = a := by simp [Addr.add]
theorem add_plain (g n : Nat) : (⟨g, 0, none⟩ : Addr).add n = ⟨g, n, none⟩ := by unfold Addr.add; split <;> simp_all

/-! ### Variables in memory -/
section
variable {P : Program} {N : Nat} {o : Oper} {b : Nat} {st : St} (D : Tab P)

/-- A value's cells, as logical values. -/
def Flat (st : St) (lv : LV) (l : List LV) (pre : List Nat) : Prop :=
  ∀ (w0 w : World) (M : Fp) (U : Nat → Prop) (ρ : Nat → Value) (own : Nat → Option Nat) (o' : List (Nat × Ob)), (∀ i, i ∈ pre → o'.lookup i = st.o.lookup i) → HR w0 M U ρ own o' w → lv.used U ρ →
    (lv.val ρ).cells = (LV.vals ρ l).toArray ∧ LV.useds U ρ l ∧ (LV.vals ρ l).all (·.oneCell') = true
theorem flat_agg {l : List LV} : Flat st (.agg l) l [] := fun _ _ _ _ _ _ _ _ _ hu => ⟨rfl, hu.1, hu.2⟩
theorem cells_one {x : Value} (h : x.oneCell' = true) : x.cells = #[x] := by
  cases x <;> first | rfl | cases h
theorem flat_v {x : Value} (h : x.oneCell' = true) : Flat st (.v x) [.v x] [] := fun _ _ _ _ _ _ _ _ _ _ => ⟨cells_one h, ⟨trivial, trivial⟩, by simp [LV.vals, LV.val, h]⟩
theorem flat_p {i n : Nat} : Flat st (.p i n) [.p i n] [] := fun _ _ _ _ ρ _ _ _ _ hu => by
  obtain ⟨a, ha⟩ := hu.2
  exact ⟨by simp [LV.val, LV.vals, ptrOf, ha, Value.cells], ⟨hu, trivial⟩, by simp [LV.val, LV.vals, ptrOf, ha, Value.oneCell']⟩
theorem flat_fn {f : Nat} {l : List LV} : Flat st (.fn f l) [.fn f l] [] := fun _ _ _ _ _ _ _ _ _ hu => ⟨rfl, ⟨hu, trivial⟩, rfl⟩
theorem row_slice {w : World} {ρ : Nat → Value} {own : Nat → Option Nat} {i e sz : Nat} {rows : List (List Cell)} (h : RepOb w ρ own i (.row e sz rows)) : ∃ A c, ρ i = .slice A rows.length c := by
  obtain ⟨_, cells, h1, _⟩ := h
  rcases h1.2 with ⟨h2, h3⟩ | ⟨g, cap, cur, h2, _⟩
  · exact ⟨none, 0, by rw [h2, h3]⟩
  · exact ⟨_, cap, h2⟩
theorem fz_slice {w : World} {ρ : Nat → Value} {own : Nat → Option Nat} {i sz : Nat} {rows : List (List Cell)} (h : RepOb w ρ own i (.fz sz rows)) : ∃ A c, ρ i = .slice A rows.length c := by
  have h1 : Rd w (fun k => own k = none) (.sl sz rows) (ρ i) := h
  generalize ρ i = v at h1
  cases h1 with
  | sl sz rows A c => exact ⟨A, c, rfl⟩
theorem flat_row {i e sz : Nat} {rows : List (List Cell)} (h : st.o.lookup i = some (.row e sz rows)) : Flat st (.r i) [.r i] [i] := fun _ _ _ _ ρ _ o' hp hr hu => by
  obtain ⟨A, c, hA⟩ := row_slice (hr.ob i _ ((hp i (by simp)).trans h)).1
  exact ⟨by simp [LV.val, LV.vals, hA, Value.cells], ⟨hu, trivial⟩, by simp [LV.val, LV.vals, hA, Value.oneCell']⟩
theorem flat_fz {i sz : Nat} {rows : List (List Cell)} (h : st.o.lookup i = some (.fz sz rows)) : Flat st (.r i) [.r i] [i] := fun _ _ _ _ ρ _ o' hp hr hu => by
  obtain ⟨A, c, hA⟩ := fz_slice (hr.ob i _ ((hp i (by simp)).trans h)).1
  exact ⟨by simp [LV.val, LV.vals, hA, Value.cells], ⟨hu, trivial⟩, by simp [LV.val, LV.vals, hA, Value.oneCell']⟩

def upd1 {β : Type} (f : Nat → β) (i : Nat) (x : β) : Nat → β := fun j => if j = i then x else f j
theorem upd1_same {β : Type} (f : Nat → β) (i : Nat) (x : β) : upd1 f i x i = x := by simp [upd1]
theorem upd1_other {β : Type} (f : Nat → β) {i j : Nat} (x : β) (h : j ≠ i) : upd1 f i x j = f j := by simp [upd1, h]

/-- A new block that is a variable. -/
theorem HR.newBox {w0 w : World} {M : Fp} {U : Nat → Prop} {ρ : Nat → Value} {own : Nat → Option Nat} {ob : List (Nat × Ob)} (hr : HR w0 M U ρ own ob w) (b t : Nat) (hb : ¬ U b) {l : List LV} (hl : LV.useds U ρ l) (h1 : (LV.vals ρ l).all (·.oneCell') = true) :
    HR w0 M (grow U b 1) (upd1 ρ b (.pointer (some ⟨w.heap.size, 0, none⟩))) (upd1 own w.heap.size (some b)) ([(b, .box t l)] ++ ob) (w.alloc (.cells (LV.vals ρ l).toArray t)) := by
  have hρ : ∀ i, U i → upd1 ρ b (.pointer (some ⟨w.heap.size, 0, none⟩)) i = ρ i := fun i hi => upd1_other _ _ (fun h => hb (h ▸ hi))
  refine hr.step (fun _ => False) rfl rfl rfl (by rw [World.size_alloc]; omega) (fun k hk _ => ⟨heap_alloc_old w _ hk, upd1_other _ _ (by omega)⟩) hρ (fun i hi => .inl hi) (fun _ h => h.elim) (fun i ob' hi => .inr (by rw [lookup_key hi]; exact hb)) (fun i ob' hi => ?_)
  simp only [List.lookup] at hi
  cases hq : i == b with
  | false => rw [hq] at hi; cases hi
  | true =>
    rw [hq] at hi
    obtain rfl : i = b := by simpa using hq
    obtain rfl : Ob.box t l = ob' := by injection hi
    refine ⟨⟨w.heap.size, upd1_same _ _ _, upd1_same _ _ _, ?_⟩, .inr ⟨Nat.le_refl _, by omega⟩, ⟨useds_mono hρ (fun i hi => .inl hi) l hl, by rw [useds_congr hρ l hl]; exact h1⟩⟩
    rw [heap_alloc_new w _, useds_congr hρ l hl]

theorem run_box (t : Nat) (v : Value) (w : World) : (Instr.box t v).run P w = .ok (.pointer (some ⟨w.heap.size, 0, none⟩)) (w.alloc (.cells v.cells t)) := by
  rfl
theorem T_box {t : Nat} {x : Operand} {lv : LV} {l : List LV} {pre : List Nat} (ho : o.op = .box t x) (hx : st.ev x = some lv) (hf : Flat st lv l pre) : T P N o b pre st (.p b 0) 1 [(b, .box t l)] := by
  intro w0 M U ρ own st' a w hev hp hfr fr hr
  obtain ⟨hv, hu⟩ := fr.eval ((hev x (by simp [ho, Op.operands])).trans hx)
  obtain ⟨hc, hul, h1⟩ := hf w0 w M U ρ own st'.o hp hr hu
  have hrun : (execOp a.eval o).run P w = .ok (.value (.pointer (some ⟨w.heap.size, 0, none⟩))) (w.alloc (.cells (LV.vals ρ l).toArray t)) := by
    simp only [execOp, ho, hv]
    rw [Sem.run_bind, run_box, hc]
    rfl
  refine does_value hrun ⟨upd1 ρ b (.pointer (some ⟨w.heap.size, 0, none⟩)), upd1 own w.heap.size (some b), ?_, fun i hi => upd1_other _ _ (fun h => hfr b (Nat.le_refl _) (by omega) (h ▸ hi)), ⟨.inr ⟨Nat.le_refl _, by omega⟩, ⟨⟨w.heap.size, 0, none⟩, by rw [upd1_same]; rfl⟩⟩, hr.newBox b t (hfr b (Nat.le_refl _) (by omega)) hul h1⟩
  simp [LV.val, ptrOf, upd1_same, base, add_zero]

theorem run_alloc {t : Nat} {i : TyI} (hg : Good P t i) (w : World) : (Instr.alloc t true (.tuple #[])).run P w = .ok (.pointer (some ⟨w.heap.size, 0, none⟩)) (w.alloc (.cells i.zero.toArray t)) := by
  obtain ⟨z, hz, hc⟩ := hg.zeroV w
  have hc' : z.cells = i.zero.toArray := by rw [← hc]
  simp only [Instr.alloc, Sem.run_bind, hz, Result.andThen]
  rw [← hc']
  rfl
theorem vals_v (ρ : Nat → Value) : ∀ l : List Value, LV.vals ρ (l.map .v) = l
  | [] => rfl
  | _ :: xs => by simp [LV.vals, LV.val, vals_v ρ xs]
theorem useds_v (U : Nat → Prop) (ρ : Nat → Value) : ∀ l : List Value, LV.useds U ρ (l.map .v)
  | [] => trivial
  | _ :: xs => ⟨trivial, useds_v U ρ xs⟩
theorem T_alloc {t : Nat} {i : TyI} (ho : o.op = .alloc t) (hi : D.get t = some i) (h1 : i.zero.all (·.oneCell') = true) : T P N o b [] st (.p b 0) 1 [(b, .box t (i.zero.map .v))] := by
  intro w0 M U ρ own st' a w hev hp hfr fr hr
  have hrun : (execOp a.eval o).run P w = .ok (.value (.pointer (some ⟨w.heap.size, 0, none⟩))) (w.alloc (.cells (LV.vals ρ (i.zero.map .v)).toArray t)) := by
    simp only [execOp, ho, vals_v]
    rw [Sem.run_bind, run_alloc (D.ok t i hi)]
    rfl
  refine does_value hrun ⟨upd1 ρ b (.pointer (some ⟨w.heap.size, 0, none⟩)), upd1 own w.heap.size (some b), ?_, fun i hi => upd1_other _ _ (fun h => hfr b (Nat.le_refl _) (by omega) (h ▸ hi)), ⟨.inr ⟨Nat.le_refl _, by omega⟩, ⟨⟨w.heap.size, 0, none⟩, by rw [upd1_same]; rfl⟩⟩, hr.newBox b t (hfr b (Nat.le_refl _) (by omega)) (useds_v U ρ i.zero) (by rw [vals_v]; exact h1)⟩
  simp [LV.val, ptrOf, upd1_same, base, add_zero]

theorem T_fieldAddr {t k i n off sz : Nat} {x : Operand} {ty : TyI} (ho : o.op = .fieldAddr t x k) (hx : st.ev x = some (.p i n)) (hi : D.get t = some ty) (hk : ty.fields[k]? = some (off, sz)) (hs : (sz == 0) = false) :
    T P N o b [] st (.p i (n + off)) 0 [] := by
  intro w0 M U ρ own st' a w hev hp hfr fr hr
  obtain ⟨hv, hu⟩ := fr.eval ((hev x (by simp [ho, Op.operands])).trans hx)
  obtain ⟨ad, had⟩ := hu.2
  have hpv : a.eval x = .pointer (some (ad.add n)) := by rw [hv]; simp [LV.val, ptrOf, had]
  have hrun : (execOp a.eval o).run P w = .ok (.value (.pointer (some (ad.add (n + off))))) w := by
    simp only [execOp, ho]
    rw [Sem.run_bind, (D.ok t ty hi).field hk (by simpa using hs) hpv, add_add]
    rfl
  refine does_value hrun ⟨ρ, own, by simp [LV.val, ptrOf, had], fun _ _ => rfl, ⟨.inl hu.1, hu.2⟩, hr.mono (fun i hi => .inl hi)⟩
theorem T_fieldAddr_e {t k i z j f off sz : Nat} {x : Operand} {ty : TyI} (ho : o.op = .fieldAddr t x k) (hx : st.ev x = some (.e i z j f)) (hi : D.get t = some ty) (hk : ty.fields[k]? = some (off, sz)) (hs : (sz == 0) = false) :
    T P N o b [] st (.e i z j (f + off)) 0 [] := by
  intro w0 M U ρ own st' a w hev hp hfr fr hr
  obtain ⟨hv, hu⟩ := fr.eval ((hev x (by simp [ho, Op.operands])).trans hx)
  obtain ⟨ad, had⟩ := hu.2
  have hpv : a.eval x = .pointer (some (ad.add (j * z + f))) := by rw [hv]; simp [LV.val, ptrOf, had]
  have hrun : (execOp a.eval o).run P w = .ok (.value (.pointer (some (ad.add (j * z + (f + off)))))) w := by
    simp only [execOp, ho]
    rw [Sem.run_bind, (D.ok t ty hi).field hk (by simpa using hs) hpv, add_add, Nat.add_assoc]
    rfl
  refine does_value hrun ⟨ρ, own, by simp [LV.val, ptrOf, had], fun _ _ => rfl, ⟨.inl hu.1, hu.2⟩, hr.mono (fun i hi => .inl hi)⟩
end
end Lg
end Go.Proofs.Ytpfhmodjjljpjaa
