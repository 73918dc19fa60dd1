import Derived.Test.YtpfhmodjjljpjaaPl
namespace Go.Proofs.Ytpfhmodjjljpjaa
open Go.RowKit
namespace Lg
set_option linter.unusedSimpArgs false
set_option linter.unusedVariables false

/-! ### Slices of slices -/
def sub {α : Type} (xs : List α) (l h : Nat) : List α := (xs.drop l).take (h - l)
theorem sub_map {α β : Type} (f : α → β) (xs : List α) (l h : Nat) : sub (xs.map f) l h = (sub xs l h).map f := by simp [sub, List.map_take, List.map_drop]
theorem sub_at {α : Type} {xs : List α} {l h i : Nat} {x : α} (hx : (sub xs l h)[i]? = some x) : xs[l + i]? = some x := by
  unfold sub at hx
  rw [List.getElem?_take] at hx
  split at hx
  · rwa [List.getElem?_drop] at hx
  · cases hx
theorem sub_length {α : Type} {xs : List α} {l h : Nat} (h1 : l ≤ h) (h2 : h ≤ xs.length) : (sub xs l h).length = h - l := by
  simp [sub]; omega

theorem rd_cap {w : World} {ok : Nat → Prop} {sz : Nat} {rows : List (List Cell)} {A : Option Addr} {n c : Nat} (hr : Rd w ok (.sl sz rows) (.slice A n c)) : n ≤ c := by
  cases hr with
  | sl _ _ _ _ u hc hm hz hn hA hR => exact hc

theorem Rd.subs {w : World} {ok : Nat → Prop} {sz : Nat} {rows : List (List Cell)} {A : Option Addr} {n c : Nat} (hr : Rd w ok (.sl sz rows) (.slice A n c)) {l h m : Nat} (h1 : l ≤ h) (h2 : h ≤ n) (h3 : h ≤ m) :
    Rd w ok (.sl sz (sub rows l h)) (.slice (if m = l then A else A.map (·.add (l * sz))) (h - l) (m - l)) := by
  cases hr with
  | sl _ _ _ _ u hc hm hz hn hA hR =>
    have hlen := sub_length (xs := rows) h1 h2
    have hlen2 : (sub rows l h).length = h - l := hlen
    have hA' : ∀ (i : Nat) (r : List Cell), (sub rows l h)[i]? = some r → ¬ m = l ∧ ∃ a, A = some a := fun i r hi => by
      have h5 : i < h - l := by rw [← hlen2]; exact (List.getElem?_eq_some_iff.1 hi).1
      refine ⟨by omega, hn (fun e => ?_)⟩
      subst e
      simp at h2; omega
    rw [show h - l = (sub rows l h).length from hlen2.symm]
    refine .sl sz _ _ (m - l) (fun i j => u (l + i) j) (by omega) (by omega) (fun r hr => ?_) (fun hne => ?_) (fun i r j cl hi hj => ?_) (fun i r j cl hi hj => ?_)
    · exact hz r (List.mem_of_mem_drop (List.mem_of_mem_take hr))
    · obtain ⟨r, hr⟩ := List.exists_mem_of_ne_nil _ hne
      obtain ⟨i, hi⟩ := List.getElem?_of_mem hr
      obtain ⟨h5, a, rfl⟩ := hA' i r hi
      exact ⟨a.add (l * sz), by simp [h5]⟩
    · obtain ⟨h5, _⟩ := hA' i r hi
      obtain ⟨a, rfl, hok, hcell⟩ := hA (l + i) r j cl (sub_at hi) hj
      refine ⟨a.add (l * sz), by simp [h5], by rw [add_block]; exact hok, ?_⟩
      rw [add_add, show l * sz + (i * sz + j) = (l + i) * sz + j by rw [Nat.add_mul]; omega]
      exact hcell
    · exact hR (l + i) r j cl (sub_at hi) hj

section
variable {P : Program} {N b : Nat} {o : Oper} {st : St} (D : Tab P)

/-- The bounds of a slice expression. -/
def SlB (P : Program) (n l h : Nat) (lo hi mx : Option Value) : Prop := ∀ (c : Nat) (w : World), n ≤ c → ∃ m, (Instr.sliceBounds true n c lo hi mx).run P w = .ok (l, h, m) w ∧ h ≤ m ∧ m ≤ c

theorem slb_l {n l : Nat} (h : l ≤ n) : SlB P n l n (some (.int .i64 (l : Int))) none none := fun c w hc =>
  ⟨c, by
    have := run_sliceBound (P := P) (w := w) .i64 (l : Int) n .sliceB (by omega) (by omega)
    simp [Instr.sliceBounds, this], by omega, Nat.le_refl _⟩
theorem slb_h {n h : Nat} (hh : h ≤ n) : SlB P n 0 h none (some (.int .i64 (h : Int))) none := fun c w hc =>
  ⟨c, by
    have := run_sliceBound (P := P) (w := w) .i64 (h : Int) c .sliceAcap (by omega) (by omega)
    simp [Instr.sliceBounds, this], by omega, Nat.le_refl _⟩
theorem slb_lh {n l h : Nat} (h1 : l ≤ h) (hh : h ≤ n) : SlB P n l h (some (.int .i64 (l : Int))) (some (.int .i64 (h : Int))) none := fun c w hc =>
  ⟨c, by
    have h2 := run_sliceBound (P := P) (w := w) .i64 (h : Int) c .sliceAcap (by omega) (by omega)
    have h3 := run_sliceBound (P := P) (w := w) .i64 (l : Int) h .sliceB (by omega) (by omega)
    simp [Instr.sliceBounds, h2, h3], by omega, Nat.le_refl _⟩
theorem slb_hm {n h m : Nat} (hh : h ≤ m) (hm : m ≤ n) : SlB P n 0 h none (some (.int .i64 (h : Int))) (some (.int .i64 (m : Int))) := fun c w hc =>
  ⟨m, by
    have h2 := run_sliceBound (P := P) (w := w) .i64 (m : Int) c .slice3Acap (by omega) (by omega)
    have h3 := run_sliceBound (P := P) (w := w) .i64 (h : Int) m .slice3B (by omega) (by omega)
    simp [Instr.sliceBounds, h2, h3], hh, by omega⟩

theorem run_sl {t : Nat} {ty ety : TyI} (hg : Good P t ty) (he0 : ty.elem ≠ 0) (he : Good P ty.elem ety) {A : Option Addr} {n c l h m : Nat} {lo hi mx : Option Value} {w : World} (hb : (Instr.sliceBounds true n c lo hi mx).run P w = .ok (l, h, m) w) :
    (Instr.sliceAt t (.slice A n c) lo hi mx).run P w = .ok (.slice (if m = l then A else A.map (·.add (l * ety.size))) (h - l) (m - l)) w := by
  have hu := hg.sl he0
  simp only [Instr.sliceAt, Sem.run_bind, run_underlying hu, Result.andThen_ok, Instr.slice, hb, he.sizeOf w, Sem.run_pure]

theorem run_slice_op {t : Nat} {x : Operand} {lo hi mx : Option Operand} {ev : Operand → Value} {w : World} {v : Value} (ho : o.op = .slice t x lo hi mx) (h : (Instr.sliceAt t (ev x) (lo.map ev) (hi.map ev) (mx.map ev)).run P w = .ok v w) : (execOp ev o).run P w = .ok (.value v) w := by
  simp only [execOp, ho]
  rw [Sem.run_bind, h]
  rfl

def oev (st : St) : Option Operand → Option (Option LV)
  | none => some none
  | some y => (st.ev y).map some

theorem opt_eval {N : Nat} {U : Nat → Prop} {ρ : Nat → Value} {st st' : St} {a : Act} (fr : FR N U ρ st'.s a) {x : Option Operand} {v : Option Value} (hx : ∀ y, x = some y → st'.ev y = st.ev y) (h : oev st x = some (v.map LV.v)) : x.map a.eval = v := by
  cases x with
  | none => cases v with
    | none => rfl
    | some v => simp [oev] at h
  | some y =>
    cases v with
    | none => simp [oev] at h
    | some v =>
      simp only [oev, Option.map_some, Option.map_eq_some_iff] at h
      obtain ⟨lv, h1, h2⟩ := h
      cases h2
      have := (fr.eval ((hx y rfl).trans h1)).1
      simp [this, LV.val]

/-- A part of a frozen slice. -/
theorem T_slF {α : Type} {enc : α → List Cell} {xs : List α} {t i sz l h : Nat} {x : Operand} {lo hi mx : Option Operand} {vl vh vm : Option Value} {ty ety : TyI} (ho : o.op = .slice t x lo hi mx) (hx : st.ev x = some (.r i)) (hob : st.o.lookup i = some (.fz sz (xs.map enc))) (hlo : oev st lo = some (vl.map .v)) (hhi : oev st hi = some (vh.map .v)) (hmx : oev st mx = some (vm.map .v))
    (hi' : D.get t = some ty) (he0 : (ty.elem == 0) = false) (he : D.get ty.elem = some ety) (hs : ety.size = sz) (h1 : l ≤ h) (h2 : h ≤ xs.length) (hb : SlB P xs.length l h vl vh vm) :
    T P N o b [i] st (.r b) 1 [(b, .fz sz ((sub xs l h).map enc))] := by
  intro w0 M U ρ own st' a w hev hp hfrs fr hr
  obtain ⟨hv, hu⟩ := fr.eval ((hev x (by simp [ho, Op.operands])).trans hx)
  have e1 := opt_eval (st := st) fr (x := lo) (fun y hy => hev y (by simp [ho, Op.operands, hy])) hlo
  have e2 := opt_eval (st := st) fr (x := hi) (fun y hy => hev y (by simp [ho, Op.operands, hy])) hhi
  have e3 := opt_eval (st := st) fr (x := mx) (fun y hy => hev y (by simp [ho, Op.operands, hy])) hmx
  obtain ⟨g1, g2, g3⟩ := hr.ob i _ ((hp i (by simp)).trans hob)
  obtain ⟨A, c, hA⟩ := fz_slice g1
  have g1' : Rd w (fun k => own k = none) (.sl sz (xs.map enc)) (ρ i) := g1
  rw [hA] at g1'
  have hlen : (xs.map enc).length = xs.length := by simp
  have hcap : xs.length ≤ c := by
    rw [← hlen]; exact rd_cap g1'
  obtain ⟨m, hm, hm1, hm2⟩ := hb c w hcap
  have hrun := run_slice_op (P := P) (ev := a.eval) (w := w) ho (v := .slice (if m = l then A else A.map (·.add (l * ety.size))) (h - l) (m - l)) (by
    rw [e1, e2, e3, hv]
    simp only [LV.val, hA, hlen]
    exact run_sl (D.ok t ty hi') (by simpa using he0) (D.ok _ ety he) hm)
  have hnew : Rd w (fun k => own k = none) (.sl sz ((sub xs l h).map enc)) (.slice (if m = l then A else A.map (·.add (l * ety.size))) (h - l) (m - l)) := by
    rw [hs, ← sub_map]
    exact g1'.subs h1 (by omega) hm1
  have hb' : ¬ U b := hfrs b (Nat.le_refl _) (by omega)
  exact does_value hrun ⟨upd1 ρ b _, own, by simp [LV.val, upd1_same], fun i hi => upd1_other _ _ (fun e => hb' (e ▸ hi)), .inr ⟨Nat.le_refl _, by omega⟩, hr.addFz b hb' hnew⟩

/-- A part of a slice of the call's own: from now on it is read alone. -/
theorem T_slR {α : Type} {enc : α → List Cell} {xs : List α} {t i e sz l h : Nat} {x : Operand} {lo hi mx : Option Operand} {vl vh vm : Option Value} {ty ety : TyI} (ho : o.op = .slice t x lo hi mx) (hx : st.ev x = some (.r i)) (hob : st.o.lookup i = some (.row e sz (xs.map enc))) (hlo : oev st lo = some (vl.map .v)) (hhi : oev st hi = some (vh.map .v)) (hmx : oev st mx = some (vm.map .v))
    (hi' : D.get t = some ty) (he0 : (ty.elem == 0) = false) (he : D.get ty.elem = some ety) (hs : ety.size = sz) (h1 : l ≤ h) (h2 : h ≤ xs.length) (hb : SlB P xs.length l h vl vh vm) :
    T P N o b [i] st (.r b) 1 [(b, .fz sz ((sub xs l h).map enc)), (i, .fz sz (xs.map enc))] := by
  intro w0 M U ρ own st' a w hev hp hfrs fr hr
  obtain ⟨hv, hu⟩ := fr.eval ((hev x (by simp [ho, Op.operands])).trans hx)
  have e1 := opt_eval (st := st) fr (x := lo) (fun y hy => hev y (by simp [ho, Op.operands, hy])) hlo
  have e2 := opt_eval (st := st) fr (x := hi) (fun y hy => hev y (by simp [ho, Op.operands, hy])) hhi
  have e3 := opt_eval (st := st) fr (x := mx) (fun y hy => hev y (by simp [ho, Op.operands, hy])) hmx
  have hfz := hr.freeze ((hp i (by simp)).trans hob)
  obtain ⟨g1, g2, g3⟩ := hfz.ob i (.fz sz (xs.map enc)) (by simp)
  obtain ⟨A, c, hA⟩ := fz_slice g1
  have g1' : Rd w (fun k => thaw own i k = none) (.sl sz (xs.map enc)) (ρ i) := g1
  rw [hA] at g1'
  have hlen : (xs.map enc).length = xs.length := by simp
  have hcap : xs.length ≤ c := by
    rw [← hlen]; exact rd_cap g1'
  obtain ⟨m, hm, hm1, hm2⟩ := hb c w hcap
  have hrun := run_slice_op (P := P) (ev := a.eval) (w := w) ho (v := .slice (if m = l then A else A.map (·.add (l * ety.size))) (h - l) (m - l)) (by
    rw [e1, e2, e3, hv]
    simp only [LV.val, hA, hlen]
    exact run_sl (D.ok t ty hi') (by simpa using he0) (D.ok _ ety he) hm)
  have hnew : Rd w (fun k => thaw own i k = none) (.sl sz ((sub xs l h).map enc)) (.slice (if m = l then A else A.map (·.add (l * ety.size))) (h - l) (m - l)) := by
    rw [hs, ← sub_map]
    exact g1'.subs h1 (by omega) hm1
  have hb' : ¬ U b := hfrs b (Nat.le_refl _) (by omega)
  exact does_value hrun ⟨upd1 ρ b _, thaw own i, by simp [LV.val, upd1_same], fun i hi => upd1_other _ _ (fun e => hb' (e ▸ hi)), .inr ⟨Nat.le_refl _, by omega⟩, hfz.addFz b hb' hnew⟩
end
theorem sub_getD {α : Type} [Inhabited α] {xs : List α} {l h i : Nat} (hi : i < (sub xs l h).length) : (sub xs l h).getD i default = xs.getD (l + i) default := by
  have h1 := sub_at (xs := xs) (l := l) (h := h) (i := i) (List.getElem?_eq_getElem hi)
  rw [List.getD_eq_getElem?_getD, List.getD_eq_getElem?_getD, List.getElem?_eq_getElem hi, h1]
theorem sub1_length {α : Type} {xs : List α} (h : 1 ≤ xs.length) : (sub xs 1 xs.length).length = xs.length - 1 := sub_length h (Nat.le_refl _)
end Lg
end Go.Proofs.Ytpfhmodjjljpjaa
