import Derived.Test.YtpfhmodjjljpjaaL5
namespace Go.Proofs.Ytpfhmodjjljpjaa
open Go.RowKit
namespace Lg
set_option linter.unusedSimpArgs false
set_option linter.unusedVariables false

/-! ### Lists with a piece put in -/
def splice {β : Type} (l : List β) (n : Nat) (m : List β) : List β := l.take n ++ m ++ l.drop (n + m.length)
theorem splice_get {β : Type} (l : List β) (n : Nat) (m : List β) (h : n + m.length ≤ l.length) (q : Nat) : (splice l n m)[q]? = if q < n then l[q]? else if q < n + m.length then m[q - n]? else l[q]? := by
  unfold splice
  have h1 : (l.take n).length = n := by rw [List.length_take]; omega
  by_cases hq : q < n
  · rw [if_pos hq, List.append_assoc, List.getElem?_append_left (by omega), List.getElem?_take_of_lt hq]
  · rw [if_neg hq, List.append_assoc, List.getElem?_append_right (by omega), h1]
    by_cases hq2 : q < n + m.length
    · rw [if_pos hq2, List.getElem?_append_left (by omega)]
    · rw [if_neg hq2, List.getElem?_append_right (by omega), List.getElem?_drop]
      congr 1
      omega
theorem splice_length {β : Type} (l : List β) (n : Nat) (m : List β) (h : n + m.length ≤ l.length) : (splice l n m).length = l.length := by
  unfold splice
  simp only [List.length_append, List.length_take, List.length_drop]
  omega
theorem splice_take {β : Type} (l : List β) (n q : Nat) (m : List β) (h : n + m.length ≤ q) (hq : q ≤ l.length) : (splice l n m).take q = splice (l.take q) n m := by
  apply List.ext_getElem?
  intro i
  rw [splice_get _ _ _ (by rw [List.length_take]; omega), List.getElem?_take, splice_get _ _ _ (by omega)]
  simp only [List.getElem?_take]
  by_cases h1 : i < q
  · simp only [if_pos h1]
  · simp only [if_neg h1, if_neg (show ¬ i < n by omega), if_neg (show ¬ i < n + m.length by omega)]

theorem RowsRd.set {w : World} {ok : Nat → Prop} {sz : Nat} {rows : List (List Cell)} {cells : List Value} (h : RowsRd w ok sz rows cells) {j f : Nat} {r : List Cell} {cls : List Cell} {us : List Value} (hj : rows[j]? = some r) (hf : f + cls.length ≤ r.length) (hl : us.length = cls.length)
    (hu : ∀ (q : Nat) (cl : Cell) (u : Value), cls[q]? = some cl → us[q]? = some u → Rd w ok cl u) : RowsRd w ok sz (rows.set j (splice r f cls)) (splice cells (j * sz + f) us) := by
  have hr := (h.each j r hj).1
  have hjl : j < rows.length := (List.getElem?_eq_some_iff.1 hj).1
  have hle : j * sz + sz ≤ rows.length * sz := by rw [← Nat.succ_mul]; exact Nat.mul_le_mul_right _ hjl
  have hfit : j * sz + f + us.length ≤ cells.length := by rw [h.len]; omega
  refine ⟨by rw [splice_length _ _ _ hfit, List.length_set]; exact h.len, fun i r' hi => ?_⟩
  rw [List.getElem?_set] at hi
  by_cases hij : j = i
  · subst hij
    rw [if_pos rfl, if_pos hjl] at hi
    obtain rfl : splice r f cls = r' := by injection hi
    refine ⟨by rw [splice_length _ _ _ hf]; exact hr, fun q cl hq => ?_⟩
    rw [splice_get _ _ _ hf] at hq
    rw [splice_get _ _ _ hfit]
    by_cases h1 : q < f
    · rw [if_pos h1] at hq
      rw [if_pos (by omega)]
      exact (h.each j r hj).2 q cl hq
    · rw [if_neg h1] at hq
      rw [if_neg (by omega)]
      by_cases h2 : q < f + cls.length
      · rw [if_pos h2] at hq
        rw [if_pos (by omega)]
        have h3 : q - f < us.length := by omega
        have h4 : j * sz + q - (j * sz + f) = q - f := by omega
        rw [h4]
        exact ⟨us[q - f], List.getElem?_eq_getElem h3, hu _ _ _ hq (List.getElem?_eq_getElem h3)⟩
      · rw [if_neg h2] at hq
        rw [if_neg (by omega)]
        exact (h.each j r hj).2 q cl hq
  · rw [if_neg hij] at hi
    obtain ⟨h1, h2⟩ := h.each i r' hi
    refine ⟨h1, fun q cl hq => ?_⟩
    have hql : q < sz := by have := (List.getElem?_eq_some_iff.1 hq).1; omega
    rw [splice_get _ _ _ hfit]
    rcases Nat.lt_or_ge i j with hlt | hge
    · have : i * sz + sz ≤ j * sz := by rw [← Nat.succ_mul]; exact Nat.mul_le_mul_right _ hlt
      rw [if_pos (by omega)]
      exact h2 q cl hq
    · have hlt : j < i := by omega
      have : j * sz + sz ≤ i * sz := by rw [← Nat.succ_mul]; exact Nat.mul_le_mul_right _ hlt
      rw [if_neg (by omega), if_neg (by omega)]
      exact h2 q cl hq

theorem all_get {p : Value → Bool} {l : List Value} (h : l.all p = true) : ∀ u ∈ l, p u = true := fun u hu => List.all_eq_true.1 h u hu

section
variable {P : Program} {N : Nat} {o : Oper} {b : Nat} {st : St} (D : Tab P)

/-- A store into an element. -/
theorem T_store_e {α : Type} [Inhabited α] {enc : α → List Cell} {xs : List α} {t i e sz j f : Nat} {x y : Operand} {l : List LV} {lv : LV} {cls : List Cell} {pre pre' : List Nat} {frz : List (Nat × Ob)} {ty : TyI} {z : α} (ho : o.op = .store t x y) (hx : st.ev x = some (.e i sz j f)) (hob : st.o.lookup i = some (.row e sz (xs.map enc)))
    (hy : st.ev y = some lv) (hf : Flat st lv l pre) (hi : D.get t = some ty) (hl : l.length = ty.size) (hj : j < xs.length) (hc : CellsOf st.o l cls pre' frz) (hfr : frz.lookup i = none) (hfit : f + cls.length ≤ (enc (xs.getD j default)).length) (hz : enc z = splice (enc (xs.getD j default)) f cls) :
    T P N o b (i :: (pre ++ pre')) st (.v undef) 0 ((i, .row e sz ((xs.set j z).map enc)) :: frz) := by
  intro w0 M U ρ own st' a w hev hp hfrs fr hr
  obtain ⟨hv, hu⟩ := fr.eval ((hev x (by simp [ho, Op.operands])).trans hx)
  obtain ⟨hv2, hu2⟩ := fr.eval ((hev y (by simp [ho, Op.operands])).trans hy)
  obtain ⟨c1, c2, c3⟩ := hf w0 w M U ρ own st'.o (fun j hj => hp j (by simp [hj])) hr hu2
  obtain ⟨own', h1, h2, h3, h4, h5, h6⟩ := cells_of hc w0 w M U ρ own st'.o (fun j hj => hp j (by simp [hj])) hr
  have hob' : (frz ++ st'.o).lookup i = some (.row e sz (xs.map enc)) := by
    rw [lookup_append, hfr]
    exact (hp i List.mem_cons_self).trans hob
  obtain ⟨⟨hs0, cells, g1, g2, g3⟩, hUi, _⟩ := h1.ob i _ hob'
  obtain ⟨ad, had⟩ := hu.2
  have hrow := map_get (enc := enc) hj
  rcases g1.2 with ⟨k1, k2⟩ | ⟨g, cap, cur, he, hg0, hh, r1, r2, r3, r4⟩
  · rw [k1] at had; cases had
  have hb : base (ρ i) = some ⟨g, 0, none⟩ := by rw [he]; rfl
  have hrl := (g3.each j _ hrow).1
  have hle : j * sz + sz ≤ (xs.map enc).length * sz := by rw [← Nat.succ_mul, List.length_map]; exact Nat.mul_le_mul_right _ hj
  have hcap : (xs.map enc).length * sz ≤ cap * sz := Nat.mul_le_mul_right _ r1
  have hvl : (LV.vals ρ l).length = cls.length := h2
  have hfits : j * sz + f + (LV.vals ρ l).length ≤ cur.size := by omega
  have hcur : cur.toList.length = cur.size := Array.length_toList
  have hrun : (execOp a.eval o).run P w = .ok .skip (w.setRow g (splice cur.toList (j * sz + f) (LV.vals ρ l)).toArray) := by
    simp only [execOp, ho]
    rw [Sem.run_bind, run_storeAt (D.ok t ty hi) (g := g) (n := j * sz + f) (vs := LV.vals ρ l) (by rw [hv]; simp [LV.val, ptrOf, hb, add_plain]) (by rw [hv2]; exact c1) (by rw [vals_length]; exact hl) hh hfits (all_get c3)]
    rfl
  refine does_skip hrun ⟨ρ, own', rfl, fun _ _ => rfl, trivial, ?_⟩
  refine HR.mono ?_ (fun i hi => .inl hi)
  have hrr : ∀ k, own' k = none → k ≠ g := fun k hk h => by
    have := g2 g (by rw [he]; rfl)
    rw [h, this] at hk
    cases hk
  have hstep := h1.step (w' := w.setRow g (splice cur.toList (j * sz + f) (LV.vals ρ l)).toArray) (U' := U) (ρ' := ρ) (own' := own') (upd := [(i, .row e sz ((xs.set j z).map enc))]) (fun q => q = i) (by simp) (by simp) (by simp) (by simp)
    (fun k hk hq => ⟨setRow_other w g k _ (fun h => hq i (h ▸ g2 g (by rw [he]; rfl)) rfl), rfl⟩) (fun _ _ => rfl) (fun _ h => h) (fun q hq => ⟨.row e sz ((xs.set j z).map enc), by simp [List.lookup, hq]⟩) (fun q ob' hq => .inl (by rw [lookup_key hq]; exact ⟨_, hob'⟩)) (fun q ob' hq => ?_)
  · exact hstep
  · simp only [List.lookup] at hq
    cases hqq : q == i with
    | false => rw [hqq] at hq; cases hq
    | true =>
      rw [hqq] at hq
      obtain rfl : q = i := by simpa using hqq
      obtain rfl : Ob.row e sz ((xs.set j z).map enc) = ob' := by injection hq
      refine ⟨⟨hs0, splice cells (j * sz + f) (LV.vals ρ l), ?_, g2, ?_⟩, hUi, trivial⟩
      · have hcl : cells.length = (xs.map enc).length * sz := g3.len
        refine ⟨by rw [splice_length _ _ _ (by rw [hcl]; omega), hcl]; simp, .inr ⟨g, cap, _, by rw [he]; simp, Nat.zero_le _, setRow_heap w g cur _ e _ hh, by simpa using r1, r2, ?_, ?_⟩⟩
        · rw [List.size_toArray, splice_length _ _ _ (by rw [hcur]; exact hfits), Array.length_toList, r3]
        · rw [← r4]
          have : (xs.map enc).length * sz = ((xs.set j z).map enc).length * sz := by simp
          rw [this]
          have hq2 : ((xs.set j z).map enc).length * sz ≤ cur.toList.length := by rw [← this, hcur]; omega
          exact splice_take _ _ _ _ (by rw [← this]; omega) hq2
      · have h8 := g3.set hrow hfit hvl h6
        rw [← hz] at h8
        have h9 : (xs.map enc).set j (enc z) = (xs.set j z).map enc := by rw [List.map_set]
        rw [h9] at h8
        exact h8.mono (fun k hk _ => ⟨hk, setRow_other w g k _ (hrr k hk)⟩)

/-! ### New rows -/
theorem HR.newRow {w0 w : World} {M : Fp} {U : Nat → Prop} {ρ : Nat → Value} {own : Nat → Option Nat} {ob : List (Nat × Ob)} (hr : HR w0 M U ρ own ob w) (b e sz : Nat) (hb : ¬ U b) (hs : 0 < sz) {rows : List (List Cell)} {cells : List Value} (hm : rows.length ≤ maxLen) (hR : RowsRd w (fun k => own k = none) sz rows cells) :
    HR w0 M (grow U b 1) (upd1 ρ b (.slice (some ⟨w.heap.size, 0, none⟩) rows.length rows.length)) (upd1 own w.heap.size (some b)) ([(b, .row e sz rows)] ++ ob) (w.alloc (.cells cells.toArray e)) := by
  have hρ : ∀ i, U i → upd1 ρ b (.slice (some ⟨w.heap.size, 0, none⟩) rows.length rows.length) i = ρ i := fun i hi => upd1_other _ _ (fun h => hb (h ▸ hi))
  refine hr.step (fun _ => False) rfl rfl rfl (by rw [World.size_alloc]; omega) (fun k hk _ => ⟨heap_alloc_old w _ hk, upd1_other _ _ (by omega)⟩) hρ (fun i hi => .inl hi) (fun _ h => h.elim) (fun i ob' hi => .inr (by rw [lookup_key hi]; exact hb)) (fun i ob' hi => ?_)
  simp only [List.lookup] at hi
  cases hq : i == b with
  | false => rw [hq] at hi; cases hi
  | true =>
    rw [hq] at hi
    obtain rfl : i = b := by simpa using hq
    obtain rfl : Ob.row e sz rows = ob' := by injection hi
    refine ⟨⟨hs, cells, ?_, ?_, ?_⟩, .inr ⟨Nat.le_refl _, by omega⟩, trivial⟩
    · rw [upd1_same]
      exact World.ownsRow_lit w cells.toArray rows.length (Nat.zero_le _) hm (by simpa using hR.len)
    · rw [upd1_same]
      intro k hk
      simp [Value.ownBlock] at hk
      rw [← hk, upd1_same]
    · exact hR.mono (fun k hk hlt => ⟨by rw [upd1_other _ _ (by omega)]; exact hk, heap_alloc_old w _ hlt⟩)

/-- A zero value's cells, read. -/
inductive ZR : List Cell → List Value → Prop
  | nil : ZR [] []
  | v {x : Value} {cls us} (h : x.oneCell' = true) (t : ZR cls us) : ZR (.v x :: cls) (x :: us)
  | z {sz : Nat} {cls us} (t : ZR cls us) : ZR (.sl sz [] :: cls) (.slice none 0 0 :: us)
theorem ZR.rd {cls : List Cell} {us : List Value} (h : ZR cls us) (w : World) (ok : Nat → Prop) : us.length = cls.length ∧ ∀ (q : Nat) (cl : Cell) (u : Value), cls[q]? = some cl → us[q]? = some u → Rd w ok cl u := by
  induction h with
  | nil => exact ⟨rfl, fun q cl u h => by simp at h⟩
  | v hx t ih =>
    refine ⟨by simp [ih.1], fun q cl u h1 h2 => ?_⟩
    cases q with
    | zero => simp at h1 h2; subst h1; subst h2; exact .v _ hx
    | succ q => exact ih.2 q cl u (by simpa using h1) (by simpa using h2)
  | z t ih =>
    refine ⟨by simp [ih.1], fun q cl u h1 h2 => ?_⟩
    cases q with
    | zero => simp at h1 h2; subst h1; subst h2; exact nil_reads w ok _
    | succ q => exact ih.2 q cl u (by simpa using h1) (by simpa using h2)

theorem T_make {α : Type} {enc : α → List Cell} {zx : α} {t : Nat} {x y : Operand} {m : Nat} {ty ety : TyI} (ho : o.op = .makeSlice t x y) (hx : st.ev x = some (.v (.int .i64 (m : Int)))) (hy : st.ev y = some (.v (.int .i64 (m : Int))))
    (hi : D.get t = some ty) (he0 : (ty.elem == 0) = false) (he : D.get ty.elem = some ety) (hs : (ety.size == 0) = false) (hz : ZR (enc zx) ety.zero) (hzl : ety.zero.length = ety.size) (hm : m * ety.bytes ≤ 281474976710656) (hm2 : m ≤ 9223372036854775807) :
    T P N o b [] st (.r b) 1 [(b, .row ty.elem ety.size ((List.replicate m zx).map enc))] := by
  intro w0 M U ρ own st' a w hev hp hfrs fr hr
  obtain ⟨hv, _⟩ := fr.eval ((hev x (by simp [ho, Op.operands])).trans hx)
  obtain ⟨hv2, _⟩ := fr.eval ((hev y (by simp [ho, Op.operands])).trans hy)
  obtain ⟨j, z, hj, hjz, hjc, hjs, hjb⟩ := (D.ok _ ety he).ti
  have hsz : 0 < ety.size := by have : ety.size ≠ 0 := by simpa using hs
                                omega
  have hr1 := run_make (P := P) w t ty.elem j z ((D.ok t ty hi).sl (by simpa using he0)) hj hjz .i64 .i64 m m (by omega) (Int.le_refl _) (by rw [hjb, Int.mul_comm]; omega) (by omega)
  have hzs : z.cells.size = ety.size := by rw [← hzl, ← hjc, Array.length_toList]
  have hrd := hz.rd w (fun k => own k = none)
  have hR : RowsRd w (fun k => own k = none) ety.size ((List.replicate m zx).map enc) (madeCells z.cells (m * ety.size)).toList := by
    refine ⟨by rw [Array.length_toList, size_madeCells, List.length_map, List.length_replicate], fun q r hq => ?_⟩
    rw [List.getElem?_map, Option.map_eq_some_iff] at hq
    obtain ⟨x', hx', rfl⟩ := hq
    have hql : q < m := by have := (List.getElem?_eq_some_iff.1 hx').1; simpa using this
    have hxx : x' = zx := by
      have := List.mem_of_getElem? hx'
      exact (List.mem_replicate.1 this).2
    subst hxx
    have hel : (enc x').length = ety.size := by rw [← hrd.1, hzl]
    refine ⟨hel, fun f cl hf => ?_⟩
    have hfl : f < ety.size := by have := (List.getElem?_eq_some_iff.1 hf).1; omega
    have hle : q * ety.size + ety.size ≤ m * ety.size := by rw [← Nat.succ_mul]; exact Nat.mul_le_mul_right _ hql
    have hu : f < ety.zero.length := by omega
    refine ⟨ety.zero[f], ?_, hrd.2 f cl _ hf (List.getElem?_eq_getElem hu)⟩
    rw [Array.getElem?_toList]
    have hmod : (q * ety.size + f) % ety.size = f := by rw [Nat.add_comm, Nat.add_mul_mod_self_right, Nat.mod_eq_of_lt hfl]
    have hz2 : f < z.cells.size := by omega
    have hz3 : z.cells[f]! = ety.zero[f] := by
      rw [getElem!_pos z.cells f hz2, ← Array.getElem_toList]
      congr 1
    simp only [madeCells]
    rw [Array.getElem?_map, Array.getElem?_range, if_pos (by omega), Option.map_some, hzs, hmod, hz3]
  have hlen : ((List.replicate m zx).map enc).length = m := by simp
  have hnr := hr.newRow b ty.elem ety.size (hfrs b (Nat.le_refl _) (by omega)) hsz (by rw [hlen]; simpa [maxLen] using hm2) hR
  rw [hlen] at hnr
  have hrun : (execOp a.eval o).run P w = .ok (.value (.slice (some ⟨w.heap.size, 0, none⟩) m m)) (w.alloc (.cells (madeCells z.cells (m * ety.size)) ty.elem)) := by
    simp only [execOp, ho, hv, hv2, LV.val]
    rw [Sem.run_bind, hr1, hjs]
    simp
  refine does_value hrun ⟨upd1 ρ b (.slice (some ⟨w.heap.size, 0, none⟩) m m), _, ?_, fun i hi => upd1_other _ _ (fun h => hfrs b (Nat.le_refl _) (by omega) (h ▸ hi)), .inr ⟨Nat.le_refl _, by omega⟩, by simpa using hnr⟩
  simp [LV.val, upd1_same]
end
end Lg
end Go.Proofs.Ytpfhmodjjljpjaa
