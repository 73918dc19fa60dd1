import Derived.Test.YtpfhmodjjljpjaaRl
namespace Go.Proofs.Ytpfhmodjjljpjaa
open Go.RowKit
namespace Lg
set_option linter.unusedSimpArgs false
set_option linter.unusedVariables false

/-! ### Regions, step by step -/
def RunK (P : Program) (N : Nat) (ops : Array Oper) (bs j : Nat) (st : St) (C : List Tr → St → Prop) : Prop := ∃ tr st', Run P N ops bs j st tr st' ∧ C tr st'

section
variable {P : Program} {N bs j j' b d nn i : Nat} {ops : Array Oper} {o : Oper} {s : List (Nat × LV)} {ob : List (Nat × Ob)} {lv : LV} {x : Ob} {pre : List Nat} {upd : List (Nat × Ob)} {C : List Tr → St → Prop}

theorem k_done {st : St} (h : ops.size = j) (hC : C [] st) : RunK P N ops bs j st C := ⟨[], st, .done h, hC⟩
theorem k_op0 (ho : ops[j]? = some o) (hd : o.dst = some d) (hb : bs + 16 * j = b) (hj : j + 1 = j') (hg : On ops ⟨s, ob⟩ o true) (ht : T P N o b pre ⟨s, ob⟩ lv nn []) (hn : decide (nn ≤ 16) = true) (r : RunK P N ops bs j' ⟨(d, lv) :: s, ob⟩ (fun tr => C (⟨true, pre, lv, nn, []⟩ :: tr))) : RunK P N ops bs j ⟨s, ob⟩ C := by
  obtain ⟨tr, st', r, hC⟩ := r
  exact ⟨_, st', .op0 ho hd hb hj hg ht hn r, hC⟩
theorem k_op1 (ho : ops[j]? = some o) (hd : o.dst = some d) (hb : bs + 16 * j = b) (hj : j + 1 = j') (hg : On ops ⟨s, ob⟩ o true) (ht : T P N o b pre ⟨s, ob⟩ lv nn [(i, x)]) (hn : decide (nn ≤ 16) = true) (r : RunK P N ops bs j' ⟨(d, lv) :: s, (i, x) :: ob⟩ (fun tr => C (⟨true, pre, lv, nn, [(i, x)]⟩ :: tr))) : RunK P N ops bs j ⟨s, ob⟩ C := by
  obtain ⟨tr, st', r, hC⟩ := r
  exact ⟨_, st', .op1 ho hd hb hj hg ht hn r, hC⟩
theorem k_opn (ho : ops[j]? = some o) (hd : o.dst = some d) (hb : bs + 16 * j = b) (hj : j + 1 = j') (hg : On ops ⟨s, ob⟩ o true) (ht : T P N o b pre ⟨s, ob⟩ lv nn upd) (hn : decide (nn ≤ 16) = true) (r : RunK P N ops bs j' ⟨(d, lv) :: s, upd ++ ob⟩ (fun tr => C (⟨true, pre, lv, nn, upd⟩ :: tr))) : RunK P N ops bs j ⟨s, ob⟩ C := by
  obtain ⟨tr, st', r, hC⟩ := r
  exact ⟨_, st', .opn ho hd hb hj hg ht hn r, hC⟩
theorem k_st0 (ho : ops[j]? = some o) (hd : o.dst = none) (hb : bs + 16 * j = b) (hj : j + 1 = j') (hg : On ops ⟨s, ob⟩ o true) (ht : T P N o b pre ⟨s, ob⟩ lv nn []) (hn : decide (nn ≤ 16) = true) (r : RunK P N ops bs j' ⟨s, ob⟩ (fun tr => C (⟨true, pre, lv, nn, []⟩ :: tr))) : RunK P N ops bs j ⟨s, ob⟩ C := by
  obtain ⟨tr, st', r, hC⟩ := r
  exact ⟨_, st', .st0 ho hd hb hj hg ht hn r, hC⟩
theorem k_st1 (ho : ops[j]? = some o) (hd : o.dst = none) (hb : bs + 16 * j = b) (hj : j + 1 = j') (hg : On ops ⟨s, ob⟩ o true) (ht : T P N o b pre ⟨s, ob⟩ lv nn [(i, x)]) (hn : decide (nn ≤ 16) = true) (r : RunK P N ops bs j' ⟨s, (i, x) :: ob⟩ (fun tr => C (⟨true, pre, lv, nn, [(i, x)]⟩ :: tr))) : RunK P N ops bs j ⟨s, ob⟩ C := by
  obtain ⟨tr, st', r, hC⟩ := r
  exact ⟨_, st', .st1 ho hd hb hj hg ht hn r, hC⟩
theorem k_stn (ho : ops[j]? = some o) (hd : o.dst = none) (hb : bs + 16 * j = b) (hj : j + 1 = j') (hg : On ops ⟨s, ob⟩ o true) (ht : T P N o b pre ⟨s, ob⟩ lv nn upd) (hn : decide (nn ≤ 16) = true) (r : RunK P N ops bs j' ⟨s, upd ++ ob⟩ (fun tr => C (⟨true, pre, lv, nn, upd⟩ :: tr))) : RunK P N ops bs j ⟨s, ob⟩ C := by
  obtain ⟨tr, st', r, hC⟩ := r
  exact ⟨_, st', .stn ho hd hb hj hg ht hn r, hC⟩
theorem k_no (ho : ops[j]? = some o) (hd : o.dst = some d) (hj : j + 1 = j') (hg : On ops ⟨s, ob⟩ o false) (r : RunK P N ops bs j' ⟨(d, .v undef) :: s, ob⟩ (fun tr => C (⟨false, [], .v undef, 0, []⟩ :: tr))) : RunK P N ops bs j ⟨s, ob⟩ C := by
  obtain ⟨tr, st', r, hC⟩ := r
  exact ⟨_, st', .no ho hd hj hg r, hC⟩
theorem k_split {st : St} {c : Bool} (hs : st.s.lookup d = some (.v (.bool c))) (h1 : c = true → RunK P N ops bs j st C) (h2 : c = false → RunK P N ops bs j st C) : RunK P N ops bs j st C := by
  cases c
  · exact h2 rfl
  · exact h1 rfl

/-- A guard, by what is known. -/
theorem g_tt {st : St} {g d : Nat} {c : Bool} (h : o.guard = some (g, true)) (hj : (ops[g]?).bind (·.dst) = some d) (hs : st.s.lookup d = some (.v (.bool c))) (hc : c = true) : On ops st o true := .yes h hj hs (by rw [hc]; rfl)
theorem g_tf {st : St} {g d : Nat} {c : Bool} (h : o.guard = some (g, true)) (hj : (ops[g]?).bind (·.dst) = some d) (hs : st.s.lookup d = some (.v (.bool c))) (hc : c = false) : On ops st o false := .no h hj hs (by rw [hc]; rfl)
theorem g_ft {st : St} {g d : Nat} {c : Bool} (h : o.guard = some (g, false)) (hj : (ops[g]?).bind (·.dst) = some d) (hs : st.s.lookup d = some (.v (.bool c))) (hc : c = true) : On ops st o false := .no h hj hs (by rw [hc]; rfl)
theorem g_ff {st : St} {g d : Nat} {c : Bool} (h : o.guard = some (g, false)) (hj : (ops[g]?).bind (·.dst) = some d) (hs : st.s.lookup d = some (.v (.bool c))) (hc : c = false) : On ops st o true := .yes h hj hs (by rw [hc]; rfl)
end

section
variable {P : Program} {N n b b' id : Nat} {st : St} {ops : Array Oper} {K : Exit → Nat → St → Prop}
theorem W_seqK (hd : dstsOk ops N = true) (hb : b + 16 * ops.size = b') (r : RunK P N ops b 0 st (fun _ st' => K .normal b' st')) : W P N n (.region id ops false) b st K := by
  obtain ⟨tr, st', r, h⟩ := r
  exact W_region r hd hb h
theorem W_anyK (hm : P.follows .mixedOrders = true) (hd : dstsOk ops N = true) (hb : b + 16 * ops.size = b') (r : RunK P N ops b 0 st (fun tr st' => chk ops tr = true ∧ K .normal b' st')) : W P N n (.region id ops true) b st K := by
  obtain ⟨tr, st', r, h⟩ := r
  exact W_any hm r hd h.1 hb h.2
end

/-! ### Rules with their results told -/
section
variable {P : Program} {N b nn : Nat} {o : Oper} {st : St} (D : Tab P)

theorem T_ldE {α : Type} [Inhabited α] {enc : α → List Cell} {xs : List α} {t i sz j f : Nat} {x : Operand} {cl : Cell} {ty : TyI} {lv : LV} {upd : List (Nat × Ob)} (ho : o.op = .load t x) (hx : st.ev x = some (.e i sz j f)) (hob : (st.o.lookup i).bind Ob.rows? = some (sz, xs.map enc)) (hi : D.get t = some ty) (ha : ty.agg = false)
    (hj : j < xs.length) (hf : (enc (xs.getD j default))[f]? = some cl) (hlv : cellsLV b [cl] = [lv]) (hn : cellsN [cl] = nn) (hu : cellsOb b [cl] = upd) : T P N o b [i] st lv nn upd := by
  subst hn hu
  exact T_load_e D ho hx hob hi ha hj hf hlv
theorem T_ldEA {α : Type} [Inhabited α] {enc : α → List Cell} {xs : List α} {t i sz j f : Nat} {x : Operand} {cls : List Cell} {ty : TyI} {l : List LV} {upd : List (Nat × Ob)} (ho : o.op = .load t x) (hx : st.ev x = some (.e i sz j f)) (hob : (st.o.lookup i).bind Ob.rows? = some (sz, xs.map enc)) (hi : D.get t = some ty) (ha : ty.agg = true)
    (hj : j < xs.length) (hf : ((enc (xs.getD j default)).drop f).take ty.size = cls) (hz : cls.length = ty.size) (hlv : cellsLV b cls = l) (hn : cellsN cls = nn) (hu : cellsOb b cls = upd) : T P N o b [i] st (.agg l) nn upd := by
  subst hn hu hlv
  exact T_load_eA D ho hx hob hi ha hj hf hz
theorem T_stB {t i n : Nat} {x y : Operand} {bt : Nat} {cs l cs' : List LV} {lv : LV} {pre : List Nat} {ty : TyI} (ho : o.op = .store t x y) (hx : st.ev x = some (.p i n)) (hob : st.o.lookup i = some (.box bt cs)) (hy : st.ev y = some lv) (hf : Flat st lv l pre) (hi : D.get t = some ty) (hl : l.length = ty.size) (hn : n + l.length ≤ cs.length) (hcs : cs.take n ++ l ++ cs.drop (n + l.length) = cs') :
    T P N o b (i :: pre) st (.v undef) 0 [(i, .box bt cs')] := by
  subst hcs
  exact T_store_b D ho hx hob hy hf hi hl hn
end

section
variable {P : Program} {N b : Nat} {o : Oper} {st : St} (D : Tab P)
theorem T_fa {t k i n off sz m : Nat} {x : Operand} {ty : TyI} (ho : o.op = .fieldAddr t x k) (hx : st.ev x = some (.p i n)) (hi : D.get t = some ty) (hk : ty.fields[k]? = some (off, sz)) (hs : (sz == 0) = false) (hm : n + off = m) : T P N o b [] st (.p i m) 0 [] := by
  subst hm; exact T_fieldAddr D ho hx hi hk hs
theorem T_fae {t k i z j f off sz m : Nat} {x : Operand} {ty : TyI} (ho : o.op = .fieldAddr t x k) (hx : st.ev x = some (.e i z j f)) (hi : D.get t = some ty) (hk : ty.fields[k]? = some (off, sz)) (hs : (sz == 0) = false) (hm : f + off = m) : T P N o b [] st (.e i z j m) 0 [] := by
  subst hm; exact T_fieldAddr_e D ho hx hi hk hs
end

theorem fill_all {β : Type} {sz : Nat} : ∀ (ls : List (Nat × List β)) (s : Nat) (cells : List β), ls.map (·.1) = List.range' s ls.length → (∀ p ∈ ls, p.2.length = sz) → cells.length = (s + ls.length) * sz →
    fillL (fun i => some (i * sz, sz)) cells ls = some (cells.take (s * sz) ++ (ls.map (·.2)).flatten)
  | [], s, cells, _, _, hc => by
    simp only [List.length_nil, Nat.add_zero] at hc
    simp [fillL, ← hc]
  | (i, l) :: rest, s, cells, hi, hl, hc => by
    simp only [List.map_cons, List.length_cons, List.range'_succ, List.cons.injEq] at hi
    obtain ⟨rfl, hi⟩ := hi
    have hl0 : l.length = sz := hl (i, l) (by simp)
    have hlen : (i + (rest.length + 1)) * sz = i * sz + sz + rest.length * sz := by
      rw [Nat.add_mul, Nat.succ_mul]; omega
    simp only [List.length_cons] at hc
    rw [hlen] at hc
    have hcond : (l.length != sz || decide (i * sz + l.length > cells.length)) = false := by
      simp only [hl0, bne_self_eq_false, Bool.false_or, decide_eq_false_iff_not]
      omega
    have h1 : (cells.take (i * sz)).length = i * sz := by rw [List.length_take]; omega
    have h2 : (splice cells (i * sz) l).length = (i + 1 + rest.length) * sz := by
      have : (i + 1 + rest.length) * sz = i * sz + sz + rest.length * sz := by rw [Nat.add_mul, Nat.add_mul]; omega
      rw [this]
      unfold splice
      simp only [List.length_append, List.length_drop, h1, hl0]
      omega
    have h3 : (splice cells (i * sz) l).take ((i + 1) * sz) = cells.take (i * sz) ++ l := by
      unfold splice
      rw [List.take_append_of_le_length (by rw [List.length_append, h1, hl0, Nat.succ_mul]; exact Nat.le_refl _)]
      exact List.take_of_length_le (by rw [List.length_append, h1, hl0, Nat.succ_mul]; exact Nat.le_refl _)
    simp only [fillL, hcond, Bool.false_eq_true, if_false]
    rw [fill_all rest (i + 1) (splice cells (i * sz) l) hi (fun p hp => hl p (List.mem_cons_of_mem _ hp)) h2, h3]
    simp

section
variable {P : Program} {N b : Nat} {o : Oper} {st : St} (D : Tab P)
/-- []T{x, y, ..}, none left out. -/
theorem T_bs {α : Type} {enc : α → List Cell} {ys : List α} {t n : Nat} {parts : Array (Nat × Operand)} {ls : List (Nat × List LV)} {l : List LV} {pre pre' : List Nat} {frz : List (Nat × Ob)} {ty ety : TyI} (ho : o.op = .buildSlice t n parts) (hi : D.get t = some ty) (he0 : (ty.elem == 0) = false) (he : D.get ty.elem = some ety) (hs : (ety.size == 0) = false)
    (hn : decide (n * ety.size ≤ 16777216) = true) (hp : PartsOf st parts.toList ls pre) (hk : ls.map (·.1) = List.range' 0 ls.length) (hz : (ls.all fun p => p.2.length == ety.size) = true) (hln : ls.length = n) (hl : (ls.map (·.2)).flatten = l)
    (hc : CellsOf st.o l (ys.map enc).flatten pre' frz) (hy : ys.length = n) (hez : (ys.map enc).all (fun r => r.length == ety.size) = true) :
    T P N o b (pre ++ pre') st (.r b) 1 ((b, .row ty.elem ety.size (ys.map enc)) :: frz) := by
  refine T_buildSlice D ho hi he0 he hs hn hp ?_ hc hy hez
  rw [fill_all ls 0 _ hk (fun p hp => by simpa using List.all_eq_true.1 hz p hp) (by simp [size_madeCells, hln]), hl]
  simp
end

/-! ### Rows filled one by one -/
theorem fill_step {α β : Type} [Inhabited α] (f : α → β) (d : β) (xs : List α) (j n : Nat) (hn : n = xs.length) (h : j < n) (z : β) (hz : z = f (xs.getD j default)) :
    ((xs.take j).map f ++ List.replicate (n - j) d).set j z = (xs.take (j + 1)).map f ++ List.replicate (n - (j + 1)) d := by
  subst hn hz
  have h1 : ((xs.take j).map f).length = j := by simp; omega
  have h2 : List.replicate (xs.length - j) d = d :: List.replicate (xs.length - (j + 1)) d := by
    rw [show xs.length - j = (xs.length - (j + 1)) + 1 by omega, List.replicate_succ]
  rw [h2, List.set_append_right _ _ (by omega), h1, Nat.sub_self, List.set_cons_zero, List.take_add_one, List.map_append, List.append_assoc]
  congr 1
  simp [List.getD_eq_getElem?_getD, List.getElem?_eq_getElem h]
theorem fill_skip {α β : Type} [Inhabited α] (f : α → β) (d : β) (xs : List α) (j n : Nat) (hn : n = xs.length) (h : j < n) (hz : f (xs.getD j default) = d) :
    (xs.take j).map f ++ List.replicate (n - j) d = (xs.take (j + 1)).map f ++ List.replicate (n - (j + 1)) d := by
  rw [← fill_step f d xs j n hn h d hz.symm]
  have h1 : ((xs.take j).map f).length = j := by simp; omega
  rw [show n - j = (n - (j + 1)) + 1 by omega, List.replicate_succ, List.set_append_right _ _ (by omega), h1, Nat.sub_self, List.set_cons_zero]

def isSl : Option Ob → Bool
  | some (.row ..) => true
  | some (.fz ..) => true
  | _ => false
theorem flat_sl {st : St} {i : Nat} (h : isSl (st.o.lookup i) = true) : Flat st (.r i) [.r i] [i] := by
  cases hl : st.o.lookup i with
  | none => rw [hl] at h; cases h
  | some ob =>
    rw [hl] at h
    cases ob with
    | row e sz rows => exact flat_row hl
    | fz sz rows => exact flat_fz hl
    | _ => cases h

section
variable {P : Program} {N b nn : Nat} {o : Oper} {st : St} {fop : Operand} {aa : Array Operand} {ats : Array TypeId} {f : Nat} {caps lvs cargs : List LV} {L : List (Nat × Nat)} {b0 : Nat} {oc : List (Nat × Ob)}

/-- A call whose result is a plain value; nothing is changed. -/
theorem T_callV {v : Value} (hs : Spec P f cargs b0 oc (.v v) b0 []) (hbody : (P.funcs[f]?).map (fun fn => (fn.name == "runtime.NumGoroutine" || fn.body.isNone)) = some false)
    (ho : o.op = .call { callee := .value fop, args := aa, argTypes := ats }) (hf : st.ev fop = some (.fn f caps)) (has : aa.toList.map st.ev = lvs.map some)
    (hren : LV.rens (sg 0 L) cargs = lvs ++ caps) (he : Embs st.o (sg 0 L) oc) (hok : (LV.okBs (fun c => decide (c < b0)) cargs && embB (sg 0 L) b0 oc && backB oc [] L b0 b0) = true) :
    T P N o b (oc.map fun p => sg 0 L p.1) st (.v v) 0 [] := by
  simp only [Bool.and_eq_true] at hok
  have hz : frzOf true (sg 0 L) st.o oc = [] := by
    have : ∀ l, frzOf true (sg 0 L) st.o l = [] := by
      intro l
      induction l with
      | nil => rfl
      | cons p l ih => simp [frzOf, ih]
    exact this oc
  exact T_call true hs hbody ho hf has hren he (by simp only [Bool.and_eq_true]; exact ⟨⟨⟨hok.1.1, rfl⟩, hok.1.2⟩, hok.2⟩) (.inr (fun p hp => by cases hp)) rfl (by rw [hz]; rfl) (Nat.sub_self _)

/-- A call whose result is a slice of its own. -/
theorem T_callR {e sz : Nat} {rows : List (List Cell)} {keep : Bool} (hs : Spec P f cargs b0 oc (.r b0) (b0 + 1) [(b0, .row e sz rows)]) (hbody : (P.funcs[f]?).map (fun fn => (fn.name == "runtime.NumGoroutine" || fn.body.isNone)) = some false)
    (ho : o.op = .call { callee := .value fop, args := aa, argTypes := ats }) (hf : st.ev fop = some (.fn f caps)) (has : aa.toList.map st.ev = lvs.map some)
    (hren : LV.rens (sg 0 L) cargs = lvs ++ caps) (he : Embs st.o (sg 0 L) oc) (hok : (LV.okBs (fun c => decide (c < b0)) cargs && embB (sg 0 L) b0 oc && backB oc [(b0, .row e sz [])] L b0 (b0 + 1)) = true)
    (hfl : keep = false ∨ FlatOb (.row e sz rows)) (hz : frzOf keep (sg 0 L) st.o oc = []) :
    T P N o b (oc.map fun p => sg 0 L p.1) st (.r b) 1 [(b, .row e sz rows)] := by
  simp only [Bool.and_eq_true] at hok
  have h1 : piC (sg 0 L) b0 b b0 = b := by simp [piC]
  exact T_call keep hs hbody ho hf has hren he (by simp only [Bool.and_eq_true]; exact ⟨⟨⟨hok.1.1, by simp [LV.okB]⟩, hok.1.2⟩, by simpa [backB, Ob.okB] using hok.2⟩) (hfl.imp (fun h => h) (fun h p hp => by simp at hp; subst hp; exact h)) (by simp [LV.ren, h1]) (by rw [hz]; simp [h1, Ob.ren]) (by omega)
end

/-! ### The same, where contents are equal by reckoning -/
theorem SEmb.same {s : List (Nat × LV)} {σ : Nat → Nat} {p : Nat → Bool} {d : Nat} {lv : LV} {l : List (Nat × LV)} (h : s.lookup d = some (lv.ren σ)) (hp : lv.okB p = true) (t : SEmb s σ p l) : SEmb s σ p ((d, lv) :: l) := .cons h rfl hp t
theorem SEmb.eq {s : List (Nat × LV)} {σ : Nat → Nat} {p : Nat → Bool} {d : Nat} {v v' : Value} {l : List (Nat × LV)} (h : s.lookup d = some (.v v')) (t : SEmb s σ p l) (he : v' = v) : SEmb s σ p ((d, .v v) :: l) := .cons h (by rw [he]; rfl) rfl t
theorem Embs.rowE {o : List (Nat × Ob)} {σ : Nat → Nat} {c e sz : Nat} {rows rows' : List (List Cell)} {l : List (Nat × Ob)} (h : o.lookup (σ c) = some (.row e sz rows')) (t : Embs o σ l) (he : rows' = rows) : Embs o σ ((c, .row e sz rows) :: l) := .row (by rw [h, he]) t
theorem Embs.fzE {o : List (Nat × Ob)} {σ : Nat → Nat} {c sz : Nat} {rows rows' : List (List Cell)} {l : List (Nat × Ob)} (h : o.lookup (σ c) = some (.fz sz rows')) (t : Embs o σ l) (he : rows' = rows) : Embs o σ ((c, .fz sz rows) :: l) := .fz (by rw [h, he]) t
theorem Embs.lendE {o : List (Nat × Ob)} {σ : Nat → Nat} {c e sz : Nat} {rows rows' : List (List Cell)} {l : List (Nat × Ob)} (h : o.lookup (σ c) = some (.row e sz rows')) (t : Embs o σ l) (he : rows' = rows) : Embs o σ ((c, .fz sz rows) :: l) := .lend (by rw [h, he]) t
end Lg
end Go.Proofs.Ytpfhmodjjljpjaa
