import Derived.Test.YtpfhmodjjljpjaaL1
import Derived.WalkLawsBesides
import Derived.WideLaws
import Derived.Laws.Slices
import Derived.Laws.Cells
import Derived.Laws.StructEq
namespace Go.Proofs.Ytpfhmodjjljpjaa
open Go.RowKit
namespace Lg
set_option linter.unusedSimpArgs false
set_option linter.unusedVariables false

structure St where
  s : List (Nat × LV)
  o : List (Nat × Ob)

def St.ev (st : St) : Operand → Option LV
  | .tmp t => st.s.lookup t
  | .const v => some (.v v)
  | .func f => some (.fn f [])
  | .global _ => none

structure FR (N : Nat) (U : Nat → Prop) (ρ : Nat → Value) (s : List (Nat × LV)) (a : Act) : Prop where
  sz : a.tmps.size = N
  df : a.defers = []
  sl : ∀ d lv, s.lookup d = some lv → a.tmps[d]? = some (lv.val ρ) ∧ lv.used U ρ

theorem FR.eval {N : Nat} {U : Nat → Prop} {ρ : Nat → Value} {st : St} {a : Act} (h : FR N U ρ st.s a) {x : Operand} {lv : LV} (hx : st.ev x = some lv) : a.eval x = lv.val ρ ∧ lv.used U ρ := by
  cases x with
  | tmp t =>
    obtain ⟨h1, h2⟩ := h.sl t lv hx
    exact ⟨by simp [Act.eval, h1], h2⟩
  | const v => cases hx; exact ⟨rfl, trivial⟩
  | func f => cases hx; exact ⟨rfl, trivial⟩
  | global g => cases hx

theorem FR.put {N : Nat} {U U' : Nat → Prop} {ρ ρ' : Nat → Value} {s : List (Nat × LV)} {a : Act} (h : FR N U ρ s a) (hρ : ∀ i, U i → ρ' i = ρ i) (hU : ∀ i, U i → U' i) {lv : LV} (hl : lv.used U' ρ') (d : Nat) (hd : d < N) :
    FR N U' ρ' ((d, lv) :: s) (a.put (some d) (lv.val ρ')) := by
  refine ⟨by simp [Act.put, h.sz], h.df, fun e lv' he => ?_⟩
  simp only [List.lookup] at he
  cases hq : e == d with
  | true =>
    rw [hq] at he
    obtain rfl : lv = lv' := by injection he
    have : e = d := by simpa using hq
    subst this
    exact ⟨by simp [Act.put, h.sz, hd], hl⟩
  | false =>
    rw [hq] at he
    have hne : d ≠ e := fun h => by subst h; simp at hq
    obtain ⟨h1, h2⟩ := h.sl e lv' he
    exact ⟨by simp [Act.put, hne, h1, used_congr hρ lv' h2], used_mono hρ hU lv' h2⟩

theorem FR.keep {N : Nat} {U U' : Nat → Prop} {ρ ρ' : Nat → Value} {s : List (Nat × LV)} {a : Act} (h : FR N U ρ s a) (hρ : ∀ i, U i → ρ' i = ρ i) (hU : ∀ i, U i → U' i) : FR N U' ρ' s a :=
  ⟨h.sz, h.df, fun d lv hd => by obtain ⟨h1, h2⟩ := h.sl d lv hd; exact ⟨by rw [h1, used_congr hρ lv h2], used_mono hρ hU lv h2⟩⟩

/-- What an operation does. -/
def OpDoes (P : Program) (o : Oper) (a : Act) (w : World) (K : Value → World → Prop) : Prop :=
  ∀ (next : Act → World → Prop) (Q : Exit → Act → World → Prop), (∀ v w', K v w' → next (a.put o.dst v) w') → o.wp P a w next Q

theorem does_value {P : Program} {o : Oper} {a : Act} {w w' : World} {v : Value} {K : Value → World → Prop} (hr : (execOp a.eval o).run P w = .ok (.value v) w') (h : K v w') : OpDoes P o a w K := by
  intro next Q hn
  unfold Oper.wp
  rw [hr]
  exact hn v w' h
theorem does_skip {P : Program} {o : Oper} {a : Act} {w w' : World} {K : Value → World → Prop} (hr : (execOp a.eval o).run P w = .ok .skip w') (h : K undef w') : OpDoes P o a w K := by
  intro next Q hn
  unfold Oper.wp
  rw [hr]
  exact hn undef w' h

def grow (U : Nat → Prop) (b n : Nat) : Nat → Prop := fun i => U i ∨ (b ≤ i ∧ i < b + n)

/-- An operation's triple, local: it hangs on its operands and on the objects pre alone; it makes objects with numbers from b on (nn at most), and tells the objects upd anew. -/
def T (P : Program) (N : Nat) (o : Oper) (b : Nat) (pre : List Nat) (st : St) (lv : LV) (nn : Nat) (upd : List (Nat × Ob)) : Prop :=
  ∀ (w0 : World) (M : Fp) (U : Nat → Prop) (ρ : Nat → Value) (own : Nat → Option Nat) (st' : St) (a : Act) (w : World),
    (∀ x, x ∈ o.op.operands → st'.ev x = st.ev x) → (∀ i, i ∈ pre → st'.o.lookup i = st.o.lookup i) → (∀ i, b ≤ i → i < b + nn → ¬ U i) →
    FR N U ρ st'.s a → HR w0 M U ρ own st'.o w →
    OpDoes P o a w (fun v w' => ∃ ρ' own', v = lv.val ρ' ∧ (∀ i, U i → ρ' i = ρ i) ∧ lv.used (grow U b nn) ρ' ∧ HR w0 M (grow U b nn) ρ' own' (upd ++ st'.o) w')

theorem HR.mono {w0 w : World} {M : Fp} {U U' : Nat → Prop} {ρ : Nat → Value} {own : Nat → Option Nat} {o : List (Nat × Ob)} (h : HR w0 M U ρ own o w) (hU : ∀ i, U i → U' i) : HR w0 M U' ρ own o w :=
  ⟨fun i b hi => ⟨(h.ob i b hi).1, hU i (h.ob i b hi).2.1, Ob.used_mono (fun _ _ => rfl) hU (h.ob i b hi).2.2⟩, h.gr, h.fr, h.z, hU 0 h.z0, fun i hi => ⟨hU i (h.ag i hi).1, (h.ag i hi).2⟩⟩

/-- An operation that neither reads nor writes memory. -/
theorem T_pure {P : Program} {N : Nat} {o : Oper} {b : Nat} {st : St} {lv : LV}
    (h : ∀ (ρ : Nat → Value) (ev : Operand → Value) (w : World), (∀ x l, x ∈ o.op.operands → st.ev x = some l → ev x = l.val ρ) → (execOp ev o).run P w = .ok (.value (lv.val ρ)) w)
    (hu : ∀ (U : Nat → Prop) (ρ : Nat → Value), (∀ x l, x ∈ o.op.operands → st.ev x = some l → l.used U ρ) → lv.used U ρ) : T P N o b [] st lv 0 [] := by
  intro w0 M U ρ own st' a w hx hp hf fr hr
  refine does_value (h ρ a.eval w (fun x l hm hl => (fr.eval (by rw [hx x hm]; exact hl)).1)) ⟨ρ, own, rfl, fun _ _ => rfl, ?_, hr.mono (fun i hi => .inl hi)⟩
  exact used_mono (fun _ _ => rfl) (fun i hi => .inl hi) lv (hu U ρ (fun x l hm hl => (fr.eval (by rw [hx x hm]; exact hl)).2))

section
variable {P : Program} {N : Nat} {o : Oper} {b : Nat} {st : St}

theorem T_move {x : Operand} {lv : LV} (ho : o.op = .move x) (hx : st.ev x = some lv) : T P N o b [] st lv 0 [] :=
  T_pure (fun ρ ev w hev => by simp [execOp, ho, hev x lv (by simp [ho, Op.operands]) hx]) (fun U ρ hU => hU x lv (by simp [ho, Op.operands]) hx)
theorem T_assign {x : Operand} {lv : LV} (ho : o.op = .assign x) (hx : st.ev x = some lv) : T P N o b [] st lv 0 [] :=
  T_pure (fun ρ ev w hev => by simp [execOp, ho, hev x lv (by simp [ho, Op.operands]) hx]) (fun U ρ hU => hU x lv (by simp [ho, Op.operands]) hx)
theorem T_pick_t {c x y : Operand} {t : Bool} {lv : LV} (ho : o.op = .pick c x y) (hc : st.ev c = some (.v (.bool t))) (hx : st.ev x = some lv) (ht : t = true) : T P N o b [] st lv 0 [] :=
  T_pure (fun ρ ev w hev => by
    have h1 := hev c _ (by simp [ho, Op.operands]) hc
    have h2 := hev x lv (by simp [ho, Op.operands]) hx
    simp [execOp, ho, h1, h2, LV.val, asBool, ht]) (fun U ρ hU => hU x lv (by simp [ho, Op.operands]) hx)
theorem T_pick_f {c x y : Operand} {t : Bool} {lv : LV} (ho : o.op = .pick c x y) (hc : st.ev c = some (.v (.bool t))) (hy : st.ev y = some lv) (ht : t = false) : T P N o b [] st lv 0 [] :=
  T_pure (fun ρ ev w hev => by
    have h1 := hev c _ (by simp [ho, Op.operands]) hc
    have h2 := hev y lv (by simp [ho, Op.operands]) hy
    simp [execOp, ho, h1, h2, LV.val, asBool, ht]) (fun U ρ hU => hU y lv (by simp [ho, Op.operands]) hy)
/-- Both ways at once, of Bools. -/
theorem T_pick_b {c x y : Operand} {t u v : Bool} (ho : o.op = .pick c x y) (hc : st.ev c = some (.v (.bool t))) (hx : st.ev x = some (.v (.bool u))) (hy : st.ev y = some (.v (.bool v))) : T P N o b [] st (.v (.bool (if t then u else v))) 0 [] :=
  T_pure (fun ρ ev w hev => by
    have h1 := hev c _ (by simp [ho, Op.operands]) hc
    have h2 := hev x _ (by simp [ho, Op.operands]) hx
    have h3 := hev y _ (by simp [ho, Op.operands]) hy
    cases t <;> simp [execOp, ho, h1, h2, h3, LV.val, asBool]) (fun U ρ hU => trivial)
/-- A binary operation of two plain values. -/
theorem T_bin {op : BinOp} {t t' : TypeId} {x y : Operand} {vx vy v : Value} (ho : o.op = .binOp op t x y t') (hx : st.ev x = some (.v vx)) (hy : st.ev y = some (.v vy))
    (h : ∀ w, (do eqGuard op t x y vx vy; binOp op t vx vy : Sem Value).run P w = .ok v w) : T P N o b [] st (.v v) 0 [] :=
  T_pure (fun ρ ev w hev => by
    have h1 := hev x _ (by simp [ho, Op.operands]) hx
    have h2 := hev y _ (by simp [ho, Op.operands]) hy
    have h3 := h w
    simp only [execOp, ho, h1, h2, LV.val]
    rw [Sem.run_bind, h3]
    rfl) (fun U ρ hU => trivial)
theorem T_arith {op : BinOp} {t t' : TypeId} {x y : Operand} {k : IntKind} {m n r : Int} (ho : o.op = .binOp op t x y t') (hx : st.ev x = some (.v (.int k m))) (hy : st.ev y = some (.v (.int k n)))
    (h : (op = .add ∧ k.wrap (m + n) = r) ∨ (op = .sub ∧ k.wrap (m - n) = r) ∨ (op = .mul ∧ k.wrap (m * n) = r)) : T P N o b [] st (.v (.int k r)) 0 [] :=
  T_bin ho hx hy (fun w => by
    rcases h with ⟨rfl, rfl⟩ | ⟨rfl, rfl⟩ | ⟨rfl, rfl⟩ <;> simp [eqGuard, binOp, Op.intArith])
theorem wrap_i64 {n : Int} (h : -9223372036854775808 ≤ n ∧ n ≤ 9223372036854775807) : IntKind.wrap .i64 n = n := IntWalk.i64_in n h
theorem T_add64 {t t' : TypeId} {x y : Operand} {m n : Int} (ho : o.op = .binOp .add t x y t') (hx : st.ev x = some (.v (.int .i64 m))) (hy : st.ev y = some (.v (.int .i64 n)))
    (h : -9223372036854775808 ≤ m + n ∧ m + n ≤ 9223372036854775807) : T P N o b [] st (.v (.int .i64 (m + n))) 0 [] := T_arith ho hx hy (.inl ⟨rfl, wrap_i64 h⟩)
theorem T_sub64 {t t' : TypeId} {x y : Operand} {m n : Int} (ho : o.op = .binOp .sub t x y t') (hx : st.ev x = some (.v (.int .i64 m))) (hy : st.ev y = some (.v (.int .i64 n)))
    (h : -9223372036854775808 ≤ m - n ∧ m - n ≤ 9223372036854775807) : T P N o b [] st (.v (.int .i64 (m - n))) 0 [] := T_arith ho hx hy (.inr (.inl ⟨rfl, wrap_i64 h⟩))
def cmpB : BinOp → Int → Int → Bool
  | .eql, x, y => x == y
  | .neq, x, y => x != y
  | .lss, x, y => decide (x < y)
  | .leq, x, y => decide (x ≤ y)
  | .gtr, x, y => decide (x > y)
  | .geq, x, y => decide (x ≥ y)
  | _, _, _ => false
def isCmp : BinOp → Bool
  | .eql | .neq | .lss | .leq | .gtr | .geq => true
  | _ => false
theorem T_cmp {op : BinOp} {t t' : TypeId} {x y : Operand} {k : IntKind} {m n : Int} (ho : o.op = .binOp op t x y t') (hc : isCmp op = true) (hx : st.ev x = some (.v (.int k m))) (hy : st.ev y = some (.v (.int k n))) :
    T P N o b [] st (.v (.bool (cmpB op m n))) 0 [] :=
  T_bin ho hx hy (fun w => by cases op <;> simp [isCmp] at hc <;> simp [eqGuard, binOp, Op.intCmp, cmpB])
theorem T_not {t : TypeId} {x : Operand} {u : Bool} (ho : o.op = .unOp .not t x) (hx : st.ev x = some (.v (.bool u))) : T P N o b [] st (.v (.bool !u)) 0 [] :=
  T_pure (fun ρ ev w hev => by
    have h1 := hev x _ (by simp [ho, Op.operands]) hx
    simp [execOp, ho, h1, LV.val, Op.unary]) (fun U ρ hU => trivial)
theorem T_makeFunc {f : FuncId} {caps : Array Operand} {l : List LV} (ho : o.op = .makeFunc (.func f) #[] caps) (hc : caps.toList.map st.ev = l.map some) : T P N o b [] st (.fn f l) 0 [] :=
  T_pure (fun ρ ev w hev => by
    have h1 : caps.map ev = (LV.vals ρ l).toArray := by
      apply Array.ext'
      rw [Array.toList_map, vals_eq_map]
      have : ∀ (cs : List Operand) (l : List LV), (∀ x ∈ cs, ∀ l', st.ev x = some l' → ev x = l'.val ρ) → cs.map st.ev = l.map some → cs.map ev = l.map (LV.val ρ) := by
        intro cs
        induction cs with
        | nil => intro l _ h; cases l <;> simp at h ⊢
        | cons c cs ih =>
          intro l hc h
          cases l with
          | nil => simp at h
          | cons y l =>
            simp only [List.map_cons, List.cons.injEq] at h ⊢
            exact ⟨hc c (by simp) y h.1, ih l (fun x hx => hc x (by simp [hx])) h.2⟩
      exact this caps.toList l (fun x hx l' hl => hev x l' (by simp [ho, Op.operands]; simpa using hx) hl) hc
    simp [execOp, ho, h1, LV.val, Instr.makeFunc]) (fun U ρ hU => by
    show LV.useds U ρ l
    rw [useds_iff]
    intro y hy
    obtain ⟨j, hj⟩ := List.getElem?_of_mem hy
    have h2 := congrArg (fun z => z[j]?) hc
    simp only [List.getElem?_map, hj, Option.map_some] at h2
    obtain ⟨x, hx, hxe⟩ := Option.map_eq_some_iff.1 h2
    exact hU x y (by simp [ho, Op.operands]; exact Array.mem_def.2 (List.mem_of_getElem? hx)) hxe)
theorem T_extract {x : Operand} {l : List LV} {i : Nat} {lv : LV} (ho : o.op = .extract x i) (hx : st.ev x = some (.tup l)) (hi : l[i]? = some lv) : T P N o b [] st lv 0 [] :=
  T_pure (fun ρ ev w hev => by
    have h1 := hev x _ (by simp [ho, Op.operands]) hx
    simp [execOp, ho, h1, LV.val, Instr.extract, vals_getElem?, hi]) (fun U ρ hU => by
    have := hU x _ (by simp [ho, Op.operands]) hx
    exact useds_iff.1 this lv (List.mem_of_getElem? hi))
end
end Lg
end Go.Proofs.Ytpfhmodjjljpjaa
