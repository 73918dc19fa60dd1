import Derived.Test.YtpfhmodjjljpjaaRk
import Derived.Tactics
namespace Go.Proofs.Ytpfhmodjjljpjaa
open Go.RowKit
namespace Lg
set_option linter.unusedSimpArgs false
set_option linter.unusedVariables false

/-! ### == of structs -/
section
variable {P : Program} {d : Nat} {xs ys : Array Value} {f : Field} {fs : List Field} {a b : Value} {r s : Bool} {w : World}
theorem eqf_nil : (Op.eqFields d xs ys []).run P w = .ok true w := by simp [Op.eqFields]
theorem eqf_cons (hn : (f.name == "_") = false) (ha : (part f.type xs f.offset).run P w = .ok a w) (hb : (part f.type ys f.offset).run P w = .ok b w) (he : (Op.equalIn d f.type a b).run P w = .ok r w) (hr : (Op.eqFields d xs ys fs).run P w = .ok s w) : (Op.eqFields d xs ys (f :: fs)).run P w = .ok (r && s) w := by
  have hn' : f.name ≠ "_" := by simpa using hn
  rw [Op.eqFields]
  simp only [if_pos hn', Sem.run_bind, ha, hb, he, Result.andThen_ok]
  cases r
  · simp
  · simpa using hr
theorem eqA_of {t : TypeId} {fs : Array Field} (hu : P.underlying t = some (.struct fs)) (hp : P.stoodInHeld t = false) (h : (Op.eqFields d xs ys fs.toList).run P w = .ok r w) : (Op.equalIn (d + 1) t (.agg xs) (.agg ys)).run P w = .ok r w := by
  have hf : P.fieldsOf t = fs := by simp [Program.fieldsOf, hu]
  rw [run_equalIn_struct (P := P) w d t xs ys (by rw [hf]; exact hu) hp, hf]
  exact h
end

def tacV (t : GTac) : Array Value := #[.int .i64 t.op, .int .i64 t.d, .int .i64 t.a, .int .i64 t.b, .int .i64 t.k, .int .i64 t.base, .int .i64 t.size, .int .u32 t.n]
theorem eqTac_run (d : Nat) (w : World) (x y : GTac) : (Op.equalIn (d + 2) 70 (.agg (tacV x)) (.agg (tacV y))).run Try.prog w = .ok (x.op == y.op && (x.d == y.d && (x.a == y.a && (x.b == y.b && (x.k == y.k && (x.base == y.base && (x.size == y.size && (x.n == y.n && true)))))))) w := by
  unfold tacV
  refine eqA_of Try.underlying70 (by kernel_rfl) ?_
  refine eqf_cons (by rfl) (by go_simp; rfl) (by go_simp; rfl) (by go_simp) ?_
  refine eqf_cons (by rfl) (by go_simp; rfl) (by go_simp; rfl) (by go_simp) ?_
  refine eqf_cons (by rfl) (by go_simp; rfl) (by go_simp; rfl) (by go_simp) ?_
  refine eqf_cons (by rfl) (by go_simp; rfl) (by go_simp; rfl) (by go_simp) ?_
  refine eqf_cons (by rfl) (by go_simp; rfl) (by go_simp; rfl) (by go_simp) ?_
  refine eqf_cons (by rfl) (by go_simp; rfl) (by go_simp; rfl) (by go_simp) ?_
  refine eqf_cons (by rfl) (by go_simp; rfl) (by go_simp; rfl) (by go_simp) ?_
  exact eqf_cons (by rfl) (by go_simp; rfl) (by go_simp; rfl) (by go_simp) eqf_nil
theorem eqTac_b (x y : GTac) : (x.op == y.op && (x.d == y.d && (x.a == y.a && (x.b == y.b && (x.k == y.k && (x.base == y.base && (x.size == y.size && (x.n == y.n && true)))))))) = decide (x = y) := by
  obtain ⟨a, b, c, d, e, f, g, h⟩ := x
  obtain ⟨a', b', c', d', e', f', g', h'⟩ := y
  simp only [GTac.mk.injEq, Bool.and_true]
  by_cases h1 : a = a' <;> by_cases h2 : b = b' <;> by_cases h3 : c = c' <;> by_cases h4 : d = d' <;> by_cases h5 : e = e' <;> by_cases h6 : f = f' <;> by_cases h7 : g = g' <;> by_cases h8 : h = h' <;> simp [h1, h2, h3, h4, h5, h6, h7, h8]

def lvTac (t : GTac) : LV := .agg [.v (.int .i64 t.op), .v (.int .i64 t.d), .v (.int .i64 t.a), .v (.int .i64 t.b), .v (.int .i64 t.k), .v (.int .i64 t.base), .v (.int .i64 t.size), .v (.int .u32 t.n)]
theorem T_pure2 {P : Program} {N b : Nat} {o : Oper} {st : St} {x y : Operand} {op : BinOp} {t t' : TypeId} {lx ly : LV} {v : Value} (ho : o.op = .binOp op t x y t') (hx : st.ev x = some lx) (hy : st.ev y = some ly)
    (h : ∀ (ρ : Nat → Value) w, (do eqGuard op t x y (lx.val ρ) (ly.val ρ); binOp op t (lx.val ρ) (ly.val ρ) : Sem Value).run P w = .ok v w) : T P N o b [] st (.v v) 0 [] :=
  T_pure (fun ρ ev w hev => by
    have h1 := hev x _ (by simp [ho, Op.operands]) hx
    have h2 := hev y _ (by simp [ho, Op.operands]) hy
    have h3 := h ρ w
    simp only [execOp, ho, h1, h2]
    rw [Sem.run_bind, h3]
    rfl) (fun U ρ hU => trivial)
section
variable {N b : Nat} {o : Oper} {st : St}
theorem T_eqTac {x y : Operand} (u v : GTac) {t' : TypeId} (ho : o.op = .binOp .eql 70 x y t') (hx : st.ev x = some (lvTac u)) (hy : st.ev y = some (lvTac v)) : T Try.prog N o b [] st (.v (.bool (decide (u = v)))) 0 [] :=
  T_pure2 ho hx hy (fun ρ w => by
    show (do eqGuard .eql 70 x y (.agg (tacV u)) (.agg (tacV v)); binOp .eql 70 (.agg (tacV u)) (.agg (tacV v)) : Sem Value).run Try.prog w = _
    rw [Sem.run_bind, run_eqGuard_agg _ _ _ _ _ _ _ (by kernel_rfl), Result.andThen_ok, run_eql_struct, eqTac_run, eqTac_b]
    rfl)
theorem T_eqTacN {x y : Operand} (u v : GTac) {t' : TypeId} (ho : o.op = .binOp .neq 70 x y t') (hx : st.ev x = some (lvTac u)) (hy : st.ev y = some (lvTac v)) : T Try.prog N o b [] st (.v (.bool (!decide (u = v)))) 0 [] :=
  T_pure2 ho hx hy (fun ρ w => by
    show (do eqGuard .neq 70 x y (.agg (tacV u)) (.agg (tacV v)); binOp .neq 70 (.agg (tacV u)) (.agg (tacV v)) : Sem Value).run Try.prog w = _
    rw [Sem.run_bind, run_eqGuard_agg _ _ _ _ _ _ _ (by kernel_rfl), Result.andThen_ok, run_neq_struct, eqTac_run, eqTac_b]
    rfl)
theorem T_eqB {x y : Operand} {m n : Bool} {t' : TypeId} (ho : o.op = .binOp .eql 4 x y t') (hx : st.ev x = some (.v (.bool m))) (hy : st.ev y = some (.v (.bool n))) : T Try.prog N o b [] st (.v (.bool (m == n))) 0 [] :=
  T_bin ho hx hy (fun w => by
    have h := run_equalIn_bool' (P := Try.prog) w 9999 4 m n (by kernel_rfl)
    simp [eqGuard, binOp, Op.equal, Op.maxDepth, h, bne])
theorem T_eqBN {x y : Operand} {m n : Bool} {t' : TypeId} (ho : o.op = .binOp .neq 4 x y t') (hx : st.ev x = some (.v (.bool m))) (hy : st.ev y = some (.v (.bool n))) : T Try.prog N o b [] st (.v (.bool (m != n))) 0 [] :=
  T_bin ho hx hy (fun w => by
    have h := run_equalIn_bool' (P := Try.prog) w 9999 4 m n (by kernel_rfl)
    simp [eqGuard, binOp, Op.equal, Op.maxDepth, h, bne])
end
end Lg
end Go.Proofs.Ytpfhmodjjljpjaa
