import Derived.Test.YtpfhmodjjljpjaaRo
import Derived.Test.YtpfhmodjjljpjaaRows
import Derived.WalkKit
import Derived.ProofKit
import Derived.OpenShut
import Derived.ShutString
import Derived.ChangeOld
import Derived.Below
import Derived.SizedLaws
namespace Go.Proofs.Ytpfhmodjjljpjaa
open Go.ChangeShapes Go.WideShapes Go.ChangeAt Go.RowKit
namespace Lg
set_option maxRecDepth 100000

/-! ### The arguments' types, read -/
def I64 (x : Int) : Prop := -9223372036854775808 ≤ x ∧ x ≤ 9223372036854775807
structure WTac (t : GTac) : Prop where
  op : I64 t.op
  d : I64 t.d
  a : I64 t.a
  b : I64 t.b
  k : I64 t.k
  base : I64 t.base
  size : I64 t.size
  n : 0 ≤ t.n ∧ t.n < 4294967296
structure WBlock (b : GBlock) : Prop where
  len : b.ins.length * 64 ≤ 140737488351232
  ins : ∀ t ∈ b.ins, WTac t
  fin : I64 b.fin
  v : I64 b.v
  to : I64 b.to
  els : I64 b.els
structure WFn (f : GFn) : Prop where
  regs : I64 f.regs
  len : f.blocks.length * 56 ≤ 140737488351232
  each : ∀ b ∈ f.blocks, WBlock b
structure WIs (l : List Int) : Prop where
  len : l.length * 8 ≤ 140737488351232
  each : ∀ x ∈ l, I64 x
structure WIss (l : List (List Int)) : Prop where
  len : l.length * 24 ≤ 140737488351232
  each : ∀ x ∈ l, WIs x
structure WProg (p : GProg) : Prop where
  words : I64 p.words
  len : p.funcs.length * 32 ≤ 140737488351232
  each : ∀ f ∈ p.funcs, WFn f

section
variable {H : Type} {enc : TypeId × Value → H} {w : World}
theorem i64_of {x : Int} (h : (Lit.int .i64 x).wf = true) : I64 x := by
  simp only [Lit.wf, Bool.and_eq_true, decide_eq_true_eq] at h
  exact h
theorem o_int : Opens enc Try.prog w 3 (fun x : Int => [.v (.int .i64 x)]) I64 := (opens_int Try.underlying3).map (fun x h => ⟨x, rfl, i64_of h⟩)
theorem o_u32 : Opens enc Try.prog w 68 (fun x : Int => [.v (.int .u32 x)]) (fun x => 0 ≤ x ∧ x < 4294967296) := (opens_int Try.underlying68).map (fun x h => ⟨x, rfl, by
  simp only [Lit.wf, Bool.and_eq_true, decide_eq_true_eq] at h
  have h1 : (0 : Int) ≤ x := h.1
  have h2 : x ≤ (4294967295 : Int) := h.2
  omega⟩)
theorem o_u8 : Opens enc Try.prog w 5 (fun x : Int => [.v (.int .u8 x)]) (fun x => 0 ≤ x ∧ x < 256) := (opens_int Try.underlying5).map (fun x h => ⟨x, rfl, by
  simp only [Lit.wf, Bool.and_eq_true, decide_eq_true_eq] at h
  have h1 : (0 : Int) ≤ x := h.1
  have h2 : x ≤ (255 : Int) := h.2
  omega⟩)
theorem o_tac : Opens enc Try.prog w 70 eTac WTac :=
  (opens_struct (n := 8) Try.underlying70 (by kernel_rfl) (opensF_cons (k := 1) rfl (by kernel_rfl) o_int <| opensF_cons (k := 1) rfl (by kernel_rfl) o_int <| opensF_cons (k := 1) rfl (by kernel_rfl) o_int <| opensF_cons (k := 1) rfl (by kernel_rfl) o_int <|
    opensF_cons (k := 1) rfl (by kernel_rfl) o_int <| opensF_cons (k := 1) rfl (by kernel_rfl) o_int <| opensF_cons (k := 1) rfl (by kernel_rfl) o_int <| opensF_cons (k := 1) rfl (by kernel_rfl) o_u32 <| opensF_nil rfl)).map
  (fun x h => ⟨⟨x.1, x.2.1, x.2.2.1, x.2.2.2.1, x.2.2.2.2.1, x.2.2.2.2.2.1, x.2.2.2.2.2.2.1, x.2.2.2.2.2.2.2.1⟩, rfl, ⟨h.1, h.2.1, h.2.2.1, h.2.2.2.1, h.2.2.2.2.1, h.2.2.2.2.2.1, h.2.2.2.2.2.2.1, h.2.2.2.2.2.2.2.1⟩⟩)
theorem o_tacs : Opens enc Try.prog w 67 (fun l : List GTac => [.sl 8 (l.map eTac)]) (fun l => l.length ≤ maxLen ∧ l.length * 64 ≤ reachBytes ∧ ∀ x ∈ l, WTac x) := opens_slice (by_ := 64) Try.underlying67 (by kernel_rfl) (by kernel_rfl) o_tac
theorem o_block : Opens enc Try.prog w 72 eBlock WBlock :=
  (opens_struct (n := 5) Try.underlying72 (by kernel_rfl) (opensF_cons (k := 1) rfl (by kernel_rfl) o_tacs <| opensF_cons (k := 1) rfl (by kernel_rfl) o_int <| opensF_cons (k := 1) rfl (by kernel_rfl) o_int <| opensF_cons (k := 1) rfl (by kernel_rfl) o_int <|
    opensF_cons (k := 1) rfl (by kernel_rfl) o_int <| opensF_nil rfl)).map
  (fun x h => ⟨⟨x.1, x.2.1, x.2.2.1, x.2.2.2.1, x.2.2.2.2.1⟩, rfl, ⟨h.1.2.1, h.1.2.2, h.2.1, h.2.2.1, h.2.2.2.1, h.2.2.2.2.1⟩⟩)
theorem o_blocks : Opens enc Try.prog w 27 (fun l : List GBlock => [.sl 5 (l.map eBlock)]) (fun l => l.length ≤ maxLen ∧ l.length * 56 ≤ reachBytes ∧ ∀ x ∈ l, WBlock x) := opens_slice (by_ := 56) Try.underlying27 (by kernel_rfl) (by kernel_rfl) o_block
theorem o_fn : Opens enc Try.prog w 29 eFn WFn :=
  (opens_struct (n := 2) Try.underlying29 (by kernel_rfl) (opensF_cons (k := 1) rfl (by kernel_rfl) o_int <| opensF_cons (k := 1) rfl (by kernel_rfl) o_blocks <| opensF_nil rfl)).map
  (fun x h => ⟨⟨x.1, x.2.1⟩, rfl, ⟨h.1, h.2.1.2.1, h.2.1.2.2⟩⟩)
theorem o_fns : Opens enc Try.prog w 22 (fun l : List GFn => [.sl 2 (l.map eFn)]) (fun l => l.length ≤ maxLen ∧ l.length * 32 ≤ reachBytes ∧ ∀ x ∈ l, WFn x) := opens_slice (by_ := 32) Try.underlying22 (by kernel_rfl) (by kernel_rfl) o_fn
def eProg (p : GProg) : List Cell := [.v (.int .i64 p.words), .sl 2 (p.funcs.map eFn)]
theorem o_prog : Opens enc Try.prog w 24 eProg WProg :=
  (opens_struct (n := 2) Try.underlying24 (by kernel_rfl) (opensF_cons (k := 1) rfl (by kernel_rfl) o_int <| opensF_cons (k := 1) rfl (by kernel_rfl) o_fns <| opensF_nil rfl)).map
  (fun x h => ⟨⟨x.1, x.2.1⟩, rfl, ⟨h.1, h.2.1.2.1, h.2.1.2.2⟩⟩)
theorem o_is : Opens enc Try.prog w 52 eIs WIs := (opens_slice (by_ := 8) (sz := 1) Try.underlying52 (by kernel_rfl) (by kernel_rfl) o_int).map (fun x h => ⟨x, rfl, ⟨h.2.1, h.2.2⟩⟩)
theorem o_iss : Opens enc Try.prog w 30 (fun l : List (List Int) => [.sl 1 (l.map eIs)]) WIss := (opens_slice (by_ := 24) Try.underlying30 (by kernel_rfl) (by kernel_rfl) o_is).map (fun x h => ⟨x, rfl, ⟨h.2.1, h.2.2⟩⟩)

/-! ### One argument -/
theorem arg_agg {t : Nat} {α : Type} {en : α → List Cell} {WF : α → Prop} (ho : Opens enc Try.prog w t en WF) (hs : (match Try.prog.underlying t with | some (.struct _) => true | some (.array _ _) => true | _ => false) = true)
    {r : Reach} {b : Nat} {v : Value} {d : DataW H} {p : List MemPlace} (hv : Value.okWide Try.prog w r b t v) (hd : DataW.Trod enc Try.prog w 0 (fun _ => true) true t v d p) (hw : (d.weights Try.prog t).all (· ≤ reachBytes) = true) :
    ∃ x cs, v = .agg cs ∧ RdL w (en x) cs.toList ∧ WF x := by
  unfold Value.okWide at hv
  obtain ⟨fuel, hf⟩ := hd
  cases hu : Try.prog.underlying t with
  | none => rw [hu] at hs; cases hs
  | some q =>
    rw [hu] at hs hv
    cases q with
    | struct fs =>
      obtain ⟨cs, rfl, _⟩ := hv
      obtain ⟨x, h1, h2⟩ := ho fuel _ d p hf hw
      exact ⟨x, cs, rfl, h1, h2⟩
    | array n e =>
      obtain ⟨cs, rfl, _⟩ := hv
      obtain ⟨x, h1, h2⟩ := ho fuel _ d p hf hw
      exact ⟨x, cs, rfl, h1, h2⟩
    | _ => cases hs
theorem arg_slice {t e : Nat} {α : Type} {en : α → List Cell} {WF : α → Prop} (ho : Opens enc Try.prog w t en WF) (hs : Try.prog.underlying t = some (.slice e))
    {r : Reach} {b : Nat} {v : Value} {d : DataW H} {p : List MemPlace} (hv : Value.okWide Try.prog w r b t v) (hd : DataW.Trod enc Try.prog w 0 (fun _ => true) true t v d p) (hw : (d.weights Try.prog t).all (· ≤ reachBytes) = true) :
    ∃ x, RdL w (en x) [v] ∧ WF x := by
  obtain ⟨a, l, c, rfl⟩ := okWide_slice hs hv
  obtain ⟨fuel, hf⟩ := hd
  obtain ⟨x, h1, h2⟩ := ho fuel _ d p hf hw
  exact ⟨x, by simpa [Value.cells] using h1, h2⟩
theorem rdl_one {c : Cell} {v : Value} (h : RdL w [c] [v]) : Rd w (fun _ => True) c v := h.1
theorem arg_fn {r : Reach} {b : Nat} {v : Value} {d : DataW H} {p : List MemPlace} (hv : Value.okWide Try.prog w r b 29 v) (hd : DataW.Trod enc Try.prog w 0 (fun _ => true) true 29 v d p) (hw : (d.weights Try.prog 29).all (· ≤ reachBytes) = true) :
    ∃ (f : GFn) (s : Value), v = .agg #[.int .i64 f.regs, s] ∧ Rd w (fun _ => True) (.sl 5 (f.blocks.map eBlock)) s ∧ WFn f := by
  obtain ⟨f, cs, rfl, h1, h2⟩ := arg_agg o_fn (by rw [Try.underlying29]) hv hd hw
  obtain ⟨l⟩ := cs
  match l, h1 with
  | [x, s], h1 =>
    refine ⟨f, s, ?_, h1.2.1, h2⟩
    have h3 := h1.1
    cases h3
    rfl
theorem arg_iss {r : Reach} {b : Nat} {v : Value} {d : DataW H} {p : List MemPlace} (hv : Value.okWide Try.prog w r b 30 v) (hd : DataW.Trod enc Try.prog w 0 (fun _ => true) true 30 v d p) (hw : (d.weights Try.prog 30).all (· ≤ reachBytes) = true) :
    ∃ (l : List (List Int)), Rd w (fun _ => True) (.sl 1 (l.map eIs)) v ∧ WIss l := by
  obtain ⟨l, h1, h2⟩ := arg_slice o_iss Try.underlying30 hv hd hw
  exact ⟨l, h1.1, h2⟩
end
/-- Frozen slices alone. -/
def FzAll (w : World) (ρ : Nat → Value) (b0 : Nat) : List (Nat × Ob) → Prop
  | [] => True
  | (i, .fz sz rows) :: l => (0 < i ∧ i < b0) ∧ Rd w (fun _ => True) (.sl sz rows) (ρ i) ∧ FzAll w ρ b0 l
  | _ => False
theorem FzAll.at {w : World} {ρ : Nat → Value} {b0 : Nat} : ∀ {l : List (Nat × Ob)}, FzAll w ρ b0 l → ∀ i b, l.lookup i = some b → (0 < i ∧ i < b0) ∧ ∃ sz rows, b = .fz sz rows ∧ Rd w (fun _ => True) (.sl sz rows) (ρ i)
  | (j, .fz sz rows) :: l, h, i, b, hi => by
    simp only [List.lookup] at hi
    cases hk : i == j with
    | true =>
      rw [hk] at hi
      have e : i = j := by simpa using hk
      subst e
      cases hi
      exact ⟨h.1, sz, rows, rfl, h.2.1⟩
    | false => rw [hk] at hi; exact h.2.2.at i b hi
theorem law_run {P : Program} {f : Nat} {args : List LV} {b0 b1 : Nat} {oc oc' : List (Nat × Ob)} {r : Value} (hs : Spec P f args b0 oc (.v r) b1 oc') {w : World} {ρ : Nat → Value} (h0 : 0 < b0) (ho : FzAll w ρ b0 oc) (hu : LV.useds (fun c => c < b0) ρ args) :
    Calls P f (LV.vals ρ args).toArray w (fun e w' => e = .returned r ∧ Below w.heap.size w w') := by
  refine run_law hs h0 ?_ (fun i b hi => ⟨(ho.at i b hi).1.2, (ho.at i b hi).2⟩) hu
  cases h : oc.lookup 0 with
  | none => rfl
  | some b => exact absurd (ho.at 0 b h).1.1 (by omega)
end Lg
end Go.Proofs.Ytpfhmodjjljpjaa
