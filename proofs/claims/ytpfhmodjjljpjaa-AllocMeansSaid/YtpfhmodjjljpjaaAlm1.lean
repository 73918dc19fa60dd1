import Derived.Test.YtpfhmodjjljpjaaAlloc0
import Derived.Orders
import Derived.Maps.AppendAt
import Derived.Laws.MakeOwn
import Derived.WalkKit
import Derived.Below
import Derived.WalkLawsBesides
import Derived.WideLaws
import Derived.Laws.Slices
import Derived.Laws.Cells
import Derived.Laws.StructEq
import Derived.Deep.MidRow
import Derived.Laws.CopyRow
import Derived.OrdersIn
import Derived.Deep.LoopGhost
set_option linter.unusedVariables false
set_option linter.unusedSimpArgs false
namespace Go.Proofs.Ytpfhmodjjljpjaa
open Go.RowKit
namespace Lg
set_option linter.unusedSimpArgs false
set_option linter.unusedVariables false
inductive Cell where
  | v (x : Value)
  | sl (sz : Nat) (rows : List (List Cell))
inductive Rd (w : World) (ok : Nat → Prop) : Cell → Value → Prop
  | v (x : Value) (h : x.oneCell' = true) : Rd w ok (.v x) x
  | sl (sz : Nat) (rows : List (List Cell)) (A : Option Addr) (c : Nat) (u : Nat → Nat → Value)
      (hc : rows.length ≤ c) (hm : rows.length ≤ maxLen) (hz : ∀ r ∈ rows, r.length = sz) (hn : rows ≠ [] → ∃ a, A = some a)
      (hA : ∀ (i : Nat) (r : List Cell) (j : Nat) (cl : Cell), rows[i]? = some r → r[j]? = some cl → ∃ a, A = some a ∧ ok a.block ∧ w.cell? (a.add (i * sz + j)) = some (u i j))
      (hR : ∀ (i : Nat) (r : List Cell) (j : Nat) (cl : Cell), rows[i]? = some r → r[j]? = some cl → Rd w ok cl (u i j)) :
      Rd w ok (.sl sz rows) (.slice A rows.length c)
theorem add_block (a : Addr) (n : Nat) : (a.add n).block = a.block := by unfold Addr.add; split <;> rfl
theorem Rd.mono {w w' : World} {ok ok' : Nat → Prop} {c : Cell} {v : Value} (h : Rd w ok c v)
    (hm : ∀ k, ok k → k < w.heap.size → ok' k ∧ w'.heap[k]? = w.heap[k]?) : Rd w' ok' c v := by
  induction h with
  | v x h => exact .v x h
  | sl sz rows A c u hc hmx hz hn hA hR ih =>
    refine .sl sz rows A c u hc hmx hz hn (fun i r j cl hi hj => ?_) ih
    obtain ⟨a, ha, hok, hcell⟩ := hA i r j cl hi hj
    have hlt := World.block_lt_of_cell? w _ hcell
    rw [add_block] at hlt
    obtain ⟨h1, h2⟩ := hm _ hok hlt
    refine ⟨a, ha, h1, ?_⟩
    rw [World.cell?_of_block (w := w) (by rw [add_block]; exact h2)]
    exact hcell
theorem Rd.one {w : World} {ok : Nat → Prop} {c : Cell} {v : Value} (h : Rd w ok c v) : v.oneCell' = true := by
  cases h with
  | v x h => exact h
  | sl => rfl
inductive LV where
  | v (x : Value)
  | r (i : Nat)
  | p (i n : Nat)
  | e (i sz j f : Nat)
  | agg (l : List LV)
  | tup (l : List LV)
  | fn (f : Nat) (caps : List LV)
def base : Value → Option Addr
  | .pointer a => a
  | .slice a _ _ => a
  | _ => none
def ptrOf (h : Value) (n : Nat) : Value :=
  match base h with
  | some a => .pointer (some (a.add n))
  | none => undef
mutual
def LV.val (ρ : Nat → Value) : LV → Value
  | .v x => x
  | .r i => ρ i
  | .p i n => ptrOf (ρ i) n
  | .e i sz j f => ptrOf (ρ i) (j * sz + f)
  | .agg l => .agg (LV.vals ρ l).toArray
  | .tup l => .tuple (LV.vals ρ l).toArray
  | .fn f caps => .func (.func f) #[] (LV.vals ρ caps).toArray
def LV.vals (ρ : Nat → Value) : List LV → List Value
  | [] => []
  | x :: xs => x.val ρ :: LV.vals ρ xs
end
mutual
def LV.used (U : Nat → Prop) (ρ : Nat → Value) : LV → Prop
  | .v _ => True
  | .r i => U i
  | .p i _ => U i ∧ ∃ a, base (ρ i) = some a
  | .e i _ _ _ => U i ∧ ∃ a, base (ρ i) = some a
  | .agg l => LV.useds U ρ l ∧ (LV.vals ρ l).all (·.oneCell') = true
  | .tup l => LV.useds U ρ l
  | .fn _ caps => LV.useds U ρ caps
def LV.useds (U : Nat → Prop) (ρ : Nat → Value) : List LV → Prop
  | [] => True
  | x :: xs => x.used U ρ ∧ LV.useds U ρ xs
end
theorem vals_length (ρ : Nat → Value) : ∀ l, (LV.vals ρ l).length = l.length
  | [] => rfl
  | x :: xs => by simp [LV.vals, vals_length ρ xs]
theorem vals_getElem? (ρ : Nat → Value) : ∀ (l : List LV) (j : Nat), (LV.vals ρ l)[j]? = (l[j]?).map (LV.val ρ)
  | [], j => by simp [LV.vals]
  | x :: xs, 0 => by simp [LV.vals]
  | x :: xs, j + 1 => by simp [LV.vals, vals_getElem? ρ xs j]
theorem vals_append (ρ : Nat → Value) : ∀ (l m : List LV), LV.vals ρ (l ++ m) = LV.vals ρ l ++ LV.vals ρ m
  | [], _ => rfl
  | x :: xs, m => by simp [LV.vals, vals_append ρ xs m]
theorem vals_eq_map (ρ : Nat → Value) : ∀ l, LV.vals ρ l = l.map (LV.val ρ)
  | [] => rfl
  | x :: xs => by simp [LV.vals, vals_eq_map ρ xs]
theorem useds_iff {U : Nat → Prop} {ρ : Nat → Value} : ∀ {l : List LV}, LV.useds U ρ l ↔ ∀ x ∈ l, x.used U ρ
  | [] => by simp [LV.useds]
  | x :: xs => by simp [LV.useds, useds_iff (l := xs)]
mutual
theorem used_congr {ρ ρ' : Nat → Value} {U : Nat → Prop} (h : ∀ i, U i → ρ' i = ρ i) : ∀ (x : LV), x.used U ρ → x.val ρ' = x.val ρ
  | .v _, _ => rfl
  | .r i, hu => h i hu
  | .p i n, hu => by simp only [LV.val]; rw [h i hu.1]
  | .e i sz j f, hu => by simp only [LV.val]; rw [h i hu.1]
  | .agg l, hu => by simp only [LV.val]; rw [useds_congr h l hu.1]
  | .tup l, hu => by simp only [LV.val]; rw [useds_congr h l hu]
  | .fn f l, hu => by simp only [LV.val]; rw [useds_congr h l hu]
theorem useds_congr {ρ ρ' : Nat → Value} {U : Nat → Prop} (h : ∀ i, U i → ρ' i = ρ i) : ∀ (l : List LV), LV.useds U ρ l → LV.vals ρ' l = LV.vals ρ l
  | [], _ => rfl
  | x :: xs, hu => by simp only [LV.vals]; rw [used_congr h x hu.1, useds_congr h xs hu.2]
end
mutual
theorem used_mono {U U' : Nat → Prop} {ρ ρ' : Nat → Value} (hρ : ∀ i, U i → ρ' i = ρ i) (h : ∀ i, U i → U' i) : ∀ (x : LV), x.used U ρ → x.used U' ρ'
  | .v _, _ => trivial
  | .r i, hu => h i hu
  | .p i _, hu => ⟨h i hu.1, by rw [hρ i hu.1]; exact hu.2⟩
  | .e i _ _ _, hu => ⟨h i hu.1, by rw [hρ i hu.1]; exact hu.2⟩
  | .agg l, hu => ⟨useds_mono hρ h l hu.1, by rw [useds_congr hρ l hu.1]; exact hu.2⟩
  | .tup l, hu => useds_mono hρ h l hu
  | .fn _ l, hu => useds_mono hρ h l hu
theorem useds_mono {U U' : Nat → Prop} {ρ ρ' : Nat → Value} (hρ : ∀ i, U i → ρ' i = ρ i) (h : ∀ i, U i → U' i) : ∀ (l : List LV), LV.useds U ρ l → LV.useds U' ρ' l
  | [], _ => trivial
  | x :: xs, hu => ⟨used_mono hρ h x hu.1, useds_mono hρ h xs hu.2⟩
end
inductive Ob where
  | row (e sz : Nat) (rows : List (List Cell))
  | box (t : Nat) (cs : List LV)
  | fz (sz : Nat) (rows : List (List Cell))
  | nest (e e2 sz2 : Nat) (rows : List (List (List Cell))) (hole : Option (Nat × Nat))
  | map (l : List (Int × Int))
  | no
def Ob.used (U : Nat → Prop) (ρ : Nat → Value) : Ob → Prop
  | .box _ cs => LV.useds U ρ cs ∧ (LV.vals ρ cs).all (·.oneCell') = true
  | .nest _ _ _ _ hole => ∀ j b, hole = some (j, b) → U b
  | _ => True
structure RowsRd (w : World) (ok : Nat → Prop) (sz : Nat) (rows : List (List Cell)) (cells : List Value) : Prop where
  len : cells.length = rows.length * sz
  each : ∀ (i : Nat) (r : List Cell), rows[i]? = some r → r.length = sz ∧ ∀ (j : Nat) (cl : Cell), r[j]? = some cl → ∃ u, cells[i * sz + j]? = some u ∧ Rd w ok cl u
theorem RowsRd.mono {w w' : World} {ok ok' : Nat → Prop} {sz : Nat} {rows : List (List Cell)} {cells : List Value} (h : RowsRd w ok sz rows cells)
    (hm : ∀ k, ok k → k < w.heap.size → ok' k ∧ w'.heap[k]? = w.heap[k]?) : RowsRd w' ok' sz rows cells :=
  ⟨h.len, fun i r hi => ⟨(h.each i r hi).1, fun j cl hj => by
    obtain ⟨u, h1, h2⟩ := (h.each i r hi).2 j cl hj
    exact ⟨u, h1, h2.mono hm⟩⟩⟩
def OwnsR (w : World) (e sz : Nat) (v : Value) (n : Nat) (xs : List Value) : Prop :=
  xs.length = n * sz ∧ ((v = .slice none 0 0 ∧ n = 0) ∨
    ∃ g off cap cur, v = .slice (some ⟨g, off, none⟩) n cap ∧ w.heap[g]? = some (.cells cur e (0, 0)) ∧ n ≤ cap ∧ cap ≤ maxLen ∧ off + cap * sz ≤ cur.size ∧ (cur.toList.drop off).take (n * sz) = xs)
theorem OwnsR.of {w : World} {e sz : Nat} {v : Value} {n : Nat} {xs : List Value} (h : w.ownsRow 0 e sz v n xs) : OwnsR w e sz v n xs := by
  refine ⟨h.1, ?_⟩
  rcases h.2 with h4 | ⟨g, cap, cur, he, _, hh, r1, r2, r3, r4⟩
  · exact .inl h4
  · exact .inr ⟨g, 0, cap, cur, he, hh, r1, r2, by omega, by simpa using r4⟩
theorem OwnsR.cells {w : World} {e sz : Nat} {v : Value} {n : Nat} {xs : List Value} (h : OwnsR w e sz v n xs) {g off n' c : Nat} (hv : v = .slice (some ⟨g, off, none⟩) n' c) : ∀ (j : Nat) u, xs[j]? = some u → w.cell? ((⟨g, off, none⟩ : Addr).add j) = some u := by
  intro j u hu
  rcases h.2 with ⟨h4, _⟩ | ⟨g', off', cap, cur, he, hh, r1, r2, r3, r4⟩
  · rw [h4] at hv; cases hv
  · rw [he] at hv
    cases hv
    have hadd : (⟨g, off, none⟩ : Addr).add j = ⟨g, off + j, none⟩ := by unfold Addr.add; split <;> simp_all
    rw [hadd, cell_of_row w g (off + j) cur e (0, 0) hh]
    rw [← r4, List.getElem?_take] at hu
    split at hu
    · rw [List.getElem?_drop] at hu
      simpa using hu
    · cases hu
structure NestRd (w : World) (ρ : Nat → Value) (own : Nat → Option Nat) (i e e2 sz2 : Nat) (rows : List (List (List Cell))) (hole : Option (Nat × Nat)) (vs : List Value) : Prop where
  pos : 0 < sz2
  out : OwnsR w e 1 (ρ i) rows.length vs
  blk : ∀ k, (ρ i).ownBlock = some k → own k = some i
  hol : ∀ j b, hole = some (j, b) → vs[j]? = some (ρ b)
  inn : ∀ (j : Nat) (r : List (List Cell)) (v : Value), rows[j]? = some r → vs[j]? = some v → (∀ b, hole ≠ some (j, b)) → ∃ cells, OwnsR w e2 sz2 v r.length cells ∧ RowsRd w (fun k => own k = none) sz2 r cells ∧ ∀ k, v.ownBlock = some k → own k = some i ∧ (ρ i).ownBlock ≠ some k
  dis : ∀ (j j' : Nat) (v v' : Value) (k : Nat), j ≠ j' → (∀ b, hole ≠ some (j, b)) → (∀ b, hole ≠ some (j', b)) → vs[j]? = some v → vs[j']? = some v' → v.ownBlock = some k → v'.ownBlock ≠ some k
def kvM (p : Int × Int) : Value × Value := (.agg #[.int .i64 p.1, .int .i64 p.2], .bool true)
def RepOb (w : World) (ρ : Nat → Value) (own : Nat → Option Nat) (i : Nat) : Ob → Prop
  | .no => True
  | .fz sz rows => Rd w (fun k => own k = none) (.sl sz rows) (ρ i)
  | .row e sz rows => 0 < sz ∧ ∃ cells, OwnsR w e sz (ρ i) rows.length cells ∧ (∀ k, (ρ i).ownBlock = some k → own k = some i) ∧ RowsRd w (fun k => own k = none) sz rows cells
  | .nest e e2 sz2 rows hole => ∃ vs, NestRd w ρ own i e e2 sz2 rows hole vs
  | .box t cs => ∃ b, ρ i = .pointer (some ⟨b, 0, none⟩) ∧ own b = some i ∧ w.heap[b]? = some (.cells (LV.vals ρ cs).toArray t (0, 0))
  | .map l => ∃ b es clock, ρ i = .map (some b) ∧ own b = some i ∧ w.heap[b]? = some (.map es clock) ∧ es.toList.map (fun e : MapEntry => (e.key, e.val)) = l.map kvM
structure Grew (M : Nat → Prop) (w0 w : World) : Prop where
  os : w.os = w0.os
  tape : w.tape = w0.tape
  output : w.output = w0.output
  size : w0.heap.size ≤ w.heap.size
  block : ∀ k, k < w0.heap.size → ¬ M k → w.heap[k]? = w0.heap[k]?
theorem Grew.refl (M : Nat → Prop) (w : World) : Grew M w w := ⟨rfl, rfl, rfl, Nat.le_refl _, fun _ _ _ => rfl⟩
theorem Grew.trans {M M' : Nat → Prop} {a b c : World} (h : Grew M a b) (k : Grew M' b c) (hM : ∀ i, i < a.heap.size → M' i → M i) : Grew M a c :=
  ⟨k.os.trans h.os, k.tape.trans h.tape, k.output.trans h.output, Nat.le_trans h.size k.size, fun i hi hn =>
    (k.block i (Nat.lt_of_lt_of_le hi h.size) (fun h2 => hn (hM i hi h2))).trans (h.block i hi hn)⟩
theorem Grew.drew {M : Nat → Prop} {a b : World} (h : Grew M a b) (n : Nat) : Grew M a { b with drawn := n } := ⟨h.os, h.tape, h.output, h.size, h.block⟩
theorem Grew.below {w w' : World} (h : Grew (fun _ => False) w w') : Below w.heap.size w w' := ⟨h.os, h.tape, h.output, h.size, fun k hk => h.block k hk (fun h => h)⟩
structure Fp where
  mt : Nat → Prop
  ok : Nat → Prop
  n : Nat
  ρ0 : Nat → Value
  ds : List Deferred
structure HR (w0 : World) (M : Fp) (U : Nat → Prop) (ρ : Nat → Value) (own : Nat → Option Nat) (o : List (Nat × Ob)) (w : World) : Prop where
  ob : ∀ i b, o.lookup i = some b → RepOb w ρ own i b ∧ U i ∧ b.used U ρ
  gr : Grew M.mt w0 w
  fr : ∀ k, k < w0.heap.size → ¬ M.mt k → (M.ok k → own k = none) ∧ (¬ M.ok k → own k = some 0)
  z : o.lookup 0 = none
  z0 : U 0
  ag : ∀ i, i < M.n → U i ∧ ρ i = M.ρ0 i
theorem heap_lt {w : World} {k : Nat} {o : Obj} (h : w.heap[k]? = some o) : k < w.heap.size := (Array.getElem?_eq_some_iff.1 h).1
theorem lookup_append {β : Type} (i : Nat) : ∀ (u o : List (Nat × β)), (u ++ o).lookup i = match u.lookup i with | some b => some b | none => o.lookup i
  | [], o => rfl
  | (j, b) :: u, o => by
    simp only [List.cons_append, List.lookup]
    cases h : i == j
    · exact lookup_append i u o
    · rfl
theorem RepOb.step {w w' : World} {ρ ρ' : Nat → Value} {own own' : Nat → Option Nat} {U S : Nat → Prop} {i : Nat} {b : Ob} (h : RepOb w ρ own i b) (hU : U i) (hu : b.used U ρ) (hS : ¬ S i)
    (hk : ∀ k, k < w.heap.size → (∀ j, own k = some j → ¬ S j) → w'.heap[k]? = w.heap[k]? ∧ own' k = own k) (hρ : ∀ i, U i → ρ' i = ρ i) : RepOb w' ρ' own' i b := by
  have hfz : ∀ k, own k = none → k < w.heap.size → own' k = none ∧ w'.heap[k]? = w.heap[k]? := fun k h1 h2 => by
    obtain ⟨h3, h4⟩ := hk k h2 (fun j hj => by rw [h1] at hj; cases hj)
    exact ⟨h4.trans h1, h3⟩
  have hown : ∀ k, own k = some i → k < w.heap.size → w'.heap[k]? = w.heap[k]? ∧ own' k = some i := fun k h1 h2 => by
    obtain ⟨h3, h4⟩ := hk k h2 (fun j hj => by rw [h1] at hj; cases hj; exact hS)
    exact ⟨h3, h4.trans h1⟩
  have hrow : ∀ (e sz : Nat) (v : Value) (n : Nat) (cells : List Value), w.ownsRow 0 e sz v n cells → (∀ k, v.ownBlock = some k → own k = some i) → w'.ownsRow 0 e sz v n cells := fun e sz v n cells h1 h2 => by
    refine ⟨h1.1, ?_⟩
    rcases h1.2 with h4 | ⟨g, cap, cur, he, hg, hh, r⟩
    · exact .inl h4
    · exact .inr ⟨g, cap, cur, he, hg, (hown g (h2 g (by rw [he]; rfl)) (heap_lt hh)).1.trans hh, r⟩
  have hrowR : ∀ (e sz : Nat) (v : Value) (n : Nat) (cells : List Value), OwnsR w e sz v n cells → (∀ k, v.ownBlock = some k → own k = some i) → OwnsR w' e sz v n cells := fun e sz v n cells h1 h2 => by
    refine ⟨h1.1, ?_⟩
    rcases h1.2 with h4 | ⟨g, off, cap, cur, he, hh, r⟩
    · exact .inl h4
    · exact .inr ⟨g, off, cap, cur, he, (hown g (h2 g (by rw [he]; rfl)) (heap_lt hh)).1.trans hh, r⟩
  have hblkR : ∀ (e sz : Nat) (v : Value) (n : Nat) (cells : List Value), OwnsR w e sz v n cells → ∀ k, v.ownBlock = some k → own k = some i → own' k = some i := fun e sz v n cells h1 k hk' hok => by
    rcases h1.2 with ⟨h4, _⟩ | ⟨g, off, cap, cur, he, hh, r⟩
    · rw [h4] at hk'; cases hk'
    · rw [he] at hk'
      cases hk'
      exact (hown g hok (heap_lt hh)).2
  have hblk : ∀ (e sz : Nat) (v : Value) (n : Nat) (cells : List Value), w.ownsRow 0 e sz v n cells → ∀ k, v.ownBlock = some k → own k = some i → own' k = some i := fun e sz v n cells h1 k hk' hok => by
    rcases h1.2 with ⟨h4, _⟩ | ⟨g, cap, cur, he, hg, hh, r⟩
    · rw [h4] at hk'; cases hk'
    · rw [he] at hk'
      cases hk'
      exact (hown g hok (heap_lt hh)).2
  cases b with
  | no => trivial
  | nest e e2 sz2 rows hole =>
    obtain ⟨vs, hN⟩ := h
    refine ⟨vs, hN.pos, ?_, fun k hk' => ?_, fun j b hb => ?_, fun j r v hj hv hh => ?_, hN.dis⟩
    · rw [hρ i hU]; exact hrowR _ _ _ _ _ hN.out hN.blk
    · rw [hρ i hU] at hk'; exact hblkR _ _ _ _ _ hN.out k hk' (hN.blk k hk')
    · rw [hρ b (hu j b hb)]; exact hN.hol j b hb
    · obtain ⟨cells, g1, g2, g3⟩ := hN.inn j r v hj hv hh
      refine ⟨cells, hrowR _ _ _ _ _ g1 (fun k hk' => (g3 k hk').1), g2.mono hfz, fun k hk' => ⟨hblkR _ _ _ _ _ g1 k hk' (g3 k hk').1, ?_⟩⟩
      rw [hρ i hU]; exact (g3 k hk').2
  | fz sz rows =>
    show Rd _ _ _ (ρ' i)
    rw [hρ i hU]
    exact Rd.mono h hfz
  | row e sz rows =>
    obtain ⟨h0, cells, h1, h2, h3⟩ := h
    refine ⟨h0, cells, ?_, ?_, h3.mono hfz⟩
    · rw [hρ i hU]; exact hrowR _ _ _ _ _ h1 h2
    · rw [hρ i hU]
      exact fun k hk' => hblkR _ _ _ _ _ h1 k hk' (h2 k hk')
  | box t cs =>
    obtain ⟨b, h1, h2, h3⟩ := h
    obtain ⟨h4, h5⟩ := hown b h2 (heap_lt h3)
    exact ⟨b, by rw [hρ i hU]; exact h1, h5, by rw [h4, h3, useds_congr hρ cs hu.1]⟩
  | map l =>
    obtain ⟨b, es, clock, h1, h2, h3, h6⟩ := h
    obtain ⟨h4, h5⟩ := hown b h2 (heap_lt h3)
    exact ⟨b, es, clock, by rw [hρ i hU]; exact h1, h5, by rw [h4, h3], h6⟩
theorem Ob.used_mono {U U' : Nat → Prop} {ρ ρ' : Nat → Value} (hρ : ∀ i, U i → ρ' i = ρ i) (h : ∀ i, U i → U' i) {b : Ob} (hb : b.used U ρ) : b.used U' ρ' := by
  cases b with
  | box t cs => exact ⟨useds_mono hρ h cs hb.1, by rw [useds_congr hρ cs hb.1]; exact hb.2⟩
  | nest e e2 sz2 rows hole => exact fun j b hj => h b (hb j b hj)
  | _ => trivial
theorem HR.step {w0 w w' : World} {M : Fp} {U U' : Nat → Prop} {ρ ρ' : Nat → Value} {own own' : Nat → Option Nat} {o upd : List (Nat × Ob)} (S : Nat → Prop) (h : HR w0 M U ρ own o w)
    (hos : w'.os = w.os) (htape : w'.tape = w.tape) (hout : w'.output = w.output) (hsz : w.heap.size ≤ w'.heap.size)
    (hk : ∀ k, k < w.heap.size → (∀ j, own k = some j → ¬ S j) → w'.heap[k]? = w.heap[k]? ∧ own' k = own k)
    (hρ : ∀ i, U i → ρ' i = ρ i) (hUU : ∀ i, U i → U' i) (hS : ∀ i, S i → ∃ b, upd.lookup i = some b) (hkey : ∀ i b, upd.lookup i = some b → (∃ b', o.lookup i = some b') ∨ ¬ U i)
    (hupd : ∀ i b, upd.lookup i = some b → RepOb w' ρ' own' i b ∧ U' i ∧ b.used U' ρ') : HR w0 M U' ρ' own' (upd ++ o) w' := by
  have hz : upd.lookup 0 = none := by
    cases hl : upd.lookup 0 with
    | none => rfl
    | some b =>
      rcases hkey 0 b hl with ⟨b', hb⟩ | hb
      · rw [h.z] at hb; cases hb
      · exact absurd h.z0 hb
  have hS0 : ¬ S 0 := fun hs => by obtain ⟨b, hb⟩ := hS 0 hs; rw [hz] at hb; cases hb
  have hn : ∀ k, k < w0.heap.size → ¬ M.mt k → ∀ j, own k = some j → ¬ S j := fun k hk0 hM j hj => by
    by_cases hok : M.ok k
    · rw [(h.fr k hk0 hM).1 hok] at hj; cases hj
    · rw [(h.fr k hk0 hM).2 hok] at hj; cases hj; exact hS0
  refine ⟨fun i b hi => ?_, ?_, fun k hk0 hM => ?_, by rw [lookup_append, hz]; exact h.z, hUU 0 h.z0, fun i hi => ⟨hUU i (h.ag i hi).1, (hρ i (h.ag i hi).1).trans (h.ag i hi).2⟩⟩
  · rw [lookup_append] at hi
    cases hl : upd.lookup i with
    | some b' =>
      rw [hl] at hi
      obtain rfl : b' = b := by injection hi
      exact hupd i b' hl
    | none =>
      rw [hl] at hi
      obtain ⟨h1, h2, h3⟩ := h.ob i b hi
      exact ⟨h1.step h2 h3 (fun hs => by obtain ⟨b', hb⟩ := hS i hs; rw [hl] at hb; cases hb) hk hρ, hUU i h2, Ob.used_mono hρ hUU h3⟩
  · refine ⟨hos.trans h.gr.os, htape.trans h.gr.tape, hout.trans h.gr.output, Nat.le_trans h.gr.size hsz, fun k hk0 hM => ?_⟩
    exact ((hk k (Nat.lt_of_lt_of_le hk0 h.gr.size) (hn k hk0 hM)).1).trans (h.gr.block k hk0 hM)
  · have h2 := (hk k (Nat.lt_of_lt_of_le hk0 h.gr.size) (hn k hk0 hM)).2
    rw [h2]
    exact h.fr k hk0 hM
theorem lookup_key {β : Type} {b i : Nat} {x y : β} (h : List.lookup i [(b, x)] = some y) : i = b := by
  simp only [List.lookup] at h
  cases hq : i == b with
  | false => rw [hq] at h; cases h
  | true => simpa using hq
theorem HR.drew {w0 w : World} {M : Fp} {U : Nat → Prop} {ρ : Nat → Value} {own : Nat → Option Nat} {o : List (Nat × Ob)} (h : HR w0 M U ρ own o w) (n : Nat) : HR w0 M U ρ own o { w with drawn := n } := by
  have := h.step (w' := { w with drawn := n }) (U' := U) (ρ' := ρ) (own' := own) (upd := []) (fun _ => False) rfl rfl rfl (Nat.le_refl _) (fun _ _ _ => ⟨rfl, rfl⟩) (fun _ _ => rfl) (fun _ h => h) (fun _ h => h.elim) (fun _ _ h => by cases h) (fun _ _ h => by cases h)
  exact this
end Lg
end Go.Proofs.Ytpfhmodjjljpjaa

namespace Go.Proofs.Ytpfhmodjjljpjaa
open Go.RowKit
namespace Lg
set_option linter.unusedSimpArgs false
set_option linter.unusedVariables false
structure St where
  s : List (Nat × LV)
  o : List (Nat × Ob)
def St.ev (st : St) : Operand → Option LV
  | .tmp t => st.s.lookup t
  | .const v => some (.v v)
  | .func f => some (.fn f [])
  | .global _ => none
structure FR (N : Nat) (U : Nat → Prop) (ρ : Nat → Value) (s : List (Nat × LV)) (a : Act) : Prop where
  sz : a.tmps.size = N
  sl : ∀ d lv, s.lookup d = some lv → a.tmps[d]? = some (lv.val ρ) ∧ lv.used U ρ
theorem FR.eval {N : Nat} {U : Nat → Prop} {ρ : Nat → Value} {st : St} {a : Act} (h : FR N U ρ st.s a) {x : Operand} {lv : LV} (hx : st.ev x = some lv) : a.eval x = lv.val ρ ∧ lv.used U ρ := by
  cases x with
  | tmp t =>
    obtain ⟨h1, h2⟩ := h.sl t lv hx
    exact ⟨by simp [Act.eval, h1], h2⟩
  | const v => cases hx; exact ⟨rfl, trivial⟩
  | func f => cases hx; exact ⟨rfl, trivial⟩
  | global g => cases hx
theorem FR.put {N : Nat} {U U' : Nat → Prop} {ρ ρ' : Nat → Value} {s : List (Nat × LV)} {a : Act} (h : FR N U ρ s a) (hρ : ∀ i, U i → ρ' i = ρ i) (hU : ∀ i, U i → U' i) {lv : LV} (hl : lv.used U' ρ') (d : Nat) (hd : d < N) :
    FR N U' ρ' ((d, lv) :: s) (a.put (some d) (lv.val ρ')) := by
  refine ⟨by simp [Act.put, h.sz], fun e lv' he => ?_⟩
  simp only [List.lookup] at he
  cases hq : e == d with
  | true =>
    rw [hq] at he
    obtain rfl : lv = lv' := by injection he
    have : e = d := by simpa using hq
    subst this
    exact ⟨by simp [Act.put, h.sz, hd], hl⟩
  | false =>
    rw [hq] at he
    have hne : d ≠ e := fun h => by subst h; simp at hq
    obtain ⟨h1, h2⟩ := h.sl e lv' he
    exact ⟨by simp [Act.put, hne, h1, used_congr hρ lv' h2], used_mono hρ hU lv' h2⟩
theorem FR.keep {N : Nat} {U U' : Nat → Prop} {ρ ρ' : Nat → Value} {s : List (Nat × LV)} {a : Act} (h : FR N U ρ s a) (hρ : ∀ i, U i → ρ' i = ρ i) (hU : ∀ i, U i → U' i) : FR N U' ρ' s a :=
  ⟨h.sz, fun d lv hd => by obtain ⟨h1, h2⟩ := h.sl d lv hd; exact ⟨by rw [h1, used_congr hρ lv h2], used_mono hρ hU lv h2⟩⟩
def OpDoes (P : Program) (o : Oper) (a : Act) (w : World) (K : Value → World → Prop) : Prop :=
  ∀ (next : Act → World → Prop) (Q : Exit → Act → World → Prop), (∀ v w', K v w' → next (a.put o.dst v) w') → o.wp P a w next Q
theorem does_value {P : Program} {o : Oper} {a : Act} {w w' : World} {v : Value} {K : Value → World → Prop} (hr : (execOp a.eval o).run P w = .ok (.value v) w') (h : K v w') : OpDoes P o a w K := by
  intro next Q hn
  unfold Oper.wp
  rw [hr]
  exact hn v w' h
theorem does_skip {P : Program} {o : Oper} {a : Act} {w w' : World} {K : Value → World → Prop} (hr : (execOp a.eval o).run P w = .ok .skip w') (h : K undef w') : OpDoes P o a w K := by
  intro next Q hn
  unfold Oper.wp
  rw [hr]
  exact hn undef w' h
def grow (U : Nat → Prop) (b n : Nat) : Nat → Prop := fun i => U i ∨ (b ≤ i ∧ i < b + n)
def T (P : Program) (N : Nat) (o : Oper) (b : Nat) (pre : List Nat) (st : St) (lv : LV) (nn : Nat) (upd : List (Nat × Ob)) : Prop :=
  ∀ (w0 : World) (M : Fp) (U : Nat → Prop) (ρ : Nat → Value) (own : Nat → Option Nat) (st' : St) (a : Act) (w : World),
    (∀ x, x ∈ o.op.operands → st'.ev x = st.ev x) → (∀ i, i ∈ pre → st'.o.lookup i = st.o.lookup i) → (∀ i, b ≤ i → i < b + nn → ¬ U i) →
    FR N U ρ st'.s a → HR w0 M U ρ own st'.o w →
    OpDoes P o a w (fun v w' => ∃ ρ' own', v = lv.val ρ' ∧ (∀ i, U i → ρ' i = ρ i) ∧ lv.used (grow U b nn) ρ' ∧ HR w0 M (grow U b nn) ρ' own' (upd ++ st'.o) w')
theorem HR.mono {w0 w : World} {M : Fp} {U U' : Nat → Prop} {ρ : Nat → Value} {own : Nat → Option Nat} {o : List (Nat × Ob)} (h : HR w0 M U ρ own o w) (hU : ∀ i, U i → U' i) : HR w0 M U' ρ own o w :=
  ⟨fun i b hi => ⟨(h.ob i b hi).1, hU i (h.ob i b hi).2.1, Ob.used_mono (fun _ _ => rfl) hU (h.ob i b hi).2.2⟩, h.gr, h.fr, h.z, hU 0 h.z0, fun i hi => ⟨hU i (h.ag i hi).1, (h.ag i hi).2⟩⟩
theorem T_pure {P : Program} {N : Nat} {o : Oper} {b : Nat} {st : St} {lv : LV}
    (h : ∀ (ρ : Nat → Value) (ev : Operand → Value) (w : World), (∀ x l, x ∈ o.op.operands → st.ev x = some l → ev x = l.val ρ) → (execOp ev o).run P w = .ok (.value (lv.val ρ)) w)
    (hu : ∀ (U : Nat → Prop) (ρ : Nat → Value), (∀ x l, x ∈ o.op.operands → st.ev x = some l → l.used U ρ) → lv.used U ρ) : T P N o b [] st lv 0 [] := by
  intro w0 M U ρ own st' a w hx hp hf fr hr
  refine does_value (h ρ a.eval w (fun x l hm hl => (fr.eval (by rw [hx x hm]; exact hl)).1)) ⟨ρ, own, rfl, fun _ _ => rfl, ?_, hr.mono (fun i hi => .inl hi)⟩
  exact used_mono (fun _ _ => rfl) (fun i hi => .inl hi) lv (hu U ρ (fun x l hm hl => (fr.eval (by rw [hx x hm]; exact hl)).2))
section
variable {P : Program} {N : Nat} {o : Oper} {b : Nat} {st : St}
theorem T_move {x : Operand} {lv : LV} (ho : o.op = .move x) (hx : st.ev x = some lv) : T P N o b [] st lv 0 [] :=
  T_pure (fun ρ ev w hev => by simp [execOp, ho, hev x lv (by simp [ho, Op.operands]) hx]) (fun U ρ hU => hU x lv (by simp [ho, Op.operands]) hx)
theorem T_assign {x : Operand} {lv : LV} (ho : o.op = .assign x) (hx : st.ev x = some lv) : T P N o b [] st lv 0 [] :=
  T_pure (fun ρ ev w hev => by simp [execOp, ho, hev x lv (by simp [ho, Op.operands]) hx]) (fun U ρ hU => hU x lv (by simp [ho, Op.operands]) hx)
theorem T_pick_t {c x y : Operand} {t : Bool} {lv : LV} (ho : o.op = .pick c x y) (hc : st.ev c = some (.v (.bool t))) (hx : st.ev x = some lv) (ht : t = true) : T P N o b [] st lv 0 [] :=
  T_pure (fun ρ ev w hev => by
    have h1 := hev c _ (by simp [ho, Op.operands]) hc
    have h2 := hev x lv (by simp [ho, Op.operands]) hx
    simp [execOp, ho, h1, h2, LV.val, asBool, ht]) (fun U ρ hU => hU x lv (by simp [ho, Op.operands]) hx)
theorem T_pick_f {c x y : Operand} {t : Bool} {lv : LV} (ho : o.op = .pick c x y) (hc : st.ev c = some (.v (.bool t))) (hy : st.ev y = some lv) (ht : t = false) : T P N o b [] st lv 0 [] :=
  T_pure (fun ρ ev w hev => by
    have h1 := hev c _ (by simp [ho, Op.operands]) hc
    have h2 := hev y lv (by simp [ho, Op.operands]) hy
    simp [execOp, ho, h1, h2, LV.val, asBool, ht]) (fun U ρ hU => hU y lv (by simp [ho, Op.operands]) hy)
theorem T_pick_b {c x y : Operand} {t u v : Bool} (ho : o.op = .pick c x y) (hc : st.ev c = some (.v (.bool t))) (hx : st.ev x = some (.v (.bool u))) (hy : st.ev y = some (.v (.bool v))) : T P N o b [] st (.v (.bool (if t then u else v))) 0 [] :=
  T_pure (fun ρ ev w hev => by
    have h1 := hev c _ (by simp [ho, Op.operands]) hc
    have h2 := hev x _ (by simp [ho, Op.operands]) hx
    have h3 := hev y _ (by simp [ho, Op.operands]) hy
    cases t <;> simp [execOp, ho, h1, h2, h3, LV.val, asBool]) (fun U ρ hU => trivial)
theorem T_bin {op : BinOp} {t t' : TypeId} {x y : Operand} {vx vy v : Value} (ho : o.op = .binOp op t x y t') (hx : st.ev x = some (.v vx)) (hy : st.ev y = some (.v vy))
    (h : ∀ w, (do eqGuard op t x y vx vy; binOp op t vx vy : Sem Value).run P w = .ok v w) : T P N o b [] st (.v v) 0 [] :=
  T_pure (fun ρ ev w hev => by
    have h1 := hev x _ (by simp [ho, Op.operands]) hx
    have h2 := hev y _ (by simp [ho, Op.operands]) hy
    have h3 := h w
    simp only [execOp, ho, h1, h2, LV.val]
    rw [Sem.run_bind, h3]
    rfl) (fun U ρ hU => trivial)
theorem T_arith {op : BinOp} {t t' : TypeId} {x y : Operand} {k : IntKind} {m n r : Int} (ho : o.op = .binOp op t x y t') (hx : st.ev x = some (.v (.int k m))) (hy : st.ev y = some (.v (.int k n)))
    (h : (op = .add ∧ k.wrap (m + n) = r) ∨ (op = .sub ∧ k.wrap (m - n) = r) ∨ (op = .mul ∧ k.wrap (m * n) = r)) : T P N o b [] st (.v (.int k r)) 0 [] :=
  T_bin ho hx hy (fun w => by
    rcases h with ⟨rfl, rfl⟩ | ⟨rfl, rfl⟩ | ⟨rfl, rfl⟩ <;> simp [eqGuard, binOp, Op.intArith])
theorem wrap_i64 {n : Int} (h : -9223372036854775808 ≤ n ∧ n ≤ 9223372036854775807) : IntKind.wrap .i64 n = n := IntWalk.i64_in n h
theorem T_add64 {t t' : TypeId} {x y : Operand} {m n : Int} (ho : o.op = .binOp .add t x y t') (hx : st.ev x = some (.v (.int .i64 m))) (hy : st.ev y = some (.v (.int .i64 n)))
    (h : -9223372036854775808 ≤ m + n ∧ m + n ≤ 9223372036854775807) : T P N o b [] st (.v (.int .i64 (m + n))) 0 [] := T_arith ho hx hy (.inl ⟨rfl, wrap_i64 h⟩)
theorem T_sub64 {t t' : TypeId} {x y : Operand} {m n : Int} (ho : o.op = .binOp .sub t x y t') (hx : st.ev x = some (.v (.int .i64 m))) (hy : st.ev y = some (.v (.int .i64 n)))
    (h : -9223372036854775808 ≤ m - n ∧ m - n ≤ 9223372036854775807) : T P N o b [] st (.v (.int .i64 (m - n))) 0 [] := T_arith ho hx hy (.inr (.inl ⟨rfl, wrap_i64 h⟩))
def cmpB : BinOp → Int → Int → Bool
  | .eql, x, y => x == y
  | .neq, x, y => x != y
  | .lss, x, y => decide (x < y)
  | .leq, x, y => decide (x ≤ y)
  | .gtr, x, y => decide (x > y)
  | .geq, x, y => decide (x ≥ y)
  | _, _, _ => false
def isCmp : BinOp → Bool
  | .eql | .neq | .lss | .leq | .gtr | .geq => true
  | _ => false
theorem T_cmp {op : BinOp} {t t' : TypeId} {x y : Operand} {k : IntKind} {m n : Int} (ho : o.op = .binOp op t x y t') (hc : isCmp op = true) (hx : st.ev x = some (.v (.int k m))) (hy : st.ev y = some (.v (.int k n))) :
    T P N o b [] st (.v (.bool (cmpB op m n))) 0 [] :=
  T_bin ho hx hy (fun w => by cases op <;> simp [isCmp] at hc <;> simp [eqGuard, binOp, Op.intCmp, cmpB])
theorem T_not {t : TypeId} {x : Operand} {u : Bool} (ho : o.op = .unOp .not t x) (hx : st.ev x = some (.v (.bool u))) : T P N o b [] st (.v (.bool !u)) 0 [] :=
  T_pure (fun ρ ev w hev => by
    have h1 := hev x _ (by simp [ho, Op.operands]) hx
    simp [execOp, ho, h1, LV.val, Op.unary]) (fun U ρ hU => trivial)
theorem T_makeFunc {f : FuncId} {caps : Array Operand} {l : List LV} (ho : o.op = .makeFunc (.func f) #[] caps) (hc : caps.toList.map st.ev = l.map some) : T P N o b [] st (.fn f l) 0 [] :=
  T_pure (fun ρ ev w hev => by
    have h1 : caps.map ev = (LV.vals ρ l).toArray := by
      apply Array.ext'
      rw [Array.toList_map, vals_eq_map]
      have : ∀ (cs : List Operand) (l : List LV), (∀ x ∈ cs, ∀ l', st.ev x = some l' → ev x = l'.val ρ) → cs.map st.ev = l.map some → cs.map ev = l.map (LV.val ρ) := by
        intro cs
        induction cs with
        | nil => intro l _ h; cases l <;> simp at h ⊢
        | cons c cs ih =>
          intro l hc h
          cases l with
          | nil => simp at h
          | cons y l =>
            simp only [List.map_cons, List.cons.injEq] at h ⊢
            exact ⟨hc c (by simp) y h.1, ih l (fun x hx => hc x (by simp [hx])) h.2⟩
      exact this caps.toList l (fun x hx l' hl => hev x l' (by simp [ho, Op.operands]; simpa using hx) hl) hc
    simp [execOp, ho, h1, LV.val, Instr.makeFunc]) (fun U ρ hU => by
    show LV.useds U ρ l
    rw [useds_iff]
    intro y hy
    obtain ⟨j, hj⟩ := List.getElem?_of_mem hy
    have h2 := congrArg (fun z => z[j]?) hc
    simp only [List.getElem?_map, hj, Option.map_some] at h2
    obtain ⟨x, hx, hxe⟩ := Option.map_eq_some_iff.1 h2
    exact hU x y (by simp [ho, Op.operands]; exact Array.mem_def.2 (List.mem_of_getElem? hx)) hxe)
theorem T_extract {x : Operand} {l : List LV} {i : Nat} {lv : LV} (ho : o.op = .extract x i) (hx : st.ev x = some (.tup l)) (hi : l[i]? = some lv) : T P N o b [] st lv 0 [] :=
  T_pure (fun ρ ev w hev => by
    have h1 := hev x _ (by simp [ho, Op.operands]) hx
    simp [execOp, ho, h1, LV.val, Instr.extract, vals_getElem?, hi]) (fun U ρ hU => by
    have := hU x _ (by simp [ho, Op.operands]) hx
    exact useds_iff.1 this lv (List.mem_of_getElem? hi))
end
end Lg
end Go.Proofs.Ytpfhmodjjljpjaa

namespace Go.Proofs.Ytpfhmodjjljpjaa
open Go.RowKit
namespace Lg
set_option linter.unusedSimpArgs false
set_option linter.unusedVariables false
structure TyI where
  agg : Bool
  size : Nat
  bytes : Nat
  zero : List Value
  elem : Nat
  fields : List (Nat × Nat)
structure Good (P : Program) (t : Nat) (i : TyI) : Prop where
  info : (P.info? t).map (fun j => (j.zero.map (·.cells.toList), j.size, j.bytes)) = some (some i.zero, i.size, i.bytes)
  agg : (match P.underlying t with | some (.struct _) => some true | some (.array _ _) => some true | some _ => some false | none => none) = some i.agg
  flds : (match P.underlying t with | some (.struct fs) => fs.toList.map (fun f => (f.offset, P.cellsOf f.type)) | _ => []) = i.fields
  slice : (match P.underlying t with | some (.slice e) => e | _ => 0) = i.elem
structure Tab (P : Program) where
  get : Nat → Option TyI
  ok : ∀ t i, get t = some i → Good P t i
section
variable {P : Program} {w : World}
theorem Good.ti {t : Nat} {i : TyI} (h : Good P t i) : ∃ j z, P.info? t = some j ∧ j.zero = some z ∧ z.cells.toList = i.zero ∧ j.size = i.size ∧ j.bytes = i.bytes := by
  obtain ⟨j, hj, he⟩ := Option.map_eq_some_iff.1 h.info
  simp only [Prod.mk.injEq] at he
  obtain ⟨z, hz, hc⟩ := Option.map_eq_some_iff.1 he.1
  exact ⟨j, z, hj, hz, hc, he.2.1, he.2.2⟩
theorem Good.sizeOf {t : Nat} {i : TyI} (h : Good P t i) (w : World) : (Go.sizeOf t).run P w = .ok i.size w := by
  obtain ⟨j, z, hj, _, _, hs, _⟩ := h.ti
  simp [Go.sizeOf, typeInfo, hj, hs]
theorem Good.zeroV {t : Nat} {i : TyI} (h : Good P t i) (w : World) : ∃ z, (zeroValue t).run P w = .ok z w ∧ z.cells.toList = i.zero := by
  obtain ⟨j, z, hj, hz, hc, hs, _⟩ := h.ti
  exact ⟨z, by simp [zeroValue, typeInfo, hj, hz], hc⟩
theorem Good.isAgg {t : Nat} {i : TyI} (h : Good P t i) (w : World) : (Go.isAgg t).run P w = .ok i.agg w := by
  have h1 := h.agg
  simp only [Go.isAgg, underlying]
  cases hu : P.underlying t with
  | none => rw [hu] at h1; cases h1
  | some d =>
    rw [hu] at h1
    cases d <;> simp at h1 <;> simp [hu, ← h1]
theorem Good.sl {t : Nat} {i : TyI} (h : Good P t i) (he : i.elem ≠ 0) : P.underlying t = some (.slice i.elem) := by
  have h1 := h.slice
  cases hu : P.underlying t with
  | none => rw [hu] at h1; exact absurd h1.symm he
  | some d =>
    rw [hu] at h1
    cases d <;> simp at h1 <;> first | (exact absurd h1.symm he) | (rw [h1])
theorem Good.field {t : Nat} {i : TyI} (h : Good P t i) {k off sz : Nat} (hk : i.fields[k]? = some (off, sz)) (hs : sz ≠ 0) {v : Value} {a : Addr} (hv : v = .pointer (some a)) (w : World) :
    (Instr.fieldAt t v k).run P w = .ok (.pointer (some (a.add off))) w := by
  have h1 := h.flds
  subst hv
  cases hu : P.underlying t with
  | none => rw [hu] at h1; rw [← h1] at hk; simp at hk
  | some d =>
    rw [hu] at h1
    cases d <;> simp at h1 <;> try (rw [h1] at hk; simp at hk; done)
    case struct fs =>
      rw [← h1] at hk
      rw [List.getElem?_map, Option.map_eq_some_iff] at hk
      obtain ⟨f, hf, he⟩ := hk
      rw [Array.getElem?_toList] at hf
      simp only [Prod.mk.injEq] at he
      have hc : P.cellsOf f.type = sz := he.2
      have hinfo : ∃ j, P.info? f.type = some j ∧ j.size = sz := by
        unfold Program.cellsOf at hc
        cases hi : P.info? f.type with
        | none => rw [hi] at hc; exact absurd hc.symm (by simpa using hs)
        | some j => rw [hi] at hc; exact ⟨j, rfl, by simpa using hc⟩
      obtain ⟨j, hj, hjs⟩ := hinfo
      simp [Instr.fieldAt, underlying, hu, hf, Instr.sureAddr, fieldPlace, Go.sizeOf, typeInfo, hj, hjs, hs, he.1]
end
theorem add_add (a : Addr) (m n : Nat) : (a.add m).add n = a.add (m + n) := by
  unfold Addr.add
  by_cases h1 : m = 0
  · subst h1; simp
  · by_cases h2 : n = 0
    · subst h2; simp [h1]
    · rw [if_neg h1, if_neg h2, if_neg (by omega)]
      simp [Nat.add_assoc]
theorem add_zero (a : Addr) : a.add 0 = a := by simp [Addr.add]
theorem add_plain (g n : Nat) : (⟨g, 0, none⟩ : Addr).add n = ⟨g, n, none⟩ := by unfold Addr.add; split <;> simp_all
section
variable {P : Program} {N : Nat} {o : Oper} {b : Nat} {st : St} (D : Tab P)
def Flat (st : St) (lv : LV) (l : List LV) (pre : List Nat) : Prop :=
  ∀ (w0 w : World) (M : Fp) (U : Nat → Prop) (ρ : Nat → Value) (own : Nat → Option Nat) (o' : List (Nat × Ob)), (∀ i, i ∈ pre → o'.lookup i = st.o.lookup i) → HR w0 M U ρ own o' w → lv.used U ρ →
    (lv.val ρ).cells = (LV.vals ρ l).toArray ∧ LV.useds U ρ l ∧ (LV.vals ρ l).all (·.oneCell') = true
theorem flat_agg {l : List LV} : Flat st (.agg l) l [] := fun _ _ _ _ _ _ _ _ _ hu => ⟨rfl, hu.1, hu.2⟩
theorem cells_one {x : Value} (h : x.oneCell' = true) : x.cells = #[x] := by
  cases x <;> first | rfl | cases h
theorem flat_v {x : Value} (h : x.oneCell' = true) : Flat st (.v x) [.v x] [] := fun _ _ _ _ _ _ _ _ _ _ => ⟨cells_one h, ⟨trivial, trivial⟩, by simp [LV.vals, LV.val, h]⟩
theorem flat_p {i n : Nat} : Flat st (.p i n) [.p i n] [] := fun _ _ _ _ ρ _ _ _ _ hu => by
  obtain ⟨a, ha⟩ := hu.2
  exact ⟨by simp [LV.val, LV.vals, ptrOf, ha, Value.cells], ⟨hu, trivial⟩, by simp [LV.val, LV.vals, ptrOf, ha, Value.oneCell']⟩
theorem flat_fn {f : Nat} {l : List LV} : Flat st (.fn f l) [.fn f l] [] := fun _ _ _ _ _ _ _ _ _ hu => ⟨rfl, ⟨hu, trivial⟩, rfl⟩
theorem row_slice {w : World} {ρ : Nat → Value} {own : Nat → Option Nat} {i e sz : Nat} {rows : List (List Cell)} (h : RepOb w ρ own i (.row e sz rows)) : ∃ A c, ρ i = .slice A rows.length c := by
  obtain ⟨_, cells, h1, _⟩ := h
  rcases h1.2 with ⟨h2, h3⟩ | ⟨g, off, cap, cur, h2, _⟩
  · exact ⟨none, 0, by rw [h2, h3]⟩
  · exact ⟨_, cap, h2⟩
theorem fz_slice {w : World} {ρ : Nat → Value} {own : Nat → Option Nat} {i sz : Nat} {rows : List (List Cell)} (h : RepOb w ρ own i (.fz sz rows)) : ∃ A c, ρ i = .slice A rows.length c := by
  have h1 : Rd w (fun k => own k = none) (.sl sz rows) (ρ i) := h
  generalize ρ i = v at h1
  cases h1 with
  | sl sz rows A c => exact ⟨A, c, rfl⟩
theorem flat_row {i e sz : Nat} {rows : List (List Cell)} (h : st.o.lookup i = some (.row e sz rows)) : Flat st (.r i) [.r i] [i] := fun _ _ _ _ ρ _ o' hp hr hu => by
  obtain ⟨A, c, hA⟩ := row_slice (hr.ob i _ ((hp i (by simp)).trans h)).1
  exact ⟨by simp [LV.val, LV.vals, hA, Value.cells], ⟨hu, trivial⟩, by simp [LV.val, LV.vals, hA, Value.oneCell']⟩
theorem flat_fz {i sz : Nat} {rows : List (List Cell)} (h : st.o.lookup i = some (.fz sz rows)) : Flat st (.r i) [.r i] [i] := fun _ _ _ _ ρ _ o' hp hr hu => by
  obtain ⟨A, c, hA⟩ := fz_slice (hr.ob i _ ((hp i (by simp)).trans h)).1
  exact ⟨by simp [LV.val, LV.vals, hA, Value.cells], ⟨hu, trivial⟩, by simp [LV.val, LV.vals, hA, Value.oneCell']⟩
def upd1 {β : Type} (f : Nat → β) (i : Nat) (x : β) : Nat → β := fun j => if j = i then x else f j
theorem upd1_same {β : Type} (f : Nat → β) (i : Nat) (x : β) : upd1 f i x i = x := by simp [upd1]
theorem upd1_other {β : Type} (f : Nat → β) {i j : Nat} (x : β) (h : j ≠ i) : upd1 f i x j = f j := by simp [upd1, h]
theorem HR.newBox {w0 w : World} {M : Fp} {U : Nat → Prop} {ρ : Nat → Value} {own : Nat → Option Nat} {ob : List (Nat × Ob)} (hr : HR w0 M U ρ own ob w) (b t : Nat) (hb : ¬ U b) {l : List LV} (hl : LV.useds U ρ l) (h1 : (LV.vals ρ l).all (·.oneCell') = true) :
    HR w0 M (grow U b 1) (upd1 ρ b (.pointer (some ⟨w.heap.size, 0, none⟩))) (upd1 own w.heap.size (some b)) ([(b, .box t l)] ++ ob) (w.alloc (.cells (LV.vals ρ l).toArray t)) := by
  have hρ : ∀ i, U i → upd1 ρ b (.pointer (some ⟨w.heap.size, 0, none⟩)) i = ρ i := fun i hi => upd1_other _ _ (fun h => hb (h ▸ hi))
  refine hr.step (fun _ => False) rfl rfl rfl (by rw [World.size_alloc]; omega) (fun k hk _ => ⟨heap_alloc_old w _ hk, upd1_other _ _ (by omega)⟩) hρ (fun i hi => .inl hi) (fun _ h => h.elim) (fun i ob' hi => .inr (by rw [lookup_key hi]; exact hb)) (fun i ob' hi => ?_)
  simp only [List.lookup] at hi
  cases hq : i == b with
  | false => rw [hq] at hi; cases hi
  | true =>
    rw [hq] at hi
    obtain rfl : i = b := by simpa using hq
    obtain rfl : Ob.box t l = ob' := by injection hi
    refine ⟨⟨w.heap.size, upd1_same _ _ _, upd1_same _ _ _, ?_⟩, .inr ⟨Nat.le_refl _, by omega⟩, ⟨useds_mono hρ (fun i hi => .inl hi) l hl, by rw [useds_congr hρ l hl]; exact h1⟩⟩
    rw [heap_alloc_new w _, useds_congr hρ l hl]
theorem run_box (t : Nat) (v : Value) (w : World) : (Instr.box t v).run P w = .ok (.pointer (some ⟨w.heap.size, 0, none⟩)) (w.alloc (.cells v.cells t)) := by
  rfl
theorem T_box {t : Nat} {x : Operand} {lv : LV} {l : List LV} {pre : List Nat} (ho : o.op = .box t x) (hx : st.ev x = some lv) (hf : Flat st lv l pre) : T P N o b pre st (.p b 0) 1 [(b, .box t l)] := by
  intro w0 M U ρ own st' a w hev hp hfr fr hr
  obtain ⟨hv, hu⟩ := fr.eval ((hev x (by simp [ho, Op.operands])).trans hx)
  obtain ⟨hc, hul, h1⟩ := hf w0 w M U ρ own st'.o hp hr hu
  have hrun : (execOp a.eval o).run P w = .ok (.value (.pointer (some ⟨w.heap.size, 0, none⟩))) (w.alloc (.cells (LV.vals ρ l).toArray t)) := by
    simp only [execOp, ho, hv]
    rw [Sem.run_bind, run_box, hc]
    rfl
  refine does_value hrun ⟨upd1 ρ b (.pointer (some ⟨w.heap.size, 0, none⟩)), upd1 own w.heap.size (some b), ?_, fun i hi => upd1_other _ _ (fun h => hfr b (Nat.le_refl _) (by omega) (h ▸ hi)), ⟨.inr ⟨Nat.le_refl _, by omega⟩, ⟨⟨w.heap.size, 0, none⟩, by rw [upd1_same]; rfl⟩⟩, hr.newBox b t (hfr b (Nat.le_refl _) (by omega)) hul h1⟩
  simp [LV.val, ptrOf, upd1_same, base, add_zero]
theorem run_alloc {t : Nat} {i : TyI} (hg : Good P t i) (w : World) : (Instr.alloc t true (.tuple #[])).run P w = .ok (.pointer (some ⟨w.heap.size, 0, none⟩)) (w.alloc (.cells i.zero.toArray t)) := by
  obtain ⟨z, hz, hc⟩ := hg.zeroV w
  have hc' : z.cells = i.zero.toArray := by rw [← hc]
  simp only [Instr.alloc, Sem.run_bind, hz, Result.andThen]
  rw [← hc']
  rfl
theorem vals_v (ρ : Nat → Value) : ∀ l : List Value, LV.vals ρ (l.map .v) = l
  | [] => rfl
  | _ :: xs => by simp [LV.vals, LV.val, vals_v ρ xs]
theorem useds_v (U : Nat → Prop) (ρ : Nat → Value) : ∀ l : List Value, LV.useds U ρ (l.map .v)
  | [] => trivial
  | _ :: xs => ⟨trivial, useds_v U ρ xs⟩
theorem T_alloc {t : Nat} {i : TyI} (ho : o.op = .alloc t) (hi : D.get t = some i) (h1 : i.zero.all (·.oneCell') = true) : T P N o b [] st (.p b 0) 1 [(b, .box t (i.zero.map .v))] := by
  intro w0 M U ρ own st' a w hev hp hfr fr hr
  have hrun : (execOp a.eval o).run P w = .ok (.value (.pointer (some ⟨w.heap.size, 0, none⟩))) (w.alloc (.cells (LV.vals ρ (i.zero.map .v)).toArray t)) := by
    simp only [execOp, ho, vals_v]
    rw [Sem.run_bind, run_alloc (D.ok t i hi)]
    rfl
  refine does_value hrun ⟨upd1 ρ b (.pointer (some ⟨w.heap.size, 0, none⟩)), upd1 own w.heap.size (some b), ?_, fun i hi => upd1_other _ _ (fun h => hfr b (Nat.le_refl _) (by omega) (h ▸ hi)), ⟨.inr ⟨Nat.le_refl _, by omega⟩, ⟨⟨w.heap.size, 0, none⟩, by rw [upd1_same]; rfl⟩⟩, hr.newBox b t (hfr b (Nat.le_refl _) (by omega)) (useds_v U ρ i.zero) (by rw [vals_v]; exact h1)⟩
  simp [LV.val, ptrOf, upd1_same, base, add_zero]
theorem T_fieldAddr {t k i n off sz : Nat} {x : Operand} {ty : TyI} (ho : o.op = .fieldAddr t x k) (hx : st.ev x = some (.p i n)) (hi : D.get t = some ty) (hk : ty.fields[k]? = some (off, sz)) (hs : (sz == 0) = false) :
    T P N o b [] st (.p i (n + off)) 0 [] := by
  intro w0 M U ρ own st' a w hev hp hfr fr hr
  obtain ⟨hv, hu⟩ := fr.eval ((hev x (by simp [ho, Op.operands])).trans hx)
  obtain ⟨ad, had⟩ := hu.2
  have hpv : a.eval x = .pointer (some (ad.add n)) := by rw [hv]; simp [LV.val, ptrOf, had]
  have hrun : (execOp a.eval o).run P w = .ok (.value (.pointer (some (ad.add (n + off))))) w := by
    simp only [execOp, ho]
    rw [Sem.run_bind, (D.ok t ty hi).field hk (by simpa using hs) hpv, add_add]
    rfl
  refine does_value hrun ⟨ρ, own, by simp [LV.val, ptrOf, had], fun _ _ => rfl, ⟨.inl hu.1, hu.2⟩, hr.mono (fun i hi => .inl hi)⟩
theorem T_fieldAddr_e {t k i z j f off sz : Nat} {x : Operand} {ty : TyI} (ho : o.op = .fieldAddr t x k) (hx : st.ev x = some (.e i z j f)) (hi : D.get t = some ty) (hk : ty.fields[k]? = some (off, sz)) (hs : (sz == 0) = false) :
    T P N o b [] st (.e i z j (f + off)) 0 [] := by
  intro w0 M U ρ own st' a w hev hp hfr fr hr
  obtain ⟨hv, hu⟩ := fr.eval ((hev x (by simp [ho, Op.operands])).trans hx)
  obtain ⟨ad, had⟩ := hu.2
  have hpv : a.eval x = .pointer (some (ad.add (j * z + f))) := by rw [hv]; simp [LV.val, ptrOf, had]
  have hrun : (execOp a.eval o).run P w = .ok (.value (.pointer (some (ad.add (j * z + (f + off)))))) w := by
    simp only [execOp, ho]
    rw [Sem.run_bind, (D.ok t ty hi).field hk (by simpa using hs) hpv, add_add, Nat.add_assoc]
    rfl
  refine does_value hrun ⟨ρ, own, by simp [LV.val, ptrOf, had], fun _ _ => rfl, ⟨.inl hu.1, hu.2⟩, hr.mono (fun i hi => .inl hi)⟩
end
end Lg
end Go.Proofs.Ytpfhmodjjljpjaa

namespace Go.Proofs.Ytpfhmodjjljpjaa
open Go.RowKit
namespace Lg
set_option linter.unusedSimpArgs false
set_option linter.unusedVariables false
def Ob.rows? : Ob → Option (Nat × List (List Cell))
  | .row _ sz rows => some (sz, rows)
  | .fz sz rows => some (sz, rows)
  | _ => none
theorem elem_reads {w : World} {ρ : Nat → Value} {own : Nat → Option Nat} {i sz : Nat} {rows : List (List Cell)} {ob : Ob} (h : RepOb w ρ own i ob) (ho : ob.rows? = some (sz, rows)) {j f : Nat} {r : List Cell} {cl : Cell} (hj : rows[j]? = some r) (hf : r[f]? = some cl) :
    ∃ a u, base (ρ i) = some a ∧ w.cell? (a.add (j * sz + f)) = some u ∧ Rd w (fun k => own k = none) cl u := by
  cases ob with
  | no => cases ho
  | box t cs => cases ho
  | nest e e2 sz2 rows hole => cases ho
  | map l => cases ho
  | fz sz' rows' =>
    simp only [Ob.rows?, Option.some.injEq, Prod.mk.injEq] at ho
    obtain ⟨rfl, rfl⟩ := ho
    have h1 : Rd w (fun k => own k = none) (.sl sz' rows') (ρ i) := h
    generalize ρ i = v at h1
    cases h1 with
    | sl sz rows A c u hc hm hz hn hA hR =>
      obtain ⟨a, ha, _, hcell⟩ := hA j r f cl hj hf
      exact ⟨a, _, ha, hcell, hR j r f cl hj hf⟩
  | row e sz' rows' =>
    simp only [Ob.rows?, Option.some.injEq, Prod.mk.injEq] at ho
    obtain ⟨rfl, rfl⟩ := ho
    obtain ⟨h0, cells, h1, h2, h3⟩ := h
    obtain ⟨u, hu, hR⟩ := (h3.each j r hj).2 f cl hf
    have hlen : j < rows'.length := (List.getElem?_eq_some_iff.1 hj).1
    rcases h1.2 with ⟨_, h4⟩ | ⟨g, off, cap, cur, he, hh, r1, r2, r3, r4⟩
    · omega
    · refine ⟨⟨g, off, none⟩, u, by rw [he]; rfl, ?_, hR⟩
      exact h1.cells he _ _ hu
theorem rows_base {w : World} {ρ : Nat → Value} {own : Nat → Option Nat} {i sz : Nat} {rows : List (List Cell)} {ob : Ob} (h : RepOb w ρ own i ob) (ho : ob.rows? = some (sz, rows)) :
    ∃ A c, ρ i = .slice A rows.length c ∧ rows.length ≤ maxLen ∧ (0 < rows.length → ∃ a, A = some a) := by
  cases ob with
  | no => cases ho
  | box t cs => cases ho
  | nest e e2 sz2 rows hole => cases ho
  | map l => cases ho
  | fz sz' rows' =>
    simp only [Ob.rows?, Option.some.injEq, Prod.mk.injEq] at ho
    obtain ⟨rfl, rfl⟩ := ho
    have h1 : Rd w (fun k => own k = none) (.sl sz' rows') (ρ i) := h
    generalize ρ i = v at h1
    cases h1 with
    | sl sz rows A c u hc hm hz hn hA hR => exact ⟨A, c, rfl, hm, fun hp => hn (fun h => by subst h; simp at hp)⟩
  | row e sz' rows' =>
    simp only [Ob.rows?, Option.some.injEq, Prod.mk.injEq] at ho
    obtain ⟨rfl, rfl⟩ := ho
    obtain ⟨h0, cells, h1, h2, h3⟩ := h
    rcases h1.2 with ⟨h4, h5⟩ | ⟨g, off, cap, cur, he, hh, r1, r2, r3, r4⟩
    · exact ⟨none, 0, by rw [h4, h5], by simp [h5], fun hp => by omega⟩
    · exact ⟨_, cap, he, by omega, fun _ => ⟨_, rfl⟩⟩
theorem HR.addFz {w0 w : World} {M : Fp} {U : Nat → Prop} {ρ : Nat → Value} {own : Nat → Option Nat} {ob : List (Nat × Ob)} (hr : HR w0 M U ρ own ob w) (b : Nat) (hb : ¬ U b) {sz : Nat} {rows : List (List Cell)} {u : Value} (hu : Rd w (fun k => own k = none) (.sl sz rows) u) :
    HR w0 M (grow U b 1) (upd1 ρ b u) own ([(b, .fz sz rows)] ++ ob) w := by
  have hρ : ∀ i, U i → upd1 ρ b u i = ρ i := fun i hi => upd1_other _ _ (fun h => hb (h ▸ hi))
  refine hr.step (fun _ => False) rfl rfl rfl (Nat.le_refl _) (fun k hk _ => ⟨rfl, rfl⟩) hρ (fun i hi => .inl hi) (fun _ h => h.elim) (fun i ob' hi => .inr (by rw [lookup_key hi]; exact hb)) (fun i ob' hi => ?_)
  simp only [List.lookup] at hi
  cases hq : i == b with
  | false => rw [hq] at hi; cases hi
  | true =>
    rw [hq] at hi
    obtain rfl : i = b := by simpa using hq
    obtain rfl : Ob.fz sz rows = ob' := by injection hi
    refine ⟨?_, .inr ⟨Nat.le_refl _, by omega⟩, trivial⟩
    show Rd _ _ _ (upd1 ρ i u i)
    rw [upd1_same]
    exact hu
def cellsLV (b : Nat) : List Cell → List LV
  | [] => []
  | .v x :: r => .v x :: cellsLV b r
  | .sl _ _ :: r => .r b :: cellsLV (b + 1) r
def cellsOb (b : Nat) : List Cell → List (Nat × Ob)
  | [] => []
  | .v _ :: r => cellsOb b r
  | .sl sz rows :: r => cellsOb (b + 1) r ++ [(b, .fz sz rows)]
def cellsN : List Cell → Nat
  | [] => 0
  | .v _ :: r => cellsN r
  | .sl _ _ :: r => cellsN r + 1
theorem reads_cells {w0 w : World} {M : Fp} {own : Nat → Option Nat} : ∀ (cls : List Cell) (us : List Value) (b : Nat) (U : Nat → Prop) (ρ : Nat → Value) (ob : List (Nat × Ob)),
    us.length = cls.length → (∀ (j : Nat) (cl : Cell) (u : Value), cls[j]? = some cl → us[j]? = some u → Rd w (fun k => own k = none) cl u) → HR w0 M U ρ own ob w → (∀ i, b ≤ i → i < b + cellsN cls → ¬ U i) →
    ∃ ρ', LV.vals ρ' (cellsLV b cls) = us ∧ (∀ i, U i → ρ' i = ρ i) ∧ LV.useds (grow U b (cellsN cls)) ρ' (cellsLV b cls) ∧ HR w0 M (grow U b (cellsN cls)) ρ' own (cellsOb b cls ++ ob) w
  | [], us, b, U, ρ, ob, hl, hR, hr, hf => by
    obtain rfl : us = [] := List.eq_nil_of_length_eq_zero (by simpa using hl)
    exact ⟨ρ, rfl, fun _ _ => rfl, trivial, hr.mono (fun i hi => .inl hi)⟩
  | .v x :: cls, us, b, U, ρ, ob, hl, hR, hr, hf => by
    cases us with
    | nil => simp at hl
    | cons u us =>
      have h0 : u = x := by
        have := hR 0 _ _ rfl rfl
        cases this with
        | v _ h => rfl
      subst h0
      obtain ⟨ρ', h1, h2, h3, h4⟩ := reads_cells cls us b U ρ ob (by simpa using hl) (fun j cl u' hj hu => hR (j + 1) cl u' (by simpa using hj) (by simpa using hu)) hr (fun i h1 h2 => hf i h1 (by simpa [cellsN] using h2))
      exact ⟨ρ', by simp [cellsLV, LV.vals, LV.val, h1], h2, ⟨trivial, by simpa [cellsN] using h3⟩, by simpa [cellsOb, cellsN] using h4⟩
  | .sl sz rows :: cls, us, b, U, ρ, ob, hl, hR, hr, hf => by
    cases us with
    | nil => simp at hl
    | cons u us =>
      have h0 : Rd w (fun k => own k = none) (.sl sz rows) u := hR 0 _ _ rfl rfl
      have hb : ¬ U b := hf b (Nat.le_refl _) (by simp [cellsN])
      have hr1 := hr.addFz b hb h0
      obtain ⟨ρ', h1, h2, h3, h4⟩ := reads_cells cls us (b + 1) (grow U b 1) (upd1 ρ b u) ([(b, .fz sz rows)] ++ ob) (by simpa using hl) (fun j cl u' hj hu => hR (j + 1) cl u' (by simpa using hj) (by simpa using hu)) hr1
        (fun i h1 h2 h3 => by
          rcases h3 with h3 | h3
          · exact hf i (by omega) (by simp only [cellsN]; omega) h3
          · omega)
      have hg : ∀ i, grow (grow U b 1) (b + 1) (cellsN cls) i → grow U b (cellsN (.sl sz rows :: cls)) i := fun i hi => by
        unfold grow at hi ⊢
        simp only [cellsN]
        rcases hi with (hi | hi) | hi
        · exact .inl hi
        · exact .inr (by omega)
        · exact .inr (by omega)
      refine ⟨ρ', ?_, fun i hi => (h2 i (.inl hi)).trans (upd1_other _ _ (fun h => hb (h ▸ hi))), ⟨hg b (.inl (.inr ⟨Nat.le_refl _, by omega⟩)), useds_mono (fun _ _ => rfl) hg _ h3⟩, ?_⟩
      · simp only [cellsLV, LV.vals, LV.val, h1]
        rw [h2 b (.inr ⟨Nat.le_refl _, by omega⟩), upd1_same]
      · have h5 := h4.mono hg
        simpa [cellsOb] using h5
theorem map_get {α β : Type} [Inhabited α] {enc : α → β} {xs : List α} {j : Nat} (h : j < xs.length) : (xs.map enc)[j]? = some (enc (xs.getD j default)) := by
  simp [List.getD_eq_getElem?_getD, List.getElem?_eq_getElem h]
section
variable {P : Program} {N : Nat} {o : Oper} {b : Nat} {st : St} (D : Tab P)
theorem run_load1 {t : Nat} {ty : TyI} (hg : Good P t ty) (ha : ty.agg = false) {a : Addr} {v pv : Value} (hp : pv = .pointer (some a)) {w : World} (hc : w.cell? a = some v) : (Instr.loadAt t pv).run P w = .ok v w := by
  subst hp
  have := hg.isAgg w
  rw [ha] at this
  simp only [Instr.loadAt, Instr.sureAddr, Sem.run_bind, Sem.run_pure, Result.andThen_ok, loadVar, this]
  simp [run_load, hc]
theorem run_loadA {t : Nat} {ty : TyI} (hg : Good P t ty) (ha : ty.agg = true) {a : Addr} {cs : List Value} {pv : Value} (hp : pv = .pointer (some a)) {w : World} (hl : cs.length = ty.size) (hc : ∀ j v, cs[j]? = some v → w.cell? (a.add j) = some v) : (Instr.loadAt t pv).run P w = .ok (.agg cs.toArray) w := by
  subst hp
  have h1 := hg.isAgg w
  have h2 := hg.sizeOf w
  rw [ha] at h1
  simp only [Instr.loadAt, Instr.sureAddr, Sem.run_bind, Sem.run_pure, Result.andThen_ok, loadVar, h1, h2, if_true, ← hl, run_loadCells_list w a cs hc]
theorem box_cell {w : World} {ρ : Nat → Value} {own : Nat → Option Nat} {i t : Nat} {cs : List LV} (h : RepOb w ρ own i (.box t cs)) {a : Addr} (ha : base (ρ i) = some a) {n : Nat} {lv : LV} (hn : cs[n]? = some lv) : w.cell? (a.add n) = some (lv.val ρ) := by
  obtain ⟨g, h1, h2, h3⟩ := h
  rw [h1] at ha
  obtain rfl : (⟨g, 0, none⟩ : Addr) = a := by simpa [base] using ha
  rw [add_plain]
  simp [World.cell?, h3, vals_getElem?, hn]
theorem T_load_b {t i n : Nat} {x : Operand} {bt : Nat} {cs : List LV} {lv : LV} {ty : TyI} (ho : o.op = .load t x) (hx : st.ev x = some (.p i n)) (hob : st.o.lookup i = some (.box bt cs)) (hi : D.get t = some ty) (ha : ty.agg = false) (hc : cs[n]? = some lv) :
    T P N o b [i] st lv 0 [] := by
  intro w0 M U ρ own st' a w hev hp hfr fr hr
  obtain ⟨hv, hu⟩ := fr.eval ((hev x (by simp [ho, Op.operands])).trans hx)
  obtain ⟨ad, had⟩ := hu.2
  obtain ⟨h1, h2, h3⟩ := hr.ob i _ ((hp i (by simp)).trans hob)
  have hrun : (execOp a.eval o).run P w = .ok (.value (lv.val ρ)) w := by
    simp only [execOp, ho]
    rw [Sem.run_bind, run_load1 (D.ok t ty hi) ha (a := ad.add n) (by rw [hv]; simp [LV.val, ptrOf, had]) (box_cell h1 had hc)]
    rfl
  exact does_value hrun ⟨ρ, own, rfl, fun _ _ => rfl, used_mono (fun _ _ => rfl) (fun i hi => .inl hi) lv (useds_iff.1 h3.1 lv (List.mem_of_getElem? hc)), hr.mono (fun i hi => .inl hi)⟩
theorem T_load_bA {t i n : Nat} {x : Operand} {bt : Nat} {cs l : List LV} {ty : TyI} (ho : o.op = .load t x) (hx : st.ev x = some (.p i n)) (hob : st.o.lookup i = some (.box bt cs)) (hi : D.get t = some ty) (ha : ty.agg = true) (hl : (cs.drop n).take ty.size = l) (hn : l.length = ty.size) :
    T P N o b [i] st (.agg l) 0 [] := by
  intro w0 M U ρ own st' a w hev hp hfr fr hr
  obtain ⟨hv, hu⟩ := fr.eval ((hev x (by simp [ho, Op.operands])).trans hx)
  obtain ⟨ad, had⟩ := hu.2
  obtain ⟨h1, h2, h3⟩ := hr.ob i _ ((hp i (by simp)).trans hob)
  have hrun : (execOp a.eval o).run P w = .ok (.value (LV.val ρ (.agg l))) w := by
    simp only [execOp, ho]
    rw [Sem.run_bind, run_loadA (D.ok t ty hi) ha (a := ad.add n) (cs := LV.vals ρ l) (by rw [hv]; simp [LV.val, ptrOf, had]) (by rw [vals_length]; exact hn) (fun j v hj => ?_)]
    · rfl
    · rw [vals_getElem?, Option.map_eq_some_iff] at hj
      obtain ⟨lv, hlv, rfl⟩ := hj
      rw [add_add]
      refine box_cell h1 had ?_
      rw [← hl, List.getElem?_take] at hlv
      split at hlv
      · rwa [List.getElem?_drop] at hlv
      · cases hlv
  have hmem : ∀ lv, lv ∈ l → lv ∈ cs := fun lv hlv => by
    rw [← hl] at hlv
    exact List.mem_of_mem_drop (List.mem_of_mem_take hlv)
  refine does_value hrun ⟨ρ, own, rfl, fun _ _ => rfl, ⟨?_, ?_⟩, hr.mono (fun i hi => .inl hi)⟩
  · rw [useds_iff]
    exact fun lv hlv => used_mono (fun _ _ => rfl) (fun i hi => .inl hi) lv (useds_iff.1 h3.1 lv (hmem lv hlv))
  · have h4 := h3.2
    rw [vals_eq_map, List.all_map, List.all_eq_true] at h4 ⊢
    exact fun lv hlv => h4 lv (hmem lv hlv)
theorem T_load_e {α : Type} [Inhabited α] {enc : α → List Cell} {xs : List α} {t i sz j f : Nat} {x : Operand} {cl : Cell} {ty : TyI} (ho : o.op = .load t x) (hx : st.ev x = some (.e i sz j f)) (hob : (st.o.lookup i).bind Ob.rows? = some (sz, xs.map enc)) (hi : D.get t = some ty) (ha : ty.agg = false)
    (hj : j < xs.length) (hf : (enc (xs.getD j default))[f]? = some cl) {lv : LV} (hlv : cellsLV b [cl] = [lv]) : T P N o b [i] st lv (cellsN [cl]) (cellsOb b [cl]) := by
  intro w0 M U ρ own st' a w hev hp hfr fr hr
  obtain ⟨hv, hu⟩ := fr.eval ((hev x (by simp [ho, Op.operands])).trans hx)
  obtain ⟨ob, hob1, hob2⟩ := Option.bind_eq_some_iff.1 hob
  obtain ⟨h1, h2, h3⟩ := hr.ob i _ ((hp i (by simp)).trans hob1)
  obtain ⟨ad, u, had, hcell, hR⟩ := elem_reads h1 hob2 (map_get hj) hf
  obtain ⟨ρ', g1, g2, g3, g4⟩ := reads_cells [cl] [u] b U ρ st'.o rfl (fun j' cl' u' hj' hu' => by
    cases j' with
    | zero => simp at hj' hu'; subst hj'; subst hu'; exact hR
    | succ j' => simp at hj') hr hfr
  rw [hlv] at g1 g3
  have hrun : (execOp a.eval o).run P w = .ok (.value u) w := by
    simp only [execOp, ho]
    rw [Sem.run_bind, run_load1 (D.ok t ty hi) ha (a := ad.add (j * sz + f)) (by rw [hv]; simp [LV.val, ptrOf, had]) hcell]
    rfl
  have hu' : u = lv.val ρ' := by simpa [LV.vals] using g1.symm
  exact does_value hrun ⟨ρ', own, hu', g2, g3.1, g4⟩
theorem T_load_eA {α : Type} [Inhabited α] {enc : α → List Cell} {xs : List α} {t i sz j f : Nat} {x : Operand} {cls : List Cell} {ty : TyI} (ho : o.op = .load t x) (hx : st.ev x = some (.e i sz j f)) (hob : (st.o.lookup i).bind Ob.rows? = some (sz, xs.map enc)) (hi : D.get t = some ty) (ha : ty.agg = true)
    (hj : j < xs.length) (hf : ((enc (xs.getD j default)).drop f).take ty.size = cls) (hn : cls.length = ty.size) : T P N o b [i] st (.agg (cellsLV b cls)) (cellsN cls) (cellsOb b cls) := by
  intro w0 M U ρ own st' a w hev hp hfr fr hr
  obtain ⟨hv, hu⟩ := fr.eval ((hev x (by simp [ho, Op.operands])).trans hx)
  obtain ⟨ad, had⟩ := hu.2
  obtain ⟨ob, hob1, hob2⟩ := Option.bind_eq_some_iff.1 hob
  obtain ⟨h1, h2, h3⟩ := hr.ob i _ ((hp i (by simp)).trans hob1)
  have hcl : ∀ q cl, cls[q]? = some cl → (enc (xs.getD j default))[f + q]? = some cl := fun q cl hq => by
    rw [← hf, List.getElem?_take] at hq
    split at hq
    · rwa [List.getElem?_drop] at hq
    · cases hq
  have hex : ∀ q : Nat, ∃ u : Value, ∀ cl, cls[q]? = some cl → w.cell? (ad.add (j * sz + (f + q))) = some u ∧ Rd w (fun k => own k = none) cl u := fun q => by
    cases hq : cls[q]? with
    | none => exact ⟨undef, fun cl h => by cases h⟩
    | some cl =>
      obtain ⟨ad', u, had', hcell, hR⟩ := elem_reads h1 hob2 (map_get hj) (hcl q cl hq)
      rw [had] at had'
      cases had'
      exact ⟨u, fun cl' h => by cases h; exact ⟨hcell, hR⟩⟩
  let us : List Value := (List.range cls.length).map fun q => (hex q).choose
  have hus : ∀ q u, us[q]? = some u → q < cls.length ∧ u = (hex q).choose := fun q u hq => by
    simp only [us, List.getElem?_map] at hq
    obtain ⟨q', h1, h2⟩ := Option.map_eq_some_iff.1 hq
    have hq' := List.getElem?_eq_some_iff.1 h1
    obtain ⟨h3, h4⟩ := hq'
    simp at h3 h4
    subst h4
    exact ⟨h3, h2.symm⟩
  obtain ⟨ρ', g1, g2, g3, g4⟩ := reads_cells cls us b U ρ st'.o (by simp [us]) (fun q cl u hq hu => by
    obtain ⟨_, rfl⟩ := hus q u hu
    exact ((hex q).choose_spec cl hq).2) hr hfr
  have hrun : (execOp a.eval o).run P w = .ok (.value (.agg us.toArray)) w := by
    simp only [execOp, ho]
    rw [Sem.run_bind, run_loadA (D.ok t ty hi) ha (a := ad.add (j * sz + f)) (cs := us) (by rw [hv]; simp [LV.val, ptrOf, had]) (by simp [us, hn]) (fun q v hq => ?_)]
    · rfl
    · obtain ⟨h4, rfl⟩ := hus q v hq
      rw [add_add, Nat.add_assoc]
      exact ((hex q).choose_spec _ (List.getElem?_eq_getElem h4)).1
  refine does_value hrun ⟨ρ', own, by simp [LV.val, g1], g2, ⟨g3, ?_⟩, g4⟩
  rw [g1, List.all_eq_true]
  intro u hu
  obtain ⟨q, hq⟩ := List.getElem?_of_mem hu
  obtain ⟨h4, rfl⟩ := hus q u hq
  exact ((hex q).choose_spec _ (List.getElem?_eq_getElem h4)).2.one
theorem run_indexAddr {t : Nat} {ty ety : TyI} (hg : Good P t ty) (he0 : ty.elem ≠ 0) (he : Good P ty.elem ety) {A : Addr} {n c : Nat} {k : IntKind} {i : Int} (h0 : 0 ≤ i) (h1 : i < n) (w : World) :
    (Instr.indexAt t (.slice (some A) n c) (.int k i)).run P w = .ok (.pointer (some (A.add (i.toNat * ety.size)))) w := by
  simp only [Instr.indexAt, asIntOf, Sem.run_bind, Sem.run_pure, Result.andThen_ok, run_underlying (hg.sl he0), if_pos (And.intro h0 h1), he.sizeOf]
theorem T_indexAddr {α : Type} {enc : α → List Cell} {xs : List α} {t i sz : Nat} {x y : Operand} {k : IntKind} {j : Nat} {ty ety : TyI} (ho : o.op = .indexAddr t x y) (hx : st.ev x = some (.r i)) (hob : (st.o.lookup i).bind Ob.rows? = some (sz, xs.map enc)) (hy : st.ev y = some (.v (.int k (j : Int))))
    (hi : D.get t = some ty) (he0 : (ty.elem == 0) = false) (he : D.get ty.elem = some ety) (hs : ety.size = sz) (h1 : j < xs.length) : T P N o b [i] st (.e i sz j 0) 0 [] := by
  intro w0 M U ρ own st' a w hev hp hfr fr hr
  obtain ⟨hv, hu⟩ := fr.eval ((hev x (by simp [ho, Op.operands])).trans hx)
  obtain ⟨hv2, _⟩ := fr.eval ((hev y (by simp [ho, Op.operands])).trans hy)
  obtain ⟨ob, hob1, hob2⟩ := Option.bind_eq_some_iff.1 hob
  obtain ⟨g1, g2, g3⟩ := hr.ob i _ ((hp i (by simp)).trans hob1)
  obtain ⟨A, c, hA, hm, hn⟩ := rows_base g1 hob2
  rw [List.length_map] at hA hm hn
  obtain ⟨ad, rfl⟩ := hn (by omega)
  have hb : base (ρ i) = some ad := by rw [hA]; rfl
  have hrun : (execOp a.eval o).run P w = .ok (.value (.pointer (some (ad.add (j * sz))))) w := by
    simp only [execOp, ho, hv, hv2, LV.val, hA]
    rw [Sem.run_bind, run_indexAddr (D.ok t ty hi) (by simpa using he0) (D.ok _ ety he) (Int.natCast_nonneg j) (by omega), hs]
    rfl
  exact does_value hrun ⟨ρ, own, by simp [LV.val, ptrOf, hb], fun _ _ => rfl, ⟨.inl hu, ad, hb⟩, hr.mono (fun i hi => .inl hi)⟩
theorem T_indexAddrZ {α : Type} {enc : α → List Cell} {xs : List α} {t i sz : Nat} {x y : Operand} {k : IntKind} {j : Int} {ty ety : TyI} (ho : o.op = .indexAddr t x y) (hx : st.ev x = some (.r i)) (hob : (st.o.lookup i).bind Ob.rows? = some (sz, xs.map enc)) (hy : st.ev y = some (.v (.int k j)))
    (hi : D.get t = some ty) (he0 : (ty.elem == 0) = false) (he : D.get ty.elem = some ety) (hs : ety.size = sz) (h0 : 0 ≤ j) (h1 : j < (xs.length : Int)) : T P N o b [i] st (.e i sz j.toNat 0) 0 [] := by
  obtain ⟨n, rfl⟩ := Int.eq_ofNat_of_zero_le h0
  exact T_indexAddr D ho hx hob hy hi he0 he hs (by omega)
theorem T_len {α : Type} {enc : α → List Cell} {xs : List α} {t tt i sz : Nat} {x : Operand} {ty : TyI} (ho : o.op = .call { callee := .builtin .len, args := #[x], argTypes := #[t] }) (hx : st.ev x = some (.r i)) (hob : (st.o.lookup i).bind Ob.rows? = some (sz, xs.map enc))
    (hi : D.get t = some ty) (he0 : (ty.elem == 0) = false) (_htt : o.type = tt) : T P N o b [i] st (.v (.int .i64 (xs.length : Int))) 0 [] := by
  intro w0 M U ρ own st' a w hev hp hfr fr hr
  obtain ⟨hv, hu⟩ := fr.eval ((hev x (by simp [ho, Op.operands, Call.operands])).trans hx)
  obtain ⟨ob, hob1, hob2⟩ := Option.bind_eq_some_iff.1 hob
  obtain ⟨g1, g2, g3⟩ := hr.ob i _ ((hp i (by simp)).trans hob1)
  obtain ⟨A, c, hA, hm, hn⟩ := rows_base g1 hob2
  rw [List.length_map] at hA
  have hu' := (D.ok t ty hi).sl (by simpa using he0)
  have hrun : (execOp a.eval o).run P w = .ok (.value (.int .i64 (xs.length : Int))) w := by
    simp [execOp, ho, resolve, invoke, builtin, hv, LV.val, hA, Builtin.len_, run_underlying hu', goInt]
  exact does_value hrun ⟨ρ, own, rfl, fun _ _ => rfl, trivial, hr.mono (fun i hi => .inl hi)⟩
theorem T_len_nil {t : Nat} {x : Operand} {ty : TyI} (ho : o.op = .call { callee := .builtin .len, args := #[x], argTypes := #[t] }) (hx : st.ev x = some (.v (.slice none 0 0)))
    (hi : D.get t = some ty) (he0 : (ty.elem == 0) = false) : T P N o b [] st (.v (.int .i64 0)) 0 [] := by
  have hu' := (D.ok t ty hi).sl (by simpa using he0)
  exact T_pure (fun ρ ev w hev => by
    have h1 := hev x _ (by simp [ho, Op.operands, Call.operands]) hx
    simp [execOp, ho, resolve, invoke, builtin, h1, LV.val, Builtin.len_, run_underlying hu', goInt]) (fun _ _ _ => trivial)
end
end Lg
end Go.Proofs.Ytpfhmodjjljpjaa

namespace Go.Proofs.Ytpfhmodjjljpjaa
open Go.RowKit
namespace Lg
set_option linter.unusedSimpArgs false
set_option linter.unusedVariables false
theorem rd_of_row {w : World} {ρ : Nat → Value} {own : Nat → Option Nat} {i e sz : Nat} {rows : List (List Cell)} (h : RepOb w ρ own i (.row e sz rows)) {ok : Nat → Prop} (hok : ∀ k, own k = none ∨ own k = some i → ok k) : Rd w ok (.sl sz rows) (ρ i) := by
  obtain ⟨h0, cells, h1, h2, h3⟩ := h
  have hz : ∀ r ∈ rows, r.length = sz := fun r hr => by
    obtain ⟨j, hj⟩ := List.getElem?_of_mem hr
    exact (h3.each j r hj).1
  rcases h1.2 with ⟨h4, h5⟩ | ⟨g, off, cap, cur, he, hh, r1, r2, r3, r4⟩
  · rw [h4]
    have hr : rows = [] := List.eq_nil_of_length_eq_zero h5
    subst hr
    exact .sl sz [] none 0 (fun _ _ => undef) (Nat.le_refl _) (by simp) hz (fun h => absurd rfl h) (fun i r j cl h => by simp at h) (fun i r j cl h => by simp at h)
  · have hcell : ∀ q u, cells[q]? = some u → w.cell? ((⟨g, off, none⟩ : Addr).add q) = some u := fun q u hq => h1.cells he _ _ hq
    rw [he]
    refine .sl sz rows _ cap (fun j f => cells.getD (j * sz + f) undef) r1 (by omega) hz (fun _ => ⟨_, rfl⟩) (fun j r f cl hj hf => ?_) (fun j r f cl hj hf => ?_)
    · obtain ⟨u, hu, hR⟩ := (h3.each j r hj).2 f cl hf
      refine ⟨_, rfl, hok g (.inr (h2 g (by rw [he]; rfl))), ?_⟩
      rw [hcell _ _ hu, List.getD_eq_getElem?_getD, hu]
      rfl
    · obtain ⟨u, hu, hR⟩ := (h3.each j r hj).2 f cl hf
      rw [List.getD_eq_getElem?_getD, hu]
      exact hR.mono (fun k hk _ => ⟨hok k (.inl hk), rfl⟩)
theorem rd_owns {w : World} {e sz : Nat} {rows : List (List Cell)} {v : Value} {cells : List Value} {ok ok' : Nat → Prop} (h1 : OwnsR w e sz v rows.length cells) (h2 : ∀ k, v.ownBlock = some k → ok k) (h3 : RowsRd w ok' sz rows cells) (hok : ∀ k, ok' k → ok k) : Rd w ok (.sl sz rows) v := by
  have hz : ∀ r ∈ rows, r.length = sz := fun r hr => by
    obtain ⟨j, hj⟩ := List.getElem?_of_mem hr
    exact (h3.each j r hj).1
  rcases h1.2 with ⟨h4, h5⟩ | ⟨g, off, cap, cur, he, hh, r1, r2, r3, r4⟩
  · rw [h4]
    have hr : rows = [] := List.eq_nil_of_length_eq_zero h5
    subst hr
    exact .sl sz [] none 0 (fun _ _ => undef) (Nat.le_refl _) (by simp) hz (fun h => absurd rfl h) (fun i r j cl h => by simp at h) (fun i r j cl h => by simp at h)
  · have hcell : ∀ q u, cells[q]? = some u → w.cell? ((⟨g, off, none⟩ : Addr).add q) = some u := fun q u hq => h1.cells he _ _ hq
    rw [he]
    refine .sl sz rows _ cap (fun j f => cells.getD (j * sz + f) undef) r1 (by omega) hz (fun _ => ⟨_, rfl⟩) (fun j r f cl hj hf => ?_) (fun j r f cl hj hf => ?_)
    · obtain ⟨u, hu, hR⟩ := (h3.each j r hj).2 f cl hf
      refine ⟨_, rfl, h2 g (by rw [he]; rfl), ?_⟩
      rw [hcell _ _ hu, List.getD_eq_getElem?_getD, hu]
      rfl
    · obtain ⟨u, hu, hR⟩ := (h3.each j r hj).2 f cl hf
      rw [List.getD_eq_getElem?_getD, hu]
      exact hR.mono (fun k hk _ => ⟨hok k hk, rfl⟩)
def nestRows (sz2 : Nat) (rows : List (List (List Cell))) : List (List Cell) := rows.map fun r => [.sl sz2 r]
theorem rd_of_nest {w : World} {ρ : Nat → Value} {own : Nat → Option Nat} {i e e2 sz2 : Nat} {rows : List (List (List Cell))} (h : RepOb w ρ own i (.nest e e2 sz2 rows none)) {ok : Nat → Prop} (hok : ∀ k, own k = none ∨ own k = some i → ok k) : Rd w ok (.sl 1 (nestRows sz2 rows)) (ρ i) := by
  obtain ⟨vs, hN⟩ := h
  have hlen : (nestRows sz2 rows).length = rows.length := by simp [nestRows]
  have hv : vs.length = rows.length * 1 := hN.out.1
  refine rd_owns (ok' := ok) (hlen ▸ hN.out) (fun k hk => hok k (.inr (hN.blk k hk))) ⟨by rw [hv, hlen], fun j r hj => ?_⟩ (fun _ h => h)
  simp only [nestRows, List.getElem?_map, Option.map_eq_some_iff] at hj
  obtain ⟨x, hx, rfl⟩ := hj
  refine ⟨rfl, fun f cl hf => ?_⟩
  cases f with
  | succ f => simp at hf
  | zero =>
    simp only [List.getElem?_cons_zero, Option.some.injEq] at hf
    subst hf
    have hj2 : j < vs.length := by rw [hv]; have := (List.getElem?_eq_some_iff.1 hx).1; omega
    obtain ⟨cells, g1, g2, g3⟩ := hN.inn j x vs[j] hx (List.getElem?_eq_getElem hj2) (fun b hb => by cases hb)
    exact ⟨vs[j], by simp [List.getElem?_eq_getElem hj2], rd_owns (ok' := fun k => own k = none) g1 (fun k hk => hok k (.inr (g3 k hk).1)) g2 (fun k hk => hok k (.inl hk))⟩
def thaw (own : Nat → Option Nat) (i : Nat) : Nat → Option Nat := fun k => if own k = some i then none else own k
theorem thaw_none {own : Nat → Option Nat} {i k : Nat} (h : own k = none ∨ own k = some i) : thaw own i k = none := by
  unfold thaw
  rcases h with h | h <;> simp [h]
theorem thaw_other {own : Nat → Option Nat} {i k : Nat} (h : own k ≠ some i) : thaw own i k = own k := by simp [thaw, h]
theorem HR.freeze {w0 w : World} {M : Fp} {U : Nat → Prop} {ρ : Nat → Value} {own : Nat → Option Nat} {ob : List (Nat × Ob)} (hr : HR w0 M U ρ own ob w) {i e sz : Nat} {rows : List (List Cell)} (hi : ob.lookup i = some (.row e sz rows)) :
    HR w0 M U ρ (thaw own i) ([(i, .fz sz rows)] ++ ob) w := by
  obtain ⟨h1, h2, h3⟩ := hr.ob i _ hi
  refine hr.step (fun j => j = i) rfl rfl rfl (Nat.le_refl _) (fun k hk hj => ⟨rfl, thaw_other (fun h => hj i h rfl)⟩) (fun _ _ => rfl) (fun _ h => h) (fun j hj => ⟨.fz sz rows, by simp [List.lookup, hj]⟩) (fun j ob' hj => .inl (by rw [lookup_key hj]; exact ⟨_, hi⟩)) (fun j ob' hj => ?_)
  simp only [List.lookup] at hj
  cases hq : j == i with
  | false => rw [hq] at hj; cases hj
  | true =>
    rw [hq] at hj
    obtain rfl : j = i := by simpa using hq
    obtain rfl : Ob.fz sz rows = ob' := by injection hj
    exact ⟨rd_of_row h1 (fun k hk => thaw_none hk), h2, trivial⟩
theorem HR.congr {w0 w : World} {M : Fp} {U : Nat → Prop} {ρ : Nat → Value} {own : Nat → Option Nat} {ob ob' : List (Nat × Ob)} (hr : HR w0 M U ρ own ob w) (h : ∀ i, ob'.lookup i = ob.lookup i) : HR w0 M U ρ own ob' w :=
  ⟨fun i b hi => hr.ob i b ((h i).symm.trans hi), hr.gr, hr.fr, (h 0).trans hr.z, hr.z0, hr.ag⟩
inductive CellsOf (o : List (Nat × Ob)) : List LV → List Cell → List Nat → List (Nat × Ob) → Prop
  | nil : CellsOf o [] [] [] []
  | v {x : Value} {l cls pre frz} (h : x.oneCell' = true) (t : CellsOf o l cls pre frz) : CellsOf o (.v x :: l) (.v x :: cls) pre frz
  | z {sz : Nat} {l cls pre frz} (t : CellsOf o l cls pre frz) : CellsOf o (.v (.slice none 0 0) :: l) (.sl sz [] :: cls) pre frz
  | fz {i sz : Nat} {rows l cls pre frz} (h : o.lookup i = some (.fz sz rows)) (t : CellsOf o l cls pre frz) : CellsOf o (.r i :: l) (.sl sz rows :: cls) (i :: pre) frz
  | row {i e sz : Nat} {rows l cls pre frz} (h : o.lookup i = some (.row e sz rows)) (t : CellsOf o l cls pre frz) (hn : frz.lookup i = none) : CellsOf o (.r i :: l) (.sl sz rows :: cls) (i :: pre) ((i, .fz sz rows) :: frz)
theorem nil_reads (w : World) (ok : Nat → Prop) (sz : Nat) : Rd w ok (.sl sz []) (.slice none 0 0) :=
  .sl sz [] none 0 (fun _ _ => undef) (Nat.le_refl _) (by simp) (fun r h => by simp at h) (fun h => absurd rfl h) (fun i r j cl h => by simp at h) (fun i r j cl h => by simp at h)
theorem cells_of {o : List (Nat × Ob)} {l : List LV} {cls : List Cell} {pre : List Nat} {frz : List (Nat × Ob)} (h : CellsOf o l cls pre frz) :
    ∀ (w0 w : World) (M : Fp) (U : Nat → Prop) (ρ : Nat → Value) (own : Nat → Option Nat) (o' : List (Nat × Ob)), (∀ i, i ∈ pre → o'.lookup i = o.lookup i) → HR w0 M U ρ own o' w →
    ∃ own', HR w0 M U ρ own' (frz ++ o') w ∧ (LV.vals ρ l).length = cls.length ∧ (∀ k, own k = none → own' k = none) ∧ (∀ k j, own' k = some j → own k = some j) ∧
      (∀ k j, own k = some j → frz.lookup j = none → own' k = some j) ∧ ∀ (j : Nat) (cl : Cell) (u : Value), cls[j]? = some cl → (LV.vals ρ l)[j]? = some u → Rd w (fun k => own' k = none) cl u := by
  induction h with
  | nil => exact fun w0 w M U ρ own o' hp hr => ⟨own, hr, rfl, fun _ h => h, fun _ _ h => h, fun _ _ h _ => h, fun j cl u h => by simp at h⟩
  | @v x l cls pre frz hx t ih =>
    intro w0 w M U ρ own o' hp hr
    obtain ⟨own', h1, h2, h3, h4, h5, h6⟩ := ih w0 w M U ρ own o' hp hr
    refine ⟨own', h1, by simp [LV.vals, h2], h3, h4, h5, fun j cl u hj hu => ?_⟩
    cases j with
    | zero =>
      simp [LV.vals, LV.val] at hj hu
      subst hj; subst hu
      exact .v x hx
    | succ j => exact h6 j cl u (by simpa using hj) (by simpa [LV.vals] using hu)
  | @z sz l cls pre frz t ih =>
    intro w0 w M U ρ own o' hp hr
    obtain ⟨own', h1, h2, h3, h4, h5, h6⟩ := ih w0 w M U ρ own o' hp hr
    refine ⟨own', h1, by simp [LV.vals, h2], h3, h4, h5, fun j cl u hj hu => ?_⟩
    cases j with
    | zero =>
      simp [LV.vals, LV.val] at hj hu
      subst hj; subst hu
      exact nil_reads w _ sz
    | succ j => exact h6 j cl u (by simpa using hj) (by simpa [LV.vals] using hu)
  | @fz i sz rows l cls pre frz hi t ih =>
    intro w0 w M U ρ own o' hp hr
    obtain ⟨own', h1, h2, h3, h4, h5, h6⟩ := ih w0 w M U ρ own o' (fun j hj => hp j (List.mem_cons_of_mem _ hj)) hr
    have hb := (hr.ob i _ ((hp i List.mem_cons_self).trans hi)).1
    refine ⟨own', h1, by simp [LV.vals, h2], h3, h4, h5, fun j cl u hj hu => ?_⟩
    cases j with
    | zero =>
      simp [LV.vals, LV.val] at hj hu
      subst hj; subst hu
      exact Rd.mono (show Rd w (fun k => own k = none) (.sl sz rows) (ρ i) from hb) (fun k hk _ => ⟨h3 k hk, rfl⟩)
    | succ j => exact h6 j cl u (by simpa using hj) (by simpa [LV.vals] using hu)
  | @row i e sz rows l cls pre frz hi t hn ih =>
    intro w0 w M U ρ own o' hp hr
    obtain ⟨own', h1, h2, h3, h4, h5, h6⟩ := ih w0 w M U ρ own o' (fun j hj => hp j (List.mem_cons_of_mem _ hj)) hr
    have hi' : (frz ++ o').lookup i = some (.row e sz rows) := by
      rw [lookup_append, hn]
      exact (hp i List.mem_cons_self).trans hi
    have hf := h1.freeze hi'
    have hb := (hf.ob i (.fz sz rows) (by simp)).1
    refine ⟨thaw own' i, by simpa using hf, by simp [LV.vals, h2], fun k hk => thaw_none (.inl (h3 k hk)), fun k j hj => ?_, fun k j hj hl => ?_, fun j cl u hj hu => ?_⟩
    · unfold thaw at hj
      split at hj
      · cases hj
      · exact h4 k j hj
    · simp only [List.lookup] at hl
      cases hq : j == i with
      | true => rw [hq] at hl; cases hl
      | false =>
        rw [hq] at hl
        rw [thaw_other]
        · exact h5 k j hj hl
        · intro h
          have := h4 k i h
          rw [hj] at this
          cases this
          simp at hq
    · cases j with
      | zero =>
        simp [LV.vals, LV.val] at hj hu
        subst hj; subst hu
        exact hb
      | succ j =>
        exact Rd.mono (h6 j cl u (by simpa using hj) (by simpa [LV.vals] using hu)) (fun k hk _ => ⟨thaw_none (.inl hk), rfl⟩)
section
variable {P : Program} {N : Nat} {o : Oper} {b : Nat} {st : St} (D : Tab P)
theorem run_storeAt {t : Nat} {ty : TyI} (hg : Good P t ty) {g n e : Nat} {v : Value} {pv : Value} (hp : pv = .pointer (some ⟨g, n, none⟩)) {cur : Array Value} {vs : List Value} (hv : v.cells = vs.toArray) (hl : vs.length = ty.size) {w : World} (hh : w.heap[g]? = some (.cells cur e (0, 0))) (hn : n + vs.length ≤ cur.size) (h1 : ∀ u ∈ vs, u.oneCell' = true) :
    (Instr.storeAt t pv v).run P w = .ok () (w.setRow g (cur.toList.take n ++ vs ++ cur.toList.drop (n + vs.length)).toArray) := by
  subst hp
  have h2 := run_storeCells_at P g n e vs 0 cur w hh (by simpa using hn) h1
  simp only [Nat.add_zero] at h2
  have h3 := hg.sizeOf w
  simp only [Instr.storeAt, Instr.sureAddr, Sem.run_bind, Sem.run_pure, Result.andThen_ok, storeVar, h3, hv]
  simp [hl, h2]
theorem T_store_b {t i n : Nat} {x y : Operand} {bt : Nat} {cs l : List LV} {lv : LV} {pre : List Nat} {ty : TyI} (ho : o.op = .store t x y) (hx : st.ev x = some (.p i n)) (hob : st.o.lookup i = some (.box bt cs)) (hy : st.ev y = some lv) (hf : Flat st lv l pre) (hi : D.get t = some ty) (hl : l.length = ty.size) (hn : n + l.length ≤ cs.length) :
    T P N o b (i :: pre) st (.v undef) 0 [(i, .box bt (cs.take n ++ l ++ cs.drop (n + l.length)))] := by
  intro w0 M U ρ own st' a w hev hp hfr fr hr
  obtain ⟨hv, hu⟩ := fr.eval ((hev x (by simp [ho, Op.operands])).trans hx)
  obtain ⟨hv2, hu2⟩ := fr.eval ((hev y (by simp [ho, Op.operands])).trans hy)
  obtain ⟨ad, had⟩ := hu.2
  obtain ⟨⟨g, g1, g2, g3⟩, h2, h3⟩ := hr.ob i _ ((hp i List.mem_cons_self).trans hob)
  obtain ⟨c1, c2, c3⟩ := hf w0 w M U ρ own st'.o (fun j hj => hp j (List.mem_cons_of_mem _ hj)) hr hu2
  rw [g1] at had
  obtain rfl : (⟨g, 0, none⟩ : Addr) = ad := by simpa [base] using had
  have hb : base (ρ i) = some ⟨g, 0, none⟩ := by rw [g1]; rfl
  have hcs : (LV.vals ρ (cs.take n ++ l ++ cs.drop (n + l.length))).toArray = ((LV.vals ρ cs).toArray.toList.take n ++ LV.vals ρ l ++ (LV.vals ρ cs).toArray.toList.drop (n + (LV.vals ρ l).length)).toArray := by
    rw [vals_append, vals_append, vals_length]
    simp only [vals_eq_map, List.map_take, List.map_drop]
  have hrun : (execOp a.eval o).run P w = .ok .skip (w.setRow g (LV.vals ρ (cs.take n ++ l ++ cs.drop (n + l.length))).toArray) := by
    simp only [execOp, ho]
    rw [Sem.run_bind, run_storeAt (D.ok t ty hi) (g := g) (n := n) (vs := LV.vals ρ l) (by rw [hv]; simp [LV.val, ptrOf, hb, add_plain]) (by rw [hv2]; exact c1) (by rw [vals_length]; exact hl) g3 (by simp [vals_length]; exact hn) (by simpa using c3), hcs]
    rfl
  have hone : (LV.vals ρ (cs.take n ++ l ++ cs.drop (n + l.length))).all (·.oneCell') = true := by
    have h4 := h3.2
    rw [vals_append, vals_append, List.all_append, List.all_append, Bool.and_eq_true, Bool.and_eq_true]
    rw [List.all_eq_true] at h4
    refine ⟨⟨?_, c3⟩, ?_⟩
    · rw [vals_eq_map, List.map_take, ← vals_eq_map, List.all_eq_true]
      exact fun u hu => h4 u (List.mem_of_mem_take hu)
    · rw [vals_eq_map, List.map_drop, ← vals_eq_map, List.all_eq_true]
      exact fun u hu => h4 u (List.mem_of_mem_drop hu)
  have huse : LV.useds U ρ (cs.take n ++ l ++ cs.drop (n + l.length)) := by
    rw [useds_iff]
    intro u hu
    rcases List.mem_append.1 hu with hu | hu
    · rcases List.mem_append.1 hu with hu | hu
      · exact useds_iff.1 h3.1 u (List.mem_of_mem_take hu)
      · exact useds_iff.1 c2 u hu
    · exact useds_iff.1 h3.1 u (List.mem_of_mem_drop hu)
  refine does_skip hrun ⟨ρ, own, rfl, fun _ _ => rfl, trivial, ?_⟩
  refine HR.mono ?_ (fun i hi => .inl hi)
  refine hr.step (fun j => j = i) (by simp) (by simp) (by simp) (by simp) (fun k hk hj => ⟨setRow_other w g k _ (fun h => hj i (h ▸ g2) rfl), rfl⟩) (fun _ _ => rfl) (fun _ h => h) (fun j hj => ⟨.box bt (cs.take n ++ l ++ cs.drop (n + l.length)), by simp [List.lookup, hj]⟩) (fun j ob' hj => .inl (by rw [lookup_key hj]; exact ⟨_, (hp i (by simp)).trans hob⟩)) (fun j ob' hj => ?_)
  simp only [List.lookup] at hj
  cases hq : j == i with
  | false => rw [hq] at hj; cases hj
  | true =>
    rw [hq] at hj
    obtain rfl : j = i := by simpa using hq
    obtain rfl : Ob.box bt (cs.take n ++ l ++ cs.drop (n + l.length)) = ob' := by injection hj
    exact ⟨⟨g, g1, g2, setRow_heap w g _ _ bt _ g3⟩, h2, huse, hone⟩
end
end Lg
end Go.Proofs.Ytpfhmodjjljpjaa

namespace Go.Proofs.Ytpfhmodjjljpjaa
open Go.RowKit
namespace Lg
set_option linter.unusedSimpArgs false
set_option linter.unusedVariables false
def splice {β : Type} (l : List β) (n : Nat) (m : List β) : List β := l.take n ++ m ++ l.drop (n + m.length)
theorem splice_get {β : Type} (l : List β) (n : Nat) (m : List β) (h : n + m.length ≤ l.length) (q : Nat) : (splice l n m)[q]? = if q < n then l[q]? else if q < n + m.length then m[q - n]? else l[q]? := by
  unfold splice
  have h1 : (l.take n).length = n := by rw [List.length_take]; omega
  by_cases hq : q < n
  · rw [if_pos hq, List.append_assoc, List.getElem?_append_left (by omega), List.getElem?_take_of_lt hq]
  · rw [if_neg hq, List.append_assoc, List.getElem?_append_right (by omega), h1]
    by_cases hq2 : q < n + m.length
    · rw [if_pos hq2, List.getElem?_append_left (by omega)]
    · rw [if_neg hq2, List.getElem?_append_right (by omega), List.getElem?_drop]
      congr 1
      omega
theorem splice_length {β : Type} (l : List β) (n : Nat) (m : List β) (h : n + m.length ≤ l.length) : (splice l n m).length = l.length := by
  unfold splice
  simp only [List.length_append, List.length_take, List.length_drop]
  omega
theorem splice_take {β : Type} (l : List β) (n q : Nat) (m : List β) (h : n + m.length ≤ q) (hq : q ≤ l.length) : (splice l n m).take q = splice (l.take q) n m := by
  apply List.ext_getElem?
  intro i
  rw [splice_get _ _ _ (by rw [List.length_take]; omega), List.getElem?_take, splice_get _ _ _ (by omega)]
  simp only [List.getElem?_take]
  by_cases h1 : i < q
  · simp only [if_pos h1]
  · simp only [if_neg h1, if_neg (show ¬ i < n by omega), if_neg (show ¬ i < n + m.length by omega)]
theorem RowsRd.set {w : World} {ok : Nat → Prop} {sz : Nat} {rows : List (List Cell)} {cells : List Value} (h : RowsRd w ok sz rows cells) {j f : Nat} {r : List Cell} {cls : List Cell} {us : List Value} (hj : rows[j]? = some r) (hf : f + cls.length ≤ r.length) (hl : us.length = cls.length)
    (hu : ∀ (q : Nat) (cl : Cell) (u : Value), cls[q]? = some cl → us[q]? = some u → Rd w ok cl u) : RowsRd w ok sz (rows.set j (splice r f cls)) (splice cells (j * sz + f) us) := by
  have hr := (h.each j r hj).1
  have hjl : j < rows.length := (List.getElem?_eq_some_iff.1 hj).1
  have hle : j * sz + sz ≤ rows.length * sz := by rw [← Nat.succ_mul]; exact Nat.mul_le_mul_right _ hjl
  have hfit : j * sz + f + us.length ≤ cells.length := by rw [h.len]; omega
  refine ⟨by rw [splice_length _ _ _ hfit, List.length_set]; exact h.len, fun i r' hi => ?_⟩
  rw [List.getElem?_set] at hi
  by_cases hij : j = i
  · subst hij
    rw [if_pos rfl, if_pos hjl] at hi
    obtain rfl : splice r f cls = r' := by injection hi
    refine ⟨by rw [splice_length _ _ _ hf]; exact hr, fun q cl hq => ?_⟩
    rw [splice_get _ _ _ hf] at hq
    rw [splice_get _ _ _ hfit]
    by_cases h1 : q < f
    · rw [if_pos h1] at hq
      rw [if_pos (by omega)]
      exact (h.each j r hj).2 q cl hq
    · rw [if_neg h1] at hq
      rw [if_neg (by omega)]
      by_cases h2 : q < f + cls.length
      · rw [if_pos h2] at hq
        rw [if_pos (by omega)]
        have h3 : q - f < us.length := by omega
        have h4 : j * sz + q - (j * sz + f) = q - f := by omega
        rw [h4]
        exact ⟨us[q - f], List.getElem?_eq_getElem h3, hu _ _ _ hq (List.getElem?_eq_getElem h3)⟩
      · rw [if_neg h2] at hq
        rw [if_neg (by omega)]
        exact (h.each j r hj).2 q cl hq
  · rw [if_neg hij] at hi
    obtain ⟨h1, h2⟩ := h.each i r' hi
    refine ⟨h1, fun q cl hq => ?_⟩
    have hql : q < sz := by have := (List.getElem?_eq_some_iff.1 hq).1; omega
    rw [splice_get _ _ _ hfit]
    rcases Nat.lt_or_ge i j with hlt | hge
    · have : i * sz + sz ≤ j * sz := by rw [← Nat.succ_mul]; exact Nat.mul_le_mul_right _ hlt
      rw [if_pos (by omega)]
      exact h2 q cl hq
    · have hlt : j < i := by omega
      have : j * sz + sz ≤ i * sz := by rw [← Nat.succ_mul]; exact Nat.mul_le_mul_right _ hlt
      rw [if_neg (by omega), if_neg (by omega)]
      exact h2 q cl hq
theorem all_get {p : Value → Bool} {l : List Value} (h : l.all p = true) : ∀ u ∈ l, p u = true := fun u hu => List.all_eq_true.1 h u hu
section
variable {P : Program} {N : Nat} {o : Oper} {b : Nat} {st : St} (D : Tab P)
theorem splice_drop {β : Type} (l : List β) (off n : Nat) (m : List β) (h : off + n ≤ l.length) : (splice l (off + n) m).drop off = splice (l.drop off) n m := by
  unfold splice
  rw [List.append_assoc, List.drop_append_of_le_length (by rw [List.length_take]; omega), List.drop_take, List.drop_drop, Nat.add_sub_cancel_left, List.append_assoc]
  rw [show off + n + m.length = off + (n + m.length) by omega]
theorem add_at (g off n : Nat) : (⟨g, off, none⟩ : Addr).add n = ⟨g, off + n, none⟩ := by unfold Addr.add; split <;> simp_all
theorem T_store_e {α : Type} [Inhabited α] {enc : α → List Cell} {xs : List α} {t i e sz j f : Nat} {x y : Operand} {l : List LV} {lv : LV} {cls : List Cell} {pre pre' : List Nat} {frz : List (Nat × Ob)} {ty : TyI} {z : α} (ho : o.op = .store t x y) (hx : st.ev x = some (.e i sz j f)) (hob : st.o.lookup i = some (.row e sz (xs.map enc)))
    (hy : st.ev y = some lv) (hf : Flat st lv l pre) (hi : D.get t = some ty) (hl : l.length = ty.size) (hj : j < xs.length) (hc : CellsOf st.o l cls pre' frz) (hfr : frz.lookup i = none) (hfit : f + cls.length ≤ (enc (xs.getD j default)).length) (hz : enc z = splice (enc (xs.getD j default)) f cls) :
    T P N o b (i :: (pre ++ pre')) st (.v undef) 0 ((i, .row e sz ((xs.set j z).map enc)) :: frz) := by
  intro w0 M U ρ own st' a w hev hp hfrs fr hr
  obtain ⟨hv, hu⟩ := fr.eval ((hev x (by simp [ho, Op.operands])).trans hx)
  obtain ⟨hv2, hu2⟩ := fr.eval ((hev y (by simp [ho, Op.operands])).trans hy)
  obtain ⟨c1, c2, c3⟩ := hf w0 w M U ρ own st'.o (fun j hj => hp j (by simp [hj])) hr hu2
  obtain ⟨own', h1, h2, h3, h4, h5, h6⟩ := cells_of hc w0 w M U ρ own st'.o (fun j hj => hp j (by simp [hj])) hr
  have hob' : (frz ++ st'.o).lookup i = some (.row e sz (xs.map enc)) := by
    rw [lookup_append, hfr]
    exact (hp i List.mem_cons_self).trans hob
  obtain ⟨⟨hs0, cells, g1, g2, g3⟩, hUi, _⟩ := h1.ob i _ hob'
  obtain ⟨ad, had⟩ := hu.2
  have hrow := map_get (enc := enc) hj
  rcases g1.2 with ⟨k1, k2⟩ | ⟨g, off, cap, cur, he, hh, r1, r2, r3, r4⟩
  · rw [k1] at had; cases had
  have hb : base (ρ i) = some ⟨g, off, none⟩ := by rw [he]; rfl
  have hrl := (g3.each j _ hrow).1
  have hle : j * sz + sz ≤ (xs.map enc).length * sz := by rw [← Nat.succ_mul, List.length_map]; exact Nat.mul_le_mul_right _ hj
  have hcap : (xs.map enc).length * sz ≤ cap * sz := Nat.mul_le_mul_right _ r1
  have hvl : (LV.vals ρ l).length = cls.length := h2
  have hfits : off + (j * sz + f) + (LV.vals ρ l).length ≤ cur.size := by omega
  have hcur : cur.toList.length = cur.size := Array.length_toList
  have hrun : (execOp a.eval o).run P w = .ok .skip (w.setRow g (splice cur.toList (off + (j * sz + f)) (LV.vals ρ l)).toArray) := by
    simp only [execOp, ho]
    rw [Sem.run_bind, run_storeAt (D.ok t ty hi) (g := g) (n := off + (j * sz + f)) (vs := LV.vals ρ l) (by rw [hv]; simp [LV.val, ptrOf, hb, add_at]) (by rw [hv2]; exact c1) (by rw [vals_length]; exact hl) hh hfits (all_get c3)]
    rfl
  refine does_skip hrun ⟨ρ, own', rfl, fun _ _ => rfl, trivial, ?_⟩
  refine HR.mono ?_ (fun i hi => .inl hi)
  have hrr : ∀ k, own' k = none → k ≠ g := fun k hk h => by
    have := g2 g (by rw [he]; rfl)
    rw [h, this] at hk
    cases hk
  have hstep := h1.step (w' := w.setRow g (splice cur.toList (off + (j * sz + f)) (LV.vals ρ l)).toArray) (U' := U) (ρ' := ρ) (own' := own') (upd := [(i, .row e sz ((xs.set j z).map enc))]) (fun q => q = i) (by simp) (by simp) (by simp) (by simp)
    (fun k hk hq => ⟨setRow_other w g k _ (fun h => hq i (h ▸ g2 g (by rw [he]; rfl)) rfl), rfl⟩) (fun _ _ => rfl) (fun _ h => h) (fun q hq => ⟨.row e sz ((xs.set j z).map enc), by simp [List.lookup, hq]⟩) (fun q ob' hq => .inl (by rw [lookup_key hq]; exact ⟨_, hob'⟩)) (fun q ob' hq => ?_)
  · exact hstep
  · simp only [List.lookup] at hq
    cases hqq : q == i with
    | false => rw [hqq] at hq; cases hq
    | true =>
      rw [hqq] at hq
      obtain rfl : q = i := by simpa using hqq
      obtain rfl : Ob.row e sz ((xs.set j z).map enc) = ob' := by injection hq
      refine ⟨⟨hs0, splice cells (j * sz + f) (LV.vals ρ l), ?_, g2, ?_⟩, hUi, trivial⟩
      · have hcl : cells.length = (xs.map enc).length * sz := g3.len
        refine ⟨by rw [splice_length _ _ _ (by rw [hcl]; omega), hcl]; simp, .inr ⟨g, off, cap, _, by rw [he]; simp, setRow_heap w g cur _ e _ hh, by simpa using r1, r2, ?_, ?_⟩⟩
        · rw [List.size_toArray, splice_length _ _ _ (by rw [hcur]; exact hfits), Array.length_toList]; exact r3
        · rw [← r4]
          have : (xs.map enc).length * sz = ((xs.set j z).map enc).length * sz := by simp
          rw [this]
          have hq2 : ((xs.set j z).map enc).length * sz ≤ (cur.toList.drop off).length := by rw [← this, List.length_drop, hcur]; omega
          show ((splice cur.toList (off + (j * sz + f)) (LV.vals ρ l)).drop off).take _ = _
          rw [splice_drop _ _ _ _ (by rw [hcur]; omega)]
          exact splice_take _ _ _ _ (by rw [← this]; omega) hq2
      · have h8 := g3.set hrow hfit hvl h6
        rw [← hz] at h8
        have h9 : (xs.map enc).set j (enc z) = (xs.set j z).map enc := by rw [List.map_set]
        rw [h9] at h8
        exact h8.mono (fun k hk _ => ⟨hk, setRow_other w g k _ (hrr k hk)⟩)
theorem HR.newRow {w0 w : World} {M : Fp} {U : Nat → Prop} {ρ : Nat → Value} {own : Nat → Option Nat} {ob : List (Nat × Ob)} (hr : HR w0 M U ρ own ob w) (b e sz : Nat) (hb : ¬ U b) (hs : 0 < sz) {rows : List (List Cell)} {cells : List Value} (hm : rows.length ≤ maxLen) (hR : RowsRd w (fun k => own k = none) sz rows cells) :
    HR w0 M (grow U b 1) (upd1 ρ b (.slice (some ⟨w.heap.size, 0, none⟩) rows.length rows.length)) (upd1 own w.heap.size (some b)) ([(b, .row e sz rows)] ++ ob) (w.alloc (.cells cells.toArray e)) := by
  have hρ : ∀ i, U i → upd1 ρ b (.slice (some ⟨w.heap.size, 0, none⟩) rows.length rows.length) i = ρ i := fun i hi => upd1_other _ _ (fun h => hb (h ▸ hi))
  refine hr.step (fun _ => False) rfl rfl rfl (by rw [World.size_alloc]; omega) (fun k hk _ => ⟨heap_alloc_old w _ hk, upd1_other _ _ (by omega)⟩) hρ (fun i hi => .inl hi) (fun _ h => h.elim) (fun i ob' hi => .inr (by rw [lookup_key hi]; exact hb)) (fun i ob' hi => ?_)
  simp only [List.lookup] at hi
  cases hq : i == b with
  | false => rw [hq] at hi; cases hi
  | true =>
    rw [hq] at hi
    obtain rfl : i = b := by simpa using hq
    obtain rfl : Ob.row e sz rows = ob' := by injection hi
    refine ⟨⟨hs, cells, ?_, ?_, ?_⟩, .inr ⟨Nat.le_refl _, by omega⟩, trivial⟩
    · rw [upd1_same]
      exact OwnsR.of (World.ownsRow_lit w cells.toArray rows.length (Nat.zero_le _) hm (by simpa using hR.len))
    · rw [upd1_same]
      intro k hk
      simp [Value.ownBlock] at hk
      rw [← hk, upd1_same]
    · exact hR.mono (fun k hk hlt => ⟨by rw [upd1_other _ _ (by omega)]; exact hk, heap_alloc_old w _ hlt⟩)
inductive ZR : List Cell → List Value → Prop
  | nil : ZR [] []
  | v {x : Value} {cls us} (h : x.oneCell' = true) (t : ZR cls us) : ZR (.v x :: cls) (x :: us)
  | z {sz : Nat} {cls us} (t : ZR cls us) : ZR (.sl sz [] :: cls) (.slice none 0 0 :: us)
theorem ZR.rd {cls : List Cell} {us : List Value} (h : ZR cls us) (w : World) (ok : Nat → Prop) : us.length = cls.length ∧ ∀ (q : Nat) (cl : Cell) (u : Value), cls[q]? = some cl → us[q]? = some u → Rd w ok cl u := by
  induction h with
  | nil => exact ⟨rfl, fun q cl u h => by simp at h⟩
  | v hx t ih =>
    refine ⟨by simp [ih.1], fun q cl u h1 h2 => ?_⟩
    cases q with
    | zero => simp at h1 h2; subst h1; subst h2; exact .v _ hx
    | succ q => exact ih.2 q cl u (by simpa using h1) (by simpa using h2)
  | z t ih =>
    refine ⟨by simp [ih.1], fun q cl u h1 h2 => ?_⟩
    cases q with
    | zero => simp at h1 h2; subst h1; subst h2; exact nil_reads w ok _
    | succ q => exact ih.2 q cl u (by simpa using h1) (by simpa using h2)
theorem T_make {α : Type} {enc : α → List Cell} {zx : α} {t : Nat} {x y : Operand} {m : Nat} {ty ety : TyI} (ho : o.op = .makeSlice t x y) (hx : st.ev x = some (.v (.int .i64 (m : Int)))) (hy : st.ev y = some (.v (.int .i64 (m : Int))))
    (hi : D.get t = some ty) (he0 : (ty.elem == 0) = false) (he : D.get ty.elem = some ety) (hs : (ety.size == 0) = false) (hz : ZR (enc zx) ety.zero) (hzl : ety.zero.length = ety.size) (hm : m * ety.bytes ≤ 281474976710656) (hm2 : m ≤ 9223372036854775807) :
    T P N o b [] st (.r b) 1 [(b, .row ty.elem ety.size ((List.replicate m zx).map enc))] := by
  intro w0 M U ρ own st' a w hev hp hfrs fr hr
  obtain ⟨hv, _⟩ := fr.eval ((hev x (by simp [ho, Op.operands])).trans hx)
  obtain ⟨hv2, _⟩ := fr.eval ((hev y (by simp [ho, Op.operands])).trans hy)
  obtain ⟨j, z, hj, hjz, hjc, hjs, hjb⟩ := (D.ok _ ety he).ti
  have hsz : 0 < ety.size := by have : ety.size ≠ 0 := by simpa using hs
                                omega
  have hr1 := run_make (P := P) w t ty.elem j z ((D.ok t ty hi).sl (by simpa using he0)) hj hjz .i64 .i64 m m (by omega) (Int.le_refl _) (by rw [hjb, Int.mul_comm]; omega) (by omega)
  have hzs : z.cells.size = ety.size := by rw [← hzl, ← hjc, Array.length_toList]
  have hrd := hz.rd w (fun k => own k = none)
  have hR : RowsRd w (fun k => own k = none) ety.size ((List.replicate m zx).map enc) (madeCells z.cells (m * ety.size)).toList := by
    refine ⟨by rw [Array.length_toList, size_madeCells, List.length_map, List.length_replicate], fun q r hq => ?_⟩
    rw [List.getElem?_map, Option.map_eq_some_iff] at hq
    obtain ⟨x', hx', rfl⟩ := hq
    have hql : q < m := by have := (List.getElem?_eq_some_iff.1 hx').1; simpa using this
    have hxx : x' = zx := by
      have := List.mem_of_getElem? hx'
      exact (List.mem_replicate.1 this).2
    subst hxx
    have hel : (enc x').length = ety.size := by rw [← hrd.1, hzl]
    refine ⟨hel, fun f cl hf => ?_⟩
    have hfl : f < ety.size := by have := (List.getElem?_eq_some_iff.1 hf).1; omega
    have hle : q * ety.size + ety.size ≤ m * ety.size := by rw [← Nat.succ_mul]; exact Nat.mul_le_mul_right _ hql
    have hu : f < ety.zero.length := by omega
    refine ⟨ety.zero[f], ?_, hrd.2 f cl _ hf (List.getElem?_eq_getElem hu)⟩
    rw [Array.getElem?_toList]
    have hmod : (q * ety.size + f) % ety.size = f := by rw [Nat.add_comm, Nat.add_mul_mod_self_right, Nat.mod_eq_of_lt hfl]
    have hz2 : f < z.cells.size := by omega
    have hz3 : z.cells[f]! = ety.zero[f] := by
      rw [getElem!_pos z.cells f hz2, ← Array.getElem_toList]
      congr 1
    simp only [madeCells]
    rw [Array.getElem?_map, Array.getElem?_range, if_pos (by omega), Option.map_some, hzs, hmod, hz3]
  have hlen : ((List.replicate m zx).map enc).length = m := by simp
  have hnr := hr.newRow b ty.elem ety.size (hfrs b (Nat.le_refl _) (by omega)) hsz (by rw [hlen]; simpa [maxLen] using hm2) hR
  rw [hlen] at hnr
  have hrun : (execOp a.eval o).run P w = .ok (.value (.slice (some ⟨w.heap.size, 0, none⟩) m m)) (w.alloc (.cells (madeCells z.cells (m * ety.size)) ty.elem)) := by
    simp only [execOp, ho, hv, hv2, LV.val]
    rw [Sem.run_bind, hr1, hjs]
    simp
  refine does_value hrun ⟨upd1 ρ b (.slice (some ⟨w.heap.size, 0, none⟩) m m), _, ?_, fun i hi => upd1_other _ _ (fun h => hfrs b (Nat.le_refl _) (by omega) (h ▸ hi)), .inr ⟨Nat.le_refl _, by omega⟩, by simpa using hnr⟩
  simp [LV.val, upd1_same]
end
end Lg
end Go.Proofs.Ytpfhmodjjljpjaa

namespace Go.Proofs.Ytpfhmodjjljpjaa
open Go.RowKit
namespace Lg
set_option linter.unusedSimpArgs false
set_option linter.unusedVariables false
def fillL {β : Type} (place : Nat → Option (Nat × Nat)) (cells : List β) : List (Nat × List β) → Option (List β)
  | [] => some cells
  | (i, l) :: rest => match place i with
    | none => none
    | some (off, size) => if (l.length != size || decide (off + l.length > cells.length)) = true then none else fillL place (splice cells off l) rest
theorem foldl_splice (l : List Value) (off : Nat) : ∀ (q : Nat) (cells : Array Value), off + q + l.length ≤ cells.size → (l.zipIdx q).foldl (fun cs (c : Value × Nat) => cs.setIfInBounds (off + c.2) c.1) cells = (splice cells.toList (off + q) l).toArray := by
  induction l with
  | nil =>
    intro q cells h
    simp [splice]
  | cons x l ih =>
    intro q cells h
    simp only [List.length_cons] at h
    rw [List.zipIdx_cons, List.foldl_cons, ih (q + 1) _ (by simp; omega)]
    apply Array.ext'
    simp only [Array.toList_setIfInBounds]
    apply List.ext_getElem?
    intro k
    rw [splice_get _ _ _ (by simp; omega), splice_get _ _ _ (by simp; omega)]
    simp only [List.length_cons]
    by_cases h1 : k < off + q
    · rw [if_pos (by omega), if_pos h1, List.getElem?_set_ne (by omega)]
    · rw [if_neg h1]
      by_cases h2 : k = off + q
      · subst h2
        rw [if_pos (by omega), if_pos (by omega), List.getElem?_set_self (by simp; omega)]
        simp
      · rw [if_neg (by omega)]
        by_cases h3 : k < off + (q + 1) + l.length
        · rw [if_pos h3, if_pos (by omega)]
          have : k - (off + q) = (k - (off + (q + 1))) + 1 := by omega
          rw [this, List.getElem?_cons_succ]
        · rw [if_neg h3, if_neg (by omega), List.getElem?_set_ne (by omega)]
theorem fill_eq (place : Nat → Option (Nat × Nat)) : ∀ (parts : List (Nat × Value)) (cells : List Value), Instr.fill place cells.toArray parts = (fillL place cells (parts.map fun p => (p.1, p.2.cells.toList))).map List.toArray
  | [], cells => rfl
  | (i, v) :: rest, cells => by
    simp only [Instr.fill, List.map_cons, fillL]
    cases hp : place i with
    | none => rfl
    | some os =>
      obtain ⟨off, size⟩ := os
      simp only []
      by_cases hc : (v.cells.size ≠ size ∨ off + v.cells.size > cells.length)
      · rw [if_pos (by simpa using hc), if_pos (by simpa using hc)]
        rfl
      · rw [if_neg (by simpa using hc), if_neg (by simpa using hc)]
        have h1 := foldl_splice v.cells.toList off 0 cells.toArray (by simp at hc ⊢; omega)
        have h2 : (v.cells.zipIdx.foldl (fun cs (c : Value × Nat) => cs.setIfInBounds (off + c.2) c.1) cells.toArray) = (splice cells off v.cells.toList).toArray := by
          rw [← Array.foldl_toList, Array.toList_zipIdx]
          simpa using h1
        have h3 : (v.cells.zipIdx.foldl (fun cs x => match x with | (c, j) => cs.setIfInBounds (off + j) c) cells.toArray) = (splice cells off v.cells.toList).toArray := h2
        rw [h3, fill_eq place rest]
theorem splice_map {β γ : Type} (f : β → γ) (l : List β) (n : Nat) (m : List β) : splice (l.map f) n (m.map f) = (splice l n m).map f := by
  simp [splice]
theorem fillL_map {β γ : Type} (f : β → γ) (place : Nat → Option (Nat × Nat)) : ∀ (parts : List (Nat × List β)) (cells : List β), fillL place (cells.map f) (parts.map fun p => (p.1, p.2.map f)) = (fillL place cells parts).map (·.map f)
  | [], cells => rfl
  | (i, l) :: rest, cells => by
    simp only [List.map_cons, fillL, List.length_map]
    cases hp : place i with
    | none => rfl
    | some os =>
      obtain ⟨off, size⟩ := os
      simp only []
      split
      · rfl
      · rw [splice_map, fillL_map f place rest]
theorem splice_mem {β : Type} {l m : List β} {n : Nat} {x : β} (h : x ∈ splice l n m) : x ∈ l ∨ x ∈ m := by
  unfold splice at h
  rcases List.mem_append.1 h with h | h
  · rcases List.mem_append.1 h with h | h
    · exact .inl (List.mem_of_mem_take h)
    · exact .inr h
  · exact .inl (List.mem_of_mem_drop h)
theorem fillL_mem {β : Type} (place : Nat → Option (Nat × Nat)) : ∀ (parts : List (Nat × List β)) (cells l : List β), fillL place cells parts = some l → ∀ x ∈ l, x ∈ cells ∨ ∃ p ∈ parts, x ∈ p.2
  | [], cells, l, h, x, hx => by cases h; exact .inl hx
  | (i, m) :: rest, cells, l, h, x, hx => by
    simp only [fillL] at h
    cases hp : place i with
    | none => rw [hp] at h; cases h
    | some os =>
      obtain ⟨off, size⟩ := os
      rw [hp] at h
      simp only [] at h
      split at h
      · cases h
      · rcases fillL_mem place rest _ l h x hx with h1 | ⟨p, h1, h2⟩
        · rcases splice_mem h1 with h1 | h1
          · exact .inl h1
          · exact .inr ⟨_, List.mem_cons_self, h1⟩
        · exact .inr ⟨p, List.mem_cons_of_mem _ h1, h2⟩
inductive PartsOf (st : St) : List (Nat × Operand) → List (Nat × List LV) → List Nat → Prop
  | nil : PartsOf st [] [] []
  | cons {i : Nat} {x : Operand} {lv : LV} {l : List LV} {pre ps ls pre'} (hx : st.ev x = some lv) (hf : Flat st lv l pre) (t : PartsOf st ps ls pre') : PartsOf st ((i, x) :: ps) ((i, l) :: ls) (pre ++ pre')
section
variable {P : Program} {N : Nat} {o : Oper} {b : Nat} {st : St} (D : Tab P)
theorem parts_of {ps : List (Nat × Operand)} {ls : List (Nat × List LV)} {pre : List Nat} (h : PartsOf st ps ls pre) {w0 w : World} {M : Fp} {U : Nat → Prop} {ρ : Nat → Value} {own : Nat → Option Nat} {st' : St} {a : Act} (hev : ∀ p ∈ ps, st'.ev p.2 = st.ev p.2) (hp : ∀ i, i ∈ pre → st'.o.lookup i = st.o.lookup i)
    (fr : FR N U ρ st'.s a) (hr : HR w0 M U ρ own st'.o w) : (ps.map fun p => (p.1, (a.eval p.2).cells.toList)) = (ls.map fun p => (p.1, p.2.map (LV.val ρ))) ∧ ∀ p ∈ ls, ∀ x ∈ p.2, x.used U ρ ∧ (x.val ρ).oneCell' = true := by
  induction h with
  | nil => exact ⟨rfl, fun p h => by simp at h⟩
  | @cons i x lv l pre ps ls pre' hx hf t ih =>
    obtain ⟨h1, h2⟩ := ih (fun p hp => hev p (List.mem_cons_of_mem _ hp)) (fun i hi => hp i (List.mem_append_right _ hi))
    obtain ⟨hv, hu⟩ := fr.eval ((hev _ List.mem_cons_self).trans hx)
    obtain ⟨c1, c2, c3⟩ := hf w0 w M U ρ own st'.o (fun i hi => hp i (List.mem_append_left _ hi)) hr hu
    refine ⟨?_, fun p hp x hx => ?_⟩
    · simp only [List.map_cons, h1]
      rw [hv, c1, vals_eq_map]
    · rcases List.mem_cons.1 hp with rfl | hp
      · refine ⟨useds_iff.1 c2 x hx, ?_⟩
        rw [vals_eq_map, List.all_map] at c3
        exact List.all_eq_true.1 c3 x hx
      · exact h2 p hp x hx
theorem Good.built {t : Nat} {i : TyI} (h : Good P t i) (hf : (i.fields.length == 0) = false) (hnz : i.fields.all (fun p => p.2 != 0) = true) (parts : List (Nat × Value)) : P.built t parts = Instr.fill (i.fields.toArray[·]?) i.zero.toArray parts := by
  have h1 := h.flds
  have hf' : i.fields ≠ [] := fun e => by rw [e] at hf; cases hf
  obtain ⟨j, z, hj, hz, hc, _, _⟩ := h.ti
  cases hu : P.underlying t with
  | none => rw [hu] at h1; exact absurd h1.symm hf'
  | some d =>
    rw [hu] at h1
    cases d <;> try exact absurd h1.symm hf'
    case struct fs =>
      simp only [] at h1
      have hp : fs.toList.mapM (fun f => (P.info? f.type).map fun i => (f.offset, i.size)) = some i.fields := by
        rw [← h1]
        have : ∀ (l : List Field), (∀ f ∈ l, P.cellsOf f.type ≠ 0) → l.mapM (fun f => (P.info? f.type).map fun i => (f.offset, i.size)) = some (l.map fun f => (f.offset, P.cellsOf f.type)) := by
          intro l
          induction l with
          | nil => intro _; rfl
          | cons f l ih =>
            intro hl
            have h2 := hl f (by simp)
            have h3 := ih (fun g hg => hl g (by simp [hg]))
            cases hi : P.info? f.type with
            | none => exact absurd (by simp [Program.cellsOf, hi]) h2
            | some j =>
              rw [List.mapM_cons, hi, h3]
              simp [Program.cellsOf, hi]
        refine this _ (fun f hf2 => ?_)
        have h4 := List.all_eq_true.1 hnz (f.offset, P.cellsOf f.type) (by rw [← h1]; exact List.mem_map_of_mem hf2)
        simpa using h4
      have hzc : z.cells = i.zero.toArray := by rw [← hc]
      unfold Program.built
      simp only [hj, hu, hz, hp, hzc]
theorem T_build {t : Nat} {parts : Array (Nat × Operand)} {ls : List (Nat × List LV)} {l : List LV} {pre : List Nat} {ty : TyI} (ho : o.op = .build t parts) (hi : D.get t = some ty) (hf : (ty.fields.length == 0) = false) (hnz : ty.fields.all (fun p => p.2 != 0) = true)
    (hp : PartsOf st parts.toList ls pre) (hz : ty.zero.all (·.oneCell') = true) (hl : fillL (fun i => ty.fields[i]?) (ty.zero.map .v) ls = some l) : T P N o b pre st (.agg l) 0 [] := by
  intro w0 M U ρ own st' a w hev hpre hfrs fr hr
  obtain ⟨h1, h2⟩ := parts_of hp (fun p hp => hev p.2 (by simp only [ho, Op.operands]; simp; exact ⟨p.1, by simpa using hp⟩)) hpre fr hr
  have h3 : Instr.fill (ty.fields.toArray[·]?) ty.zero.toArray (parts.map fun p => (p.1, a.eval p.2)).toList = some (LV.vals ρ l).toArray := by
    rw [fill_eq, Array.toList_map, List.map_map]
    have h4 : ((fun p : Nat × Value => (p.1, p.2.cells.toList)) ∘ fun p : Nat × Operand => (p.1, a.eval p.2)) = fun p : Nat × Operand => (p.1, (a.eval p.2).cells.toList) := rfl
    rw [h4, h1]
    have h5 : ty.zero = (ty.zero.map LV.v).map (LV.val ρ) := by simp [Function.comp_def, LV.val]
    have h6 := fillL_map (LV.val ρ) (fun i => ty.fields[i]?) ls (ty.zero.map .v)
    rw [hl, ← h5] at h6
    simp only [List.getElem?_toArray]
    rw [h6]
    simp [vals_eq_map]
  have hrun : (execOp a.eval o).run P w = .ok (.value (.agg (LV.vals ρ l).toArray)) w := by
    simp only [execOp, ho]
    rw [Sem.run_bind, run_build w t _ (LV.vals ρ l).toArray (by rw [(D.ok t ty hi).built hf hnz]; exact h3)]
    rfl
  have hmem := fillL_mem _ ls _ l hl
  refine does_value hrun ⟨ρ, own, rfl, fun _ _ => rfl, ⟨?_, ?_⟩, hr.mono (fun i hi => .inl hi)⟩
  · rw [useds_iff]
    intro x hx
    rcases hmem x hx with h4 | ⟨p, h4, h5⟩
    · obtain ⟨v, _, rfl⟩ := List.mem_map.1 h4
      trivial
    · exact used_mono (fun _ _ => rfl) (fun i hi => .inl hi) x (h2 p h4 x h5).1
  · rw [vals_eq_map, List.all_map, List.all_eq_true]
    intro x hx
    rcases hmem x hx with h4 | ⟨p, h4, h5⟩
    · obtain ⟨v, hv, rfl⟩ := List.mem_map.1 h4
      exact all_get hz v hv
    · exact (h2 p h4 x h5).2
theorem run_buildSlice {t n : Nat} {ty ety : TyI} (hg : Good P t ty) (he0 : ty.elem ≠ 0) (he : Good P ty.elem ety) (hn : n * ety.size ≤ 16777216) {parts : Array (Nat × Value)} {cells : Array Value}
    (hf : Instr.fill (fun i => some (i * ety.size, ety.size)) (madeCells ety.zero.toArray (n * ety.size)) parts.toList = some cells) (w : World) : (Instr.buildSlice t n parts).run P w = .ok (.slice (some ⟨w.heap.size, 0, none⟩) n n) (w.alloc (.cells cells ty.elem)) := by
  obtain ⟨z, hz, hc⟩ := he.zeroV w
  have hzc : z.cells = ety.zero.toArray := by rw [← hc]
  have hbig : ¬ n * ety.size > 2 ^ 24 := by omega
  by_cases h0 : n * ety.size = 0
  · have hf' : Instr.fill (fun i => some (i * ety.size, ety.size)) ((Array.range (n * ety.size)).map (fun q => (#[] : Array Value)[q % (#[] : Array Value).size]!)) parts.toList = some cells := by
      rw [h0] at hf ⊢
      have h1 : ∀ g : Nat → Value, (Array.range 0).map g = #[] := fun g => by simp
      rw [h1]
      simp only [madeCells] at hf
      rw [h1] at hf
      exact hf
    simp only [Instr.buildSlice, Sem.run_bind, run_underlying (hg.sl he0), Result.andThen_ok, he.sizeOf w, if_neg hbig, if_pos h0, Sem.run_pure, hf']
    rfl
  · have hf' : Instr.fill (fun i => some (i * ety.size, ety.size)) ((Array.range (n * ety.size)).map (fun q => z.cells[q % z.cells.size]!)) parts.toList = some cells := by rw [hzc]; exact hf
    simp only [Instr.buildSlice, Sem.run_bind, run_underlying (hg.sl he0), Result.andThen_ok, he.sizeOf w, if_neg hbig, if_neg h0, hz, Sem.run_pure, hf']
    rfl
theorem flatten_get {sz : Nat} : ∀ (rows : List (List Cell)), (∀ r ∈ rows, r.length = sz) → ∀ (i : Nat) (r : List Cell) (f : Nat) (cl : Cell), rows[i]? = some r → r[f]? = some cl → rows.flatten[i * sz + f]? = some cl
  | [], _, i, r, f, cl, h, _ => by simp at h
  | r0 :: rows, hz, 0, r, f, cl, h, hf => by
    simp at h
    subst h
    rw [List.flatten_cons, List.getElem?_append_left (by have := (List.getElem?_eq_some_iff.1 hf).1; omega)]
    simpa using hf
  | r0 :: rows, hz, i + 1, r, f, cl, h, hf => by
    have h0 : r0.length = sz := hz r0 (by simp)
    have h1 : (i + 1) * sz + f - r0.length = i * sz + f := by rw [Nat.succ_mul, h0]; omega
    rw [List.flatten_cons, List.getElem?_append_right (by rw [h0, Nat.succ_mul]; omega), h1]
    exact flatten_get rows (fun r hr => hz r (by simp [hr])) i r f cl (by simpa using h) hf
theorem flatten_len {sz : Nat} : ∀ (rows : List (List Cell)), (∀ r ∈ rows, r.length = sz) → rows.flatten.length = rows.length * sz
  | [], _ => by simp
  | r :: rows, h => by
    rw [List.flatten_cons, List.length_append, flatten_len rows (fun r hr => h r (by simp [hr])), h r (by simp), List.length_cons, Nat.succ_mul]
    omega
theorem T_buildSlice {α : Type} {enc : α → List Cell} {ys : List α} {t n : Nat} {parts : Array (Nat × Operand)} {ls : List (Nat × List LV)} {l : List LV} {pre pre' : List Nat} {frz : List (Nat × Ob)} {ty ety : TyI} (ho : o.op = .buildSlice t n parts) (hi : D.get t = some ty) (he0 : (ty.elem == 0) = false) (he : D.get ty.elem = some ety) (hs : (ety.size == 0) = false)
    (hn : decide (n * ety.size ≤ 16777216) = true) (hp : PartsOf st parts.toList ls pre) (hl : fillL (fun i => some (i * ety.size, ety.size)) ((madeCells ety.zero.toArray (n * ety.size)).toList.map .v) ls = some l)
    (hc : CellsOf st.o l (ys.map enc).flatten pre' frz) (hy : ys.length = n) (hez : (ys.map enc).all (fun r => r.length == ety.size) = true) :
    T P N o b (pre ++ pre') st (.r b) 1 ((b, .row ty.elem ety.size (ys.map enc)) :: frz) := by
  intro w0 M U ρ own st' a w hev hpre hfrs fr hr
  have hsz : 0 < ety.size := by have : ety.size ≠ 0 := by simpa using hs
                                omega
  obtain ⟨h1, h2⟩ := parts_of hp (fun p hp => hev p.2 (by simp only [ho, Op.operands]; simp; exact ⟨p.1, by simpa using hp⟩)) (fun i hi => hpre i (List.mem_append_left _ hi)) fr hr
  obtain ⟨own', g1, g2, g3, g4, g5, g6⟩ := cells_of hc w0 w M U ρ own st'.o (fun i hi => hpre i (List.mem_append_right _ hi)) hr
  have hz : ∀ r ∈ ys.map enc, r.length = ety.size := fun r hr => by simpa using List.all_eq_true.1 hez r hr
  have hR : RowsRd w (fun k => own' k = none) ety.size (ys.map enc) (LV.vals ρ l) := by
    refine ⟨by rw [g2, flatten_len _ hz], fun i r hi => ⟨hz r (List.mem_of_getElem? hi), fun f cl hf => ?_⟩⟩
    have h5 := flatten_get _ hz i r f cl hi hf
    have h6 : i * ety.size + f < (LV.vals ρ l).length := by rw [g2]; exact (List.getElem?_eq_some_iff.1 h5).1
    exact ⟨_, List.getElem?_eq_getElem h6, g6 _ _ _ h5 (List.getElem?_eq_getElem h6)⟩
  have h3 : Instr.fill (fun i => some (i * ety.size, ety.size)) (madeCells ety.zero.toArray (n * ety.size)) (parts.map fun p => (p.1, a.eval p.2)).toList = some (LV.vals ρ l).toArray := by
    have h7 : madeCells ety.zero.toArray (n * ety.size) = (madeCells ety.zero.toArray (n * ety.size)).toList.toArray := by simp
    rw [h7, fill_eq, Array.toList_map, List.map_map]
    have h4 : ((fun p : Nat × Value => (p.1, p.2.cells.toList)) ∘ fun p : Nat × Operand => (p.1, a.eval p.2)) = fun p : Nat × Operand => (p.1, (a.eval p.2).cells.toList) := rfl
    rw [h4, h1]
    have h5 : ∀ q : List Value, q = (q.map LV.v).map (LV.val ρ) := fun q => by simp [Function.comp_def, LV.val]
    have h6 := fillL_map (LV.val ρ) (fun i => some (i * ety.size, ety.size)) ls ((madeCells ety.zero.toArray (n * ety.size)).toList.map .v)
    rw [hl, ← h5] at h6
    rw [h6]
    simp [vals_eq_map]
  have hlen : (ys.map enc).length = n := by simpa using hy
  have hnle : n ≤ 16777216 := Nat.le_trans (Nat.le_mul_of_pos_right n hsz) (of_decide_eq_true hn)
  have hnr := g1.newRow b ty.elem ety.size (hfrs b (Nat.le_refl _) (by omega)) hsz (by rw [hlen]; simp only [maxLen]; omega) hR
  rw [hlen] at hnr
  have hrun : (execOp a.eval o).run P w = .ok (.value (.slice (some ⟨w.heap.size, 0, none⟩) n n)) (w.alloc (.cells (LV.vals ρ l).toArray ty.elem)) := by
    simp only [execOp, ho]
    rw [Sem.run_bind, run_buildSlice (D.ok t ty hi) (by simpa using he0) (D.ok _ ety he) (of_decide_eq_true hn) h3]
    rfl
  exact does_value hrun ⟨upd1 ρ b (.slice (some ⟨w.heap.size, 0, none⟩) n n), _, by simp [LV.val, upd1_same], fun i hi => upd1_other _ _ (fun h => hfrs b (Nat.le_refl _) (by omega) (h ▸ hi)), .inr ⟨Nat.le_refl _, by omega⟩, hnr⟩
theorem rows_cells {w : World} {ρ : Nat → Value} {own : Nat → Option Nat} {i sz : Nat} {rows : List (List Cell)} {ob : Ob} (h : RepOb w ρ own i ob) (ho : ob.rows? = some (sz, rows)) (hs : 0 < sz) :
    ∃ A c cells, ρ i = .slice A rows.length c ∧ RowsRd w (fun k => own k = none) sz rows cells ∧ (∀ ad, A = some ad → ∀ (q : Nat) (u : Value), cells[q]? = some u → w.cell? (ad.add q) = some u) ∧ (A = none → rows = []) := by
  cases ob with
  | no => cases ho
  | box t cs => cases ho
  | nest e e2 sz2 rows hole => cases ho
  | map l => cases ho
  | fz sz' rows' =>
    simp only [Ob.rows?, Option.some.injEq, Prod.mk.injEq] at ho
    obtain ⟨rfl, rfl⟩ := ho
    have h1 : Rd w (fun k => own k = none) (.sl sz' rows') (ρ i) := h
    generalize ρ i = v at h1
    cases h1 with
    | sl sz rows A c u hc hm hz hn hA hR =>
      have hget : ∀ (j : Nat) (r : List Cell) (f : Nat), rows'[j]? = some r → f < sz' → ((List.range (rows'.length * sz')).map fun q => u (q / sz') (q % sz'))[j * sz' + f]? = some (u j f) := fun j r f hj hf => by
        have hjl : j < rows'.length := (List.getElem?_eq_some_iff.1 hj).1
        have hle : j * sz' + sz' ≤ rows'.length * sz' := by rw [← Nat.succ_mul]; exact Nat.mul_le_mul_right _ hjl
        rw [List.getElem?_map, List.getElem?_range (by omega), Option.map_some]
        have h1 : (j * sz' + f) / sz' = j := by rw [Nat.add_comm, Nat.add_mul_div_right _ _ hs, Nat.div_eq_of_lt hf, Nat.zero_add]
        have h2 : (j * sz' + f) % sz' = f := by rw [Nat.add_comm, Nat.add_mul_mod_self_right, Nat.mod_eq_of_lt hf]
        rw [h1, h2]
      refine ⟨A, c, (List.range (rows'.length * sz')).map fun q => u (q / sz') (q % sz'), rfl, ⟨by simp, fun j r hj => ⟨hz r (List.mem_of_getElem? hj), fun f cl hf => ?_⟩⟩, fun ad had q v hq => ?_, fun hnone => ?_⟩
      · have hfl : f < sz' := by rw [← hz r (List.mem_of_getElem? hj)]; exact (List.getElem?_eq_some_iff.1 hf).1
        exact ⟨u j f, hget j r f hj hfl, hR j r f cl hj hf⟩
      · have hql : q < rows'.length * sz' := by have := (List.getElem?_eq_some_iff.1 hq).1; simpa using this
        have hj : q / sz' < rows'.length := Nat.div_lt_of_lt_mul (by rw [Nat.mul_comm]; exact hql)
        have hf : q % sz' < sz' := Nat.mod_lt _ hs
        have hr := List.getElem?_eq_getElem hj
        have hrl := hz _ (List.getElem_mem hj)
        have hcl := List.getElem?_eq_getElem (show q % sz' < rows'[q / sz'].length by omega)
        obtain ⟨a, ha, _, hcell⟩ := hA _ _ _ _ hr hcl
        rw [had] at ha
        cases ha
        have hqe : q / sz' * sz' + q % sz' = q := by rw [Nat.mul_comm]; exact Nat.div_add_mod q sz'
        rw [hqe] at hcell
        have := hget _ _ (q % sz') hr hf
        rw [hqe, hq] at this
        cases this
        exact hcell
      · by_cases h : rows' = []
        · exact h
        · obtain ⟨a, ha⟩ := hn h
          rw [hnone] at ha
          cases ha
  | row e sz' rows' =>
    simp only [Ob.rows?, Option.some.injEq, Prod.mk.injEq] at ho
    obtain ⟨rfl, rfl⟩ := ho
    obtain ⟨h0, cells, h1, h2, h3⟩ := h
    rcases h1.2 with ⟨h4, h5⟩ | ⟨g, off, cap, cur, he, hh, r1, r2, r3, r4⟩
    · exact ⟨none, 0, cells, by rw [h4, h5], h3, fun ad had => (by cases had), fun _ => List.eq_nil_of_length_eq_zero h5⟩
    · exact ⟨_, cap, cells, he, h3, fun ad had q u hq => by cases had; exact h1.cells he _ _ hq, fun h => by cases h⟩
theorem RowsRd.append {w : World} {ok : Nat → Prop} {sz : Nat} {rows rows' : List (List Cell)} {cells cells' : List Value} (h : RowsRd w ok sz rows cells) (h' : RowsRd w ok sz rows' cells') : RowsRd w ok sz (rows ++ rows') (cells ++ cells') := by
  refine ⟨by rw [List.length_append, List.length_append, h.len, h'.len, Nat.add_mul], fun i r hi => ?_⟩
  rcases Nat.lt_or_ge i rows.length with hlt | hge
  · rw [List.getElem?_append_left hlt] at hi
    obtain ⟨h1, h2⟩ := h.each i r hi
    refine ⟨h1, fun j cl hj => ?_⟩
    obtain ⟨u, h3, h4⟩ := h2 j cl hj
    have := (List.getElem?_eq_some_iff.1 h3).1
    exact ⟨u, by rw [List.getElem?_append_left this]; exact h3, h4⟩
  · rw [List.getElem?_append_right hge] at hi
    obtain ⟨h1, h2⟩ := h'.each _ r hi
    refine ⟨h1, fun j cl hj => ?_⟩
    obtain ⟨u, h3, h4⟩ := h2 j cl hj
    refine ⟨u, ?_, h4⟩
    have hle : rows.length * sz ≤ i * sz := Nat.mul_le_mul_right _ hge
    rw [List.getElem?_append_right (by rw [h.len]; omega), h.len]
    have : i * sz + j - rows.length * sz = (i - rows.length) * sz + j := by rw [Nat.sub_mul]; omega
    rw [this]
    exact h3
theorem RowsRd.one {w : World} {ok : Nat → Prop} {sz : Nat} {rows : List (List Cell)} {cells : List Value} (h : RowsRd w ok sz rows cells) (hs : 0 < sz) : ∀ u ∈ cells, u.oneCell' = true := fun u hu => by
  obtain ⟨q, hq⟩ := List.getElem?_of_mem hu
  have hql : q < rows.length * sz := by rw [← h.len]; exact (List.getElem?_eq_some_iff.1 hq).1
  have hj : q / sz < rows.length := Nat.div_lt_of_lt_mul (by rw [Nat.mul_comm]; exact hql)
  obtain ⟨h1, h2⟩ := h.each _ _ (List.getElem?_eq_getElem hj)
  have hf : q % sz < rows[q / sz].length := by rw [h1]; exact Nat.mod_lt _ hs
  obtain ⟨u', h3, h4⟩ := h2 _ _ (List.getElem?_eq_getElem hf)
  have hqe : q / sz * sz + q % sz = q := by rw [Nat.mul_comm]; exact Nat.div_add_mod q sz
  rw [hqe, hq] at h3
  cases h3
  exact h4.one
theorem run_appendG {w : World} {t ty e : TypeId} {i : TypeInfo} {z : Value} (ht : P.underlying t = some (.slice e)) (hi : P.info? e = some i) (hz : i.zero = some z) (hzs : z.cells.size = i.size) (hsz : 0 < i.size)
    {v : Value} {n : Nat} {xs : List Value} (hown : OwnsR w e i.size v n xs) {A : Option Addr} {m c : Nat} {news : List Value} (hl : news.length = m * i.size) (hnews : ∀ ad, A = some ad → ∀ (q : Nat) (u : Value), news[q]? = some u → w.cell? (ad.add q) = some u) (hA : A = none → m = 0) (h1 : ∀ u ∈ news, u.oneCell' = true)
    (h63 : n + m ≤ maxLen) (hbytes : (n + m) * i.bytes ≤ 140737488355328) :
    ∃ v' w', (Builtin.append_ #[t, t] ty #[v, .slice A m c]).run P w = .ok v' w' ∧ OwnsR w' e i.size v' (n + m) (xs ++ news) ∧ w.grownBy w' v.ownBlock ∧ (v'.ownBlock = v.ownBlock ∨ v'.ownBlock = some w.heap.size) := by
  cases A with
  | some ad =>
    rcases hown.2 with ⟨rfl, rfl⟩ | ⟨g, off, cap, cur, rfl, hg, hnc, hcm, hcs, htake⟩
    · have hx : xs = [] := List.eq_nil_of_length_eq_zero (by simpa using hown.1)
      subst hx
      obtain ⟨v', w', h2, h3, h4, _, h5⟩ := run_append_own_at (P := P) w 0 t ty e i z i.size i.bytes ht hi hz rfl rfl hzs hsz _ 0 [] (World.ownsRow_nil w 0 e i.size) ad m c news hl (hnews ad rfl) h1 h63 hbytes (Nat.zero_le _)
      exact ⟨v', w', h2, OwnsR.of h3, h4, h5⟩
    · by_cases hroom : n + m ≤ cap
      · have hfit : off + (n * i.size) + news.length ≤ cur.size := by
          have : (n + m) * i.size ≤ cap * i.size := Nat.mul_le_mul_right _ hroom
          rw [hl]; rw [Nat.add_mul] at this; omega
        have hf := run_firstCells_some (P := P) w i.size m ad m c news hl (hnews ad rfl)
        have hst := run_storeCells_at P g (off + n * i.size) e news 0 cur w hg (by simpa using hfit) h1
        simp only [Nat.add_zero] at hst
        have hr : (Builtin.append_ #[t, t] ty #[.slice (some ⟨g, off, none⟩) n cap, .slice (some ad) m c]).run P w = .ok (.slice (some ⟨g, off, none⟩) (n + m) cap) (w.setRow g (cur.toList.take (off + n * i.size) ++ news ++ cur.toList.drop (off + n * i.size + news.length)).toArray) := by
          simp [Builtin.append_, run_underlying ht, sizeOf, typeInfo, hi, Builtin.lenOf, hroom, hf, Addr.add_lit, hst]
        refine ⟨_, _, hr, ⟨by rw [List.length_append, hown.1, hl, Nat.add_mul], .inr ⟨g, off, cap, _, rfl, setRow_heap w g cur _ e _ hg, hroom, hcm, ?_, ?_⟩⟩, ⟨rfl, rfl, rfl, by simp, fun k _ hk => setRow_other w g k _ (fun e => hk (by simp [Value.ownBlock, e]))⟩, .inl rfl⟩
        · simp only [List.size_toArray, List.length_append, List.length_take, List.length_drop, Array.length_toList]
          omega
        · have hx : (cur.toList.take (off + n * i.size)).drop off = xs := by
            rw [List.drop_take, Nat.add_sub_cancel_left]; exact htake
          show ((cur.toList.take (off + n * i.size) ++ news ++ _).drop off).take _ = _
          rw [List.append_assoc, List.drop_append_of_le_length (by rw [List.length_take, Array.length_toList]; omega), hx, ← List.append_assoc]
          have hlen : (xs ++ news).length = (n + m) * i.size := by rw [List.length_append, hown.1, hl, Nat.add_mul]
          rw [← hlen]
          exact List.take_left
      · have hlen : (xs ++ news).length = (n + m) * i.size := by rw [List.length_append, hown.1, hl, Nat.add_mul]
        have hge := grownCap_ge w (n + m) cap e
        have hcm2 : grownCap w (n + m) cap e ≤ maxLen := grownCap_le_maxLen w (n + m) cap e h63
        have hsmall : n + m ≤ 9223372036854775807 := by simp only [maxLen] at h63; omega
        have hr := run_append_grow (P := P) w t ty e i z ht hi hz ⟨g, off, none⟩ n cap xs hown.1 (fun j u hj => hown.cells rfl j u hj) ad m c news hl (hnews ad rfl) (by omega) (by omega) (growslice_fits (by omega) hbytes)
        refine ⟨_, _, hr, OwnsR.of ⟨hlen, .inr ⟨w.heap.size, _, _, rfl, Nat.zero_le _, heap_alloc_new w.drew _, hge, hcm2, ?_, ?_⟩⟩, ⟨rfl, rfl, rfl, by simp, fun k hk _ => heap_alloc_old w.drew _ hk⟩, .inr rfl⟩
        · simp only [Array.size_append, List.size_toArray, size_zeroCells, hzs, hown.1, hl, ← Nat.add_mul]
          congr 1
          omega
        · simp only [Array.toList_append, List.append_assoc]
          rw [← List.append_assoc, ← hlen]
          exact List.take_left
  | none =>
    have h0 := hA rfl
    subst h0
    obtain rfl : news = [] := List.eq_nil_of_length_eq_zero (by simpa using hl)
    refine ⟨v, w, ?_, by simpa using hown, World.grownBy.refl w _, .inl rfl⟩
    rcases hown.2 with ⟨rfl, hn⟩ | ⟨g, off, cap, cur, rfl, _, hnc, _⟩
    · simp [Builtin.append_, run_underlying ht, sizeOf, typeInfo, hi, Builtin.lenOf, Builtin.firstCells]
    · simp [Builtin.append_, run_underlying ht, sizeOf, typeInfo, hi, Builtin.lenOf, Builtin.firstCells, hnc, storeCells]
theorem T_append {α : Type} {enc : α → List Cell} {xs ys : List α} {t i j e sz : Nat} {x y : Operand} {ty ety : TyI} (ho : o.op = .call { callee := .builtin .append, args := #[x, y], argTypes := #[t, t] }) (hx : st.ev x = some (.r i)) (hob : st.o.lookup i = some (.row e sz (xs.map enc))) (hy : st.ev y = some (.r j)) (hob2 : (st.o.lookup j).bind Ob.rows? = some (sz, ys.map enc)) (hij : (i == j) = false)
    (hi : D.get t = some ty) (he0 : (ty.elem == 0) = false) (he : D.get ty.elem = some ety) (hs : ety.size = sz) (hee : ty.elem = e) (hzl : ety.zero.length = ety.size) (hl : (xs.length + ys.length) * ety.bytes ≤ 140737488355328) (hl2 : xs.length + ys.length ≤ 9223372036854775807) :
    T P N o b [i, j] st (.r b) 1 [(b, .row e sz ((xs ++ ys).map enc)), (i, .no)] := by
  intro w0 M U ρ own st' a w hev hp hfrs fr hr
  obtain ⟨hv, hu⟩ := fr.eval ((hev x (by simp [ho, Op.operands, Call.operands])).trans hx)
  obtain ⟨hv2, hu2⟩ := fr.eval ((hev y (by simp [ho, Op.operands, Call.operands])).trans hy)
  obtain ⟨⟨hs0, cells, g1, g2, g3⟩, hUi, _⟩ := hr.ob i _ ((hp i (by simp)).trans hob)
  obtain ⟨oby, hoby1, hoby2⟩ := Option.bind_eq_some_iff.1 hob2
  obtain ⟨ry, hUj, _⟩ := hr.ob j _ ((hp j (by simp)).trans hoby1)
  subst hee
  subst hs
  obtain ⟨A, c, cellsy, hA, hRy, hcy, hny⟩ := rows_cells ry hoby2 hs0
  obtain ⟨jt, z, hjt, hjz, hjc, hjs, hjb⟩ := (D.ok _ ety he).ti
  have hut := (D.ok t ty hi).sl (by simpa using he0)
  rw [List.length_map] at hA
  have hRX := g3.append hRy
  rw [← List.map_append] at hRX
  have g1' : OwnsR w ty.elem jt.size (ρ i) xs.length cells := by rw [hjs]; simpa using g1
  have hzs' : z.cells.size = jt.size := by rw [← Array.length_toList, hjc, hjs]; exact hzl
  obtain ⟨v', w', r1, r2, r3, r4⟩ := run_appendG (ty := o.type) (c := c) (w := w) hut hjt hjz hzs' (by rw [hjs]; exact hs0) g1' (A := A) (m := ys.length) (by rw [hRy.len, hjs, List.length_map]) hcy (fun h => by have := hny h; simpa using this) (hRy.one hs0) (by simpa [maxLen] using hl2) (by rw [hjb]; exact hl)
  have hrun : (execOp a.eval o).run P w = .ok (.value v') w' := by
    simp only [execOp, ho, resolve, invoke, builtin, hv, hv2, LV.val, hA, Sem.run_bind, Sem.run_pure, Result.andThen_ok, List.map_toArray, List.map_cons, List.map_nil]
    rw [r1]
    rfl
  have hρ : ∀ q, U q → upd1 ρ b v' q = ρ q := fun q hq => upd1_other _ _ (fun h => hfrs b (Nat.le_refl _) (by omega) (h ▸ hq))
  have hbi : b ≠ i := fun h => hfrs b (Nat.le_refl _) (by omega) (h ▸ hUi)
  refine does_value hrun ⟨upd1 ρ b v', fun k => if own k = some i ∨ k = w.heap.size then some b else own k, by simp [LV.val, upd1_same], hρ, .inr ⟨Nat.le_refl _, by omega⟩, ?_⟩
  have hblk : ∀ k, k < w.heap.size → own k ≠ some i → w'.heap[k]? = w.heap[k]? := fun k hk hne => r3.block k hk (fun h => hne (g2 k h.symm))
  refine hr.step (fun q => q = i) r3.os r3.tape r3.output r3.size (fun k hk hq => ?_) hρ (fun i hi => .inl hi) (fun q hq => ⟨.no, by subst hq; simp [List.lookup, show (q == b) = false by simpa using Ne.symm hbi]⟩) (fun q ob' hq => by
    simp only [List.lookup] at hq
    cases hqb : q == b with
    | true => exact .inr (by rw [show q = b by simpa using hqb]; exact hfrs b (Nat.le_refl _) (by omega))
    | false =>
      rw [hqb] at hq
      cases hqi : q == i with
      | true => exact .inl (by rw [show q = i by simpa using hqi]; exact ⟨_, (hp i (by simp)).trans hob⟩)
      | false => rw [hqi] at hq; cases hq) (fun q ob' hq => ?_)
  · have hne : own k ≠ some i := fun h => hq i h rfl
    exact ⟨hblk k hk hne, by simp [hne, show k ≠ w.heap.size by omega]⟩
  · simp only [List.lookup] at hq
    cases hqb : q == b with
    | true =>
      rw [hqb] at hq
      obtain rfl : q = b := by simpa using hqb
      obtain rfl : Ob.row ty.elem ety.size ((xs ++ ys).map enc) = ob' := by injection hq
      refine ⟨⟨hs0, cells ++ cellsy, ?_, fun k hk => ?_, ?_⟩, .inr ⟨Nat.le_refl _, by omega⟩, trivial⟩
      · rw [upd1_same, List.length_map, List.length_append, ← hjs]
        exact r2
      · rw [upd1_same] at hk
        rcases r4 with r4 | r4
        · rw [r4] at hk
          simp [g2 k hk]
        · rw [r4] at hk
          cases hk
          simp
      · exact hRX.mono (fun k hk hlt => ⟨by simp [hk, show k ≠ w.heap.size by omega], hblk k hlt (by rw [hk]; simp)⟩)
    | false =>
      rw [hqb] at hq
      cases hqi : q == i with
      | true =>
        rw [hqi] at hq
        obtain rfl : Ob.no = ob' := by injection hq
        obtain rfl : q = i := by simpa using hqi
        exact ⟨trivial, .inl hUi, trivial⟩
      | false => rw [hqi] at hq; cases hq
end
end Lg
end Go.Proofs.Ytpfhmodjjljpjaa

namespace Go.Proofs.Ytpfhmodjjljpjaa
open Go.RowKit
namespace Lg
set_option linter.unusedSimpArgs false
set_option linter.unusedVariables false
def St.app (st : St) (dst : Option Tmp) (lv : LV) (upd : List (Nat × Ob)) : St :=
  ⟨match dst with | some d => (d, lv) :: st.s | none => st.s, upd ++ st.o⟩
inductive On (ops : Array Oper) (st : St) (o : Oper) : Bool → Prop
  | plain (h : o.guard = none) : On ops st o true
  | yes {j d : Nat} {c t : Bool} (h : o.guard = some (j, t)) (hj : (ops[j]?).bind (·.dst) = some d) (hs : st.s.lookup d = some (.v (.bool c))) (hc : (c == t) = true) : On ops st o true
  | no {j d : Nat} {c t : Bool} (h : o.guard = some (j, t)) (hj : (ops[j]?).bind (·.dst) = some d) (hs : st.s.lookup d = some (.v (.bool c))) (hc : (c == t) = false) : On ops st o false
  | und {j d : Nat} {t : Bool} (h : o.guard = some (j, t)) (hj : (ops[j]?).bind (·.dst) = some d) (hs : st.s.lookup d = some (.v undef)) : On ops st o false
structure Tr where
  on : Bool
  pre : List Nat
  lv : LV
  nn : Nat
  upd : List (Nat × Ob)
inductive Run (P : Program) (N : Nat) (ops : Array Oper) (bs : Nat) : Nat → St → List Tr → St → Prop
  | done {j : Nat} {st : St} (h : ops.size = j) : Run P N ops bs j st [] st
  | op {j : Nat} {o : Oper} {st st' : St} {lv : LV} {pre : List Nat} {nn : Nat} {upd : List (Nat × Ob)} {tr : List Tr} (ho : ops[j]? = some o) (hg : On ops st o true) (ht : T P N o (bs + 16 * j) pre st lv nn upd) (hn : decide (nn ≤ 16) = true)
      (r : Run P N ops bs (j + 1) (st.app o.dst lv upd) tr st') : Run P N ops bs j st (⟨true, pre, lv, nn, upd⟩ :: tr) st'
  | off {j : Nat} {o : Oper} {st st' : St} {tr : List Tr} (ho : ops[j]? = some o) (hg : On ops st o false) (r : Run P N ops bs (j + 1) (st.app o.dst (.v undef) []) tr st') : Run P N ops bs j st (⟨false, [], .v undef, 0, []⟩ :: tr) st'
def Rep (N : Nat) (w0 : World) (M : Fp) (U : Nat → Prop) (st : St) (a : Act) (w : World) : Prop := ∃ ρ own, FR N U ρ st.s a ∧ HR w0 M U ρ own st.o w ∧ a.defers = M.ds
theorem Rep.congr {N : Nat} {w0 : World} {M : Fp} {U : Nat → Prop} {st st' : St} {a : Act} {w : World} (h : Rep N w0 M U st a w) (hs : ∀ d, st'.s.lookup d = st.s.lookup d) (ho : ∀ i, st'.o.lookup i = st.o.lookup i) : Rep N w0 M U st' a w := by
  obtain ⟨ρ, own, fr, hr, hd⟩ := h
  exact ⟨ρ, own, ⟨fr.sz, fun d lv hd => fr.sl d lv ((hs d).symm.trans hd)⟩, hr.congr ho, hd⟩
theorem Rep.mono {N : Nat} {w0 : World} {M : Fp} {U U' : Nat → Prop} {st : St} {a : Act} {w : World} (h : Rep N w0 M U st a w) (hU : ∀ i, U i → U' i) : Rep N w0 M U' st a w := by
  obtain ⟨ρ, own, fr, hr, hd⟩ := h
  exact ⟨ρ, own, fr.keep (fun _ _ => rfl) hU, hr.mono hU, hd⟩
def Fw (ro : Option Nat) : Fence := { fn := fun _ => True, depth := none, alive := false, round := ro }
theorem calls_fw {ro : Option Nat} {n : Nat} {P : Program} {f : FuncId} {args : Array Value} {w : World} {R : Ending → World → Prop} (h : Calls P f args w R) : CallsIn (Fw ro) n P f args w R := (callsIn_wide (n := n)).2 h
theorem put_defers (a : Act) (d : Option Tmp) (v : Value) : (a.put d v).defers = a.defers := by cases d <;> rfl
theorem OpDoes.wpIn {P : Program} {o : Oper} {a : Act} {w : World} {R : Value → World → Prop} (h : OpDoes P o a w R) {ro : Option Nat} (next : Act → World → Prop) (Q : Exit → Act → World → Prop) (hn : ∀ v w', R v w' → next (a.put o.dst v) w') : o.wpIn (Fw ro) 0 P a w next Q := by
  refine ⟨fun _ _ => trivial, ?_⟩
  have hnd : ∀ c, o.op ≠ .defer c := fun c hc => by
    have h1 := h (fun a' _ => a'.defers = a.defers) (fun _ _ _ => False) (fun v w' _ => put_defers _ _ _)
    unfold Oper.wp at h1
    simp only [execOp, hc, Sem.run_bind] at h1
    cases hr : (resolve a.eval c o.type).run P w with
    | ok d w' =>
      rw [hr] at h1
      simp only [Result.andThen_ok, Sem.run_pure, Oper.upon, put_defers] at h1
      have := congrArg List.length h1
      simp at this
    | halt x w' => rw [hr] at h1; cases x <;> exact h1
  have hs : o.semAt (Fw ro).round a.eval = execOp a.eval o := Oper.semAt_eq _ _ o hnd
  rw [hs]
  have h2 := h next Q hn
  unfold Oper.wp at h2
  generalize (execOp a.eval o).run P w = r at h2
  cases r with
  | ok x w' =>
    cases x with
    | enter f args => exact ⟨fun h => (by cases h), calls_fw h2⟩
    | row row args =>
      refine ⟨fun h => (by cases h), fun c cs _ => ?_⟩
      obtain ⟨v, w'', hR, hs⟩ := h2 c cs
      exact ⟨v, w'', hR, (stepsIn_wide (P := P)).2 hs⟩
    | _ => first | exact h2 | exact (show False from h2).elim
  | halt x w' => cases x <;> exact h2
theorem wanted_of {ops : Array Oper} {st : St} {o : Oper} {t : Bool} (h : On ops st o t) {N : Nat} {U : Nat → Prop} {ρ : Nat → Value} {a : Act} (fr : FR N U ρ st.s a) : Region.wanted o (yielded ops a.tmps) = t := by
  cases h with
  | plain h => simp [Region.wanted, h]
  | @yes j d c t h hj hs hc =>
    have h1 := (fr.sl d _ hs).1
    have h2 : yielded ops a.tmps j = some c := by simp [yielded, hj, h1, LV.val]
    simp only [Region.wanted, h, h2]
    simpa using hc
  | @no j d c t h hj hs hc =>
    have h1 := (fr.sl d _ hs).1
    have h2 : yielded ops a.tmps j = some c := by simp [yielded, hj, h1, LV.val]
    simp only [Region.wanted, h, h2]
    simpa using hc
  | @und j d t h hj hs =>
    have h1 := (fr.sl d _ hs).1
    have h2 : yielded ops a.tmps j = none := by simp [yielded, hj, h1, LV.val, undef]
    simp only [Region.wanted, h, h2]
    simp
theorem put_undef {N : Nat} {w0 : World} {M : Fp} {U : Nat → Prop} {st : St} {a : Act} {w : World} (h : Rep N w0 M U st a w) {dst : Option Tmp} (hd : ∀ d, dst = some d → d < N) : Rep N w0 M U (st.app dst (.v undef) []) (a.put dst undef) w := by
  obtain ⟨ρ, own, fr, hr, hdf⟩ := h
  refine ⟨ρ, own, ?_, hr, (put_defers _ _ _).trans hdf⟩
  cases dst with
  | none => exact fr
  | some d => exact fr.put (fun _ _ => rfl) (fun _ h => h) (lv := .v undef) trivial d (hd d rfl)
theorem rep_op {ro : Option Nat} {P : Program} {N : Nat} {o : Oper} {b : Nat} {pre : List Nat} {st st1 : St} {lv : LV} {nn : Nat} {upd : List (Nat × Ob)} (ht : T P N o b pre st1 lv nn upd) {w0 : World} {M : Fp} {U U' : Nat → Prop} {a : Act} {w : World} (h : Rep N w0 M U st a w)
    (hev : ∀ x, x ∈ o.op.operands → st.ev x = st1.ev x) (hp : ∀ i, i ∈ pre → st.o.lookup i = st1.o.lookup i) (hf : ∀ i, b ≤ i → i < b + nn → ¬ U i) (hU : ∀ i, grow U b nn i → U' i) (hd : ∀ d, o.dst = some d → d < N) (next : Act → World → Prop) (Q : Exit → Act → World → Prop)
    (hn : ∀ a' w', Rep N w0 M U' (st.app o.dst lv upd) a' w' → next a' w') : o.wpIn (Fw ro) 0 P a w next Q := by
  obtain ⟨ρ, own, fr, hr, hdf⟩ := h
  refine (ht w0 M U ρ own st a w hev hp hf fr hr).wpIn next Q (fun v w' hv => hn _ _ ?_)
  obtain ⟨ρ', own', rfl, h1, h2, h3⟩ := hv
  refine ⟨ρ', own', ?_, h3.mono hU, (put_defers _ _ _).trans hdf⟩
  cases hdst : o.dst with
  | none => exact fr.keep h1 (fun i hi => hU i (.inl hi))
  | some d => exact fr.put h1 (fun i hi => hU i (.inl hi)) (used_mono (fun _ _ => rfl) hU lv h2) d (hd d hdst)
def dstsOk (ops : Array Oper) (N : Nat) : Bool := ops.toList.all fun o => match o.dst with | some d => decide (d < N) | none => true
theorem dsts_ok {ops : Array Oper} {N : Nat} (h : dstsOk ops N = true) {j : Nat} {o : Oper} (ho : ops[j]? = some o) : ∀ d, o.dst = some d → d < N := fun d hd => by
  have h1 := List.all_eq_true.1 h o (by rw [← Array.getElem?_toList] at ho; exact List.mem_of_getElem? ho)
  rw [hd] at h1
  exact of_decide_eq_true h1
theorem run_seq {ro : Option Nat} {P : Program} {N : Nat} {ops : Array Oper} {bs : Nat} (hd : dstsOk ops N = true) {w0 : World} {M : Fp} {Q : Exit → Act → World → Prop} {j : Nat} {st st' : St} {tr : List Tr} (r : Run P N ops bs j st tr st') :
    ∀ (a : Act) (w : World), Rep N w0 M (fun i => i < bs + 16 * j) st a w → (∀ a' w', Rep N w0 M (fun i => i < bs + 16 * ops.size) st' a' w' → Q .normal a' w') → wpOpsIn (Fw ro) 0 P ops Q (List.range' j (ops.size - j)) a w := by
  induction r with
  | @done j st h =>
    intro a w hr hq
    subst h
    rw [Nat.sub_self]
    exact hq a w hr
  | @op j o st st' lv pre nn upd tr ho hg ht hn r ih =>
    intro a w hr hq
    have hlt : j < ops.size := (Array.getElem?_eq_some_iff.1 ho).1
    have hsz : ops.size - j = (ops.size - (j + 1)) + 1 := by omega
    have hn' : nn ≤ 16 := of_decide_eq_true hn
    obtain ⟨ρ, own, fr, hh, hdf⟩ := hr
    rw [hsz, List.range'_succ]
    simp only [wpOpsIn, ho, wanted_of hg fr, if_true]
    refine (rep_op ht ⟨ρ, own, fr, hh, hdf⟩ (fun _ _ => rfl) (fun _ _ => rfl) (fun i h1 h2 h3 => by omega) (U' := fun i => i < bs + 16 * (j + 1)) (fun i hi => ?_) (dsts_ok hd ho) _ Q (fun a' w' h' => ih a' w' h' hq))
    rcases hi with hi | hi <;> omega
  | @off j o st st' tr ho hg r ih =>
    intro a w hr hq
    have hlt : j < ops.size := (Array.getElem?_eq_some_iff.1 ho).1
    have hsz : ops.size - j = (ops.size - (j + 1)) + 1 := by omega
    have hr' := hr
    obtain ⟨ρ, own, fr, hh, _⟩ := hr
    rw [hsz, List.range'_succ]
    simp only [wpOpsIn, ho, wanted_of hg fr, Bool.false_eq_true, if_false]
    refine ⟨fun _ _ => trivial, ?_⟩
    exact ih _ _ ((put_undef hr' (dsts_ok hd ho)).mono (fun i hi => by omega)) hq
theorem region_seq {ro : Option Nat} {P : Program} {N : Nat} {ops : Array Oper} {bs id : Nat} (hd : dstsOk ops N = true) {w0 : World} {M : Fp} {Q : Exit → Act → World → Prop} {st st' : St} {tr : List Tr} (r : Run P N ops bs 0 st tr st') {a : Act} {w : World} (h : Rep N w0 M (fun i => i < bs) st a w)
    (hq : ∀ a' w', Rep N w0 M (fun i => i < bs + 16 * ops.size) st' a' w' → Q .normal a' w') : (Code.region id ops false).wpIn (Fw ro) 0 P Q a w := by
  refine wpIn_region ?_
  have := run_seq (ro := ro) hd r a w (h.mono (fun i hi => by omega)) hq
  rw [Nat.sub_zero, ← List.range_eq_range'] at this
  exact this
end Lg
end Go.Proofs.Ytpfhmodjjljpjaa

namespace Go.Proofs.Ytpfhmodjjljpjaa
open Go.RowKit
namespace Lg
set_option linter.unusedSimpArgs false
set_option linter.unusedVariables false
def slotsOf (ops : Array Oper) (o : Oper) : List Nat := o.looksAt ops
def dep1 (ops : Array Oper) (k j : Nat) : Prop := ∃ o e, ops[j]? = some o ∧ e ∈ o.after ∧ Region.binds .any e = true ∧ e.on = k
inductive Dep (ops : Array Oper) : Nat → Nat → Prop
  | one {k j : Nat} (h : dep1 ops k j) : Dep ops k j
  | more {k m j : Nat} (h : dep1 ops m j) (r : Dep ops k m) : Dep ops k j
def predMask (masks : List Nat) (o : Oper) : Nat := o.after.toList.foldl (fun m e => if Region.binds .any e then m ||| (1 <<< e.on ||| masks.getD e.on 0) else m) 0
def masks (ops : Array Oper) : Nat → List Nat
  | 0 => []
  | j + 1 => masks ops j ++ [match ops[j]? with | some o => predMask (masks ops j) o | none => 0]
theorem foldl_mask {ms : List Nat} {k : Nat} : ∀ (es : List Edge) (m : Nat), (es.foldl (fun m e => if Region.binds .any e then m ||| (1 <<< e.on ||| ms.getD e.on 0) else m) m).testBit k = true →
    m.testBit k = true ∨ ∃ e ∈ es, Region.binds .any e = true ∧ (e.on = k ∨ (ms.getD e.on 0).testBit k = true)
  | [], m, h => .inl h
  | e :: es, m, h => by
    simp only [List.foldl_cons] at h
    rcases foldl_mask es _ h with h | ⟨e', he', h1, h2⟩
    · split at h
      · rename_i hb
        rw [Nat.testBit_or, Nat.testBit_or, Nat.one_shiftLeft, Nat.testBit_two_pow] at h
        simp only [Bool.or_eq_true, decide_eq_true_eq] at h
        rcases h with h | h | h
        · exact .inl h
        · exact .inr ⟨e, by simp, hb, .inl h⟩
        · exact .inr ⟨e, by simp, hb, .inr h⟩
      · exact .inl h
    · exact .inr ⟨e', by simp [he'], h1, h2⟩
theorem masks_length (ops : Array Oper) : ∀ n, (masks ops n).length = n
  | 0 => rfl
  | n + 1 => by simp [masks, masks_length ops n]
theorem masks_dep (ops : Array Oper) : ∀ (n m k : Nat), ((masks ops n).getD m 0).testBit k = true → Dep ops k m
  | 0, m, k, h => by simp [masks] at h
  | n + 1, m, k, h => by
    have hl := masks_length ops n
    rcases Nat.lt_trichotomy m n with hm | hm | hm
    · refine masks_dep ops n m k ?_
      simp only [List.getD_eq_getElem?_getD, masks] at h ⊢
      rw [List.getElem?_append_left (by omega)] at h
      exact h
    · subst hm
      simp only [List.getD_eq_getElem?_getD, masks] at h
      rw [List.getElem?_append_right (by omega)] at h
      simp only [hl, Nat.sub_self, List.getElem?_cons_zero, Option.getD_some] at h
      cases ho : ops[m]? with
      | none => rw [ho] at h; simp at h
      | some o =>
        rw [ho] at h
        rcases foldl_mask _ _ h with h | ⟨e, he, hb, h | h⟩
        · simp at h
        · exact .one ⟨o, e, ho, Array.mem_toList_iff.1 he, hb, h⟩
        · exact .more ⟨o, e, ho, Array.mem_toList_iff.1 he, hb, rfl⟩ (masks_dep ops m e.on k h)
    · simp only [List.getD_eq_getElem?_getD, masks] at h
      rw [List.getElem?_append_right (by omega)] at h
      rw [List.getElem?_eq_none (by simp; omega)] at h
      simp at h
def ord (ms : List Nat) (k j : Nat) : Bool := if k < j then (ms.getD j 0).testBit k else (ms.getD k 0).testBit j
def reads (tr : List Tr) (j : Nat) : List Nat := match tr[j]? with | some t => t.pre ++ t.upd.map (·.1) | none => []
def writes (tr : List Tr) (j : Nat) : List Nat := match tr[j]? with | some t => t.upd.map (·.1) | none => []
def looks (ops : Array Oper) (j : Nat) : List Nat := match ops[j]? with | some o => o.looksAt ops | none => []
def dstOf (ops : Array Oper) (j : Nat) : Option Nat := (ops[j]?).bind (·.dst)
def chk (ops : Array Oper) (tr : List Tr) : Bool :=
  let ms := masks ops ops.size
  (ops.toList.all fun o => match o.op with | .select .. => false | _ => true) &&
  (List.range ops.size).all fun j =>
    (match ops[j]? with | some o => o.after.toList.all (fun e => !Region.binds .any e || decide (e.on < j)) | none => true) &&
    (List.range ops.size).all fun k => k == j || ord ms k j ||
      ((match dstOf ops k with | some d => !(looks ops j).contains d && dstOf ops j != some d | none => true) &&
       (reads tr j).all fun i => !(writes tr k).contains i)
def lvOf (tr : List Tr) (j : Nat) : LV := match tr[j]? with | some t => t.lv | none => .v undef
def updOf (tr : List Tr) (j : Nat) : List (Nat × Ob) := match tr[j]? with | some t => t.upd | none => []
def stepOf (ops : Array Oper) (tr : List Tr) (st : St) (j : Nat) : St := st.app (dstOf ops j) (lvOf tr j) (updOf tr j)
theorem slot_at {ops : Array Oper} {tr : List Tr} (d : Nat) : ∀ (L : List Nat) (st : St), (L.foldl (stepOf ops tr) st).s.lookup d =
    match (L.filter (fun k => dstOf ops k == some d)).getLast? with | some k => some (lvOf tr k) | none => st.s.lookup d
  | [], st => rfl
  | k :: L, st => by
    rw [List.foldl_cons, slot_at d L]
    have hk : (stepOf ops tr st k).s.lookup d = if dstOf ops k == some d then some (lvOf tr k) else st.s.lookup d := by
      unfold stepOf St.app
      cases hd : dstOf ops k with
      | none => simp
      | some e =>
        simp only [List.lookup]
        by_cases h : d = e
        · subst h; simp
        · have h1 : (d == e) = false := by simpa using h
          have h2 : (some e == some d) = false := by simpa using fun h' => h h'.symm
          rw [h1, h2]; rfl
    rw [List.filter_cons, hk]
    cases hp : dstOf ops k == some d
    · simp
    · simp only [if_true, List.getLast?_cons]
      cases (L.filter (fun k => dstOf ops k == some d)).getLast? <;> rfl
theorem obj_at {ops : Array Oper} {tr : List Tr} (i : Nat) : ∀ (L : List Nat) (st : St), (L.foldl (stepOf ops tr) st).o.lookup i =
    match (L.filter (fun k => ((updOf tr k).lookup i).isSome)).getLast? with | some k => (updOf tr k).lookup i | none => st.o.lookup i
  | [], st => rfl
  | k :: L, st => by
    rw [List.foldl_cons, obj_at i L]
    have hk : (stepOf ops tr st k).o.lookup i = if ((updOf tr k).lookup i).isSome then (updOf tr k).lookup i else st.o.lookup i := by
      unfold stepOf St.app
      simp only [lookup_append]
      cases (updOf tr k).lookup i <;> rfl
    rw [List.filter_cons, hk]
    cases hp : ((updOf tr k).lookup i).isSome
    · simp
    · simp only [if_true, List.getLast?_cons]
      cases (L.filter (fun k => ((updOf tr k).lookup i).isSome)).getLast? <;> rfl
theorem run_spec {P : Program} {N : Nat} {ops : Array Oper} {bs : Nat} {j : Nat} {st st' : St} {tr : List Tr} (r : Run P N ops bs j st tr st') :
    ∃ f : Nat → St, f j = st ∧ f ops.size = st' ∧ j + tr.length = ops.size ∧ ∀ k, j ≤ k → k < ops.size → ∃ o t, ops[k]? = some o ∧ tr[k - j]? = some t ∧ f (k + 1) = (f k).app o.dst t.lv t.upd ∧
      ((On ops (f k) o true ∧ T P N o (bs + 16 * k) t.pre (f k) t.lv t.nn t.upd ∧ t.nn ≤ 16) ∨ (On ops (f k) o false ∧ t.lv = .v undef ∧ t.upd = [])) := by
  induction r with
  | @done j st h => exact ⟨fun _ => st, rfl, rfl, by simp [h], fun k h1 h2 => by omega⟩
  | @op j o st st' lv pre nn upd tr ho hg ht hn r ih =>
    obtain ⟨f, h1, h2, h3, h4⟩ := ih
    have hlt : j < ops.size := (Array.getElem?_eq_some_iff.1 ho).1
    refine ⟨fun k => if k = j then st else f k, by simp, by simp [show ¬ ops.size = j by omega, h2], by simp; omega, fun k hk hs => ?_⟩
    rcases Nat.lt_or_ge j k with hjk | hjk
    · obtain ⟨o', t, e1, e2, e3, e4⟩ := h4 k hjk hs
      refine ⟨o', t, e1, ?_, ?_, ?_⟩
      · rw [show k - j = (k - (j + 1)) + 1 by omega]; exact e2
      · simp [show ¬ k + 1 = j by omega, show ¬ k = j by omega, e3]
      · simp [show ¬ k = j by omega, e4]
    · obtain rfl : k = j := by omega
      refine ⟨o, _, ho, by simp; rfl, by simp [h1], .inl ⟨by simpa using hg, by simpa using ht, of_decide_eq_true hn⟩⟩
  | @off j o st st' tr ho hg r ih =>
    obtain ⟨f, h1, h2, h3, h4⟩ := ih
    have hlt : j < ops.size := (Array.getElem?_eq_some_iff.1 ho).1
    refine ⟨fun k => if k = j then st else f k, by simp, by simp [show ¬ ops.size = j by omega, h2], by simp; omega, fun k hk hs => ?_⟩
    rcases Nat.lt_or_ge j k with hjk | hjk
    · obtain ⟨o', t, e1, e2, e3, e4⟩ := h4 k hjk hs
      refine ⟨o', t, e1, ?_, ?_, ?_⟩
      · rw [show k - j = (k - (j + 1)) + 1 by omega]; exact e2
      · simp [show ¬ k + 1 = j by omega, show ¬ k = j by omega, e3]
      · simp [show ¬ k = j by omega, e4]
    · obtain rfl : k = j := by omega
      refine ⟨o, _, ho, by simp; rfl, by simp [h1], .inr ⟨by simpa using hg, rfl, rfl⟩⟩
def doneL (n : Nat) (D : Nat → Bool) : List Nat := (List.range n).filter D
theorem range_split {n j : Nat} (h : j < n) : List.range n = List.range j ++ j :: List.range' (j + 1) (n - (j + 1)) := by
  rw [List.range_eq_range', List.range_eq_range', show n = j + (1 + (n - (j + 1))) by omega, ← List.range'_append, ← List.range'_append]
  simp [List.range']
  omega
theorem doneL_upto {n j : Nat} (h : j ≤ n) : List.range j = doneL n (fun k => decide (k < j)) := by
  unfold doneL
  rcases Nat.lt_or_ge j n with hj | hj
  · rw [range_split hj, List.filter_append, List.filter_cons]
    have h1 : (List.range j).filter (fun k => decide (k < j)) = List.range j := List.filter_eq_self.2 (by simp)
    have h2 : (List.range' (j + 1) (n - (j + 1))).filter (fun k => decide (k < j)) = [] := List.filter_eq_nil_iff.2 (fun k hk => by simp at hk ⊢; omega)
    rw [h1, h2]; simp
  · obtain rfl : j = n := by omega
    exact (List.filter_eq_self.2 (by simp)).symm
theorem filter_done {n : Nat} {D D' p : Nat → Bool} (h : ∀ k, k < n → p k = true → D k = D' k) : (doneL n D).filter p = (doneL n D').filter p := by
  unfold doneL
  rw [List.filter_filter, List.filter_filter]
  refine List.filter_congr fun k hk => ?_
  cases hp : p k
  · rfl
  · simpa using h k (by simpa using hk) hp
theorem last_done {n j : Nat} {D p : Nat → Bool} (hj : j < n) (hD : D j = true) (hp : p j = true) (h : ∀ k, k < n → p k = true → D k = true → k ≤ j) : ((doneL n D).filter p).getLast? = some j := by
  unfold doneL
  rw [List.filter_filter, range_split hj, List.filter_append, List.filter_cons]
  have h2 : (List.range' (j + 1) (n - (j + 1))).filter (fun a => p a && D a) = [] := List.filter_eq_nil_iff.2 (fun k hk => by
    simp at hk ⊢
    intro hpk
    cases hDk : D k
    · rfl
    · have := h k (by omega) hpk hDk; omega)
  simp [hp, hD, h2]
def isIn (l : Array Bool) (k : Nat) : Bool := l.getD k false
theorem isIn_set {l : Array Bool} {j k : Nat} (hj : j < l.size) : isIn (l.setIfInBounds j true) k = (isIn l k || k == j) := by
  unfold isIn
  by_cases h : j = k
  · subst h; simp [hj]
  · rw [getD_set_ne false h]
    simp [show ¬ k = j from fun e => h e.symm]
theorem getD_eq {l : Array Bool} {j : Nat} (hj : j < l.size) (d : Bool) : l.getD j d = isIn l j := by simp [isIn, hj]
def Down (ops : Array Oper) (D : Nat → Bool) : Prop := ∀ j, D j = true → ∀ k, dep1 ops k j → D k = true
theorem Down.dep {ops : Array Oper} {D : Nat → Bool} (h : Down ops D) {k j : Nat} (hd : Dep ops k j) : D j = true → D k = true := by
  induction hd with
  | one h1 => exact fun hj => h _ hj _ h1
  | more h1 r ih => exact fun hj => ih (h _ hj _ h1)
theorem ord_in {ops : Array Oper} {D : Nat → Bool} (h : Down ops D) {j k : Nat} (hp : ∀ m, dep1 ops m j → D m = true) (hj : D j = false) (ho : ord (masks ops ops.size) k j = true) : D k = decide (k < j) := by
  unfold ord at ho
  split at ho
  · rename_i hlt
    have hd := masks_dep ops _ _ _ ho
    have : D k = true := by
      cases hd with
      | one h1 => exact hp _ h1
      | more h1 r => exact h.dep r (hp _ h1)
    simp [this, hlt]
  · rename_i hlt
    have hd := masks_dep ops _ _ _ ho
    cases hk : D k with
    | true => rw [h.dep hd hk] at hj; cases hj
    | false => simp [hlt]
theorem lookup_some_mem {β : Type} {i : Nat} : ∀ {l : List (Nat × β)}, (l.lookup i).isSome = true → i ∈ l.map (·.1)
  | [], h => by simp at h
  | (k, b) :: l, h => by
    simp only [List.lookup] at h
    cases hk : i == k with
    | true => simp at hk; simp [hk]
    | false => rw [hk] at h; simp [lookup_some_mem h]
theorem on_congr {ops : Array Oper} {st st' : St} {o : Oper} {b : Bool} (h : On ops st o b) (hs : ∀ d, d ∈ o.looksAt ops → st'.s.lookup d = st.s.lookup d) : On ops st' o b := by
  cases h with
  | plain h => exact .plain h
  | @yes j d c t h hj h1 hc => exact .yes h hj ((hs d (List.mem_append_right _ (by simp [h, hj]))).trans h1) hc
  | @no j d c t h hj h1 hc => exact .no h hj ((hs d (List.mem_append_right _ (by simp [h, hj]))).trans h1) hc
  | @und j d t h hj h1 => exact .und h hj ((hs d (List.mem_append_right _ (by simp [h, hj]))).trans h1)
theorem ev_congr {ops : Array Oper} {st st' : St} {o : Oper} (hs : ∀ d, d ∈ o.looksAt ops → st'.s.lookup d = st.s.lookup d) : ∀ x, x ∈ o.op.operands → st'.ev x = st.ev x := by
  intro x hx
  cases x with
  | tmp t => exact hs t (List.mem_append_left _ (List.mem_filterMap.2 ⟨.tmp t, by simpa using hx, rfl⟩))
  | _ => rfl
theorem left_lt {n j : Nat} {D : Nat → Bool} (hj : j < n) (hD : D j = false) : ((List.range n).filter (fun k => !(D k || k == j))).length < ((List.range n).filter (fun k => !D k)).length := by
  rw [range_split hj]
  simp only [List.filter_append, List.filter_cons, List.length_append]
  have h1 : (List.range j).filter (fun k => !(D k || k == j)) = (List.range j).filter (fun k => !D k) := List.filter_congr (fun k hk => by
    have : k < j := by simpa using hk
    simp [show ¬ k = j by omega])
  have h2 : (List.range' (j + 1) (n - (j + 1))).filter (fun k => !(D k || k == j)) = (List.range' (j + 1) (n - (j + 1))).filter (fun k => !D k) := List.filter_congr (fun k hk => by
    have : j < k := by simp at hk; omega
    simp [show ¬ k = j by omega])
  rw [h1, h2]
  simp [hD]
section
variable {P : Program} {N : Nat} {ops : Array Oper} {bs : Nat} {st st' : St} {tr : List Tr}
def sD (ops : Array Oper) (tr : List Tr) (st : St) (D : Nat → Bool) : St := (doneL ops.size D).foldl (stepOf ops tr) st
def uD (ops : Array Oper) (bs : Nat) (D : Nat → Bool) (i : Nat) : Prop := i < bs ∨ ∃ k, k < ops.size ∧ D k = true ∧ bs + 16 * k ≤ i ∧ i < bs + 16 * k + 16
theorem chk_ord (hc : chk ops tr = true) {j k : Nat} (hj : j < ops.size) (hk : k < ops.size) (hne : k ≠ j) (h : (∃ d, dstOf ops k = some d ∧ (d ∈ looks ops j ∨ dstOf ops j = some d)) ∨ ∃ i, i ∈ reads tr j ∧ i ∈ writes tr k) : ord (masks ops ops.size) k j = true := by
  simp only [chk, Bool.and_eq_true, List.all_eq_true, List.mem_range, Bool.or_eq_true, beq_iff_eq] at hc
  rcases (hc.2 j hj).2 k hk with (h1 | h1) | h1
  · exact absurd h1 hne
  · exact h1
  · exfalso
    rcases h with ⟨d, hd, h⟩ | ⟨i, hi, hw⟩
    · have h2 := h1.1
      rw [hd] at h2
      simp at h2
      rcases h with h | h
      · exact h2.1 h
      · exact h2.2 h
    · have := h1.2 i hi
      simp at this
      exact this hw
theorem chk_lt (hc : chk ops tr = true) {j k : Nat} (hd : dep1 ops k j) : k < j := by
  obtain ⟨o, e, ho, he, hb, rfl⟩ := hd
  simp only [chk, Bool.and_eq_true, List.all_eq_true, List.mem_range] at hc
  have h1 := (hc.2 j (Array.getElem?_eq_some_iff.1 ho).1).1
  rw [ho] at h1
  have := List.all_eq_true.1 h1 e (Array.mem_toList_iff.2 he)
  simpa [hb] using this
theorem region_any_go {ro : Option Nat} (hm : P.follows .mixedOrders = true) (hd : dstsOk ops N = true) (r : Run P N ops bs 0 st tr st') (hc : chk ops tr = true) {w0 : World} {M : Fp} {Q : Exit → Act → World → Prop}
    (hq : ∀ a' w', Rep N w0 M (fun i => i < bs + 16 * ops.size) st' a' w' → Q .normal a' w') :
    ∀ (fuel : Nat) (l : Array Bool) (a : Act) (w : World), l.size = ops.size → Down ops (isIn l) → ((List.range ops.size).filter (fun k => !isIn l k)).length ≤ fuel → Rep N w0 M (uD ops bs (isIn l)) (sD ops tr st (isIn l)) a w → wpAnyIn (Fw ro) 0 P .any ops Q fuel l a w := by
  obtain ⟨f, hf0, hfn, htl, hf⟩ := run_spec r
  have hstep : ∀ k, k < ops.size → f (k + 1) = stepOf ops tr (f k) k := fun k hk => by
    obtain ⟨o, t, ho, ht, he, _⟩ := hf k (Nat.zero_le _) hk
    rw [Nat.sub_zero] at ht
    rw [he]; simp [stepOf, dstOf, lvOf, updOf, ho, ht]
  have hfr : ∀ k, k ≤ ops.size → f k = (List.range k).foldl (stepOf ops tr) st := by
    intro k
    induction k with
    | zero => intro _; exact hf0
    | succ k ih => intro hk; rw [List.range_succ, List.foldl_append, ← ih (by omega)]; exact hstep k (by omega)
  have hall : ∀ (l : Array Bool) (a : Act) (w : World), l.size = ops.size → Rep N w0 M (uD ops bs (isIn l)) (sD ops tr st (isIn l)) a w → (∀ j, j < ops.size → isIn l j = true) → Q .normal a w := by
    intro l a w hl hr hj
    refine hq a w ?_
    have h1 : sD ops tr st (isIn l) = st' := by
      rw [← hfn, hfr _ (Nat.le_refl _)]
      unfold sD doneL
      rw [List.filter_eq_self.2 (fun k hk => hj k (by simpa using hk))]
    rw [← h1]
    refine hr.mono (fun i hi => ?_)
    rcases hi with hi | ⟨k, hk, _, h2, h3⟩ <;> omega
  intro fuel
  induction fuel with
  | zero =>
    intro l a w hl hdn hlen hr
    have hj : ∀ j, j < ops.size → isIn l j = true := fun j hj => by
      have h1 := List.filter_eq_nil_iff.1 (List.eq_nil_of_length_eq_zero (Nat.le_zero.1 hlen)) j (by simpa using hj)
      simpa using h1
    refine ⟨List.eq_nil_iff_forall_not_mem.2 (fun j hjr => ?_), hall l a w hl hr hj⟩
    obtain ⟨h1, o, ho, _⟩ := mem_ready.1 hjr
    have hlt : j < ops.size := (Array.getElem?_eq_some_iff.1 ho).1
    rw [getD_eq (by omega)] at h1
    rw [hj j hlt] at h1; cases h1
  | succ fuel ih =>
    intro l a w hl hdn hlen hr
    refine ⟨fun hre => hall l a w hl hr (fun j => ?_), fun j hjr => ?_⟩
    · induction j using Nat.strongRecOn with
      | _ j ihj =>
        intro hj
        cases hD : isIn l j with
        | true => rfl
        | false =>
          exfalso
          have : j ∈ Region.ready .any ops l := by
            refine mem_ready.2 ⟨by rw [getD_eq (by omega)]; exact hD, ops[j], Array.getElem?_eq_getElem hj, fun e he hb => ?_⟩
            have hlt := chk_lt hc ⟨ops[j], e, Array.getElem?_eq_getElem hj, he, hb, rfl⟩
            exact ihj _ hlt (by omega)
          rw [hre] at this; cases this
    · obtain ⟨h1, o, ho, hpre⟩ := mem_ready.1 hjr
      have hlt : j < ops.size := (Array.getElem?_eq_some_iff.1 ho).1
      rw [getD_eq (by omega)] at h1
      obtain ⟨o', t, ho', ht, hfj, hcase⟩ := hf j (Nat.zero_le _) hlt
      rw [ho] at ho'
      obtain rfl : o = o' := by injection ho'
      rw [Nat.sub_zero] at ht
      have hp : ∀ m, dep1 ops m j → isIn l m = true := fun m hm => by
        obtain ⟨o', e, ho', he, hb, rfl⟩ := hm
        rw [ho] at ho'
        obtain rfl : o = o' := by injection ho'
        exact hpre e he hb
      have hord : ∀ k, ord (masks ops ops.size) k j = true → k ≠ j → isIn l k = decide (k < j) := fun k h2 _ => ord_in hdn hp h1 h2
      have hlk : looks ops j = o.looksAt ops := by simp [looks, ho]
      have hslot : ∀ d, d ∈ o.looksAt ops → (sD ops tr st (isIn l)).s.lookup d = (f j).s.lookup d := fun d hdl => by
        rw [hfr j (by omega), doneL_upto (show j ≤ ops.size by omega)]
        unfold sD
        rw [slot_at, slot_at, filter_done (D' := fun k => decide (k < j)) (fun k hk hpk => ?_)]
        by_cases hkj : k = j
        · subst hkj; simp [h1]
        · exact hord k (chk_ord hc hlt hk hkj (.inl ⟨d, by simpa using hpk, .inl (by rw [hlk]; exact hdl)⟩)) hkj
      have hobj : ∀ i, i ∈ reads tr j → (sD ops tr st (isIn l)).o.lookup i = (f j).o.lookup i := fun i hi => by
        rw [hfr j (by omega), doneL_upto (show j ≤ ops.size by omega)]
        unfold sD
        rw [obj_at, obj_at, filter_done (D' := fun k => decide (k < j)) (fun k hk hpk => ?_)]
        by_cases hkj : k = j
        · subst hkj; simp [h1]
        · have hw : i ∈ writes tr k := by
            have := lookup_some_mem hpk
            unfold updOf at this
            unfold writes
            cases hk2 : tr[k]? with
            | none => rw [hk2] at this; simp at this
            | some t => rw [hk2] at this; exact this
          exact hord k (chk_ord hc hlt hk hkj (.inr ⟨i, hi, hw⟩)) hkj
      have hlv : lvOf tr j = t.lv := by simp [lvOf, ht]
      have hup : updOf tr j = t.upd := by simp [updOf, ht]
      have hds : dstOf ops j = o.dst := by simp [dstOf, ho]
      have hset : isIn (l.setIfInBounds j true) = fun k => isIn l k || k == j := funext fun k => isIn_set (by omega)
      have hdn' : Down ops (isIn (l.setIfInBounds j true)) := by
        intro m hm k hk
        rw [isIn_set (by omega)] at hm ⊢
        simp only [Bool.or_eq_true, beq_iff_eq] at hm ⊢
        rcases hm with hm | rfl
        · exact .inl (hdn m hm k hk)
        · exact .inl (hp k hk)
      have hlen' : ((List.range ops.size).filter (fun k => !isIn (l.setIfInBounds j true) k)).length ≤ fuel := by
        have := left_lt hlt h1
        simp only [hset]
        omega
      -- what one operation leaves is what is done then
      have hB : ∀ a' w', Rep N w0 M (uD ops bs (isIn (l.setIfInBounds j true))) ((sD ops tr st (isIn l)).app o.dst t.lv t.upd) a' w' → wpAnyIn (Fw ro) 0 P .any ops Q fuel (l.setIfInBounds j true) a' w' := by
        intro a' w' h'
        refine ih _ a' w' (by simp [hl]) hdn' hlen' (h'.congr (fun d => ?_) (fun i => ?_))
        · have hA : ((sD ops tr st (isIn l)).app o.dst t.lv t.upd).s.lookup d = if dstOf ops j == some d then some t.lv else (sD ops tr st (isIn l)).s.lookup d := by
            rw [hds]
            unfold St.app
            cases hd2 : o.dst with
            | none => simp
            | some e =>
              simp only [List.lookup]
              by_cases h : d = e
              · subst h; simp
              · have h1 : (d == e) = false := by simpa using h
                have h2 : (some e == some d) = false := by simpa using fun h' => h h'.symm
                rw [h1, h2]; rfl
          rw [hA]
          conv => lhs; unfold sD
          rw [slot_at]
          cases hpj : dstOf ops j == some d with
          | true =>
            rw [last_done hlt (by rw [hset]; simp) hpj (fun k hk hpk hDk => ?_)]
            · simp [hlv]
            · by_cases hkj : k = j
              · omega
              · rw [hset] at hDk
                simp only [Bool.or_eq_true, beq_iff_eq, hkj, or_false] at hDk
                have := hord k (chk_ord hc hlt hk hkj (.inl ⟨d, by simpa using hpk, .inr (by simpa using hpj)⟩)) hkj
                rw [hDk] at this
                have := of_decide_eq_true this.symm
                omega
          | false =>
            unfold sD
            rw [slot_at, filter_done (D' := isIn l) (fun k hk hpk => ?_)]
            · rfl
            · have hkj : k ≠ j := fun e => by subst e; rw [hpj] at hpk; cases hpk
              rw [hset]; simp [hkj]
        · have hA : ((sD ops tr st (isIn l)).app o.dst t.lv t.upd).o.lookup i = if ((updOf tr j).lookup i).isSome then (updOf tr j).lookup i else (sD ops tr st (isIn l)).o.lookup i := by
            rw [hup]
            unfold St.app
            simp only [lookup_append]
            cases t.upd.lookup i <;> rfl
          rw [hA]
          conv => lhs; unfold sD
          rw [obj_at]
          cases hpj : ((updOf tr j).lookup i).isSome with
          | true =>
            rw [last_done hlt (by rw [hset]; simp) hpj (fun k hk hpk hDk => ?_)]
            · simp
            · by_cases hkj : k = j
              · omega
              · rw [hset] at hDk
                simp only [Bool.or_eq_true, beq_iff_eq, hkj, or_false] at hDk
                have hw : i ∈ writes tr k := by
                  have := lookup_some_mem hpk
                  unfold updOf at this
                  unfold writes
                  cases hk2 : tr[k]? with
                  | none => rw [hk2] at this; simp at this
                  | some t => rw [hk2] at this; exact this
                have hrd : i ∈ reads tr j := by
                  have := lookup_some_mem hpj
                  rw [hup] at this
                  simp only [reads, ht]
                  exact List.mem_append_right _ this
                have := hord k (chk_ord hc hlt hk hkj (.inr ⟨i, hrd, hw⟩)) hkj
                rw [hDk] at this
                have := of_decide_eq_true this.symm
                omega
          | false =>
            unfold sD
            rw [obj_at, filter_done (D' := isIn l) (fun k hk hpk => ?_)]
            · rfl
            · have hkj : k ≠ j := fun e => by subst e; rw [hpj] at hpk; cases hpk
              rw [hset]; simp [hkj]
      have hUm : ∀ i, uD ops bs (isIn l) i → uD ops bs (isIn (l.setIfInBounds j true)) i := fun i hi => by
        rcases hi with hi | ⟨k, hk, h2, h3⟩
        · exact .inl hi
        · exact .inr ⟨k, hk, by rw [isIn_set (by omega), h2]; rfl, h3⟩
      unfold wpOpIn
      simp only [ho]
      obtain ⟨ρ, own, fr, hh, hdf⟩ := hr
      rcases hcase with ⟨hg, hT, hnn⟩ | ⟨hg, hlv0, hup0⟩
      · rw [wanted_of (on_congr hg hslot) fr]
        simp only [if_true]
        refine (rep_op hT ⟨ρ, own, fr, hh, hdf⟩ (ev_congr hslot) (fun i hi => hobj i (by simp only [reads, ht]; exact List.mem_append_left _ hi)) (fun i h2 h3 h4 => ?_) (fun i hi => ?_) (dsts_ok hd ho) _ Q hB)
        · rcases h4 with h4 | ⟨k, hk, hDk, h5, h6⟩
          · omega
          · have : k = j := by omega
            subst this
            rw [h1] at hDk; cases hDk
        · rcases hi with hi | ⟨h2, h3⟩
          · exact hUm i hi
          · exact .inr ⟨j, hlt, by rw [isIn_set (by omega)]; simp, h2, by omega⟩
      · rw [wanted_of (on_congr hg hslot) fr]
        simp only [Bool.false_eq_true, if_false]
        refine ⟨fun _ _ => trivial, hB _ _ ?_⟩
        rw [hlv0, hup0]
        exact (put_undef ⟨ρ, own, fr, hh, hdf⟩ (dsts_ok hd ho)).mono hUm
theorem region_any {ro : Option Nat} {id : Nat} (hm : P.follows .mixedOrders = true) (hd : dstsOk ops N = true) (r : Run P N ops bs 0 st tr st') (hc : chk ops tr = true) {w0 : World} {M : Fp} {Q : Exit → Act → World → Prop} {a : Act} {w : World} (h : Rep N w0 M (fun i => i < bs) st a w)
    (hq : ∀ a' w', Rep N w0 M (fun i => i < bs + 16 * ops.size) st' a' w' → Q .normal a' w') : (Code.region id ops true).wpIn (Fw ro) 0 P Q a w := by
  have hemp : isIn (Array.replicate ops.size false) = fun _ => false := funext fun k => by
    simp only [isIn, Array.getD_eq_getD_getElem?, Array.getElem?_replicate]
    split <;> rfl
  refine wpIn_region_any hm (region_any_go (ro := ro) hm hd r hc hq ops.size _ a _ (by simp) ?_ ?_ ?_)
  · rw [hemp]; intro j hj; cases hj
  · refine Nat.le_trans (List.length_filter_le _ _) (by simp)
  · rw [hemp]
    have h1 : sD ops tr st (fun _ => false) = st := by
      unfold sD doneL
      rw [List.filter_eq_nil_iff.2 (by simp)]
      rfl
    rw [h1]
    obtain ⟨ρ, own, fr, hh, hdf⟩ := h
    exact Rep.mono ⟨ρ, own, fr, hh.drew _, hdf⟩ (fun i hi => .inl hi)
end
end Lg
end Go.Proofs.Ytpfhmodjjljpjaa

namespace Go.Proofs.Ytpfhmodjjljpjaa
open Go.RowKit
namespace Lg
set_option linter.unusedSimpArgs false
set_option linter.unusedVariables false
mutual
def LV.ren (π : Nat → Nat) : LV → LV
  | .v x => .v x
  | .r i => .r (π i)
  | .p i n => .p (π i) n
  | .e i sz j f => .e (π i) sz j f
  | .agg l => .agg (LV.rens π l)
  | .tup l => .tup (LV.rens π l)
  | .fn f l => .fn f (LV.rens π l)
def LV.rens (π : Nat → Nat) : List LV → List LV
  | [] => []
  | x :: xs => x.ren π :: LV.rens π xs
end
mutual
def LV.okB (p : Nat → Bool) : LV → Bool
  | .v _ => true
  | .r i => p i
  | .p i _ => p i
  | .e i _ _ _ => p i
  | .agg l => LV.okBs p l
  | .tup l => LV.okBs p l
  | .fn _ l => LV.okBs p l
def LV.okBs (p : Nat → Bool) : List LV → Bool
  | [] => true
  | x :: xs => x.okB p && LV.okBs p xs
end
mutual
theorem ren_val {π : Nat → Nat} {ρ ρ' : Nat → Value} {p : Nat → Bool} (h : ∀ c, p c = true → ρ' (π c) = ρ c) : ∀ (x : LV), x.okB p = true → (x.ren π).val ρ' = x.val ρ
  | .v _, _ => rfl
  | .r i, hu => h i hu
  | .p i n, hu => by simp only [LV.ren, LV.val]; rw [h i hu]
  | .e i sz j f, hu => by simp only [LV.ren, LV.val]; rw [h i hu]
  | .agg l, hu => by simp only [LV.ren, LV.val]; rw [rens_val h l hu]
  | .tup l, hu => by simp only [LV.ren, LV.val]; rw [rens_val h l hu]
  | .fn f l, hu => by simp only [LV.ren, LV.val]; rw [rens_val h l hu]
theorem rens_val {π : Nat → Nat} {ρ ρ' : Nat → Value} {p : Nat → Bool} (h : ∀ c, p c = true → ρ' (π c) = ρ c) : ∀ (l : List LV), LV.okBs p l = true → LV.vals ρ' (LV.rens π l) = LV.vals ρ l
  | [], _ => rfl
  | x :: xs, hu => by
    simp only [LV.okBs, Bool.and_eq_true] at hu
    simp only [LV.rens, LV.vals]
    rw [ren_val h x hu.1, rens_val h xs hu.2]
end
mutual
theorem ren_used {π : Nat → Nat} {ρ ρ' : Nat → Value} {p : Nat → Bool} {U U' : Nat → Prop} (h : ∀ c, p c = true → ρ' (π c) = ρ c) (hU : ∀ c, p c = true → U' (π c)) : ∀ (x : LV), x.okB p = true → x.used U ρ → (x.ren π).used U' ρ'
  | .v _, _, _ => trivial
  | .r i, hp, _ => hU i hp
  | .p i n, hp, hu => ⟨hU i hp, by rw [h i hp]; exact hu.2⟩
  | .e i sz j f, hp, hu => ⟨hU i hp, by rw [h i hp]; exact hu.2⟩
  | .agg l, hp, hu => ⟨rens_used h hU l hp hu.1, by rw [rens_val h l hp]; exact hu.2⟩
  | .tup l, hp, hu => rens_used h hU l hp hu
  | .fn f l, hp, hu => rens_used h hU l hp hu
theorem rens_used {π : Nat → Nat} {ρ ρ' : Nat → Value} {p : Nat → Bool} {U U' : Nat → Prop} (h : ∀ c, p c = true → ρ' (π c) = ρ c) (hU : ∀ c, p c = true → U' (π c)) : ∀ (l : List LV), LV.okBs p l = true → LV.useds U ρ l → LV.useds U' ρ' (LV.rens π l)
  | [], _, _ => trivial
  | x :: xs, hp, hu => by
    simp only [LV.okBs, Bool.and_eq_true] at hp
    exact ⟨ren_used h hU x hp.1 hu.1, rens_used h hU xs hp.2 hu.2⟩
end
mutual
theorem used_ren {π : Nat → Nat} {ρ : Nat → Value} {p : Nat → Bool} {U U' : Nat → Prop} (hU : ∀ c, p c = true → U' c) : ∀ (x : LV), x.okB p = true → (x.ren π).used U ρ → x.used U' (fun c => ρ (π c))
  | .v _, _, _ => trivial
  | .r i, hp, _ => hU i hp
  | .p i n, hp, hu => ⟨hU i hp, hu.2⟩
  | .e i sz j f, hp, hu => ⟨hU i hp, hu.2⟩
  | .agg l, hp, hu => ⟨useds_ren hU l hp hu.1, by rw [← rens_val (ρ' := ρ) (fun _ _ => rfl) l hp]; exact hu.2⟩
  | .tup l, hp, hu => useds_ren hU l hp hu
  | .fn f l, hp, hu => useds_ren hU l hp hu
theorem useds_ren {π : Nat → Nat} {ρ : Nat → Value} {p : Nat → Bool} {U U' : Nat → Prop} (hU : ∀ c, p c = true → U' c) : ∀ (l : List LV), LV.okBs p l = true → LV.useds U ρ (LV.rens π l) → LV.useds U' (fun c => ρ (π c)) l
  | [], _, _ => trivial
  | x :: xs, hp, hu => by
    simp only [LV.okBs, Bool.and_eq_true] at hp
    exact ⟨used_ren hU x hp.1 hu.1, useds_ren hU xs hp.2 hu.2⟩
end
def Ob.ren (π : Nat → Nat) : Ob → Ob
  | .box t cs => .box t (LV.rens π cs)
  | .row e sz rows => .row e sz rows
  | .fz sz rows => .fz sz rows
  | .nest e e2 sz2 rows hole => .nest e e2 sz2 rows (hole.map fun p => (p.1, π p.2))
  | .map l => .map l
  | .no => .no
def Ob.okB (p : Nat → Bool) : Ob → Bool
  | .box _ cs => LV.okBs p cs
  | .nest _ _ _ _ (some q) => p q.2
  | _ => true
def isNo : Ob → Bool
  | .no => true
  | _ => false
def isMut : Ob → Bool
  | .row .. => true
  | .box .. => true
  | .nest .. => true
  | .map .. => true
  | _ => false
inductive Embs (o : List (Nat × Ob)) (σ : Nat → Nat) : List (Nat × Ob) → Prop
  | nil : Embs o σ []
  | row {c e sz : Nat} {rows : List (List Cell)} {l : List (Nat × Ob)} (h : o.lookup (σ c) = some (.row e sz rows)) (t : Embs o σ l) : Embs o σ ((c, .row e sz rows) :: l)
  | fz {c sz : Nat} {rows : List (List Cell)} {l : List (Nat × Ob)} (h : o.lookup (σ c) = some (.fz sz rows)) (t : Embs o σ l) : Embs o σ ((c, .fz sz rows) :: l)
  | lend {c e sz : Nat} {rows : List (List Cell)} {l : List (Nat × Ob)} (h : o.lookup (σ c) = some (.row e sz rows)) (t : Embs o σ l) : Embs o σ ((c, .fz sz rows) :: l)
  | nest {c e e2 sz2 : Nat} {rows : List (List (List Cell))} {l : List (Nat × Ob)} (h : o.lookup (σ c) = some (.nest e e2 sz2 rows none)) (t : Embs o σ l) : Embs o σ ((c, .nest e e2 sz2 rows none) :: l)
  | lendN {c e e2 sz2 : Nat} {rows : List (List (List Cell))} {l : List (Nat × Ob)} (h : o.lookup (σ c) = some (.nest e e2 sz2 rows none)) (t : Embs o σ l) : Embs o σ ((c, .fz 1 (nestRows sz2 rows)) :: l)
  | no {c : Nat} {l : List (Nat × Ob)} (t : Embs o σ l) : Embs o σ ((c, .no) :: l)
  | box {c t : Nat} {cs : List LV} {l : List (Nat × Ob)} (h : o.lookup (σ c) = some (.box t (LV.rens σ cs))) (ts : Embs o σ l) : Embs o σ ((c, .box t cs) :: l)
  | map {c : Nat} {xs : List (Int × Int)} {l : List (Nat × Ob)} (h : o.lookup (σ c) = some (.map xs)) (t : Embs o σ l) : Embs o σ ((c, .map xs) :: l)
def pairB (σ : Nat → Nat) : List (Nat × Ob) → Bool
  | [] => true
  | p :: l => (l.all fun q => p.1 != q.1 && (σ p.1 != σ q.1 || ((!isMut p.2 && !isMut q.2) || (isNo p.2 || isNo q.2)))) && pairB σ l
def isRow : Option Ob → Bool
  | some (.row ..) => true
  | some (.nest _ _ _ _ none) => true
  | _ => false
def Lend (sz : Nat) (rows : List (List Cell)) (ob : Ob) : Prop := (∃ e, ob = .row e sz rows) ∨ ∃ e e2 sz2 xs, ob = .nest e e2 sz2 xs none ∧ sz = 1 ∧ rows = nestRows sz2 xs
theorem lend_row {sz : Nat} {rows : List (List Cell)} {ob : Ob} (h : Lend sz rows ob) : isRow (some ob) = true := by
  rcases h with ⟨e, rfl⟩ | ⟨e, e2, sz2, xs, rfl, _, _⟩ <;> rfl
theorem rd_of_lend {w : World} {ρ : Nat → Value} {own : Nat → Option Nat} {i sz : Nat} {rows : List (List Cell)} {ob : Ob} (hl : Lend sz rows ob) (h : RepOb w ρ own i ob) {ok : Nat → Prop} (hok : ∀ k, own k = none ∨ own k = some i → ok k) : Rd w ok (.sl sz rows) (ρ i) := by
  rcases hl with ⟨e, rfl⟩ | ⟨e, e2, sz2, xs, rfl, rfl, rfl⟩
  · exact rd_of_row h hok
  · exact rd_of_nest h hok
def ownC (σ : Nat → Nat) (oc o : List (Nat × Ob)) (own : Nat → Option Nat) (k : Nat) : Option Nat :=
  match own k with
  | none => none
  | some j => match oc.find? (fun p => σ p.1 == j && !isNo p.2) with
    | some p => if isMut p.2 then some p.1 else if isRow (o.lookup j) then none else some 0
    | none => some 0
theorem lookup_mem {β : Type} {c : Nat} {ob : β} : ∀ {l : List (Nat × β)}, l.lookup c = some ob → (c, ob) ∈ l
  | [], h => by simp at h
  | (k, b) :: l, h => by
    simp only [List.lookup] at h
    cases hk : c == k with
    | true =>
      rw [hk] at h
      obtain rfl : b = ob := by injection h
      simp at hk; simp [hk]
    | false => rw [hk] at h; exact List.mem_cons_of_mem _ (lookup_mem h)
theorem lookup_of_mem {σ : Nat → Nat} {p : Nat × Ob} : ∀ {oc : List (Nat × Ob)}, pairB σ oc = true → p ∈ oc → oc.lookup p.1 = some p.2
  | q :: l, hp, h => by
    simp only [pairB, Bool.and_eq_true, List.all_eq_true] at hp
    simp only [List.lookup]
    rcases List.mem_cons.1 h with rfl | h
    · simp
    · have h1 := hp.1 p h
      have h2 : (p.1 == q.1) = false := by
        have : q.1 ≠ p.1 := by simpa using h1.1
        simpa using Ne.symm this
      rw [h2]
      exact lookup_of_mem hp.2 h
theorem mut_no {ob : Ob} (h : isMut ob = true) : isNo ob = false := by cases ob <;> first | rfl | cases h
theorem find_mut {σ : Nat → Nat} {c : Nat} {ob : Ob} : ∀ {oc : List (Nat × Ob)}, pairB σ oc = true → oc.lookup c = some ob → isMut ob = true → oc.find? (fun p => σ p.1 == σ c && !isNo p.2) = some (c, ob)
  | [], _, h, _ => by simp at h
  | (k, b) :: l, hp, h, hm => by
    simp only [pairB, Bool.and_eq_true, List.all_eq_true] at hp
    simp only [List.lookup] at h
    cases hk : c == k with
    | true =>
      rw [hk] at h
      obtain rfl : b = ob := by injection h
      obtain rfl : c = k := by simpa using hk
      simp [mut_no hm]
    | false =>
      rw [hk] at h
      have h1 := hp.1 _ (lookup_mem h)
      have h2 : (σ k == σ c && !isNo b) = false := by
        simp only [hm, mut_no hm, Bool.not_true, Bool.and_false, Bool.false_or, Bool.or_false] at h1
        cases hn : isNo b
        · simpa [hn] using h1.2
        · simp
      simp only [List.find?_cons, h2]
      exact find_mut hp.2 h hm
theorem find_fz {σ : Nat → Nat} {c : Nat} {ob : Ob} : ∀ {oc : List (Nat × Ob)}, pairB σ oc = true → oc.lookup c = some ob → isMut ob = false → isNo ob = false → ∃ p, oc.find? (fun p => σ p.1 == σ c && !isNo p.2) = some p ∧ isMut p.2 = false
  | [], _, h, _, _ => by simp at h
  | (k, b) :: l, hp, h, hm, hn => by
    simp only [pairB, Bool.and_eq_true, List.all_eq_true] at hp
    simp only [List.lookup] at h
    cases hk : c == k with
    | true =>
      rw [hk] at h
      obtain rfl : b = ob := by injection h
      obtain rfl : c = k := by simpa using hk
      exact ⟨(c, b), by simp [hn], hm⟩
    | false =>
      rw [hk] at h
      have h1 := hp.1 _ (lookup_mem h)
      simp only [List.find?_cons]
      cases h2 : σ k == σ c && !isNo b with
      | true =>
        refine ⟨_, rfl, ?_⟩
        simp only [Bool.and_eq_true, Bool.not_eq_true', beq_iff_eq] at h2
        simp only [h2.1, h2.2, hn, bne_self_eq_false, Bool.false_or, Bool.or_false, Bool.and_eq_true] at h1
        simpa using h1.2.1
      | false => exact find_fz hp.2 h hm hn
theorem ownC_none {σ : Nat → Nat} {oc o : List (Nat × Ob)} {own : Nat → Option Nat} {k : Nat} (h : own k = none) : ownC σ oc o own k = none := by simp [ownC, h]
theorem ownC_mut {σ : Nat → Nat} {oc o : List (Nat × Ob)} {own : Nat → Option Nat} {k c : Nat} {ob : Ob} (hp : pairB σ oc = true) (hc : oc.lookup c = some ob) (hm : isMut ob = true) (h : own k = some (σ c)) : ownC σ oc o own k = some c := by
  simp [ownC, h, find_mut hp hc hm, hm]
theorem ownC_fz {σ : Nat → Nat} {oc o : List (Nat × Ob)} {own : Nat → Option Nat} {k c : Nat} {ob : Ob} (hp : pairB σ oc = true) (hc : oc.lookup c = some ob) (hm : isMut ob = false) (hn : isNo ob = false) (hr : isRow (o.lookup (σ c)) = true) (h : own k = some (σ c)) : ownC σ oc o own k = none := by
  obtain ⟨p, h1, h2⟩ := find_fz hp hc hm hn
  simp [ownC, h, h1, h2, hr]
def embB (σ : Nat → Nat) (b0 : Nat) (oc : List (Nat × Ob)) : Bool := pairB σ oc && oc.all fun p => decide (0 < p.1) && decide (p.1 < b0) && p.2.okB (fun c => decide (c < b0))
theorem embs_at {o : List (Nat × Ob)} {σ : Nat → Nat} {c : Nat} {ob : Ob} {oc : List (Nat × Ob)} (h : Embs o σ oc) (hc : oc.lookup c = some ob) :
    (∃ e sz rows, ob = .row e sz rows ∧ o.lookup (σ c) = some (.row e sz rows)) ∨ (∃ sz rows, ob = .fz sz rows ∧ o.lookup (σ c) = some (.fz sz rows)) ∨ (∃ ob' sz rows, ob = .fz sz rows ∧ o.lookup (σ c) = some ob' ∧ Lend sz rows ob') ∨ (∃ e e2 sz2 rows, ob = .nest e e2 sz2 rows none ∧ o.lookup (σ c) = some (.nest e e2 sz2 rows none)) ∨ (∃ t cs, ob = .box t cs ∧ o.lookup (σ c) = some (.box t (LV.rens σ cs))) ∨ ob = .no ∨ ∃ xs, ob = .map xs ∧ o.lookup (σ c) = some (.map xs) := by
  induction h with
  | nil => simp at hc
  | @row c' e sz rows l h t ih =>
    simp only [List.lookup] at hc
    cases hk : c == c' with
    | true => rw [hk] at hc; obtain rfl : c = c' := by simpa using hk
              cases hc; exact .inl ⟨_, _, _, rfl, h⟩
    | false => rw [hk] at hc; exact ih hc
  | @fz c' sz rows l h t ih =>
    simp only [List.lookup] at hc
    cases hk : c == c' with
    | true => rw [hk] at hc; obtain rfl : c = c' := by simpa using hk
              cases hc; exact .inr (.inl ⟨_, _, rfl, h⟩)
    | false => rw [hk] at hc; exact ih hc
  | @lend c' e sz rows l h t ih =>
    simp only [List.lookup] at hc
    cases hk : c == c' with
    | true => rw [hk] at hc; obtain rfl : c = c' := by simpa using hk
              cases hc; exact .inr (.inr (.inl ⟨_, _, _, rfl, h, .inl ⟨_, rfl⟩⟩))
    | false => rw [hk] at hc; exact ih hc
  | @nest c' e e2 sz2 rows l h t ih =>
    simp only [List.lookup] at hc
    cases hk : c == c' with
    | true => rw [hk] at hc; obtain rfl : c = c' := by simpa using hk
              cases hc; exact .inr (.inr (.inr (.inl ⟨_, _, _, _, rfl, h⟩)))
    | false => rw [hk] at hc; exact ih hc
  | @lendN c' e e2 sz2 rows l h t ih =>
    simp only [List.lookup] at hc
    cases hk : c == c' with
    | true => rw [hk] at hc; obtain rfl : c = c' := by simpa using hk
              cases hc; exact .inr (.inr (.inl ⟨_, _, _, rfl, h, .inr ⟨_, _, _, _, rfl, rfl, rfl⟩⟩))
    | false => rw [hk] at hc; exact ih hc
  | @no c' l t ih =>
    simp only [List.lookup] at hc
    cases hk : c == c' with
    | true => rw [hk] at hc; cases hc; exact .inr (.inr (.inr (.inr (.inr (.inl rfl)))))
    | false => rw [hk] at hc; exact ih hc
  | @box c' t cs l h t' ih =>
    simp only [List.lookup] at hc
    cases hk : c == c' with
    | true => rw [hk] at hc; obtain rfl : c = c' := by simpa using hk
              cases hc; exact .inr (.inr (.inr (.inr (.inl ⟨_, _, rfl, h⟩))))
    | false => rw [hk] at hc; exact ih hc
  | @map c' xs l h t ih =>
    simp only [List.lookup] at hc
    cases hk : c == c' with
    | true => rw [hk] at hc; obtain rfl : c = c' := by simpa using hk
              cases hc; exact .inr (.inr (.inr (.inr (.inr (.inr ⟨_, rfl, h⟩)))))
    | false => rw [hk] at hc; exact ih hc
theorem emb_rep {w0 w : World} {M : Fp} {U : Nat → Prop} {ρ : Nat → Value} {own : Nat → Option Nat} {o oc : List (Nat × Ob)} {σ : Nat → Nat} {b0 : Nat} (hr : HR w0 M U ρ own o w) (he : Embs o σ oc) (hb : embB σ b0 oc = true) {c : Nat} {ob : Ob} (hc : oc.lookup c = some ob) :
    RepOb w (fun c => ρ (σ c)) (ownC σ oc o own) c ob ∧ c < b0 ∧ 0 < c ∧ ob.used (fun c => c < b0) (fun c => ρ (σ c)) := by
  simp only [embB, Bool.and_eq_true, List.all_eq_true] at hb
  obtain ⟨hp, hb⟩ := hb
  have h1 := hb _ (lookup_mem hc)
  simp only [Bool.and_eq_true, decide_eq_true_eq] at h1
  have hfz : ∀ k, own k = none → k < w.heap.size → ownC σ oc o own k = none ∧ w.heap[k]? = w.heap[k]? := fun k h _ => ⟨ownC_none h, rfl⟩
  refine ⟨?_, h1.1.2, h1.1.1, ?_⟩
  · rcases embs_at he hc with ⟨e, sz, rows, rfl, h2⟩ | ⟨sz, rows, rfl, h2⟩ | ⟨ob', sz, rows, rfl, h2, hl⟩ | ⟨e, e2, sz2, rows, rfl, h2⟩ | ⟨t, cs, rfl, h2⟩ | rfl | ⟨xs, rfl, h2⟩
    · obtain ⟨h3, _, _⟩ := hr.ob _ _ h2
      obtain ⟨h0, cells, g1, g2, g3⟩ := h3
      exact ⟨h0, cells, g1, fun k hk => ownC_mut hp hc rfl (g2 k hk), g3.mono hfz⟩
    · obtain ⟨h3, _, _⟩ := hr.ob _ _ h2
      exact Rd.mono h3 hfz
    · obtain ⟨h3, _, _⟩ := hr.ob _ _ h2
      exact rd_of_lend hl h3 (fun k hk => by
        rcases hk with hk | hk
        · exact ownC_none hk
        · exact ownC_fz hp hc rfl rfl (by rw [h2]; exact lend_row hl) hk)
    · obtain ⟨h3, _, _⟩ := hr.ob _ _ h2
      obtain ⟨vs, hN⟩ := h3
      refine ⟨vs, hN.pos, hN.out, fun k hk => ownC_mut hp hc rfl (hN.blk k hk), (fun j b hb => by cases hb), fun j r v hj hv hh => ?_, hN.dis⟩
      obtain ⟨cells, g1, g2, g3⟩ := hN.inn j r v hj hv hh
      exact ⟨cells, g1, g2.mono hfz, fun k hk => ⟨ownC_mut hp hc rfl (g3 k hk).1, (g3 k hk).2⟩⟩
    · obtain ⟨h3, _, _⟩ := hr.ob _ _ h2
      obtain ⟨g, g1, g2, g3⟩ := h3
      exact ⟨g, g1, ownC_mut hp hc rfl g2, by rw [g3, rens_val (p := fun c => decide (c < b0)) (ρ := fun c => ρ (σ c)) (fun _ _ => rfl) cs h1.2]⟩
    · trivial
    · obtain ⟨h3, _, _⟩ := hr.ob _ _ h2
      obtain ⟨g, es, ck, g1, g2, g3, g4⟩ := h3
      exact ⟨g, es, ck, g1, ownC_mut hp hc rfl g2, g3, g4⟩
  · rcases embs_at he hc with ⟨e, sz, rows, rfl, h2⟩ | ⟨sz, rows, rfl, h2⟩ | ⟨ob', sz, rows, rfl, h2, hl⟩ | ⟨e, e2, sz2, rows, rfl, h2⟩ | ⟨t, cs, rfl, h2⟩ | rfl | ⟨xs, rfl, h2⟩
    · trivial
    · trivial
    · trivial
    · exact fun j b hb => by cases hb
    · obtain ⟨_, _, h4⟩ := hr.ob _ _ h2
      refine ⟨useds_ren (fun c hc => of_decide_eq_true hc) cs h1.2 h4.1, ?_⟩
      rw [← rens_val (p := fun c => decide (c < b0)) (ρ := fun c => ρ (σ c)) (ρ' := ρ) (π := σ) (fun _ _ => rfl) cs h1.2]
      exact h4.2
    · trivial
    · trivial
def sg (n : Nat) (L : List (Nat × Nat)) (c : Nat) : Nat := if c < n then c else (L.lookup c).getD 0
theorem HR.emb {w0 w : World} {M : Fp} {U : Nat → Prop} {ρ : Nat → Value} {own : Nat → Option Nat} {o oc : List (Nat × Ob)} {L : List (Nat × Nat)} {b0 : Nat} (hr : HR w0 M U ρ own o w) (he : Embs o (sg M.n L) oc) (hb : embB (sg M.n L) b0 oc = true) (hn : M.n ≤ b0) (h0 : 0 < b0) :
    HR w0 M (fun c => c < b0) (fun c => ρ (sg M.n L c)) (ownC (sg M.n L) oc o own) oc w := by
  refine ⟨fun c ob hc => ?_, hr.gr, fun k hk hM => ?_, ?_, h0, fun i hi => ⟨by omega, ?_⟩⟩
  · obtain ⟨h1, h2, _, h3⟩ := emb_rep hr he hb hc
    exact ⟨h1, h2, h3⟩
  · obtain ⟨h1, h2⟩ := hr.fr k hk hM
    refine ⟨fun h => ownC_none (h1 h), fun h => ?_⟩
    simp only [ownC, h2 h]
    cases hf : oc.find? (fun p => sg M.n L p.1 == 0 && !isNo p.2) with
    | none => rfl
    | some p =>
      exfalso
      have hm := List.mem_of_find?_eq_some hf
      have hz := List.find?_some hf
      simp only [embB, Bool.and_eq_true, List.all_eq_true] at hb
      have hob := lookup_of_mem hb.1 hm
      simp only [Bool.and_eq_true, Bool.not_eq_true', beq_iff_eq] at hz
      rcases embs_at he hob with ⟨e, sz, rows, h1, h2⟩ | ⟨sz, rows, h1, h2⟩ | ⟨ob', sz, rows, h1, h2, _⟩ | ⟨e, e2, sz2, rows, h1, h2⟩ | ⟨t, cs, h1, h2⟩ | h1 | ⟨xs, h1, h2⟩
      · rw [hz.1, hr.z] at h2; cases h2
      · rw [hz.1, hr.z] at h2; cases h2
      · rw [hz.1, hr.z] at h2; cases h2
      · rw [hz.1, hr.z] at h2; cases h2
      · rw [hz.1, hr.z] at h2; cases h2
      · rw [h1] at hz; simp [isNo] at hz
      · rw [hz.1, hr.z] at h2; cases h2
  · cases hl : oc.lookup 0 with
    | none => rfl
    | some ob => exact absurd (emb_rep hr he hb hl).2.2.1 (by omega)
  · have : sg M.n L i = i := by simp [sg, hi]
    rw [this]
    exact (hr.ag i hi).2
end Lg
end Go.Proofs.Ytpfhmodjjljpjaa

namespace Go.Proofs.Ytpfhmodjjljpjaa
open Go.RowKit
namespace Lg
set_option linter.unusedSimpArgs false
set_option linter.unusedVariables false
def fpC (ρ : Nat → Value) (own : Nat → Option Nat) (σ : Nat → Nat) (oc o : List (Nat × Ob)) (b0 : Nat) : Fp :=
  { mt := fun k => ∃ c ob, oc.lookup c = some ob ∧ isMut ob = true ∧ own k = some (σ c), ok := fun k => ownC σ oc o own k = none, n := b0, ρ0 := fun c => ρ (σ c), ds := [] }
theorem HR.callee {w0 w : World} {M : Fp} {U : Nat → Prop} {ρ : Nat → Value} {own : Nat → Option Nat} {o oc : List (Nat × Ob)} {σ : Nat → Nat} {b0 : Nat} (hr : HR w0 M U ρ own o w) (he : Embs o σ oc) (hb : embB σ b0 oc = true) (h0 : 0 < b0) :
    HR w (fpC ρ own σ oc o b0) (fun c => c < b0) (fun c => ρ (σ c)) (ownC σ oc o own) oc w := by
  have hp : pairB σ oc = true := by
    simp only [embB, Bool.and_eq_true] at hb
    exact hb.1
  refine ⟨fun c ob hc => ?_, Grew.refl _ _, fun k hk hM => ⟨fun h => h, fun h => ?_⟩, ?_, h0, fun i hi => ⟨hi, rfl⟩⟩
  · obtain ⟨h1, h2, _, h3⟩ := emb_rep hr he hb hc
    exact ⟨h1, h2, h3⟩
  · have h1 : ownC σ oc o own k ≠ none := h
    cases hk2 : own k with
    | none => exact absurd (ownC_none hk2) h1
    | some j =>
      cases hf : oc.find? (fun p => σ p.1 == j && !isNo p.2) with
      | none => simp [ownC, hk2, hf]
      | some p =>
        cases hm : isMut p.2 with
        | false =>
          cases hrw : isRow (o.lookup j) with
          | true => exact absurd (by simp [ownC, hk2, hf, hm, hrw]) h1
          | false => simp [ownC, hk2, hf, hm, hrw]
        | true =>
          exfalso
          refine hM ⟨p.1, p.2, lookup_of_mem hp (List.mem_of_find?_eq_some hf), hm, ?_⟩
          have hz := List.find?_some hf
          simp only [Bool.and_eq_true, Bool.not_eq_true', beq_iff_eq] at hz
          rw [hk2, hz.1]
  · cases hl : oc.lookup 0 with
    | none => rfl
    | some ob => exact absurd (emb_rep hr he hb hl).2.2.1 (by omega)
def ownB (own ownc : Nat → Option Nat) (π : Nat → Nat) (b1 : Nat) (keep : Bool) (sz k : Nat) : Option Nat :=
  match ownc k with
  | none => match own k with
    | some j => if k < sz ∧ keep = true then some j else none
    | none => none
  | some c => if c = 0 then (if k < sz then own k else some 0) else if c < b1 then some (π c) else some 0
def FlatOb : Ob → Prop
  | .row _ _ rows => ∀ r ∈ rows, ∀ cl ∈ r, ∃ x, cl = .v x
  | .fz _ _ => False
  | .nest _ _ _ rows _ => ∀ x ∈ rows, ∀ r ∈ x, ∀ cl ∈ r, ∃ v, cl = .v v
  | _ => True
theorem Rd.flat {w : World} {ok ok' : Nat → Prop} {x : Value} {u : Value} (h : Rd w ok (.v x) u) : Rd w ok' (.v x) u := by
  cases h with
  | v _ h => exact .v _ h
theorem map_lookup {f : Nat → Nat} {g : Ob → Ob} {i : Nat} {ob' : Ob} : ∀ {l : List (Nat × Ob)}, (l.map fun p => (f p.1, g p.2)).lookup i = some ob' → ∃ c ob, l.lookup c = some ob ∧ f c = i ∧ ob' = g ob
  | [], h => by simp at h
  | (c, ob) :: l, h => by
    simp only [List.map_cons, List.lookup] at h
    cases hi : i == f c with
    | true =>
      rw [hi] at h
      exact ⟨c, ob, by simp [List.lookup], by simpa using Eq.symm (by simpa using hi : i = f c), by injection h with h; exact h.symm⟩
    | false =>
      rw [hi] at h
      obtain ⟨c', ob2, h1, h2, h3⟩ := map_lookup h
      refine ⟨c', ob2, ?_, h2, h3⟩
      simp only [List.lookup]
      have : (c' == c) = false := by
        have : c' ≠ c := fun e => by subst e; rw [h2] at hi; simp at hi
        simpa using this
      rw [this]; exact h1
theorem lookup_map {f : Nat → Nat} {g : Ob → Ob} {c : Nat} {ob : Ob} : ∀ {l : List (Nat × Ob)}, l.lookup c = some ob → ∃ ob', (l.map fun p => (f p.1, g p.2)).lookup (f c) = some ob'
  | [], h => by simp at h
  | (c', ob2) :: l, h => by
    simp only [List.map_cons, List.lookup] at h ⊢
    cases hi : f c == f c' with
    | true => exact ⟨_, rfl⟩
    | false =>
      have : (c == c') = false := by
        have : c ≠ c' := fun e => by subst e; simp at hi
        simpa using this
      rw [this] at h
      exact lookup_map h
def piC (σ : Nat → Nat) (b0 B c : Nat) : Nat := if c < b0 then σ c else B + (c - b0)
structure Back (o oc oc' : List (Nat × Ob)) (L : List (Nat × Nat)) (b0 b1 : Nat) (keep : Bool) (frz : List (Nat × Ob)) : Prop where
  le : b0 ≤ b1
  nn : (oc.all fun p => !isNo p.2) = true
  keys : (L.all fun p => (oc.lookup p.1).isSome) = true
  ex : (oc'.all fun p => (decide (b0 ≤ p.1) || ((oc.lookup p.1).any isMut)) && decide (p.1 < b1) && p.2.okB (fun c => decide (c < b1))) = true
  mt : (oc.all fun p => !isMut p.2 || (oc'.lookup p.1).isSome) = true
  frz1 : keep = false → ∀ c ob, oc.lookup c = some ob → isMut ob = false → isRow (o.lookup (sg 0 L c)) = true → ∃ ob, frz.lookup (sg 0 L c) = some ob
  frz2 : ∀ j ob, frz.lookup j = some ob → keep = false ∧ ∃ c ob' sz rows, sg 0 L c = j ∧ oc.lookup c = some (.fz sz rows) ∧ o.lookup j = some ob' ∧ Lend sz rows ob' ∧ ob = .fz sz rows
  flat : keep = false ∨ ∀ c ob, oc'.lookup c = some ob → FlatOb ob
theorem HR.back {w0 w w' : World} {M : Fp} {U : Nat → Prop} {ρ ρc : Nat → Value} {own ownc : Nat → Option Nat} {o oc oc' frz : List (Nat × Ob)} {L : List (Nat × Nat)} {b0 b1 B : Nat} {keep : Bool} (hr : HR w0 M U ρ own o w) (he : Embs o (sg 0 L) oc) (hb : embB (sg 0 L) b0 oc = true)
    (hk : Back o oc oc' L b0 b1 keep frz) (hfr : ∀ i, B ≤ i → i < B + (b1 - b0) → ¬ U i) (hc : HR w (fpC ρ own (sg 0 L) oc o b0) (fun c => c < b1) ρc ownc oc' w') :
    ∃ ρ' own', (∀ i, U i → ρ' i = ρ i) ∧ (∀ c, c < b1 → ρ' (piC (sg 0 L) b0 B c) = ρc c ∧ grow U B (b1 - b0) (piC (sg 0 L) b0 B c)) ∧
      HR w0 M (grow U B (b1 - b0)) ρ' own' ((oc'.map fun p => (piC (sg 0 L) b0 B p.1, p.2.ren (piC (sg 0 L) b0 B))) ++ frz ++ o) w' := by
  have hle := hk.le
  have hnn : ∀ c ob, oc.lookup c = some ob → isNo ob = false := fun c ob h => by
    have := List.all_eq_true.1 hk.nn _ (lookup_mem h)
    simpa using this
  let σ := sg 0 L
  let π := piC σ b0 B
  have hσU : ∀ c, U (σ c) := fun c => by
    show U (sg 0 L c)
    cases hl : L.lookup c with
    | none => simp only [sg, Nat.not_lt_zero, if_false, hl]; exact hr.z0
    | some j =>
      have h1 := List.all_eq_true.1 hk.keys _ (lookup_mem hl)
      obtain ⟨ob, hob⟩ := Option.isSome_iff_exists.1 h1
      have h2 : ∃ ob', o.lookup (sg 0 L c) = some ob' := by
        rcases embs_at he hob with ⟨e, sz, rows, rfl, h2⟩ | ⟨sz, rows, rfl, h2⟩ | ⟨ob', sz, rows, rfl, h2, _⟩ | ⟨e, e2, sz2, rows, rfl, h2⟩ | ⟨t, cs, rfl, h2⟩ | rfl | ⟨xs, rfl, h2⟩ <;> first | exact ⟨_, h2⟩ | exact absurd (hnn _ _ ‹_›) (by simp [isNo])
      obtain ⟨ob', h2⟩ := h2
      exact (hr.ob _ _ h2).2.1
  let ρ' : Nat → Value := fun i => if B ≤ i ∧ i < B + (b1 - b0) then ρc (b0 + (i - B)) else ρ i
  have hρ : ∀ i, U i → ρ' i = ρ i := fun i hi => by
    show (if _ then _ else _) = _
    rw [if_neg (fun h => hfr i h.1 h.2 hi)]
  have hπ : ∀ c, c < b1 → ρ' (π c) = ρc c := fun c hc1 => by
    by_cases hcb : c < b0
    · have h1 : π c = σ c := by simp [π, piC, hcb]
      rw [h1, hρ _ (hσU c)]
      exact ((hc.ag c hcb).2).symm
    · have h1 : π c = B + (c - b0) := by simp [π, piC, hcb]
      rw [h1]
      show (if _ then _ else _) = _
      rw [if_pos ⟨by omega, by omega⟩]
      congr 1
      omega
  have hπU : ∀ c, c < b1 → grow U B (b1 - b0) (π c) := fun c hc1 => by
    by_cases hcb : c < b0
    · have h1 : π c = σ c := by simp [π, piC, hcb]
      rw [h1]; exact .inl (hσU c)
    · have h1 : π c = B + (c - b0) := by simp [π, piC, hcb]
      rw [h1]; exact .inr (by omega)
  let own' : Nat → Option Nat := ownB own ownc π b1 keep w.heap.size
  have hexp : ∀ c ob, oc'.lookup c = some ob → (b0 ≤ c ∨ ∃ ob0, oc.lookup c = some ob0 ∧ isMut ob0 = true) ∧ c < b1 ∧ ob.okB (fun c => decide (c < b1)) = true := fun c ob h => by
    have h1 := List.all_eq_true.1 hk.ex _ (lookup_mem h)
    simp only [Bool.and_eq_true, Bool.or_eq_true, decide_eq_true_eq] at h1
    refine ⟨?_, h1.1.2, h1.2⟩
    rcases h1.1.1 with h2 | h2
    · exact .inl h2
    · right
      cases h3 : oc.lookup c with
      | none => rw [h3] at h2; cases h2
      | some ob0 => rw [h3] at h2; exact ⟨ob0, rfl, h2⟩
  have hp : pairB σ oc = true := by
    simp only [embB, Bool.and_eq_true] at hb
    exact hb.1
  have hob : ∀ c ob, oc.lookup c = some ob → ∃ ob', o.lookup (σ c) = some ob' := fun c ob h => by
    rcases embs_at he h with ⟨e, sz, rows, rfl, h2⟩ | ⟨sz, rows, rfl, h2⟩ | ⟨ob', sz, rows, rfl, h2, _⟩ | ⟨e, e2, sz2, rows, rfl, h2⟩ | ⟨t, cs, rfl, h2⟩ | rfl | ⟨xs, rfl, h2⟩ <;> first | exact ⟨_, h2⟩ | exact absurd (hnn _ _ ‹_›) (by simp [isNo])
  have hc0 : ∀ c ob, oc'.lookup c = some ob → c ≠ 0 := fun c ob h h0 => by subst h0; rw [hc.z] at h; cases h
  let S : Nat → Prop := fun j => (∃ c ob, oc.lookup c = some ob ∧ isMut ob = true ∧ σ c = j) ∨ ∃ ob, frz.lookup j = some ob
  -- blocks that nobody touched
  have hkeep : ∀ k, k < w.heap.size → (∀ j, own k = some j → ¬ S j) → w'.heap[k]? = w.heap[k]? ∧ own' k = own k := fun k hks hno => by
    have hM : ¬ (fpC ρ own σ oc o b0).mt k := fun h => by
      obtain ⟨c, ob, h1, h2, h3⟩ := h
      exact hno _ h3 (.inl ⟨c, ob, h1, h2, rfl⟩)
    refine ⟨hc.gr.block k hks hM, ?_⟩
    by_cases hok : ownC σ oc o own k = none
    · have h1 : ownc k = none := (hc.fr k hks hM).1 hok
      show ownB own ownc π b1 keep w.heap.size k = own k
      simp only [ownB, h1]
      cases hok2 : own k with
      | none => rfl
      | some j =>
        simp only [ownC, hok2] at hok
        cases hf : oc.find? (fun p => σ p.1 == j && !isNo p.2) with
        | none => rw [hf] at hok; cases hok
        | some p =>
          rw [hf] at hok
          cases hm : isMut p.2 with
          | true => simp [hm] at hok
          | false =>
            have hj : σ p.1 = j := by
              have hz := List.find?_some hf
              simp only [Bool.and_eq_true, beq_iff_eq] at hz
              exact hz.1
            have hl := lookup_of_mem hp (List.mem_of_find?_eq_some hf)
            cases hrw : isRow (o.lookup j) with
            | false => simp [hm, hrw] at hok
            | true =>
              cases hkk : keep with
              | true => simp [hks]
              | false => exact absurd (.inr (by rw [← hj]; exact hk.frz1 hkk _ _ hl hm (by rw [← hj] at hrw; exact hrw))) (hno j hok2)
    · have h1 : ownc k = some 0 := (hc.fr k hks hM).2 hok
      show ownB own ownc π b1 keep w.heap.size k = own k
      simp [ownB, h1, hks]
  have hnone : keep = false → ∀ k, ownc k = none → own' k = none := fun hkf k h => by
    show ownB own ownc π b1 keep w.heap.size k = none
    simp only [ownB, h, hkf]
    cases own k <;> simp
  have hown : ∀ c k, c ≠ 0 → c < b1 → ownc k = some c → own' k = some (π c) := fun c k h0 h1 h => by
    show ownB own ownc π b1 keep w.heap.size k = some (π c)
    simp [ownB, h, h0, h1]
  refine ⟨ρ', own', hρ, fun c hc1 => ⟨hπ c hc1, hπU c hc1⟩, ?_⟩
  refine hr.step S hc.gr.os hc.gr.tape hc.gr.output hc.gr.size hkeep hρ (fun i hi => .inl hi) (fun j hj => ?_) (fun i ob hi => ?_) (fun i ob hi => ?_)
  · rw [lookup_append]
    rcases hj with ⟨c, ob, h1, h2, rfl⟩ | ⟨ob, h1⟩
    · have h3 := List.all_eq_true.1 hk.mt _ (lookup_mem h1)
      simp only [h2, Bool.not_true, Bool.false_or] at h3
      obtain ⟨ob', h4⟩ := Option.isSome_iff_exists.1 h3
      obtain ⟨ob2, h5⟩ := lookup_map (f := π) (g := Ob.ren π) h4
      have hcb : c < b0 := (emb_rep hr he hb h1).2.1
      have h6 : π c = σ c := by simp [π, piC, hcb]
      rw [h6] at h5
      have h7 : (oc'.map fun p => (piC (sg 0 L) b0 B p.1, p.2.ren (piC (sg 0 L) b0 B))).lookup (σ c) = some ob2 := h5
      rw [h7]
      exact ⟨_, rfl⟩
    · cases (oc'.map fun p => (piC (sg 0 L) b0 B p.1, p.2.ren (piC (sg 0 L) b0 B))).lookup j with
      | some b => exact ⟨b, rfl⟩
      | none => exact ⟨ob, h1⟩
  · rw [lookup_append] at hi
    cases hl : (oc'.map fun p => (piC (sg 0 L) b0 B p.1, p.2.ren (piC (sg 0 L) b0 B))).lookup i with
    | some b =>
      obtain ⟨c, ob1, h1, h2, h3⟩ := map_lookup hl
      rcases (hexp c ob1 h1).1 with h4 | ⟨ob0, h4, h5⟩
      · right
        rw [← h2]
        have h6 : piC (sg 0 L) b0 B c = B + (c - b0) := by simp [piC, show ¬ c < b0 by omega]
        rw [h6]
        exact hfr _ (by omega) (by have := (hexp c ob1 h1).2.1; omega)
      · left
        have hcb : c < b0 := (emb_rep hr he hb h4).2.1
        have h6 : piC (sg 0 L) b0 B c = σ c := by simp [piC, hcb, σ]
        rw [← h2, h6]
        exact hob c ob0 h4
    | none =>
      rw [hl] at hi
      obtain ⟨_, c, ob', sz, rows, h1, h2, h3, hl', h4⟩ := hk.frz2 i ob hi
      exact .inl ⟨_, h3⟩
  · rw [lookup_append] at hi
    cases hl : (oc'.map fun p => (piC (sg 0 L) b0 B p.1, p.2.ren (piC (sg 0 L) b0 B))).lookup i with
    | some b =>
      rw [hl] at hi
      obtain rfl : b = ob := by injection hi
      obtain ⟨c, ob1, h1, h2, rfl⟩ := map_lookup hl
      obtain ⟨_, hcb1, hokB⟩ := hexp c ob1 h1
      have hcz := hc0 c ob1 h1
      obtain ⟨g1, _, g3⟩ := hc.ob c ob1 h1
      subst h2
      refine ⟨?_, hπU c hcb1, ?_⟩
      · have hmono : keep = false → ∀ k, ownc k = none → k < w'.heap.size → own' k = none ∧ w'.heap[k]? = w'.heap[k]? := fun hkf k h _ => ⟨hnone hkf k h, rfl⟩
        cases ob1 with
        | no => trivial
        | fz sz rows =>
          rcases hk.flat with hkf | hfl
          · show Rd w' _ _ (ρ' (π c))
            rw [hπ c hcb1]
            exact Rd.mono g1 (hmono hkf)
          · exact absurd (hfl c _ h1) (fun h => h)
        | row e sz rows =>
          obtain ⟨g0, cells, q1, q2, q3⟩ := g1
          refine ⟨g0, cells, ?_, fun k hkk => ?_, ?_⟩
          · show OwnsR w' e sz (ρ' (π c)) rows.length cells
            rw [hπ c hcb1]; exact q1
          · have hkk' : (ρ' (π c)).ownBlock = some k := hkk
            rw [hπ c hcb1] at hkk'
            exact hown c k hcz hcb1 (q2 k hkk')
          · rcases hk.flat with hkf | hfl
            · exact q3.mono (hmono hkf)
            · refine ⟨q3.len, fun i r hi => ⟨(q3.each i r hi).1, fun j cl hj => ?_⟩⟩
              obtain ⟨u, h5, h6⟩ := (q3.each i r hi).2 j cl hj
              obtain ⟨x, rfl⟩ := (hfl c _ h1 : ∀ r ∈ rows, ∀ cl ∈ r, ∃ x, cl = .v x) r (List.mem_of_getElem? hi) cl (List.mem_of_getElem? hj)
              exact ⟨u, h5, h6.flat⟩
        | nest e e2 sz2 rows hole =>
          obtain ⟨vs, hN⟩ := g1
          have hπb : ∀ j b, hole = some (j, b) → ρ' (π b) = ρc b := fun j b hj => by
            subst hj
            exact hπ b (of_decide_eq_true hokB)
          have hhole : ∀ j, (∀ b, (hole.map fun p => (p.1, piC (sg 0 L) b0 B p.2)) ≠ some (j, b)) → ∀ b, hole ≠ some (j, b) := fun j h b hb => by
            subst hb
            exact h _ rfl
          refine ⟨vs, hN.pos, ?_, fun k hkk => ?_, fun j b hb => ?_, fun j r v hj hv hh => ?_, fun j j' v v' k hne hh hh' => hN.dis j j' v v' k hne (hhole j hh) (hhole j' hh')⟩
          · show OwnsR w' e 1 (ρ' (π c)) rows.length vs
            rw [hπ c hcb1]; exact hN.out
          · have hkk' : (ρ' (π c)).ownBlock = some k := hkk
            rw [hπ c hcb1] at hkk'
            exact hown c k hcz hcb1 (hN.blk k hkk')
          · obtain ⟨q, hq, hq2⟩ := Option.map_eq_some_iff.1 hb
            cases hq2
            show vs[q.1]? = some (ρ' (π q.2))
            rw [hπb q.1 q.2 hq]
            exact hN.hol q.1 q.2 hq
          · obtain ⟨cells, q1, q2, q3⟩ := hN.inn j r v hj hv (hhole j hh)
            refine ⟨cells, q1, ?_, fun k hk1 => ⟨hown c k hcz hcb1 (q3 k hk1).1, ?_⟩⟩
            · rcases hk.flat with hkf | hfl
              · exact q2.mono (hmono hkf)
              · refine ⟨q2.len, fun i1 r1 hi1 => ⟨(q2.each i1 r1 hi1).1, fun j1 cl hj1 => ?_⟩⟩
                obtain ⟨u, h5, h6⟩ := (q2.each i1 r1 hi1).2 j1 cl hj1
                obtain ⟨x, rfl⟩ := (hfl c _ h1 : ∀ x ∈ rows, ∀ r ∈ x, ∀ cl ∈ r, ∃ v, cl = .v v) r (List.mem_of_getElem? hj) r1 (List.mem_of_getElem? hi1) cl (List.mem_of_getElem? hj1)
                exact ⟨u, h5, h6.flat⟩
            · show (ρ' (π c)).ownBlock ≠ some k
              rw [hπ c hcb1]; exact (q3 k hk1).2
        | box t cs =>
          obtain ⟨g, q1, q2, q3⟩ := g1
          refine ⟨g, ?_, hown c g hcz hcb1 q2, ?_⟩
          · show ρ' (π c) = _
            rw [hπ c hcb1]; exact q1
          · show w'.heap[g]? = some (.cells (LV.vals ρ' (LV.rens π cs)).toArray t (0, 0))
            rw [q3, rens_val (p := fun c => decide (c < b1)) (ρ := ρc) (fun c h => hπ c (of_decide_eq_true h)) cs hokB]
        | map l =>
          obtain ⟨g, es, ck, q1, q2, q3, q4⟩ := g1
          refine ⟨g, es, ck, ?_, hown c g hcz hcb1 q2, q3, q4⟩
          show ρ' (π c) = _
          rw [hπ c hcb1]; exact q1
      · cases ob1 with
        | box t cs =>
          refine ⟨rens_used (ρ := ρc) (p := fun c => decide (c < b1)) (U := fun c => c < b1) (fun c h => hπ c (of_decide_eq_true h)) (fun c h => hπU c (of_decide_eq_true h)) cs hokB g3.1, ?_⟩
          show (LV.vals ρ' (LV.rens π cs)).all (·.oneCell') = true
          rw [rens_val (p := fun c => decide (c < b1)) (ρ := ρc) (fun c h => hπ c (of_decide_eq_true h)) cs hokB]
          exact g3.2
        | nest e e2 sz2 rows hole =>
          intro j b hb
          obtain ⟨q, hq, hq2⟩ := Option.map_eq_some_iff.1 hb
          cases hq2
          subst hq
          exact hπU q.2 (of_decide_eq_true hokB)
        | _ => trivial
    | none =>
      rw [hl] at hi
      obtain ⟨hkf, c, ob', sz, rows, h1, h2, h3, hl', rfl⟩ := hk.frz2 i ob hi
      obtain ⟨g1, g2, _⟩ := hr.ob _ _ h3
      refine ⟨?_, .inl g2, trivial⟩
      show Rd w' _ _ (ρ' i)
      rw [hρ i g2]
      refine Rd.mono (rd_of_lend hl' g1 (ok := fun k => own k = none ∨ own k = some i) (fun k h => h)) (fun k hk1 hks => ?_)
      have hM : ¬ (fpC ρ own σ oc o b0).mt k := fun h => by
        obtain ⟨c', ob', q1, q2, q3⟩ := h
        rcases hk1 with hk1 | hk1
        · rw [hk1] at q3; cases q3
        · rw [hk1] at q3
          have q4 : i = σ c' := by injection q3
          have q5 := find_mut hp q1 q2
          obtain ⟨p, q6, q7⟩ := find_fz hp h2 rfl rfl
          have q8 : σ c = σ c' := by rw [← q4]; exact h1
          rw [q8, q5] at q6
          cases q6
          rw [q2] at q7; cases q7
      refine ⟨?_, hc.gr.block k hks hM⟩
      rcases hk1 with hk1 | hk1
      · exact (hkeep k hks (fun j hj => by rw [hk1] at hj; cases hj)).2.trans hk1
      · refine hnone hkf k ((hc.fr k hks hM).1 ?_)
        exact ownC_fz hp h2 rfl rfl (by rw [h1, h3]; exact lend_row hl') (hk1.trans (by rw [h1]))
end Lg
end Go.Proofs.Ytpfhmodjjljpjaa
