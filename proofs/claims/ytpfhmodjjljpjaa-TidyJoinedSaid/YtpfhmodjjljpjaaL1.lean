import Derived.Orders
import Derived.Maps.AppendAt
import Derived.Laws.MakeOwn
import Derived.WalkKit
import Derived.Below
namespace Go.Proofs.Ytpfhmodjjljpjaa
open Go.RowKit
namespace Lg
set_option linter.unusedSimpArgs false
set_option linter.unusedVariables false

/-! ### Logical cells: what a cell of memory says, slices told whole -/
inductive Cell where
  | v (x : Value)
  | sl (sz : Nat) (rows : List (List Cell))

/-- A value reads as a cell, all that it leads to lying in blocks that are ok. -/
inductive Rd (w : World) (ok : Nat → Prop) : Cell → Value → Prop
  | v (x : Value) (h : x.oneCell' = true) : Rd w ok (.v x) x
  | sl (sz : Nat) (rows : List (List Cell)) (A : Option Addr) (c : Nat) (u : Nat → Nat → Value)
      (hc : rows.length ≤ c) (hm : rows.length ≤ maxLen) (hz : ∀ r ∈ rows, r.length = sz) (hn : rows ≠ [] → ∃ a, A = some a)
      (hA : ∀ (i : Nat) (r : List Cell) (j : Nat) (cl : Cell), rows[i]? = some r → r[j]? = some cl → ∃ a, A = some a ∧ ok a.block ∧ w.cell? (a.add (i * sz + j)) = some (u i j))
      (hR : ∀ (i : Nat) (r : List Cell) (j : Nat) (cl : Cell), rows[i]? = some r → r[j]? = some cl → Rd w ok cl (u i j)) :
      Rd w ok (.sl sz rows) (.slice A rows.length c)

theorem add_block (a : Addr) (n : Nat) : (a.add n).block = a.block := by unfold Addr.add; split <;> rfl

theorem Rd.mono {w w' : World} {ok ok' : Nat → Prop} {c : Cell} {v : Value} (h : Rd w ok c v)
    (hm : ∀ k, ok k → k < w.heap.size → ok' k ∧ w'.heap[k]? = w.heap[k]?) : Rd w' ok' c v := by
  induction h with
  | v x h => exact .v x h
  | sl sz rows A c u hc hmx hz hn hA hR ih =>
    refine .sl sz rows A c u hc hmx hz hn (fun i r j cl hi hj => ?_) ih
    obtain ⟨a, ha, hok, hcell⟩ := hA i r j cl hi hj
    have hlt := World.block_lt_of_cell? w _ hcell
    rw [add_block] at hlt
    obtain ⟨h1, h2⟩ := hm _ hok hlt
    refine ⟨a, ha, h1, ?_⟩
    rw [World.cell?_of_block (w := w) (by rw [add_block]; exact h2)]
    exact hcell

theorem Rd.one {w : World} {ok : Nat → Prop} {c : Cell} {v : Value} (h : Rd w ok c v) : v.oneCell' = true := by
  cases h with
  | v x h => exact h
  | sl => rfl

/-! ### Logical values: what a slot holds, by objects' numbers -/
inductive LV where
  | v (x : Value)
  | r (i : Nat)
  | p (i n : Nat)
  | e (i sz j f : Nat)
  | agg (l : List LV)
  | tup (l : List LV)
  | fn (f : Nat) (caps : List LV)

/-- The address that a handle leads to. -/
def base : Value → Option Addr
  | .pointer a => a
  | .slice a _ _ => a
  | _ => none
def ptrOf (h : Value) (n : Nat) : Value :=
  match base h with
  | some a => .pointer (some (a.add n))
  | none => undef

mutual
def LV.val (ρ : Nat → Value) : LV → Value
  | .v x => x
  | .r i => ρ i
  | .p i n => ptrOf (ρ i) n
  | .e i sz j f => ptrOf (ρ i) (j * sz + f)
  | .agg l => .agg (LV.vals ρ l).toArray
  | .tup l => .tuple (LV.vals ρ l).toArray
  | .fn f caps => .func (.func f) #[] (LV.vals ρ caps).toArray
def LV.vals (ρ : Nat → Value) : List LV → List Value
  | [] => []
  | x :: xs => x.val ρ :: LV.vals ρ xs
end

mutual
/-- It names objects of U alone; what is an address there leads somewhere. -/
def LV.used (U : Nat → Prop) (ρ : Nat → Value) : LV → Prop
  | .v _ => True
  | .r i => U i
  | .p i _ => U i ∧ ∃ a, base (ρ i) = some a
  | .e i _ _ _ => U i ∧ ∃ a, base (ρ i) = some a
  | .agg l => LV.useds U ρ l ∧ (LV.vals ρ l).all (·.oneCell') = true
  | .tup l => LV.useds U ρ l
  | .fn _ caps => LV.useds U ρ caps
def LV.useds (U : Nat → Prop) (ρ : Nat → Value) : List LV → Prop
  | [] => True
  | x :: xs => x.used U ρ ∧ LV.useds U ρ xs
end

theorem vals_length (ρ : Nat → Value) : ∀ l, (LV.vals ρ l).length = l.length
  | [] => rfl
  | x :: xs => by simp [LV.vals, vals_length ρ xs]

theorem vals_getElem? (ρ : Nat → Value) : ∀ (l : List LV) (j : Nat), (LV.vals ρ l)[j]? = (l[j]?).map (LV.val ρ)
  | [], j => by simp [LV.vals]
  | x :: xs, 0 => by simp [LV.vals]
  | x :: xs, j + 1 => by simp [LV.vals, vals_getElem? ρ xs j]

theorem vals_append (ρ : Nat → Value) : ∀ (l m : List LV), LV.vals ρ (l ++ m) = LV.vals ρ l ++ LV.vals ρ m
  | [], _ => rfl
  | x :: xs, m => by simp [LV.vals, vals_append ρ xs m]

theorem vals_eq_map (ρ : Nat → Value) : ∀ l, LV.vals ρ l = l.map (LV.val ρ)
  | [] => rfl
  | x :: xs => by simp [LV.vals, vals_eq_map ρ xs]

theorem useds_iff {U : Nat → Prop} {ρ : Nat → Value} : ∀ {l : List LV}, LV.useds U ρ l ↔ ∀ x ∈ l, x.used U ρ
  | [] => by simp [LV.useds]
  | x :: xs => by simp [LV.useds, useds_iff (l := xs)]

mutual
theorem used_congr {ρ ρ' : Nat → Value} {U : Nat → Prop} (h : ∀ i, U i → ρ' i = ρ i) : ∀ (x : LV), x.used U ρ → x.val ρ' = x.val ρ
  | .v _, _ => rfl
  | .r i, hu => h i hu
  | .p i n, hu => by simp only [LV.val]; rw [h i hu.1]
  | .e i sz j f, hu => by simp only [LV.val]; rw [h i hu.1]
  | .agg l, hu => by simp only [LV.val]; rw [useds_congr h l hu.1]
  | .tup l, hu => by simp only [LV.val]; rw [useds_congr h l hu]
  | .fn f l, hu => by simp only [LV.val]; rw [useds_congr h l hu]
theorem useds_congr {ρ ρ' : Nat → Value} {U : Nat → Prop} (h : ∀ i, U i → ρ' i = ρ i) : ∀ (l : List LV), LV.useds U ρ l → LV.vals ρ' l = LV.vals ρ l
  | [], _ => rfl
  | x :: xs, hu => by simp only [LV.vals]; rw [used_congr h x hu.1, useds_congr h xs hu.2]
end

mutual
theorem used_mono {U U' : Nat → Prop} {ρ ρ' : Nat → Value} (hρ : ∀ i, U i → ρ' i = ρ i) (h : ∀ i, U i → U' i) : ∀ (x : LV), x.used U ρ → x.used U' ρ'
  | .v _, _ => trivial
  | .r i, hu => h i hu
  | .p i _, hu => ⟨h i hu.1, by rw [hρ i hu.1]; exact hu.2⟩
  | .e i _ _ _, hu => ⟨h i hu.1, by rw [hρ i hu.1]; exact hu.2⟩
  | .agg l, hu => ⟨useds_mono hρ h l hu.1, by rw [useds_congr hρ l hu.1]; exact hu.2⟩
  | .tup l, hu => useds_mono hρ h l hu
  | .fn _ l, hu => useds_mono hρ h l hu
theorem useds_mono {U U' : Nat → Prop} {ρ ρ' : Nat → Value} (hρ : ∀ i, U i → ρ' i = ρ i) (h : ∀ i, U i → U' i) : ∀ (l : List LV), LV.useds U ρ l → LV.useds U' ρ' l
  | [], _ => trivial
  | x :: xs, hu => ⟨used_mono hρ h x hu.1, useds_mono hρ h xs hu.2⟩
end

/-! ### Objects -/
inductive Ob where
  | row (e sz : Nat) (rows : List (List Cell))
  | box (t : Nat) (cs : List LV)
  | fz (sz : Nat) (rows : List (List Cell))
  | nest (e e2 sz2 : Nat) (rows : List (List (List Cell))) (hole : Option (Nat × Nat))
  | no

def Ob.used (U : Nat → Prop) (ρ : Nat → Value) : Ob → Prop
  | .box _ cs => LV.useds U ρ cs ∧ (LV.vals ρ cs).all (·.oneCell') = true
  | .nest _ _ _ _ hole => ∀ j b, hole = some (j, b) → U b
  | _ => True

/-- Rows of elements, as cells one behind the other. -/
structure RowsRd (w : World) (ok : Nat → Prop) (sz : Nat) (rows : List (List Cell)) (cells : List Value) : Prop where
  len : cells.length = rows.length * sz
  each : ∀ (i : Nat) (r : List Cell), rows[i]? = some r → r.length = sz ∧ ∀ (j : Nat) (cl : Cell), r[j]? = some cl → ∃ u, cells[i * sz + j]? = some u ∧ Rd w ok cl u

theorem RowsRd.mono {w w' : World} {ok ok' : Nat → Prop} {sz : Nat} {rows : List (List Cell)} {cells : List Value} (h : RowsRd w ok sz rows cells)
    (hm : ∀ k, ok k → k < w.heap.size → ok' k ∧ w'.heap[k]? = w.heap[k]?) : RowsRd w' ok' sz rows cells :=
  ⟨h.len, fun i r hi => ⟨(h.each i r hi).1, fun j cl hj => by
    obtain ⟨u, h1, h2⟩ := (h.each i r hi).2 j cl hj
    exact ⟨u, h1, h2.mono hm⟩⟩⟩

/-- A slice of slices, all of them the call's own; one may be split off (the hole: an object of its own). -/
structure NestRd (w : World) (ρ : Nat → Value) (own : Nat → Option Nat) (i e e2 sz2 : Nat) (rows : List (List (List Cell))) (hole : Option (Nat × Nat)) (vs : List Value) : Prop where
  pos : 0 < sz2
  out : w.ownsRow 0 e 1 (ρ i) rows.length vs
  blk : ∀ k, (ρ i).ownBlock = some k → own k = some i
  hol : ∀ j b, hole = some (j, b) → vs[j]? = some (ρ b)
  inn : ∀ (j : Nat) (r : List (List Cell)) (v : Value), rows[j]? = some r → vs[j]? = some v → (∀ b, hole ≠ some (j, b)) → ∃ cells, w.ownsRow 0 e2 sz2 v r.length cells ∧ RowsRd w (fun k => own k = none) sz2 r cells ∧ ∀ k, v.ownBlock = some k → own k = some i ∧ (ρ i).ownBlock ≠ some k
  dis : ∀ (j j' : Nat) (v v' : Value) (k : Nat), j ≠ j' → (∀ b, hole ≠ some (j, b)) → (∀ b, hole ≠ some (j', b)) → vs[j]? = some v → vs[j']? = some v' → v.ownBlock = some k → v'.ownBlock ≠ some k

def RepOb (w : World) (ρ : Nat → Value) (own : Nat → Option Nat) (i : Nat) : Ob → Prop
  | .no => True
  | .fz sz rows => Rd w (fun k => own k = none) (.sl sz rows) (ρ i)
  | .row e sz rows => 0 < sz ∧ ∃ cells, w.ownsRow 0 e sz (ρ i) rows.length cells ∧ (∀ k, (ρ i).ownBlock = some k → own k = some i) ∧ RowsRd w (fun k => own k = none) sz rows cells
  | .nest e e2 sz2 rows hole => ∃ vs, NestRd w ρ own i e e2 sz2 rows hole vs
  | .box t cs => ∃ b, ρ i = .pointer (some ⟨b, 0, none⟩) ∧ own b = some i ∧ w.heap[b]? = some (.cells (LV.vals ρ cs).toArray t (0, 0))

/-- All that lay in w0 lies there still, but for the blocks of M. -/
structure Grew (M : Nat → Prop) (w0 w : World) : Prop where
  os : w.os = w0.os
  tape : w.tape = w0.tape
  output : w.output = w0.output
  size : w0.heap.size ≤ w.heap.size
  block : ∀ k, k < w0.heap.size → ¬ M k → w.heap[k]? = w0.heap[k]?

theorem Grew.refl (M : Nat → Prop) (w : World) : Grew M w w := ⟨rfl, rfl, rfl, Nat.le_refl _, fun _ _ _ => rfl⟩
theorem Grew.trans {M M' : Nat → Prop} {a b c : World} (h : Grew M a b) (k : Grew M' b c) (hM : ∀ i, i < a.heap.size → M' i → M i) : Grew M a c :=
  ⟨k.os.trans h.os, k.tape.trans h.tape, k.output.trans h.output, Nat.le_trans h.size k.size, fun i hi hn =>
    (k.block i (Nat.lt_of_lt_of_le hi h.size) (fun h2 => hn (hM i hi h2))).trans (h.block i hi hn)⟩
theorem Grew.drew {M : Nat → Prop} {a b : World} (h : Grew M a b) (n : Nat) : Grew M a { b with drawn := n } := ⟨h.os, h.tape, h.output, h.size, h.block⟩
theorem Grew.below {w w' : World} (h : Grew (fun _ => False) w w') : Below w.heap.size w w' := ⟨h.os, h.tape, h.output, h.size, fun k hk => h.block k hk (fun h => h)⟩

/-! ### A heap of objects -/
/-- What a call is given: rows and variables that it may change (mut), blocks that it may read (ok). -/
structure Fp where
  mt : Nat → Prop
  ok : Nat → Prop
  n : Nat
  ρ0 : Nat → Value

structure HR (w0 : World) (M : Fp) (U : Nat → Prop) (ρ : Nat → Value) (own : Nat → Option Nat) (o : List (Nat × Ob)) (w : World) : Prop where
  ob : ∀ i b, o.lookup i = some b → RepOb w ρ own i b ∧ U i ∧ b.used U ρ
  gr : Grew M.mt w0 w
  fr : ∀ k, k < w0.heap.size → ¬ M.mt k → (M.ok k → own k = none) ∧ (¬ M.ok k → own k = some 0)
  z : o.lookup 0 = none
  z0 : U 0
  ag : ∀ i, i < M.n → U i ∧ ρ i = M.ρ0 i

theorem heap_lt {w : World} {k : Nat} {o : Obj} (h : w.heap[k]? = some o) : k < w.heap.size := (Array.getElem?_eq_some_iff.1 h).1

theorem lookup_append {β : Type} (i : Nat) : ∀ (u o : List (Nat × β)), (u ++ o).lookup i = match u.lookup i with | some b => some b | none => o.lookup i
  | [], o => rfl
  | (j, b) :: u, o => by
    simp only [List.cons_append, List.lookup]
    cases h : i == j
    · exact lookup_append i u o
    · rfl

/-- An object that is none of those that are touched (S). -/
theorem RepOb.step {w w' : World} {ρ ρ' : Nat → Value} {own own' : Nat → Option Nat} {U S : Nat → Prop} {i : Nat} {b : Ob} (h : RepOb w ρ own i b) (hU : U i) (hu : b.used U ρ) (hS : ¬ S i)
    (hk : ∀ k, k < w.heap.size → (∀ j, own k = some j → ¬ S j) → w'.heap[k]? = w.heap[k]? ∧ own' k = own k) (hρ : ∀ i, U i → ρ' i = ρ i) : RepOb w' ρ' own' i b := by
  have hfz : ∀ k, own k = none → k < w.heap.size → own' k = none ∧ w'.heap[k]? = w.heap[k]? := fun k h1 h2 => by
    obtain ⟨h3, h4⟩ := hk k h2 (fun j hj => by rw [h1] at hj; cases hj)
    exact ⟨h4.trans h1, h3⟩
  have hown : ∀ k, own k = some i → k < w.heap.size → w'.heap[k]? = w.heap[k]? ∧ own' k = some i := fun k h1 h2 => by
    obtain ⟨h3, h4⟩ := hk k h2 (fun j hj => by rw [h1] at hj; cases hj; exact hS)
    exact ⟨h3, h4.trans h1⟩
  have hrow : ∀ (e sz : Nat) (v : Value) (n : Nat) (cells : List Value), w.ownsRow 0 e sz v n cells → (∀ k, v.ownBlock = some k → own k = some i) → w'.ownsRow 0 e sz v n cells := fun e sz v n cells h1 h2 => by
    refine ⟨h1.1, ?_⟩
    rcases h1.2 with h4 | ⟨g, cap, cur, he, hg, hh, r⟩
    · exact .inl h4
    · exact .inr ⟨g, cap, cur, he, hg, (hown g (h2 g (by rw [he]; rfl)) (heap_lt hh)).1.trans hh, r⟩
  have hblk : ∀ (e sz : Nat) (v : Value) (n : Nat) (cells : List Value), w.ownsRow 0 e sz v n cells → ∀ k, v.ownBlock = some k → own k = some i → own' k = some i := fun e sz v n cells h1 k hk' hok => by
    rcases h1.2 with ⟨h4, _⟩ | ⟨g, cap, cur, he, hg, hh, r⟩
    · rw [h4] at hk'; cases hk'
    · rw [he] at hk'
      cases hk'
      exact (hown g hok (heap_lt hh)).2
  cases b with
  | no => trivial
  | nest e e2 sz2 rows hole =>
    obtain ⟨vs, hN⟩ := h
    refine ⟨vs, hN.pos, ?_, fun k hk' => ?_, fun j b hb => ?_, fun j r v hj hv hh => ?_, hN.dis⟩
    · rw [hρ i hU]; exact hrow _ _ _ _ _ hN.out hN.blk
    · rw [hρ i hU] at hk'; exact hblk _ _ _ _ _ hN.out k hk' (hN.blk k hk')
    · rw [hρ b (hu j b hb)]; exact hN.hol j b hb
    · obtain ⟨cells, g1, g2, g3⟩ := hN.inn j r v hj hv hh
      refine ⟨cells, hrow _ _ _ _ _ g1 (fun k hk' => (g3 k hk').1), g2.mono hfz, fun k hk' => ⟨hblk _ _ _ _ _ g1 k hk' (g3 k hk').1, ?_⟩⟩
      rw [hρ i hU]; exact (g3 k hk').2
  | fz sz rows =>
    show Rd _ _ _ (ρ' i)
    rw [hρ i hU]
    exact Rd.mono h hfz
  | row e sz rows =>
    obtain ⟨h0, cells, h1, h2, h3⟩ := h
    refine ⟨h0, cells, ?_, ?_, h3.mono hfz⟩
    · rw [hρ i hU]
      refine ⟨h1.1, ?_⟩
      rcases h1.2 with h4 | ⟨g, cap, cur, he, hg, hh, r⟩
      · exact .inl h4
      · exact .inr ⟨g, cap, cur, he, hg, (hown g (h2 g (by rw [he]; rfl)) (heap_lt hh)).1.trans hh, r⟩
    · rw [hρ i hU]
      intro k hk'
      rcases h1.2 with ⟨h4, _⟩ | ⟨g, cap, cur, he, hg, hh, r⟩
      · rw [h4] at hk'; cases hk'
      · rw [he] at hk'
        cases hk'
        exact (hown g (h2 g (by rw [he]; rfl)) (heap_lt hh)).2
  | box t cs =>
    obtain ⟨b, h1, h2, h3⟩ := h
    obtain ⟨h4, h5⟩ := hown b h2 (heap_lt h3)
    exact ⟨b, by rw [hρ i hU]; exact h1, h5, by rw [h4, h3, useds_congr hρ cs hu.1]⟩

theorem Ob.used_mono {U U' : Nat → Prop} {ρ ρ' : Nat → Value} (hρ : ∀ i, U i → ρ' i = ρ i) (h : ∀ i, U i → U' i) {b : Ob} (hb : b.used U ρ) : b.used U' ρ' := by
  cases b with
  | box t cs => exact ⟨useds_mono hρ h cs hb.1, by rw [useds_congr hρ cs hb.1]; exact hb.2⟩
  | nest e e2 sz2 rows hole => exact fun j b hj => h b (hb j b hj)
  | _ => trivial

/-- What changes: the objects S (told anew in upd), new blocks; all else stays. -/
theorem HR.step {w0 w w' : World} {M : Fp} {U U' : Nat → Prop} {ρ ρ' : Nat → Value} {own own' : Nat → Option Nat} {o upd : List (Nat × Ob)} (S : Nat → Prop) (h : HR w0 M U ρ own o w)
    (hos : w'.os = w.os) (htape : w'.tape = w.tape) (hout : w'.output = w.output) (hsz : w.heap.size ≤ w'.heap.size)
    (hk : ∀ k, k < w.heap.size → (∀ j, own k = some j → ¬ S j) → w'.heap[k]? = w.heap[k]? ∧ own' k = own k)
    (hρ : ∀ i, U i → ρ' i = ρ i) (hUU : ∀ i, U i → U' i) (hS : ∀ i, S i → ∃ b, upd.lookup i = some b) (hkey : ∀ i b, upd.lookup i = some b → (∃ b', o.lookup i = some b') ∨ ¬ U i)
    (hupd : ∀ i b, upd.lookup i = some b → RepOb w' ρ' own' i b ∧ U' i ∧ b.used U' ρ') : HR w0 M U' ρ' own' (upd ++ o) w' := by
  have hz : upd.lookup 0 = none := by
    cases hl : upd.lookup 0 with
    | none => rfl
    | some b =>
      rcases hkey 0 b hl with ⟨b', hb⟩ | hb
      · rw [h.z] at hb; cases hb
      · exact absurd h.z0 hb
  have hS0 : ¬ S 0 := fun hs => by obtain ⟨b, hb⟩ := hS 0 hs; rw [hz] at hb; cases hb
  have hn : ∀ k, k < w0.heap.size → ¬ M.mt k → ∀ j, own k = some j → ¬ S j := fun k hk0 hM j hj => by
    by_cases hok : M.ok k
    · rw [(h.fr k hk0 hM).1 hok] at hj; cases hj
    · rw [(h.fr k hk0 hM).2 hok] at hj; cases hj; exact hS0
  refine ⟨fun i b hi => ?_, ?_, fun k hk0 hM => ?_, by rw [lookup_append, hz]; exact h.z, hUU 0 h.z0, fun i hi => ⟨hUU i (h.ag i hi).1, (hρ i (h.ag i hi).1).trans (h.ag i hi).2⟩⟩
  · rw [lookup_append] at hi
    cases hl : upd.lookup i with
    | some b' =>
      rw [hl] at hi
      obtain rfl : b' = b := by injection hi
      exact hupd i b' hl
    | none =>
      rw [hl] at hi
      obtain ⟨h1, h2, h3⟩ := h.ob i b hi
      exact ⟨h1.step h2 h3 (fun hs => by obtain ⟨b', hb⟩ := hS i hs; rw [hl] at hb; cases hb) hk hρ, hUU i h2, Ob.used_mono hρ hUU h3⟩
  · refine ⟨hos.trans h.gr.os, htape.trans h.gr.tape, hout.trans h.gr.output, Nat.le_trans h.gr.size hsz, fun k hk0 hM => ?_⟩
    exact ((hk k (Nat.lt_of_lt_of_le hk0 h.gr.size) (hn k hk0 hM)).1).trans (h.gr.block k hk0 hM)
  · have h2 := (hk k (Nat.lt_of_lt_of_le hk0 h.gr.size) (hn k hk0 hM)).2
    rw [h2]
    exact h.fr k hk0 hM

theorem lookup_key {β : Type} {b i : Nat} {x y : β} (h : List.lookup i [(b, x)] = some y) : i = b := by
  simp only [List.lookup] at h
  cases hq : i == b with
  | false => rw [hq] at h; cases h
  | true => simpa using hq

theorem HR.drew {w0 w : World} {M : Fp} {U : Nat → Prop} {ρ : Nat → Value} {own : Nat → Option Nat} {o : List (Nat × Ob)} (h : HR w0 M U ρ own o w) (n : Nat) : HR w0 M U ρ own o { w with drawn := n } := by
  have := h.step (w' := { w with drawn := n }) (U' := U) (ρ' := ρ) (own' := own) (upd := []) (fun _ => False) rfl rfl rfl (Nat.le_refl _) (fun _ _ _ => ⟨rfl, rfl⟩) (fun _ _ => rfl) (fun _ h => h) (fun _ h => h.elim) (fun _ _ h => by cases h) (fun _ _ h => by cases h)
  exact this

end Lg
end Go.Proofs.Ytpfhmodjjljpjaa
