import Derived.Test.YtpfhmodjjljpjaaAlm1
import Derived.Laws.Sem
import Derived.RangeFuncLeaves
import Derived.RangeFuncRecord
import Derived.Test.YtpfhmodjjljpjaaProg
import Derived.KernelRfl
import Derived.SizedLaws
import Derived.OpenShut
import Derived.ChangeOld
import Derived.Test.YtpfhmodjjljpjaaRows
import Derived.WalkKit
import Derived.ProofKit
import Derived.ShutString
import Derived.Below
import Derived.Tactics
import Derived.Laws.Entries
import Derived.Laws.BytesArg
import Derived.WideKeyRuns
import Derived.ChangeMaps4
import Derived.Laws.Small
set_option linter.unusedVariables false
set_option linter.unusedSimpArgs false
namespace Go.Proofs.Ytpfhmodjjljpjaa
open Go.RowKit
namespace Lg
set_option linter.unusedSimpArgs false
set_option linter.unusedVariables false
def Spec (P : Program) (f : Nat) (args : List LV) (b0 : Nat) (oc : List (Nat × Ob)) (res : LV) (b1 : Nat) (oc' : List (Nat × Ob)) : Prop :=
  ∀ (w0 : World) (M : Fp) (ρ : Nat → Value) (own : Nat → Option Nat) (w : World), M.n = b0 → HR w0 M (fun c => c < b0) ρ own oc w → LV.useds (fun c => c < b0) ρ args →
    Calls P f (LV.vals ρ args).toArray w (fun e w' => ∃ ρ' own', e = .returned (res.val ρ') ∧ res.used (fun c => c < b1) ρ' ∧ HR w0 M (fun c => c < b1) ρ' own' oc' w')
theorem Embs.congr {o o' : List (Nat × Ob)} {σ : Nat → Nat} {oc : List (Nat × Ob)} (h : Embs o σ oc) (hc : ∀ i, i ∈ oc.map (fun p => σ p.1) → o'.lookup i = o.lookup i) : Embs o' σ oc := by
  induction h with
  | nil => exact .nil
  | row h t ih => exact .row ((hc _ (by simp)).trans h) (ih (fun i hi => hc i (List.mem_cons_of_mem _ hi)))
  | fz h t ih => exact .fz ((hc _ (by simp)).trans h) (ih (fun i hi => hc i (List.mem_cons_of_mem _ hi)))
  | lend h t ih => exact .lend ((hc _ (by simp)).trans h) (ih (fun i hi => hc i (List.mem_cons_of_mem _ hi)))
  | nest h t ih => exact .nest ((hc _ (by simp)).trans h) (ih (fun i hi => hc i (List.mem_cons_of_mem _ hi)))
  | lendN h t ih => exact .lendN ((hc _ (by simp)).trans h) (ih (fun i hi => hc i (List.mem_cons_of_mem _ hi)))
  | no t ih => exact .no (ih (fun i hi => hc i (List.mem_cons_of_mem _ hi)))
  | box h t ih => exact .box ((hc _ (by simp)).trans h) (ih (fun i hi => hc i (List.mem_cons_of_mem _ hi)))
  | map h t ih => exact .map ((hc _ (by simp)).trans h) (ih (fun i hi => hc i (List.mem_cons_of_mem _ hi)))
def frzOf (keep : Bool) (σ : Nat → Nat) (o : List (Nat × Ob)) : List (Nat × Ob) → List (Nat × Ob)
  | [] => []
  | p :: l => match keep, p.2, isRow (o.lookup (σ p.1)) with
    | false, .fz sz rows, true => (σ p.1, .fz sz rows) :: frzOf keep σ o l
    | _, _, _ => frzOf keep σ o l
theorem frzOf_congr {keep : Bool} {σ : Nat → Nat} {o o' : List (Nat × Ob)} : ∀ {oc : List (Nat × Ob)}, (∀ i, i ∈ oc.map (fun p => σ p.1) → o'.lookup i = o.lookup i) → frzOf keep σ o' oc = frzOf keep σ o oc
  | [], _ => rfl
  | p :: l, h => by
    simp only [frzOf, h (σ p.1) (by simp), frzOf_congr (oc := l) (fun i hi => h i (List.mem_cons_of_mem _ hi))]
theorem frzOf_mem {keep : Bool} {σ : Nat → Nat} {o : List (Nat × Ob)} {q : Nat × Ob} : ∀ {oc : List (Nat × Ob)}, q ∈ frzOf keep σ o oc → keep = false ∧ ∃ c sz rows, (c, Ob.fz sz rows) ∈ oc ∧ isRow (o.lookup (σ c)) = true ∧ q = (σ c, .fz sz rows)
  | [], h => by cases h
  | (c, ob) :: l, h => by
    have hrec : q ∈ frzOf keep σ o l → keep = false ∧ ∃ c' sz rows, (c', Ob.fz sz rows) ∈ (c, ob) :: l ∧ isRow (o.lookup (σ c')) = true ∧ q = (σ c', .fz sz rows) := fun h => by
      obtain ⟨h1, c', sz, rows, h2, h3, h4⟩ := frzOf_mem h
      exact ⟨h1, c', sz, rows, List.mem_cons_of_mem _ h2, h3, h4⟩
    simp only [frzOf] at h
    split at h
    · rename_i sz rows hr
      rcases List.mem_cons.1 h with h | h
      · exact ⟨by first | rfl | trivial, c, sz, rows, by simp, hr, h⟩
      · exact hrec h
    · exact hrec h
theorem mem_frzOf {σ : Nat → Nat} {o : List (Nat × Ob)} {c sz : Nat} {rows : List (List Cell)} : ∀ {oc : List (Nat × Ob)}, (c, Ob.fz sz rows) ∈ oc → isRow (o.lookup (σ c)) = true → (σ c, Ob.fz sz rows) ∈ frzOf false σ o oc
  | p :: l, h, hr => by
    rcases List.mem_cons.1 h with rfl | h
    · simp [frzOf, hr]
    · have := mem_frzOf (o := o) h hr
      simp only [frzOf]
      split
      · exact List.mem_cons_of_mem _ this
      · exact this
theorem mem_lookup_isSome {β : Type} {i : Nat} {x : β} : ∀ {l : List (Nat × β)}, (i, x) ∈ l → ∃ y, l.lookup i = some y
  | (k, b) :: l, h => by
    simp only [List.lookup]
    cases hk : i == k with
    | true => exact ⟨_, rfl⟩
    | false =>
      rcases List.mem_cons.1 h with h | h
      · cases h; simp at hk
      · exact mem_lookup_isSome h
def backB (oc oc' : List (Nat × Ob)) (L : List (Nat × Nat)) (b0 b1 : Nat) : Bool :=
  decide (0 < b0) && decide (b0 ≤ b1) && (oc.all fun p => !isNo p.2) && (L.all fun p => (oc.lookup p.1).isSome) &&
  (oc'.all fun p => (decide (b0 ≤ p.1) || ((oc.lookup p.1).any isMut)) && decide (p.1 < b1) && p.2.okB (fun c => decide (c < b1))) &&
  (oc.all fun p => !isMut p.2 || (oc'.lookup p.1).isSome)
theorem back_of {o oc oc' : List (Nat × Ob)} {L : List (Nat × Nat)} {b0 b1 : Nat} {keep : Bool} (he : Embs o (sg 0 L) oc) (hp : pairB (sg 0 L) oc = true) (h : backB oc oc' L b0 b1 = true) (hfl : keep = false ∨ ∀ p ∈ oc', FlatOb p.2) :
    Back o oc oc' L b0 b1 keep (frzOf keep (sg 0 L) o oc) := by
  simp only [backB, Bool.and_eq_true, decide_eq_true_eq] at h
  obtain ⟨⟨⟨⟨⟨h0, h1⟩, hno⟩, h2⟩, h3⟩, h4⟩ := h
  refine ⟨h1, hno, h2, h3, h4, fun hk c ob hc hm hr => ?_, fun j ob hj => ?_, ?_⟩
  · subst hk
    rcases embs_at he hc with ⟨e, sz, rows, rfl, _⟩ | ⟨sz, rows, rfl, _⟩ | ⟨ob', sz, rows, rfl, _, _⟩ | ⟨e, e2, sz2, rows, rfl, _⟩ | ⟨t, cs, rfl, _⟩ | rfl | ⟨xs, rfl, _⟩
    · cases hm
    · exact mem_lookup_isSome (mem_frzOf (lookup_mem hc) hr)
    · exact mem_lookup_isSome (mem_frzOf (lookup_mem hc) hr)
    · cases hm
    · cases hm
    · have := List.all_eq_true.1 hno _ (lookup_mem hc)
      simp [isNo] at this
    · cases hm
  · obtain ⟨g1, c, sz, rows, g2, g3, g4⟩ := frzOf_mem (lookup_mem hj)
    cases g4
    have g5 := lookup_of_mem hp g2
    refine ⟨g1, c, ?_⟩
    rcases embs_at he g5 with ⟨e, sz', rows', h, _⟩ | ⟨sz', rows', h, h6⟩ | ⟨ob', sz', rows', h, h6, hl⟩ | ⟨e, e2, sz2, rows', h, _⟩ | ⟨t, cs, h, _⟩ | h | ⟨xs, h, _⟩
    · cases h
    · rw [h6] at g3; cases g3
    · cases h
      exact ⟨ob', sz, rows, rfl, g5, h6, hl, rfl⟩
    · cases h
    · cases h
    · cases h
    · cases h
  · exact hfl.imp (fun h => h) (fun h c ob hc => h _ (lookup_mem hc))
theorem evals_of {N : Nat} {U : Nat → Prop} {ρ : Nat → Value} {st st' : St} {a : Act} (fr : FR N U ρ st'.s a) : ∀ (xs : List Operand) (l : List LV), (∀ x ∈ xs, st'.ev x = st.ev x) → xs.map st.ev = l.map some → xs.map a.eval = LV.vals ρ l ∧ LV.useds U ρ l
  | [], [], _, _ => ⟨rfl, trivial⟩
  | [], _ :: _, _, h => by simp at h
  | _ :: _, [], _, h => by simp at h
  | x :: xs, y :: l, hx, h => by
    simp only [List.map_cons, List.cons.injEq] at h
    obtain ⟨h1, h2⟩ := evals_of fr xs l (fun x hm => hx x (by simp [hm])) h.2
    obtain ⟨h3, h4⟩ := fr.eval ((hx x (by simp)).trans h.1)
    exact ⟨by simp [LV.vals, h1, h3], h4, h2⟩
section
variable {P : Program} {N : Nat} {o : Oper} {b : Nat} {st : St}
theorem T_call {fop : Operand} {ars : Array Operand} {ats : Array TypeId} {f : Nat} {caps lvs cargs : List LV} {L : List (Nat × Nat)} {b0 b1 nn : Nat} {oc oc' upd : List (Nat × Ob)} {res lv : LV} (keep : Bool) (hs : Spec P f cargs b0 oc res b1 oc') (hbody : (P.funcs[f]?).map (fun fn => (fn.name == "runtime.NumGoroutine" || fn.body.isNone)) = some false)
    (ho : o.op = .call { callee := .value fop, args := ars, argTypes := ats }) (hf : st.ev fop = some (.fn f caps)) (has : ars.toList.map st.ev = lvs.map some)
    (hren : LV.rens (sg 0 L) cargs = lvs ++ caps) (he : Embs st.o (sg 0 L) oc) (hok : (LV.okBs (fun c => decide (c < b0)) cargs && res.okB (fun c => decide (c < b1)) && embB (sg 0 L) b0 oc && backB oc oc' L b0 b1) = true)
    (hfl : keep = false ∨ ∀ p ∈ oc', FlatOb p.2) (hlv : res.ren (piC (sg 0 L) b0 b) = lv) (hupd : (oc'.map fun p => (piC (sg 0 L) b0 b p.1, p.2.ren (piC (sg 0 L) b0 b))) ++ frzOf keep (sg 0 L) st.o oc = upd) (hnn : b1 - b0 = nn) :
    T P N o b (oc.map fun p => sg 0 L p.1) st lv nn upd := by
  intro w0 M U ρ own st' a w hx hp hf' fr hr
  subst hlv hupd hnn
  simp only [Bool.and_eq_true] at hok
  obtain ⟨⟨⟨hok1, hok2⟩, hemb⟩, hback⟩ := hok
  have hpair : pairB (sg 0 L) oc = true := by
    have := hemb
    simp only [embB, Bool.and_eq_true] at this
    exact this.1
  have h0 : 0 < b0 := by
    have := hback
    simp only [backB, Bool.and_eq_true, decide_eq_true_eq] at this
    exact this.1.1.1.1.1
  obtain ⟨hfv, hfu⟩ := fr.eval ((hx fop (by simp [ho, Op.operands, Call.operands])).trans hf)
  obtain ⟨hav, hau⟩ := evals_of (st := st) fr ars.toList lvs (fun x hm => hx x (by simp [ho, Op.operands, Call.operands, Array.mem_toList_iff.1 hm])) has
  have he' := he.congr (o' := st'.o) (fun i hi => hp i hi)
  have hrc := hr.callee he' hemb h0
  have hall : LV.useds U ρ (lvs ++ caps) := by
    rw [useds_iff]
    intro x hx
    rcases List.mem_append.1 hx with h | h
    · exact useds_iff.1 hau x h
    · exact useds_iff.1 hfu x h
  have huc : LV.useds (fun c => c < b0) (fun c => ρ (sg 0 L c)) cargs := useds_ren (fun c hc => of_decide_eq_true hc) cargs hok1 (by rw [hren]; exact hall)
  have hvals : LV.vals (fun c => ρ (sg 0 L c)) cargs = LV.vals ρ lvs ++ LV.vals ρ caps := by
    rw [← rens_val (p := fun c => decide (c < b0)) (ρ' := ρ) (π := sg 0 L) (fun _ _ => rfl) cargs hok1, hren, vals_append]
  have hcall := hs w (fpC ρ own (sg 0 L) oc st'.o b0) (fun c => ρ (sg 0 L c)) _ w rfl hrc huc
  obtain ⟨fn, hfn, hfnb⟩ := Option.map_eq_some_iff.1 hbody
  simp only [Bool.or_eq_false_iff] at hfnb
  have hne : fn.name ≠ "runtime.NumGoroutine" := by simpa using hfnb.1
  have hbn : fn.body ≠ none := fun h => by rw [h] at hfnb; simp at hfnb
  have hrun : (execOp a.eval o).run P w = .ok (.enter f (LV.vals (fun c => ρ (sg 0 L c)) cargs).toArray) w := by
    have hargs : ars.map a.eval = (LV.vals ρ lvs).toArray := by
      apply Array.ext'
      rw [Array.toList_map, hav]
    simp [execOp, ho, resolve, hfv, LV.val, Deferred.ofValue, invoke, callFunc, hfn, hne, hbn, hargs, hvals]
  intro next Q hn
  unfold Oper.wp
  rw [hrun]
  refine Calls.mono hcall (fun e w' he2 => ?_)
  obtain ⟨ρc, ownc, rfl, hru, hr'⟩ := he2
  have hbk := back_of (keep := keep) he' hpair hback hfl
  obtain ⟨ρ', own', k1, k2, k3⟩ := hr.back he' hemb hbk hf' hr'
  refine hn _ _ ⟨ρ', own', (ren_val (p := fun c => decide (c < b1)) (fun c h => (k2 c (of_decide_eq_true h)).1) res hok2).symm, k1, ren_used (ρ := ρc) (p := fun c => decide (c < b1)) (fun c h => (k2 c (of_decide_eq_true h)).1) (fun c h => (k2 c (of_decide_eq_true h)).2) res hok2 hru, ?_⟩
  rw [frzOf_congr (fun i hi => hp i hi)] at k3
  exact k3
end
def markD (D : Nat) : Deferred := { target := .collected D, args := #[] }
structure Marks (w0 : World) (own : Nat → Option Nat) (Ds : List Nat) (w : World) : Prop where
  nd : Ds.Nodup
  at_ : ∀ D ∈ Ds, own D = some 0 ∧ w0.heap.size ≤ D ∧ w.heap[D]? = some (.deferred (some []))
def RepD (N : Nat) (w0 : World) (M : Fp) (U : Nat → Prop) (st : St) (a : Act) (w : World) : Prop := ∃ ρ own Ds, FR N U ρ st.s a ∧ HR w0 M U ρ own st.o w ∧ a.defers = Ds.map markD ++ M.ds ∧ Marks w0 own Ds w
def reb (n : Nat) (ρ : Nat → Value) (own : Nat → Option Nat) (ds : List Deferred) : Fp := ⟨fun k => ∃ j, own k = some j ∧ j ≠ 0, fun k => own k = none, n, ρ, ds⟩
section
variable {w0 w w' : World} {M : Fp} {U U' : Nat → Prop} {ρ ρ' : Nat → Value} {own own' : Nat → Option Nat} {o o' : List (Nat × Ob)} {ds : List Deferred} {n : Nat}
theorem HR.rebase (h : HR w0 M U ρ own o w) (hn : ∀ i, i < n → U i) : HR w (reb n ρ own ds) U ρ own o w :=
  ⟨h.ob, Grew.refl _ _, fun k hk hM => ⟨fun hok => hok, fun hok => by
    cases ho : own k with
    | none => exact absurd ho hok
    | some j => by_cases hj : j = 0
                · rw [hj]
                · exact absurd ⟨j, ho, hj⟩ hM⟩, h.z, h.z0, fun i hi => ⟨hn i hi, rfl⟩⟩
theorem HR.unbase (h : HR w0 M U ρ own o w) (hn : M.n ≤ n) (k : HR w (reb n ρ own ds) U' ρ' own' o' w') : HR w0 M U' ρ' own' o' w' := by
  have hno : ∀ i, i < w0.heap.size → ¬ M.mt i → ¬ (reb n ρ own ds).mt i := fun i hi hM hm => by
    obtain ⟨j, h1, h2⟩ := hm
    by_cases hok : M.ok i
    · rw [(h.fr i hi hM).1 hok] at h1; cases h1
    · rw [(h.fr i hi hM).2 hok] at h1; cases h1; exact h2 rfl
  refine ⟨k.ob, h.gr.trans k.gr (fun i hi hm => Classical.byContradiction fun hM => hno i hi hM hm), fun i hi hM => ?_, k.z, k.z0, fun i hi => ⟨(k.ag i (Nat.lt_of_lt_of_le hi hn)).1, (k.ag i (Nat.lt_of_lt_of_le hi hn)).2.trans (h.ag i hi).2⟩⟩
  have h1 := k.fr i (Nat.lt_of_lt_of_le hi h.gr.size) (hno i hi hM)
  refine ⟨fun hok => h1.1 ((h.fr i hi hM).1 hok), fun hok => h1.2 (fun hn => ?_)⟩
  have h2 := (h.fr i hi hM).2 hok
  have hn' : own i = none := hn
  rw [hn'] at h2; cases h2
theorem HR.based (k : HR w (reb n ρ own ds) U' ρ' own' o' w') {D : Nat} (hD : own D = some 0) (hlt : D < w.heap.size) : own' D = some 0 ∧ w'.heap[D]? = w.heap[D]? := by
  have hm : ¬ (reb n ρ own ds).mt D := fun hm => by
    obtain ⟨j, h1, h2⟩ := hm
    rw [hD] at h1; cases h1; exact h2 rfl
  exact ⟨(k.fr D hlt hm).2 (fun hn => by have hn' : own D = none := hn; rw [hD] at hn'; cases hn'), k.gr.block D hlt hm⟩
theorem Marks.based {Ds : List Nat} (m : Marks w0 own Ds w) (k : HR w (reb n ρ own ds) U' ρ' own' o' w') : Marks w0 own' Ds w' := ⟨m.nd, fun D hD => by
  obtain ⟨h1, h2, h3⟩ := m.at_ D hD
  obtain ⟨h4, h5⟩ := k.based h1 (heap_lt h3)
  exact ⟨h4, h2, h5.trans h3⟩⟩
theorem HR.poke (h : HR w0 M U ρ own o w) {D : Nat} (hD : own D = some 0) (h0 : w0.heap.size ≤ D) (hos : w'.os = w.os) (htape : w'.tape = w.tape) (hout : w'.output = w.output) (hsz : w.heap.size ≤ w'.heap.size) (hk : ∀ k, k < w.heap.size → k ≠ D → w'.heap[k]? = w.heap[k]?) (ho : ∀ k, k < w.heap.size → own' k = own k) : HR w0 M U ρ own' o w' := by
  have hkk : ∀ k, k < w.heap.size → (∀ j, own k = some j → ¬ j = 0) → w'.heap[k]? = w.heap[k]? ∧ own' k = own k := fun k hks hj => ⟨hk k hks (fun e => by subst e; exact hj 0 hD rfl), ho k hks⟩
  refine ⟨fun i b hi => ?_, ⟨hos.trans h.gr.os, htape.trans h.gr.tape, hout.trans h.gr.output, Nat.le_trans h.gr.size hsz, fun k hk0 hM => (hk k (Nat.lt_of_lt_of_le hk0 h.gr.size) (by omega)).trans (h.gr.block k hk0 hM)⟩, fun k hk0 hM => ?_, h.z, h.z0, h.ag⟩
  · obtain ⟨h1, h2, h3⟩ := h.ob i b hi
    exact ⟨h1.step (S := fun j => j = 0) h2 h3 (fun hs => by subst hs; rw [h.z] at hi; cases hi) hkk (fun _ _ => rfl), h2, h3⟩
  · rw [ho k (Nat.lt_of_lt_of_le hk0 h.gr.size)]
    exact h.fr k hk0 hM
end
theorem RepD.via {N : Nat} {w0 : World} {M : Fp} {U : Nat → Prop} {st : St} {a : Act} {w : World} (h : RepD N w0 M U st a w) : ∃ M' : Fp, M'.n = M.n ∧ Rep N w M' U st a w ∧ ∀ U' st' a' w', Rep N w M' U' st' a' w' → RepD N w0 M U' st' a' w' := by
  obtain ⟨ρ, own, Ds, fr, hr, hd, m⟩ := h
  refine ⟨reb M.n ρ own a.defers, rfl, ⟨ρ, own, fr, hr.rebase (fun i hi => (hr.ag i hi).1), rfl⟩, fun U' st' a' w' h' => ?_⟩
  obtain ⟨ρ', own', fr', hr', hd'⟩ := h'
  exact ⟨ρ', own', Ds, fr', hr.unbase (Nat.le_refl _) hr', hd'.trans hd, m.based hr'⟩
def W (ro : Option Nat) (P : Program) (N n : Nat) (c : Code) (b : Nat) (st : St) (K : Exit → Nat → St → Prop) : Prop :=
  ∀ (w0 : World) (M : Fp) (Q : Exit → Act → World → Prop) (a : Act) (w : World), M.n = n → (∀ x b' st' a' w', K x b' st' → RepD N w0 M (fun i => i < b') st' a' w' → Q x a' w') → RepD N w0 M (fun i => i < b) st a w → c.wpIn (Fw ro) 0 P Q a w
inductive SEmb (s : List (Nat × LV)) (σ : Nat → Nat) (p : Nat → Bool) : List (Nat × LV) → Prop
  | nil : SEmb s σ p []
  | cons {d : Nat} {lv lv' : LV} {l : List (Nat × LV)} (h : s.lookup d = some lv') (he : lv' = lv.ren σ) (hp : lv.okB p = true) (t : SEmb s σ p l) : SEmb s σ p ((d, lv) :: l)
theorem SEmb.at {s : List (Nat × LV)} {σ : Nat → Nat} {p : Nat → Bool} {l : List (Nat × LV)} (h : SEmb s σ p l) {d : Nat} {lv : LV} (hd : l.lookup d = some lv) : s.lookup d = some (lv.ren σ) ∧ lv.okB p = true := by
  induction h with
  | nil => simp at hd
  | @cons d' lv' lv2 l h he hp t ih =>
    simp only [List.lookup] at hd
    cases hk : d == d' with
    | true =>
      rw [hk] at hd
      obtain rfl : lv' = lv := by injection hd
      obtain rfl : d = d' := by simpa using hk
      exact ⟨by rw [h, he], hp⟩
    | false => rw [hk] at hd; exact ih hd
def leB (σ : Nat → Nat) (n b0 : Nat) (oc : List (Nat × Ob)) : Bool := embB σ b0 oc && decide (n ≤ b0) && decide (0 < b0)
def Le (n : Nat) (s : St) (b0 : Nat) (s' : St) : Prop := ∃ L, SEmb s.s (sg n L) (fun c => decide (c < b0)) s'.s ∧ Embs s.o (sg n L) s'.o ∧ leB (sg n L) n b0 s'.o = true
theorem Rep.le {N : Nat} {w0 : World} {M : Fp} {U : Nat → Prop} {s s' : St} {b0 n : Nat} {a : Act} {w : World} (h : Rep N w0 M U s a w) (hn : M.n = n) (hl : Le n s b0 s') : Rep N w0 M (fun i => i < b0) s' a w := by
  subst hn
  obtain ⟨ρ, own, fr, hr, hdf⟩ := h
  obtain ⟨L, h1, h2, h3⟩ := hl
  simp only [leB, Bool.and_eq_true, decide_eq_true_eq] at h3
  refine ⟨fun c => ρ (sg M.n L c), _, ⟨fr.sz, fun d lv hd => ?_⟩, hr.emb h2 h3.1.1 h3.1.2 h3.2, hdf⟩
  obtain ⟨h4, h5⟩ := h1.at hd
  obtain ⟨h6, h7⟩ := fr.sl d _ h4
  refine ⟨by rw [h6, ren_val (p := fun c => decide (c < b0)) (ρ := fun c => ρ (sg M.n L c)) (fun _ _ => rfl) lv h5], used_ren (fun c hc => of_decide_eq_true hc) lv h5 h7⟩
theorem RepD.le {N : Nat} {w0 : World} {M : Fp} {U : Nat → Prop} {s s' : St} {b0 n : Nat} {a : Act} {w : World} (h : RepD N w0 M U s a w) (hn : M.n = n) (hl : Le n s b0 s') : RepD N w0 M (fun i => i < b0) s' a w := by
  obtain ⟨M', h1, h2, h3⟩ := h.via
  exact h3 _ _ _ _ (h2.le (h1.trans hn) hl)
def thenK (J : Nat → St → Prop) (K : Exit → Nat → St → Prop) : Exit → Nat → St → Prop
  | .normal, b, s => J b s
  | x, b, s => K x b s
def blockK (id : Nat) (K : Exit → Nat → St → Prop) : Exit → Nat → St → Prop
  | .exit i, b, s => if i = id then K .normal b s else K (.exit i) b s
  | x, b, s => K x b s
theorem wpIn_lessen {F : Fence} {n : Nat} {P : Program} {Q : Exit → Act → World → Prop} {a : Act} {w : World} {c : Code} (I : Nat → Act → World → Prop) (m : Nat) (h0 : I m a w)
    (round : ∀ m a w, I m a w → c.wpIn F n P (Exit.then (fun a' w' => ∃ m', m' < m ∧ I m' a' w') Q) a w) : (Code.loop c).wpIn F n P Q a w := by
  refine wpIn_loop (fun a w => ∃ m, I m a w) (fun a w => leastOf (fun m => I m a w)) ⟨m, h0⟩ (fun a w hI => wpIn_mono (round _ a w (leastOf_spec hI).1) (fun e a' w' hq => ?_))
  cases e with
  | normal =>
    obtain ⟨m', hlt, hI'⟩ := hq
    have h1 := (leastOf_spec (p := fun m => I m a' w') ⟨m', hI'⟩).2 m' hI'
    exact ⟨⟨m', hI'⟩, Nat.lt_of_le_of_lt h1 hlt⟩
  | _ => exact hq
section
variable {ro : Option Nat} {P : Program} {N n b : Nat} {st : St} {K : Exit → Nat → St → Prop}
theorem W_seq {c d : Code} (h : W ro P N n c b st (thenK (fun b' s' => W ro P N n d b' s' K) K)) : W ro P N n (.seq c d) b st K := by
  intro w0 M Q a w hn hq hr
  refine wpIn_seq (h w0 M _ a w hn (fun x b' st' a' w' hk hr' => ?_) hr)
  cases x with
  | normal => exact hk w0 M Q a' w' hn hq hr'
  | _ => exact hq _ _ _ _ _ hk hr'
theorem W_skip (h : K .normal b st) : W ro P N n .skip b st K := fun _ _ _ _ _ _ hq hr => wpIn_skip (hq _ _ _ _ _ h hr)
theorem W_exit {id : Nat} (h : K (.exit id) b st) : W ro P N n (.exit id) b st K := fun _ _ _ _ _ _ hq hr => wpIn_exit (hq _ _ _ _ _ h hr)
theorem W_ret (h : K .ret b st) : W ro P N n .ret b st K := fun _ _ _ _ _ _ hq hr => wpIn_ret (hq _ _ _ _ _ h hr)
theorem W_block {id : Nat} {c : Code} (h : W ro P N n c b st (blockK id K)) : W ro P N n (.block id c) b st K := by
  intro w0 M Q a w hn hq hr
  refine wpIn_block (h w0 M _ a w hn (fun x b' st' a' w' hk hr' => ?_) hr)
  cases x with
  | exit i =>
    show if i = id then _ else _
    have hk' : if i = id then K .normal b' st' else K (.exit i) b' st' := hk
    split
    · rename_i h; rw [if_pos h] at hk'; exact hq _ _ _ _ _ hk' hr'
    · rename_i h; rw [if_neg h] at hk'; exact hq _ _ _ _ _ hk' hr'
  | _ => exact hq _ _ _ _ _ hk hr'
theorem W_cond {x : Operand} {c d : Code} {t : Bool} (hc : st.ev x = some (.v (.bool t))) (h1 : t = true → W ro P N n c b st K) (h2 : t = false → W ro P N n d b st K) : W ro P N n (.cond x c d) b st K := by
  intro w0 M Q a w hn hq hr
  have hr' := hr
  obtain ⟨ρ, own, _, fr, _⟩ := hr'
  refine wpIn_cond_split (t := t) ((fr.eval hc).1) (fun ht => h1 ht w0 M Q a w hn hq hr) (fun ht => h2 ht w0 M Q a w hn hq hr)
theorem W_region {id b' : Nat} {ops : Array Oper} {tr : List Tr} {st' : St} (r : Run P N ops b 0 st tr st') (hd : dstsOk ops N = true) (hb : b + 16 * ops.size = b') (h : K .normal b' st') : W ro P N n (.region id ops false) b st K := by
  intro w0 M Q a w hn hq hr
  subst hb
  obtain ⟨M', h1, h2, h3⟩ := hr.via
  exact region_seq hd r h2 (fun a' w' hr' => hq _ _ _ _ _ h (h3 _ _ _ _ hr'))
theorem W_any {id b' : Nat} {ops : Array Oper} {tr : List Tr} {st' : St} (hm : P.follows .mixedOrders = true) (r : Run P N ops b 0 st tr st') (hd : dstsOk ops N = true) (hc : chk ops tr = true) (hb : b + 16 * ops.size = b') (h : K .normal b' st') : W ro P N n (.region id ops true) b st K := by
  intro w0 M Q a w hn hq hr
  subst hb
  obtain ⟨M', h1, h2, h3⟩ := hr.via
  exact region_any hm hd r hc h2 (fun a' w' hr' => hq _ _ _ _ _ h (h3 _ _ _ _ hr'))
theorem W_le {c : Code} {b0 : Nat} {st0 : St} (hl : Le n st b0 st0) (h : W ro P N n c b0 st0 K) : W ro P N n c b st K := fun w0 M Q a w hn hq hr => h w0 M Q a w hn hq (hr.le hn hl)
theorem W_mono {c : Code} {K' : Exit → Nat → St → Prop} (h : W ro P N n c b st K') (hk : ∀ x b s, K' x b s → K x b s) : W ro P N n c b st K := fun w0 M Q a w hn hq hr => h w0 M Q a w hn (fun x b s a w h1 h2 => hq x b s a w (hk _ _ _ h1) h2) hr
def joinK {ι : Type} (n b0 : Nat) (I : ι → St) (J : ι → Prop) : Nat → St → Prop := fun _ s => ∃ i, J i ∧ Le n s b0 (I i)
theorem W_join {ι : Type} {c d : Code} (b0 : Nat) (I : ι → St) (J : ι → Prop) (h : W ro P N n c b st (thenK (joinK n b0 I J) K)) (h2 : ∀ i, J i → W ro P N n d b0 (I i) K) : W ro P N n (.seq c d) b st K := by
  intro w0 M Q a w hn hq hr
  refine wpIn_seq (h w0 M _ a w hn (fun x b' st' a' w' hk hr' => ?_) hr)
  cases x with
  | normal =>
    obtain ⟨i, hi, hl⟩ := hk
    exact h2 i hi w0 M Q a' w' hn hq (hr'.le hn hl)
  | _ => exact hq _ _ _ _ _ hk hr'
def roundK {ι : Type} (n b0 : Nat) (I : ι → St) (J : ι → Prop) (μ : ι → Nat) (m : Nat) : Nat → St → Prop := fun _ s => ∃ i, J i ∧ μ i < m ∧ Le n s b0 (I i)
theorem W_loop {ι : Type} {c : Code} (b0 : Nat) (I : ι → St) (J : ι → Prop) (μ : ι → Nat) (i0 : ι) (hi : J i0) (h0 : Le n st b0 (I i0)) (round : ∀ i, J i → W ro P N n c b0 (I i) (thenK (roundK n b0 I J μ (μ i)) K)) : W ro P N n (.loop c) b st K := by
  intro w0 M Q a w hn hq hr
  refine wpIn_lessen (fun m a w => ∃ i, J i ∧ μ i = m ∧ RepD N w0 M (fun i => i < b0) (I i) a w) (μ i0) ⟨i0, hi, rfl, hr.le hn h0⟩ (fun m a w hI => ?_)
  obtain ⟨i, hJ, rfl, hr1⟩ := hI
  refine round i hJ w0 M _ a w hn (fun x b' st' a' w' hk hr' => ?_) hr1
  cases x with
  | normal =>
    obtain ⟨i', h1, h2, h3⟩ := hk
    exact ⟨μ i', h2, i', h1, rfl, hr'.le hn h3⟩
  | _ => exact hq _ _ _ _ _ hk hr'
end
inductive Res {P : Program} (D : Tab P) (st : St) : List ResultVar → List LV → Prop
  | nil : Res D st [] []
  | tmp {t : Nat} {lv : LV} {rs : List ResultVar} {l : List LV} (h : st.s.lookup t = some lv) (r : Res D st rs l) : Res D st (.tmp t :: rs) (lv :: l)
  | cellA {a t i bt : Nat} {cs : List LV} {ty : TyI} {rs : List ResultVar} {l : List LV} (h : st.s.lookup a = some (.p i 0)) (ho : st.o.lookup i = some (.box bt cs)) (hi : D.get t = some ty) (ha : ty.agg = true) (hl : cs.length = ty.size) (r : Res D st rs l) : Res D st (.cell a t :: rs) (.agg cs :: l)
  | cell {a t i bt : Nat} {lv : LV} {ty : TyI} {rs : List ResultVar} {l : List LV} (h : st.s.lookup a = some (.p i 0)) (ho : st.o.lookup i = some (.box bt [lv])) (hi : D.get t = some ty) (ha : ty.agg = false) (r : Res D st rs l) : Res D st (.cell a t :: rs) (lv :: l)
def resLV : List LV → LV
  | [x] => x
  | l => .tup l
def resOne (a : Act) : ResultVar → Sem Value
  | .tmp t => pure (a.tmps.getD t undef)
  | .cell x t => do loadVar t (← asAddr (a.tmps.getD x undef))
theorem res_run {P : Program} {D : Tab P} {st : St} {N : Nat} {w0 w : World} {M : Fp} {U : Nat → Prop} {ρ : Nat → Value} {own : Nat → Option Nat} {a : Act} (fr : FR N U ρ st.s a) (hr : HR w0 M U ρ own st.o w) {rs : List ResultVar} {l : List LV} (h : Res D st rs l) :
    (rs.mapM (resOne a)).run P w = .ok (LV.vals ρ l) w ∧ LV.useds U ρ l := by
  induction h with
  | nil => exact ⟨rfl, trivial⟩
  | @tmp t lv rs l h r ih =>
    obtain ⟨h1, h2⟩ := fr.sl t lv h
    rw [List.mapM_cons]
    refine ⟨?_, h2, ih.2⟩
    have hv : (resOne a (.tmp t)).run P w = .ok (lv.val ρ) w := by simp [resOne, h1]
    rw [Sem.run_bind, hv, Result.andThen_ok, Sem.run_bind, ih.1]
    rfl
  | @cellA x t i bt cs ty rs l h ho hi ha hl r ih =>
    obtain ⟨h1, h2⟩ := fr.sl x _ h
    obtain ⟨ad, had⟩ := h2.2
    obtain ⟨g1, g2, g3⟩ := hr.ob i _ ho
    have hl1 := run_loadA (D.ok t ty hi) ha (a := ad.add 0) (cs := LV.vals ρ cs) (pv := .pointer (some (ad.add 0))) rfl (w := w) (by rw [vals_length]; exact hl) (fun j v hj => by
      rw [vals_getElem?, Option.map_eq_some_iff] at hj
      obtain ⟨lv, hlv, rfl⟩ := hj
      rw [add_add, Nat.zero_add]
      exact box_cell g1 had hlv)
    rw [List.mapM_cons]
    refine ⟨?_, ⟨g3.1, g3.2⟩, ih.2⟩
    have hv0 : a.tmps.getD x undef = .pointer (some (ad.add 0)) := by
      have : a.tmps[x]? = some (.pointer (some (ad.add 0))) := by rw [h1]; simp [LV.val, ptrOf, had]
      simp [this]
    have hv : (resOne a (.cell x t)).run P w = .ok (.agg (LV.vals ρ cs).toArray) w := by
      simp only [Instr.loadAt, Instr.sureAddr, Sem.run_bind, Sem.run_pure, Result.andThen_ok] at hl1
      simp only [resOne, hv0, asAddr, Sem.run_bind, Sem.run_pure, Result.andThen_ok, hl1]
    rw [Sem.run_bind, hv, Result.andThen_ok, Sem.run_bind, ih.1]
    rfl
  | @cell x t i bt lv ty rs l h ho hi ha r ih =>
    obtain ⟨h1, h2⟩ := fr.sl x _ h
    obtain ⟨ad, had⟩ := h2.2
    obtain ⟨g1, g2, g3⟩ := hr.ob i _ ho
    have hl1 := run_load1 (D.ok t ty hi) ha (a := ad.add 0) (pv := .pointer (some (ad.add 0))) rfl (box_cell g1 had (n := 0) (lv := lv) rfl)
    rw [List.mapM_cons]
    refine ⟨?_, g3.1.1, ih.2⟩
    have hv0 : a.tmps.getD x undef = .pointer (some (ad.add 0)) := by
      have : a.tmps[x]? = some (.pointer (some (ad.add 0))) := by rw [h1]; simp [LV.val, ptrOf, had]
      simp [this]
    have hv : (resOne a (.cell x t)).run P w = .ok (lv.val ρ) w := by
      simp only [Instr.loadAt, Instr.sureAddr, Sem.run_bind, Sem.run_pure, Result.andThen_ok] at hl1
      simp only [resOne, hv0, asAddr, Sem.run_bind, Sem.run_pure, Result.andThen_ok, hl1]
    rw [Sem.run_bind, hv, Result.andThen_ok, Sem.run_bind, ih.1]
    rfl
def endB (σ : Nat → Nat) (b0 b1 : Nat) (res : LV) (oc' : List (Nat × Ob)) : Bool := res.okB (fun c => decide (c < b1)) && embB σ b1 oc' && decide (b0 ≤ b1) && decide (0 < b1)
inductive retK {P : Program} (D : Tab P) (rs : List ResultVar) (b0 : Nat) (res : LV) (b1 : Nat) (oc' : List (Nat × Ob)) : Exit → Nat → St → Prop
  | mk {x : Exit} {b : Nat} {s : St} {l : List LV} (L : List (Nat × Nat)) (hx : x = .normal ∨ x = .ret) (hr : Res D s rs l) (hl : resLV l = res.ren (sg b0 L)) (he : Embs s.o (sg b0 L) oc') (hb : endB (sg b0 L) b0 b1 res oc' = true) : retK D rs b0 res b1 oc' x b s
theorem resLV_run (ρ : Nat → Value) (l : List LV) : (if h : (LV.vals ρ l).toArray.size = 1 then (LV.vals ρ l).toArray[0] else .tuple (LV.vals ρ l).toArray) = (resLV l).val ρ := by
  match l with
  | [] => rfl
  | [x] => rfl
  | x :: y :: l => simp [resLV, LV.val, LV.vals]
theorem results_run {P : Program} {D : Tab P} {st : St} {N : Nat} {w0 w : World} {M : Fp} {U : Nat → Prop} {ρ : Nat → Value} {own : Nat → Option Nat} {a : Act} (fr : FR N U ρ st.s a) (hr : HR w0 M U ρ own st.o w) {fn : Func} {l : List LV} (h : Res D st fn.results.toList l) : (results fn a.tmps).run P w = .ok ((resLV l).val ρ) w := by
  have h1 := (res_run fr hr h).1
  have h2 : results fn a.tmps = (do let vs ← fn.results.mapM (resOne a); pure (if h : vs.size = 1 then vs[0] else .tuple vs)) := by
    unfold results
    have h3 : (fun x : ResultVar => match x with | .tmp t => (pure (a.tmps.getD t undef) : Sem Value) | .cell x t => do loadVar t (← asAddr (a.tmps.getD x undef))) = resOne a := funext fun r => by cases r <;> rfl
    rw [← h3]
    rfl
  rw [h2, ← resLV_run, Sem.run_bind, Array.mapM_eq_mapM_toList, Sem.run_map, h1]
  rfl
theorem sem_used {U : Nat → Prop} {ρ : Nat → Value} : ∀ {l : List LV}, LV.useds U ρ l → (resLV l).used U ρ
  | [], h => h
  | [_], h => h.1
  | _ :: _ :: _, h => h
def argSlots : Nat → List LV → List (Nat × LV)
  | _, [] => []
  | i, x :: xs => (i, x) :: argSlots (i + 1) xs
theorem argSlots_at : ∀ (l : List LV) (i d : Nat) (lv : LV), (argSlots i l).lookup d = some lv → i ≤ d ∧ l[d - i]? = some lv
  | [], i, d, lv, h => by simp [argSlots] at h
  | x :: xs, i, d, lv, h => by
    simp only [argSlots, List.lookup] at h
    cases hk : d == i with
    | true =>
      rw [hk] at h
      obtain rfl : d = i := by simpa using hk
      obtain rfl : x = lv := by injection h
      simp
    | false =>
      rw [hk] at h
      obtain ⟨h1, h2⟩ := argSlots_at xs (i + 1) d lv h
      refine ⟨by omega, ?_⟩
      rw [show d - i = (d - (i + 1)) + 1 by omega]
      simpa using h2
theorem leave_marks {P : Program} {fn : Func} {tmps : Array Value} {R : Ending → World → Prop} {w0 : World} {M : Fp} {U : Nat → Prop} {ρ : Nat → Value} {own : Nat → Option Nat} {o : List (Nat × Ob)}
    (hR : ∀ w, HR w0 M U ρ own o w → ∃ v, (results fn tmps).run P w = .ok v w ∧ R (.returned v) w) : ∀ (Ds : List Nat) (w : World), HR w0 M U ρ own o w → Marks w0 own Ds w → LeavesInM (Fw none) 0 P fn tmps R (Ds.map markD) .returning w
  | [], w, hr, _ => hR w hr
  | D :: Ds, w, hr, m => by
    obtain ⟨h1, h2, h3⟩ := m.at_ D (by simp)
    have hnd := List.nodup_cons.1 m.nd
    have hoth : ∀ k, k ≠ D → (w.putObj D (.deferred none)).heap[k]? = w.heap[k]? := fun k hk => World.putObj_heap_other hk
    refine ⟨by simp, .inl ⟨D, w.putObj D (.deferred none), rfl, run_takeDeferred h3, leave_marks hR Ds _ (hr.poke (own' := own) h1 h2 rfl rfl rfl (by simp) (fun k _ hk => hoth k hk) (fun _ _ => rfl)) ⟨hnd.2, fun D' hD' => ?_⟩⟩⟩
    obtain ⟨k1, k2, k3⟩ := m.at_ D' (List.mem_cons_of_mem _ hD')
    exact ⟨k1, k2, (hoth D' (fun e => hnd.1 (e ▸ hD'))).trans k3⟩
theorem spec_of {P : Program} (D : Tab P) {f : Nat} {fn : Func} {c : Code} {args : List LV} {b0 : Nat} {oc : List (Nat × Ob)} {res : LV} {b1 : Nat} {oc' : List (Nat × Ob)} (hf : P.funcs[f]? = some fn) (hb : fn.body = some c) (hn : args.length ≤ fn.ntmps)
    (h : W none P fn.ntmps b0 c b0 ⟨argSlots 0 args, oc⟩ (retK D fn.results.toList b0 res b1 oc')) : Spec P f args b0 oc res b1 oc' := by
  intro w0 M ρ own w hM hr hu
  refine (callsIn_wide (n := 0)).1 (callsIn_of_wp_marks hf hb trivial ?_ rfl)
  have hr0 : HR w0 ⟨M.mt, M.ok, M.n, M.ρ0, []⟩ (fun c => c < b0) ρ own oc w := ⟨hr.ob, hr.gr, hr.fr, hr.z, hr.z0, hr.ag⟩
  refine h w0 ⟨M.mt, M.ok, M.n, M.ρ0, []⟩ _ _ w hM (fun x b st a' w' hk hr' => ?_) ⟨ρ, own, [], ⟨?_, fun d lv hd => ?_⟩, hr0, rfl, ⟨List.nodup_nil, fun D hD => by cases hD⟩⟩
  · obtain ⟨ρ', own', Ds, fr', hr0', hdf, hmk⟩ := hr'
    have hr' : HR w0 M (fun c => c < b) ρ' own' st.o w' := ⟨hr0'.ob, hr0'.gr, hr0'.fr, hr0'.z, hr0'.z0, hr0'.ag⟩
    simp only [List.append_nil] at hdf
    cases hk with
    | mk L hx hR hl he hB =>
      rename_i l
      have hus := sem_used (res_run fr' hr' hR).2
      simp only [endB, Bool.and_eq_true, decide_eq_true_eq] at hB
      subst hM
      have hval : (resLV l).val ρ' = res.val (fun c => ρ' (sg M.n L c)) := by
        rw [hl, ren_val (p := fun c => decide (c < b1)) (ρ := fun c => ρ' (sg M.n L c)) (fun _ _ => rfl) res hB.1.1.1]
      have hfin : LeavesInM (Fw none) 0 P fn a'.tmps (fun e w' => ∃ ρ'' own'', e = .returned (res.val ρ'') ∧ res.used (fun c => c < b1) ρ'' ∧ HR w0 M (fun c => c < b1) ρ'' own'' oc' w') a'.defers .returning w' := by
        rw [hdf]
        refine leave_marks (fun w2 hr2 => ⟨_, results_run fr' hr2 hR, _, _, by rw [hval], by rw [hl] at hus; exact used_ren (fun c hc => of_decide_eq_true hc) res hB.1.1.1 hus, hr2.emb he hB.1.1.2 hB.1.2 hB.2⟩) Ds w' hr' hmk
      rcases hx with rfl | rfl
      · exact hfin
      · exact hfin
  · simp [vals_length]; omega
  · obtain ⟨_, h1⟩ := argSlots_at args 0 d lv hd
    rw [Nat.sub_zero] at h1
    have h2 : (LV.vals ρ args)[d]? = some (lv.val ρ) := by rw [vals_getElem?, h1]; rfl
    have h3 : d < (LV.vals ρ args).length := (List.getElem?_eq_some_iff.1 h2).1
    refine ⟨?_, useds_iff.1 hu lv (List.mem_of_getElem? h1)⟩
    rw [Array.getElem?_append_left (by simpa using h3)]
    simpa using h2
end Lg
end Go.Proofs.Ytpfhmodjjljpjaa

namespace Go.Proofs.Ytpfhmodjjljpjaa
open Go.RowKit
namespace Lg
set_option linter.unusedSimpArgs false
set_option linter.unusedVariables false
def ty3 : TyI := ⟨false, 1, 8, [.int .i64 0], 0, []⟩
theorem ty3_good : Good Try.prog 3 ty3 := ⟨by kernel_rfl, by kernel_rfl, by kernel_rfl, by kernel_rfl⟩
def ty4 : TyI := ⟨false, 1, 1, [.bool false], 0, []⟩
theorem ty4_good : Good Try.prog 4 ty4 := ⟨by kernel_rfl, by kernel_rfl, by kernel_rfl, by kernel_rfl⟩
def ty5 : TyI := ⟨false, 1, 1, [.int .u8 0], 0, []⟩
theorem ty5_good : Good Try.prog 5 ty5 := ⟨by kernel_rfl, by kernel_rfl, by kernel_rfl, by kernel_rfl⟩
def ty68 : TyI := ⟨false, 1, 4, [.int .u32 0], 0, []⟩
theorem ty68_good : Good Try.prog 68 ty68 := ⟨by kernel_rfl, by kernel_rfl, by kernel_rfl, by kernel_rfl⟩
def ty22 : TyI := ⟨false, 1, 24, [.slice none 0 0], 29, []⟩
theorem ty22_good : Good Try.prog 22 ty22 := ⟨by kernel_rfl, by kernel_rfl, by kernel_rfl, by kernel_rfl⟩
def ty27 : TyI := ⟨false, 1, 24, [.slice none 0 0], 72, []⟩
theorem ty27_good : Good Try.prog 27 ty27 := ⟨by kernel_rfl, by kernel_rfl, by kernel_rfl, by kernel_rfl⟩
def ty30 : TyI := ⟨false, 1, 24, [.slice none 0 0], 52, []⟩
theorem ty30_good : Good Try.prog 30 ty30 := ⟨by kernel_rfl, by kernel_rfl, by kernel_rfl, by kernel_rfl⟩
def ty48 : TyI := ⟨false, 1, 24, [.slice none 0 0], 4, []⟩
theorem ty48_good : Good Try.prog 48 ty48 := ⟨by kernel_rfl, by kernel_rfl, by kernel_rfl, by kernel_rfl⟩
def ty52 : TyI := ⟨false, 1, 24, [.slice none 0 0], 3, []⟩
theorem ty52_good : Good Try.prog 52 ty52 := ⟨by kernel_rfl, by kernel_rfl, by kernel_rfl, by kernel_rfl⟩
def ty55 : TyI := ⟨false, 1, 24, [.slice none 0 0], 48, []⟩
theorem ty55_good : Good Try.prog 55 ty55 := ⟨by kernel_rfl, by kernel_rfl, by kernel_rfl, by kernel_rfl⟩
def ty66 : TyI := ⟨false, 1, 24, [.slice none 0 0], 5, []⟩
theorem ty66_good : Good Try.prog 66 ty66 := ⟨by kernel_rfl, by kernel_rfl, by kernel_rfl, by kernel_rfl⟩
def ty67 : TyI := ⟨false, 1, 24, [.slice none 0 0], 70, []⟩
theorem ty67_good : Good Try.prog 67 ty67 := ⟨by kernel_rfl, by kernel_rfl, by kernel_rfl, by kernel_rfl⟩
def ty105 : TyI := ⟨false, 1, 24, [.slice none 0 0], 68, []⟩
theorem ty105_good : Good Try.prog 105 ty105 := ⟨by kernel_rfl, by kernel_rfl, by kernel_rfl, by kernel_rfl⟩
def ty123 : TyI := ⟨false, 1, 24, [.slice none 0 0], 124, []⟩
theorem ty123_good : Good Try.prog 123 ty123 := ⟨by kernel_rfl, by kernel_rfl, by kernel_rfl, by kernel_rfl⟩
def ty1 : TyI := ⟨false, 1, 8, [.nilFunc], 0, []⟩
theorem ty1_good : Good Try.prog 1 ty1 := ⟨by kernel_rfl, by kernel_rfl, by kernel_rfl, by kernel_rfl⟩
def ty96 : TyI := ⟨false, 1, 8, [.nilFunc], 0, []⟩
theorem ty96_good : Good Try.prog 96 ty96 := ⟨by kernel_rfl, by kernel_rfl, by kernel_rfl, by kernel_rfl⟩
def ty97 : TyI := ⟨false, 1, 8, [.nilFunc], 0, []⟩
theorem ty97_good : Good Try.prog 97 ty97 := ⟨by kernel_rfl, by kernel_rfl, by kernel_rfl, by kernel_rfl⟩
def ty101 : TyI := ⟨false, 1, 8, [.nilFunc], 0, []⟩
theorem ty101_good : Good Try.prog 101 ty101 := ⟨by kernel_rfl, by kernel_rfl, by kernel_rfl, by kernel_rfl⟩
def ty108 : TyI := ⟨false, 1, 8, [.nilFunc], 0, []⟩
theorem ty108_good : Good Try.prog 108 ty108 := ⟨by kernel_rfl, by kernel_rfl, by kernel_rfl, by kernel_rfl⟩
def ty144 : TyI := ⟨false, 1, 8, [.nilFunc], 0, []⟩
theorem ty144_good : Good Try.prog 144 ty144 := ⟨by kernel_rfl, by kernel_rfl, by kernel_rfl, by kernel_rfl⟩
def ty135 : TyI := ⟨false, 1, 8, [.nilFunc], 0, []⟩
theorem ty135_good : Good Try.prog 135 ty135 := ⟨by kernel_rfl, by kernel_rfl, by kernel_rfl, by kernel_rfl⟩
def ty127 : TyI := ⟨false, 1, 8, [.nilFunc], 0, []⟩
theorem ty127_good : Good Try.prog 127 ty127 := ⟨by kernel_rfl, by kernel_rfl, by kernel_rfl, by kernel_rfl⟩
def ty119 : TyI := ⟨false, 1, 8, [.nilFunc], 0, []⟩
theorem ty119_good : Good Try.prog 119 ty119 := ⟨by kernel_rfl, by kernel_rfl, by kernel_rfl, by kernel_rfl⟩
def ty126 : TyI := ⟨false, 1, 8, [.nilFunc], 0, []⟩
theorem ty126_good : Good Try.prog 126 ty126 := ⟨by kernel_rfl, by kernel_rfl, by kernel_rfl, by kernel_rfl⟩
def ty134 : TyI := ⟨false, 1, 8, [.nilFunc], 0, []⟩
theorem ty134_good : Good Try.prog 134 ty134 := ⟨by kernel_rfl, by kernel_rfl, by kernel_rfl, by kernel_rfl⟩
def ty9 : TyI := ⟨false, 1, 16, [.string .empty], 0, []⟩
theorem ty9_good : Good Try.prog 9 ty9 := ⟨by kernel_rfl, by kernel_rfl, by kernel_rfl, by kernel_rfl⟩
def ty29 : TyI := ⟨true, 2, 32, [.int .i64 0, .slice none 0 0], 0, [(0, 1), (1, 1)]⟩
theorem ty29_good : Good Try.prog 29 ty29 := ⟨by kernel_rfl, by kernel_rfl, by kernel_rfl, by kernel_rfl⟩
def ty24 : TyI := ⟨true, 2, 32, [.int .i64 0, .slice none 0 0], 0, [(0, 1), (1, 1)]⟩
theorem ty24_good : Good Try.prog 24 ty24 := ⟨by kernel_rfl, by kernel_rfl, by kernel_rfl, by kernel_rfl⟩
def ty70 : TyI := ⟨true, 8, 64, [.int .i64 0, .int .i64 0, .int .i64 0, .int .i64 0, .int .i64 0, .int .i64 0, .int .i64 0, .int .u32 0], 0, [(0, 1), (1, 1), (2, 1), (3, 1), (4, 1), (5, 1), (6, 1), (7, 1)]⟩
theorem ty70_good : Good Try.prog 70 ty70 := ⟨by kernel_rfl, by kernel_rfl, by kernel_rfl, by kernel_rfl⟩
def ty72 : TyI := ⟨true, 5, 56, [.slice none 0 0, .int .i64 0, .int .i64 0, .int .i64 0, .int .i64 0], 0, [(0, 1), (1, 1), (2, 1), (3, 1), (4, 1)]⟩
theorem ty72_good : Good Try.prog 72 ty72 := ⟨by kernel_rfl, by kernel_rfl, by kernel_rfl, by kernel_rfl⟩
def ty57 : TyI := ⟨true, 2, 48, [.slice none 0 0, .slice none 0 0], 0, [(0, 1), (1, 1)]⟩
theorem ty57_good : Good Try.prog 57 ty57 := ⟨by kernel_rfl, by kernel_rfl, by kernel_rfl, by kernel_rfl⟩
def ty60 : TyI := ⟨true, 1, 24, [.slice none 0 0], 0, [(0, 1)]⟩
theorem ty60_good : Good Try.prog 60 ty60 := ⟨by kernel_rfl, by kernel_rfl, by kernel_rfl, by kernel_rfl⟩
def ty46 : TyI := ⟨true, 5, 88, [.int .i64 0, .slice none 0 0, .int .i64 0, .slice none 0 0, .slice none 0 0], 0, [(0, 2), (2, 2), (4, 1)]⟩
theorem ty46_good : Good Try.prog 46 ty46 := ⟨by kernel_rfl, by kernel_rfl, by kernel_rfl, by kernel_rfl⟩
def ty75 : TyI := ⟨true, 6, 112, [.int .i64 0, .slice none 0 0, .slice none 0 0, .slice none 0 0, .slice none 0 0, .int .i64 0], 0, [(0, 2), (2, 2), (4, 1), (5, 1)]⟩
theorem ty75_good : Good Try.prog 75 ty75 := ⟨by kernel_rfl, by kernel_rfl, by kernel_rfl, by kernel_rfl⟩
def ty78 : TyI := ⟨true, 8, 144, [.int .i64 0, .slice none 0 0, .int .i64 0, .slice none 0 0, .int .i64 0, .slice none 0 0, .slice none 0 0, .slice none 0 0], 0, [(0, 2), (2, 2), (4, 2), (6, 1), (7, 1)]⟩
theorem ty78_good : Good Try.prog 78 ty78 := ⟨by kernel_rfl, by kernel_rfl, by kernel_rfl, by kernel_rfl⟩
def ty107 : TyI := ⟨true, 9, 128, [.int .i64 0, .slice none 0 0, .string .empty, .int .i64 0, .slice none 0 0, .slice none 0 0, .int .i64 0, .int .i64 0, .int .i64 0], 0, [(0, 2), (2, 1), (3, 1), (4, 1), (5, 1), (6, 1), (7, 1), (8, 1)]⟩
theorem ty107_good : Good Try.prog 107 ty107 := ⟨by kernel_rfl, by kernel_rfl, by kernel_rfl, by kernel_rfl⟩
def ty42 : TyI := ⟨true, 3, 32, [.int .i64 0, .string .empty, .int .i64 0], 0, [(0, 1), (1, 1), (2, 1)]⟩
theorem ty42_good : Good Try.prog 42 ty42 := ⟨by kernel_rfl, by kernel_rfl, by kernel_rfl, by kernel_rfl⟩
def ty53 : TyI := ⟨true, 2, 2, [.int .u8 0, .int .u8 0], 0, []⟩
theorem ty53_good : Good Try.prog 53 ty53 := ⟨by kernel_rfl, by kernel_rfl, by kernel_rfl, by kernel_rfl⟩
def ty115 : TyI := ⟨false, 1, 8, [.map none], 0, []⟩
theorem ty115_good : Good Try.prog 115 ty115 := ⟨by kernel_rfl, by kernel_rfl, by kernel_rfl, by kernel_rfl⟩
def ty117 : TyI := ⟨true, 2, 32, [.map none, .slice none 0 0], 0, [(0, 1), (1, 1)]⟩
theorem ty117_good : Good Try.prog 117 ty117 := ⟨by kernel_rfl, by kernel_rfl, by kernel_rfl, by kernel_rfl⟩
def ty154 : TyI := ⟨true, 2, 16, [.int .i64 0, .int .i64 0], 0, []⟩
theorem ty154_good : Good Try.prog 154 ty154 := ⟨by kernel_rfl, by kernel_rfl, by kernel_rfl, by kernel_rfl⟩
def ty124 : TyI := ⟨false, 1, 24, [.slice none 0 0], 4, []⟩
theorem ty124_good : Good Try.prog 124 ty124 := ⟨by kernel_rfl, by kernel_rfl, by kernel_rfl, by kernel_rfl⟩
def tyGet : Nat → Option TyI
  | 1 => some ty1
  | 3 => some ty3
  | 4 => some ty4
  | 5 => some ty5
  | 9 => some ty9
  | 22 => some ty22
  | 24 => some ty24
  | 27 => some ty27
  | 29 => some ty29
  | 30 => some ty30
  | 42 => some ty42
  | 46 => some ty46
  | 48 => some ty48
  | 52 => some ty52
  | 53 => some ty53
  | 55 => some ty55
  | 57 => some ty57
  | 60 => some ty60
  | 66 => some ty66
  | 67 => some ty67
  | 68 => some ty68
  | 70 => some ty70
  | 72 => some ty72
  | 75 => some ty75
  | 78 => some ty78
  | 96 => some ty96
  | 97 => some ty97
  | 101 => some ty101
  | 105 => some ty105
  | 107 => some ty107
  | 108 => some ty108
  | 115 => some ty115
  | 117 => some ty117
  | 119 => some ty119
  | 123 => some ty123
  | 124 => some ty124
  | 126 => some ty126
  | 127 => some ty127
  | 134 => some ty134
  | 135 => some ty135
  | 144 => some ty144
  | 154 => some ty154
  | _ => none
theorem tyGet_ok (t : Nat) (i : TyI) (h : tyGet t = some i) : Good Try.prog t i := by
  unfold tyGet at h
  split at h
  · cases h; exact ty1_good
  · cases h; exact ty3_good
  · cases h; exact ty4_good
  · cases h; exact ty5_good
  · cases h; exact ty9_good
  · cases h; exact ty22_good
  · cases h; exact ty24_good
  · cases h; exact ty27_good
  · cases h; exact ty29_good
  · cases h; exact ty30_good
  · cases h; exact ty42_good
  · cases h; exact ty46_good
  · cases h; exact ty48_good
  · cases h; exact ty52_good
  · cases h; exact ty53_good
  · cases h; exact ty55_good
  · cases h; exact ty57_good
  · cases h; exact ty60_good
  · cases h; exact ty66_good
  · cases h; exact ty67_good
  · cases h; exact ty68_good
  · cases h; exact ty70_good
  · cases h; exact ty72_good
  · cases h; exact ty75_good
  · cases h; exact ty78_good
  · cases h; exact ty96_good
  · cases h; exact ty97_good
  · cases h; exact ty101_good
  · cases h; exact ty105_good
  · cases h; exact ty107_good
  · cases h; exact ty108_good
  · cases h; exact ty115_good
  · cases h; exact ty117_good
  · cases h; exact ty119_good
  · cases h; exact ty123_good
  · cases h; exact ty124_good
  · cases h; exact ty126_good
  · cases h; exact ty127_good
  · cases h; exact ty134_good
  · cases h; exact ty135_good
  · cases h; exact ty144_good
  · cases h; exact ty154_good
  · cases h
def D : Tab Try.prog := ⟨tyGet, tyGet_ok⟩
end Lg
end Go.Proofs.Ytpfhmodjjljpjaa

namespace Go.Proofs.Ytpfhmodjjljpjaa
open Go.RowKit
namespace Lg
set_option linter.unusedSimpArgs false
set_option linter.unusedVariables false
structure GTac where
  op : Int
  d : Int
  a : Int
  b : Int
  k : Int
  base : Int
  size : Int
  n : Int
  deriving DecidableEq, Inhabited
structure GBlock where
  ins : List GTac
  fin : Int
  v : Int
  to : Int
  els : Int
  deriving DecidableEq, Inhabited
structure GFn where
  regs : Int
  blocks : List GBlock
  deriving DecidableEq, Inhabited
structure GProg where
  words : Int
  funcs : List GFn
  deriving DecidableEq, Inhabited
structure GLive where
  inn : List (List Bool)
  out : List (List Bool)
  deriving DecidableEq, Inhabited
def eI (x : Int) : List Cell := [.v (.int .i64 x)]
def eB (x : Bool) : List Cell := [.v (.bool x)]
def eU8 (x : Int) : List Cell := [.v (.int .u8 x)]
def eU32 (x : Int) : List Cell := [.v (.int .u32 x)]
def eIs (l : List Int) : List Cell := [.sl 1 (l.map eI)]
def eBs (l : List Bool) : List Cell := [.sl 1 (l.map eB)]
def eTac (t : GTac) : List Cell := [.v (.int .i64 t.op), .v (.int .i64 t.d), .v (.int .i64 t.a), .v (.int .i64 t.b), .v (.int .i64 t.k), .v (.int .i64 t.base), .v (.int .i64 t.size), .v (.int .u32 t.n)]
def eBlock (b : GBlock) : List Cell := [.sl 8 (b.ins.map eTac), .v (.int .i64 b.fin), .v (.int .i64 b.v), .v (.int .i64 b.to), .v (.int .i64 b.els)]
def eFn (f : GFn) : List Cell := [.v (.int .i64 f.regs), .sl 5 (f.blocks.map eBlock)]
def follows (b : GBlock) : List Int := if b.fin = 1 then [b.to] else if b.fin = 2 then [b.to, b.els] else []
end Lg
end Go.Proofs.Ytpfhmodjjljpjaa

namespace Go.Proofs.Ytpfhmodjjljpjaa
open Go.RowKit
namespace Lg
def RdL (w : World) : List Cell → List Value → Prop
  | [], [] => True
  | c :: cs, v :: vs => Rd w (fun _ => True) c v ∧ RdL w cs vs
  | _, _ => False
theorem RdL.len {w : World} : ∀ {cs : List Cell} {vs : List Value}, RdL w cs vs → cs.length = vs.length
  | [], [], _ => rfl
  | _ :: _, _ :: _, h => by simp [RdL.len h.2]
  | [], _ :: _, h => h.elim
  | _ :: _, [], h => h.elim
theorem RdL.at {w : World} : ∀ {cs : List Cell} {vs : List Value}, RdL w cs vs → ∀ (j : Nat) (c : Cell), cs[j]? = some c → ∃ u, vs[j]? = some u ∧ Rd w (fun _ => True) c u
  | [], [], _, j, c, hj => by simp at hj
  | c0 :: cs, v :: vs, h, 0, c, hj => by
    simp at hj
    subst hj
    exact ⟨v, rfl, h.1⟩
  | c0 :: cs, v :: vs, h, j + 1, c, hj => by
    simp at hj
    obtain ⟨u, h1, h2⟩ := RdL.at h.2 j c hj
    exact ⟨u, by simpa using h1, h2⟩
  | [], _ :: _, h, _, _, _ => h.elim
  | _ :: _, [], h, _, _, _ => h.elim
theorem RdL.append {w : World} : ∀ {a c : List Cell} {b d : List Value}, RdL w a b → RdL w c d → RdL w (a ++ c) (b ++ d)
  | [], _, [], _, _, h => h
  | _ :: _, _, _ :: _, _, h, k => ⟨h.1, RdL.append h.2 k⟩
  | [], _, _ :: _, _, h, _ => h.elim
  | _ :: _, _, [], _, h, _ => h.elim
theorem mapM_at {α β : Type} {f : α → Option β} : ∀ {l : List α} {r : List β}, l.mapM f = some r → r.length = l.length ∧ ∀ (i : Nat) x, l[i]? = some x → f x = r[i]?
  | [], r, h => by
    simp at h
    subst h
    exact ⟨rfl, fun i x hx => by simp at hx⟩
  | a :: l, r, h => by
    rw [List.mapM_cons] at h
    simp only [bind, Option.bind_eq_some_iff, pure, Option.some.injEq] at h
    obtain ⟨y, h1, ys, h2, rfl⟩ := h
    obtain ⟨h3, h4⟩ := mapM_at h2
    refine ⟨by simp [h3], fun i x hx => ?_⟩
    cases i with
    | zero => simp at hx; subst hx; simpa using h1
    | succ i => simpa using h4 i x (by simpa using hx)
theorem cells?_at {w : World} {base : Nat} {a : Addr} {n : Nat} {cs : List Value} (h : w.cells? base a n = some cs) : cs.length = n ∧ ∀ (j : Nat) u, cs[j]? = some u → w.cell? (a.add j) = some u := by
  unfold World.cells? at h
  split at h
  · obtain ⟨h1, h2⟩ := mapM_at h
    simp at h1
    refine ⟨h1, fun j u hj => ?_⟩
    have hlt := (List.getElem?_eq_some_iff.1 hj).1
    rw [h2 j j (List.getElem?_range (by omega)), hj]
  · cases h
theorem choose_list {α : Type} {Q : Nat → α → Prop} : ∀ (n : Nat), (∀ i, i < n → ∃ x, Q i x) → ∃ xs : List α, xs.length = n ∧ ∀ (i : Nat) x, xs[i]? = some x → Q i x
  | 0, _ => ⟨[], rfl, fun i x h => by simp at h⟩
  | n + 1, h => by
    obtain ⟨xs, h1, h2⟩ := choose_list n (fun i hi => h i (by omega))
    obtain ⟨x, hx⟩ := h n (by omega)
    refine ⟨xs ++ [x], by simp [h1], fun i y hy => ?_⟩
    rcases Nat.lt_or_ge i n with hi | hi
    · rw [List.getElem?_append_left (by omega)] at hy; exact h2 i y hy
    · rw [List.getElem?_append_right (by omega), h1] at hy
      have : i - n = 0 := by
        have := (List.getElem?_eq_some_iff.1 hy).1
        simp at this; omega
      rw [this] at hy
      simp at hy
      subst hy
      rwa [show i = n by omega]
section
variable {H : Type} (enc : TypeId × Value → H) (P : Program) (w : World)
def Opens (t : Nat) {α : Type} (en : α → List Cell) (WF : α → Prop) : Prop :=
  ∀ (fuel : Nat) (cs : List Value) (d : DataW H) (p : List MemPlace), DataW.trod enc P w 0 (fun _ => true) true fuel t cs = some (d, p) → (d.weights P t).all (· ≤ reachBytes) = true → ∃ x, RdL w (en x) cs ∧ WF x
def OpensF (n : Nat) (fs : List Field) (off : Nat) {α : Type} (en : α → List Cell) (WF : α → Prop) : Prop :=
  ∀ (m : Nat) (cs : List Value) (xs : List (DataW H × List MemPlace)), cs.length = n → xs.length = fs.length → (∀ (i : Nat) (f : Field), fs[i]? = some f → DataW.trod enc P w 0 (fun _ => true) true m f.type ((cs.drop f.offset).take (P.cellsOf f.type)) = xs[i]?) →
    (DataW.weightsEach P (fs.map (·.type)) (xs.map (·.1))).all (· ≤ reachBytes) = true → ∃ x, RdL w (en x) (cs.drop off) ∧ WF x
end
section
variable {H : Type} {enc : TypeId × Value → H} {P : Program} {w : World}
theorem opens_int {t : Nat} {k : IntKind} (hu : P.underlying t = some (.int k)) : Opens enc P w t (fun x : Int => [.v (.int k x)]) (fun x => (Lit.int k x).wf = true) := by
  intro fuel cs d p h _
  obtain ⟨n, rfl, _, hw⟩ := DataW.trod_int hu h
  exact ⟨n, ⟨.v _ rfl, trivial⟩, hw⟩
theorem opens_bool {t : Nat} (hu : P.underlying t = some .bool) : Opens enc P w t (fun x : Bool => [.v (.bool x)]) (fun _ => True) := by
  intro fuel cs d p h _
  obtain ⟨n, rfl, _⟩ := DataW.trod_bool hu h
  exact ⟨n, ⟨.v _ rfl, trivial⟩, trivial⟩
theorem opens_string {t : Nat} (hu : P.underlying t = some .string) : Opens enc P w t (fun x : ByteArray => [.v (.string x)]) (fun x => x.size ≤ reachBytes) := by
  intro fuel cs d p h hwt
  obtain ⟨s, rfl, hx, hw⟩ := DataW.trod_string hu h
  refine ⟨s, ⟨.v _ rfl, trivial⟩, ?_⟩
  simp only [Prod.mk.injEq] at hx
  rw [hx.1] at hwt
  have : s.data.size ≤ reachBytes := by simpa [DataW.weights] using hwt
  exact this
theorem weightsAll_mem {e : Nat} : ∀ {ds : List (DataW H)} {d : DataW H}, d ∈ ds → ∀ n ∈ d.weights P e, n ∈ DataW.weightsAll P e ds
  | d0 :: ds, d, hd, n, hn => by
    simp only [DataW.weightsAll, List.mem_append]
    rcases List.mem_cons.1 hd with rfl | hd
    · exact .inl hn
    · exact .inr (weightsAll_mem hd n hn)
theorem opens_slice {t e sz by_ : Nat} {α : Type} {en : α → List Cell} {WF : α → Prop} (hu : P.underlying t = some (.slice e)) (hz : P.cellsOf e = sz) (hb : P.bytesOf e = by_) (he : Opens enc P w e en WF) :
    Opens enc P w t (fun l : List α => [.sl sz (l.map en)]) (fun l => l.length ≤ maxLen ∧ l.length * by_ ≤ reachBytes ∧ ∀ x ∈ l, WF x) := by
  intro fuel cs d p h hwt
  rcases DataW.trod_slice hu h with ⟨rfl, hx⟩ | ⟨a, len, cap, elems, rest, n, _, rfl, hx, hb', hl, hm, hlen, hel, hsp, hns⟩
  · refine ⟨[], ⟨?_, trivial⟩, by simp, by simp, by simp⟩
    exact .sl sz [] none 0 (fun _ _ => undef) (Nat.le_refl _) (Nat.zero_le _) (by simp) (by simp) (by simp) (by simp)
  · simp only [Prod.mk.injEq] at hx
    have hw1 : ∀ m ∈ d.weights P t, m ≤ reachBytes := fun m hm => by simpa using List.all_eq_true.1 hwt m hm
    rw [hx.1] at hw1
    simp only [DataW.weights, hu, List.length_map] at hw1
    have hw2 : (elems.length + rest.length) * P.bytesOf e ≤ reachBytes := hw1 _ (by simp)
    have hw3 : ∀ y ∈ elems, (y.1.weights P e).all (· ≤ reachBytes) = true := fun y hy => by
      rw [List.all_eq_true]
      intro m hm
      simpa using hw1 m (List.mem_cons_of_mem _ (List.mem_append_left _ (weightsAll_mem (List.mem_map_of_mem hy) m hm)))
    have hex : ∀ i, i < len → ∃ x, (∃ cs, w.cells? 0 (a.add (i * sz)) sz = some cs ∧ RdL w (en x) cs) ∧ WF x := by
      intro i hi
      obtain ⟨y, hy⟩ : ∃ y, elems[i]? = some y := ⟨elems[i], List.getElem?_eq_getElem (by omega)⟩
      have h1 := hel i hi
      rw [hy, Option.bind_eq_some_iff] at h1
      obtain ⟨cs, h2, h3⟩ := h1
      obtain ⟨x, h4, h5⟩ := he n cs y.1 y.2 h3 (hw3 y (List.mem_of_getElem? hy))
      exact ⟨x, ⟨cs, hz ▸ h2, h4⟩, h5⟩
    obtain ⟨xs, hxl, hxs⟩ := choose_list len hex
    refine ⟨xs, ⟨?_, trivial⟩, by omega, ?_, fun x hx => ?_⟩
    · have e1 : (xs.map en).length = len := by simp [hxl]
      rw [← e1]
      have key : ∀ (i : Nat) (r : List Cell), (xs.map en)[i]? = some r → ∃ cs, cs.length = sz ∧ r.length = sz ∧ (∀ (j : Nat) u, cs[j]? = some u → w.cell? (a.add (i * sz + j)) = some u) ∧ RdL w r cs := fun i r hi => by
        rw [List.getElem?_map, Option.map_eq_some_iff] at hi
        obtain ⟨x, hx, rfl⟩ := hi
        obtain ⟨⟨cs, h1, h2⟩, _⟩ := hxs i x hx
        obtain ⟨h3, h4⟩ := cells?_at h1
        refine ⟨cs, h3, by rw [h2.len, h3], fun j u hj => ?_, h2⟩
        rw [← h4 j u hj, add_add]
      refine .sl sz (xs.map en) (some a) cap (fun i j => (w.cell? (a.add (i * sz + j))).getD undef) (by omega) (by omega) (fun r hr => ?_) (fun _ => ⟨a, rfl⟩) (fun i r j cl hi hj => ?_) (fun i r j cl hi hj => ?_)
      · obtain ⟨i, hi⟩ := List.getElem?_of_mem hr
        obtain ⟨cs, _, h2, _⟩ := key i r hi
        exact h2
      · obtain ⟨cs, h1, h2, h3, h4⟩ := key i r hi
        obtain ⟨u, h5, h6⟩ := h4.at j cl hj
        exact ⟨a, rfl, trivial, by rw [h3 j u h5]; rfl⟩
      · obtain ⟨cs, h1, h2, h3, h4⟩ := key i r hi
        obtain ⟨u, h5, h6⟩ := h4.at j cl hj
        rw [h3 j u h5]
        exact h6
    · rw [hb] at hw2
      exact Nat.le_trans (Nat.mul_le_mul_right _ (by omega)) hw2
    · obtain ⟨i, hi⟩ := List.getElem?_of_mem hx
      exact (hxs i x hi).2
theorem opensF_nil {n off : Nat} (ho : off = n) : OpensF enc P w n [] off (fun _ : Unit => []) (fun _ => True) := by
  intro m cs xs hn _ _ _
  rw [List.drop_of_length_le (by omega)]
  exact ⟨(), trivial, trivial⟩
theorem opensF_cons {n off k : Nat} {f : Field} {fs : List Field} {α β : Type} {en : α → List Cell} {WF : α → Prop} {en' : β → List Cell} {WF' : β → Prop} (ho : f.offset = off) (hk : P.cellsOf f.type = k)
    (h : Opens enc P w f.type en WF) (h' : OpensF enc P w n fs (off + k) en' WF') : OpensF enc P w n (f :: fs) off (fun x : α × β => en x.1 ++ en' x.2) (fun x => WF x.1 ∧ WF' x.2) := by
  intro m cs xs hn hl ht hw
  cases xs with
  | nil => simp at hl
  | cons y ys =>
    simp only [List.map_cons, DataW.weightsEach, List.all_append, Bool.and_eq_true] at hw
    have h0 := ht 0 f rfl
    simp only [List.getElem?_cons_zero] at h0
    obtain ⟨x, h1, h2⟩ := h m _ y.1 y.2 h0 hw.1
    obtain ⟨x', h3, h4⟩ := h' m cs ys hn (by simpa using hl) (fun i g hg => by simpa using ht (i + 1) g (by simpa using hg)) hw.2
    refine ⟨(x, x'), ?_, h2, h4⟩
    have e : cs.drop off = (cs.drop f.offset).take (P.cellsOf f.type) ++ cs.drop (off + k) := by
      rw [ho, hk, ← List.drop_drop, List.take_append_drop]
    rw [e]
    exact h1.append h3
theorem opens_struct {t n : Nat} {fs : Array Field} {α : Type} {en : α → List Cell} {WF : α → Prop} (hu : P.underlying t = some (.struct fs)) (hn : P.cellsOf t = n) (h : OpensF enc P w n fs.toList 0 en WF) : Opens enc P w t en WF := by
  intro fuel cs d p hd hw
  obtain ⟨xs, m, _, hx, hl, hlen, hf⟩ := DataW.trod_struct hu hd
  simp only [Prod.mk.injEq] at hx
  rw [hx.1] at hw
  simp only [DataW.weights, hu] at hw
  obtain ⟨x, h1, h2⟩ := h m cs xs (by omega) (by simpa using hlen) (fun i f hi => hf i f (by simpa using hi)) hw
  exact ⟨x, by simpa using h1, h2⟩
theorem Opens.map {t : Nat} {α β : Type} {en : α → List Cell} {WF : α → Prop} {en' : β → List Cell} {WF' : β → Prop} (h : Opens enc P w t en WF) (hm : ∀ x, WF x → ∃ y, en' y = en x ∧ WF' y) : Opens enc P w t en' WF' := by
  intro fuel cs d p hd hw
  obtain ⟨x, h1, h2⟩ := h fuel cs d p hd hw
  obtain ⟨y, h3, h4⟩ := hm x h2
  exact ⟨y, by rw [h3]; exact h1, h4⟩
end
theorem start_HR {w : World} {b0 : Nat} {ρ : Nat → Value} {o : List (Nat × Ob)} (h0 : 0 < b0) (hz : o.lookup 0 = none) (ho : ∀ i b, o.lookup i = some b → i < b0 ∧ ∃ sz rows, b = .fz sz rows ∧ Rd w (fun _ => True) (.sl sz rows) (ρ i)) :
    HR w ⟨fun _ => False, fun _ => True, b0, ρ, []⟩ (fun c => c < b0) ρ (fun _ => none) o w := by
  refine ⟨fun i b hi => ?_, Grew.refl _ _, fun k _ _ => ⟨fun _ => rfl, fun h => absurd trivial h⟩, hz, h0, fun i hi => ⟨hi, rfl⟩⟩
  obtain ⟨h1, sz, rows, rfl, h2⟩ := ho i b hi
  exact ⟨h2.mono (fun _ _ _ => ⟨rfl, rfl⟩), h1, trivial⟩
theorem run_law {P : Program} {f : Nat} {args : List LV} {b0 b1 : Nat} {oc oc' : List (Nat × Ob)} {r : Value} (hs : Spec P f args b0 oc (.v r) b1 oc') {w : World} {ρ : Nat → Value} (h0 : 0 < b0) (hz : oc.lookup 0 = none)
    (ho : ∀ i b, oc.lookup i = some b → i < b0 ∧ ∃ sz rows, b = .fz sz rows ∧ Rd w (fun _ => True) (.sl sz rows) (ρ i)) (hu : LV.useds (fun c => c < b0) ρ args) :
    Calls P f (LV.vals ρ args).toArray w (fun e w' => e = .returned r ∧ Below w.heap.size w w') := by
  refine Calls.mono (hs w ⟨fun _ => False, fun _ => True, b0, ρ, []⟩ ρ (fun _ => none) w rfl (start_HR h0 hz ho) hu) (fun e w' h => ?_)
  obtain ⟨ρ', own', h1, _, h3⟩ := h
  exact ⟨h1, h3.gr.below⟩
end Lg
end Go.Proofs.Ytpfhmodjjljpjaa

namespace Go.Proofs.Ytpfhmodjjljpjaa
open Go.ChangeShapes Go.WideShapes Go.ChangeAt Go.RowKit
namespace Lg
set_option maxRecDepth 100000
def I64 (x : Int) : Prop := -9223372036854775808 ≤ x ∧ x ≤ 9223372036854775807
structure WTac (t : GTac) : Prop where
  op : I64 t.op
  d : I64 t.d
  a : I64 t.a
  b : I64 t.b
  k : I64 t.k
  base : I64 t.base
  size : I64 t.size
  n : 0 ≤ t.n ∧ t.n < 4294967296
structure WBlock (b : GBlock) : Prop where
  len : b.ins.length * 64 ≤ 140737488351232
  ins : ∀ t ∈ b.ins, WTac t
  fin : I64 b.fin
  v : I64 b.v
  to : I64 b.to
  els : I64 b.els
structure WFn (f : GFn) : Prop where
  regs : I64 f.regs
  len : f.blocks.length * 56 ≤ 140737488351232
  each : ∀ b ∈ f.blocks, WBlock b
structure WIs (l : List Int) : Prop where
  len : l.length * 8 ≤ 140737488351232
  each : ∀ x ∈ l, I64 x
structure WIss (l : List (List Int)) : Prop where
  len : l.length * 24 ≤ 140737488351232
  each : ∀ x ∈ l, WIs x
structure WProg (p : GProg) : Prop where
  words : I64 p.words
  len : p.funcs.length * 32 ≤ 140737488351232
  each : ∀ f ∈ p.funcs, WFn f
section
variable {H : Type} {enc : TypeId × Value → H} {w : World}
theorem i64_of {x : Int} (h : (Lit.int .i64 x).wf = true) : I64 x := by
  simp only [Lit.wf, Bool.and_eq_true, decide_eq_true_eq] at h
  exact h
theorem o_int : Opens enc Try.prog w 3 (fun x : Int => [.v (.int .i64 x)]) I64 := (opens_int Try.underlying3).map (fun x h => ⟨x, rfl, i64_of h⟩)
theorem o_u32 : Opens enc Try.prog w 68 (fun x : Int => [.v (.int .u32 x)]) (fun x => 0 ≤ x ∧ x < 4294967296) := (opens_int Try.underlying68).map (fun x h => ⟨x, rfl, by
  simp only [Lit.wf, Bool.and_eq_true, decide_eq_true_eq] at h
  have h1 : (0 : Int) ≤ x := h.1
  have h2 : x ≤ (4294967295 : Int) := h.2
  omega⟩)
theorem o_u8 : Opens enc Try.prog w 5 (fun x : Int => [.v (.int .u8 x)]) (fun x => 0 ≤ x ∧ x < 256) := (opens_int Try.underlying5).map (fun x h => ⟨x, rfl, by
  simp only [Lit.wf, Bool.and_eq_true, decide_eq_true_eq] at h
  have h1 : (0 : Int) ≤ x := h.1
  have h2 : x ≤ (255 : Int) := h.2
  omega⟩)
theorem o_tac : Opens enc Try.prog w 70 eTac WTac :=
  (opens_struct (n := 8) Try.underlying70 (by kernel_rfl) (opensF_cons (k := 1) rfl (by kernel_rfl) o_int <| opensF_cons (k := 1) rfl (by kernel_rfl) o_int <| opensF_cons (k := 1) rfl (by kernel_rfl) o_int <| opensF_cons (k := 1) rfl (by kernel_rfl) o_int <|
    opensF_cons (k := 1) rfl (by kernel_rfl) o_int <| opensF_cons (k := 1) rfl (by kernel_rfl) o_int <| opensF_cons (k := 1) rfl (by kernel_rfl) o_int <| opensF_cons (k := 1) rfl (by kernel_rfl) o_u32 <| opensF_nil rfl)).map
  (fun x h => ⟨⟨x.1, x.2.1, x.2.2.1, x.2.2.2.1, x.2.2.2.2.1, x.2.2.2.2.2.1, x.2.2.2.2.2.2.1, x.2.2.2.2.2.2.2.1⟩, rfl, ⟨h.1, h.2.1, h.2.2.1, h.2.2.2.1, h.2.2.2.2.1, h.2.2.2.2.2.1, h.2.2.2.2.2.2.1, h.2.2.2.2.2.2.2.1⟩⟩)
theorem o_tacs : Opens enc Try.prog w 67 (fun l : List GTac => [.sl 8 (l.map eTac)]) (fun l => l.length ≤ maxLen ∧ l.length * 64 ≤ reachBytes ∧ ∀ x ∈ l, WTac x) := opens_slice (by_ := 64) Try.underlying67 (by kernel_rfl) (by kernel_rfl) o_tac
theorem o_block : Opens enc Try.prog w 72 eBlock WBlock :=
  (opens_struct (n := 5) Try.underlying72 (by kernel_rfl) (opensF_cons (k := 1) rfl (by kernel_rfl) o_tacs <| opensF_cons (k := 1) rfl (by kernel_rfl) o_int <| opensF_cons (k := 1) rfl (by kernel_rfl) o_int <| opensF_cons (k := 1) rfl (by kernel_rfl) o_int <|
    opensF_cons (k := 1) rfl (by kernel_rfl) o_int <| opensF_nil rfl)).map
  (fun x h => ⟨⟨x.1, x.2.1, x.2.2.1, x.2.2.2.1, x.2.2.2.2.1⟩, rfl, ⟨h.1.2.1, h.1.2.2, h.2.1, h.2.2.1, h.2.2.2.1, h.2.2.2.2.1⟩⟩)
theorem o_blocks : Opens enc Try.prog w 27 (fun l : List GBlock => [.sl 5 (l.map eBlock)]) (fun l => l.length ≤ maxLen ∧ l.length * 56 ≤ reachBytes ∧ ∀ x ∈ l, WBlock x) := opens_slice (by_ := 56) Try.underlying27 (by kernel_rfl) (by kernel_rfl) o_block
theorem o_fn : Opens enc Try.prog w 29 eFn WFn :=
  (opens_struct (n := 2) Try.underlying29 (by kernel_rfl) (opensF_cons (k := 1) rfl (by kernel_rfl) o_int <| opensF_cons (k := 1) rfl (by kernel_rfl) o_blocks <| opensF_nil rfl)).map
  (fun x h => ⟨⟨x.1, x.2.1⟩, rfl, ⟨h.1, h.2.1.2.1, h.2.1.2.2⟩⟩)
theorem o_fns : Opens enc Try.prog w 22 (fun l : List GFn => [.sl 2 (l.map eFn)]) (fun l => l.length ≤ maxLen ∧ l.length * 32 ≤ reachBytes ∧ ∀ x ∈ l, WFn x) := opens_slice (by_ := 32) Try.underlying22 (by kernel_rfl) (by kernel_rfl) o_fn
def eProg (p : GProg) : List Cell := [.v (.int .i64 p.words), .sl 2 (p.funcs.map eFn)]
theorem o_prog : Opens enc Try.prog w 24 eProg WProg :=
  (opens_struct (n := 2) Try.underlying24 (by kernel_rfl) (opensF_cons (k := 1) rfl (by kernel_rfl) o_int <| opensF_cons (k := 1) rfl (by kernel_rfl) o_fns <| opensF_nil rfl)).map
  (fun x h => ⟨⟨x.1, x.2.1⟩, rfl, ⟨h.1, h.2.1.2.1, h.2.1.2.2⟩⟩)
theorem o_is : Opens enc Try.prog w 52 eIs WIs := (opens_slice (by_ := 8) (sz := 1) Try.underlying52 (by kernel_rfl) (by kernel_rfl) o_int).map (fun x h => ⟨x, rfl, ⟨h.2.1, h.2.2⟩⟩)
theorem o_iss : Opens enc Try.prog w 30 (fun l : List (List Int) => [.sl 1 (l.map eIs)]) WIss := (opens_slice (by_ := 24) Try.underlying30 (by kernel_rfl) (by kernel_rfl) o_is).map (fun x h => ⟨x, rfl, ⟨h.2.1, h.2.2⟩⟩)
theorem arg_agg {t : Nat} {α : Type} {en : α → List Cell} {WF : α → Prop} (ho : Opens enc Try.prog w t en WF) (hs : (match Try.prog.underlying t with | some (.struct _) => true | some (.array _ _) => true | _ => false) = true)
    {r : Reach} {b : Nat} {v : Value} {d : DataW H} {p : List MemPlace} (hv : Value.okWide Try.prog w r b t v) (hd : DataW.Trod enc Try.prog w 0 (fun _ => true) true t v d p) (hw : (d.weights Try.prog t).all (· ≤ reachBytes) = true) :
    ∃ x cs, v = .agg cs ∧ RdL w (en x) cs.toList ∧ WF x := by
  unfold Value.okWide at hv
  obtain ⟨fuel, hf⟩ := hd
  cases hu : Try.prog.underlying t with
  | none => rw [hu] at hs; cases hs
  | some q =>
    rw [hu] at hs hv
    cases q with
    | struct fs =>
      obtain ⟨cs, rfl, _⟩ := hv
      obtain ⟨x, h1, h2⟩ := ho fuel _ d p hf hw
      exact ⟨x, cs, rfl, h1, h2⟩
    | array n e =>
      obtain ⟨cs, rfl, _⟩ := hv
      obtain ⟨x, h1, h2⟩ := ho fuel _ d p hf hw
      exact ⟨x, cs, rfl, h1, h2⟩
    | _ => cases hs
theorem arg_slice {t e : Nat} {α : Type} {en : α → List Cell} {WF : α → Prop} (ho : Opens enc Try.prog w t en WF) (hs : Try.prog.underlying t = some (.slice e))
    {r : Reach} {b : Nat} {v : Value} {d : DataW H} {p : List MemPlace} (hv : Value.okWide Try.prog w r b t v) (hd : DataW.Trod enc Try.prog w 0 (fun _ => true) true t v d p) (hw : (d.weights Try.prog t).all (· ≤ reachBytes) = true) :
    ∃ x, RdL w (en x) [v] ∧ WF x := by
  obtain ⟨a, l, c, rfl⟩ := okWide_slice hs hv
  obtain ⟨fuel, hf⟩ := hd
  obtain ⟨x, h1, h2⟩ := ho fuel _ d p hf hw
  exact ⟨x, by simpa [Value.cells] using h1, h2⟩
theorem rdl_one {c : Cell} {v : Value} (h : RdL w [c] [v]) : Rd w (fun _ => True) c v := h.1
theorem arg_fn {r : Reach} {b : Nat} {v : Value} {d : DataW H} {p : List MemPlace} (hv : Value.okWide Try.prog w r b 29 v) (hd : DataW.Trod enc Try.prog w 0 (fun _ => true) true 29 v d p) (hw : (d.weights Try.prog 29).all (· ≤ reachBytes) = true) :
    ∃ (f : GFn) (s : Value), v = .agg #[.int .i64 f.regs, s] ∧ Rd w (fun _ => True) (.sl 5 (f.blocks.map eBlock)) s ∧ WFn f := by
  obtain ⟨f, cs, rfl, h1, h2⟩ := arg_agg o_fn (by rw [Try.underlying29]) hv hd hw
  obtain ⟨l⟩ := cs
  match l, h1 with
  | [x, s], h1 =>
    refine ⟨f, s, ?_, h1.2.1, h2⟩
    have h3 := h1.1
    cases h3
    rfl
theorem arg_iss {r : Reach} {b : Nat} {v : Value} {d : DataW H} {p : List MemPlace} (hv : Value.okWide Try.prog w r b 30 v) (hd : DataW.Trod enc Try.prog w 0 (fun _ => true) true 30 v d p) (hw : (d.weights Try.prog 30).all (· ≤ reachBytes) = true) :
    ∃ (l : List (List Int)), Rd w (fun _ => True) (.sl 1 (l.map eIs)) v ∧ WIss l := by
  obtain ⟨l, h1, h2⟩ := arg_slice o_iss Try.underlying30 hv hd hw
  exact ⟨l, h1.1, h2⟩
end
def FzAll (w : World) (ρ : Nat → Value) (b0 : Nat) : List (Nat × Ob) → Prop
  | [] => True
  | (i, .fz sz rows) :: l => (0 < i ∧ i < b0) ∧ Rd w (fun _ => True) (.sl sz rows) (ρ i) ∧ FzAll w ρ b0 l
  | _ => False
theorem FzAll.at {w : World} {ρ : Nat → Value} {b0 : Nat} : ∀ {l : List (Nat × Ob)}, FzAll w ρ b0 l → ∀ i b, l.lookup i = some b → (0 < i ∧ i < b0) ∧ ∃ sz rows, b = .fz sz rows ∧ Rd w (fun _ => True) (.sl sz rows) (ρ i)
  | (j, .fz sz rows) :: l, h, i, b, hi => by
    simp only [List.lookup] at hi
    cases hk : i == j with
    | true =>
      rw [hk] at hi
      have e : i = j := by simpa using hk
      subst e
      cases hi
      exact ⟨h.1, sz, rows, rfl, h.2.1⟩
    | false => rw [hk] at hi; exact h.2.2.at i b hi
theorem law_run {P : Program} {f : Nat} {args : List LV} {b0 b1 : Nat} {oc oc' : List (Nat × Ob)} {r : Value} (hs : Spec P f args b0 oc (.v r) b1 oc') {w : World} {ρ : Nat → Value} (h0 : 0 < b0) (ho : FzAll w ρ b0 oc) (hu : LV.useds (fun c => c < b0) ρ args) :
    Calls P f (LV.vals ρ args).toArray w (fun e w' => e = .returned r ∧ Below w.heap.size w w') := by
  refine run_law hs h0 ?_ (fun i b hi => ⟨(ho.at i b hi).1.2, (ho.at i b hi).2⟩) hu
  cases h : oc.lookup 0 with
  | none => rfl
  | some b => exact absurd (ho.at 0 b h).1.1 (by omega)
end Lg
end Go.Proofs.Ytpfhmodjjljpjaa

namespace Go.Proofs.Ytpfhmodjjljpjaa
open Go.RowKit
namespace Lg
set_option linter.unusedSimpArgs false
set_option linter.unusedVariables false
section
variable {P : Program} {N bs j j' b d nn i : Nat} {ops : Array Oper} {o : Oper} {s : List (Nat × LV)} {ob : List (Nat × Ob)} {lv : LV} {x : Ob} {pre : List Nat} {upd : List (Nat × Ob)} {tr : List Tr} {st' : St}
theorem Run.op0 (ho : ops[j]? = some o) (hd : o.dst = some d) (hb : bs + 16 * j = b) (hj : j + 1 = j') (hg : On ops ⟨s, ob⟩ o true) (ht : T P N o b pre ⟨s, ob⟩ lv nn []) (hn : decide (nn ≤ 16) = true) (r : Run P N ops bs j' ⟨(d, lv) :: s, ob⟩ tr st') :
    Run P N ops bs j ⟨s, ob⟩ (⟨true, pre, lv, nn, []⟩ :: tr) st' := by
  subst hb hj
  exact .op ho hg ht hn (by simpa [St.app, hd] using r)
theorem Run.op1 (ho : ops[j]? = some o) (hd : o.dst = some d) (hb : bs + 16 * j = b) (hj : j + 1 = j') (hg : On ops ⟨s, ob⟩ o true) (ht : T P N o b pre ⟨s, ob⟩ lv nn [(i, x)]) (hn : decide (nn ≤ 16) = true) (r : Run P N ops bs j' ⟨(d, lv) :: s, (i, x) :: ob⟩ tr st') :
    Run P N ops bs j ⟨s, ob⟩ (⟨true, pre, lv, nn, [(i, x)]⟩ :: tr) st' := by
  subst hb hj
  exact .op ho hg ht hn (by simpa [St.app, hd] using r)
theorem Run.opn (ho : ops[j]? = some o) (hd : o.dst = some d) (hb : bs + 16 * j = b) (hj : j + 1 = j') (hg : On ops ⟨s, ob⟩ o true) (ht : T P N o b pre ⟨s, ob⟩ lv nn upd) (hn : decide (nn ≤ 16) = true) (r : Run P N ops bs j' ⟨(d, lv) :: s, upd ++ ob⟩ tr st') :
    Run P N ops bs j ⟨s, ob⟩ (⟨true, pre, lv, nn, upd⟩ :: tr) st' := by
  subst hb hj
  exact .op ho hg ht hn (by simpa [St.app, hd] using r)
theorem Run.st0 (ho : ops[j]? = some o) (hd : o.dst = none) (hb : bs + 16 * j = b) (hj : j + 1 = j') (hg : On ops ⟨s, ob⟩ o true) (ht : T P N o b pre ⟨s, ob⟩ lv nn []) (hn : decide (nn ≤ 16) = true) (r : Run P N ops bs j' ⟨s, ob⟩ tr st') :
    Run P N ops bs j ⟨s, ob⟩ (⟨true, pre, lv, nn, []⟩ :: tr) st' := by
  subst hb hj
  exact .op ho hg ht hn (by simpa [St.app, hd] using r)
theorem Run.st1 (ho : ops[j]? = some o) (hd : o.dst = none) (hb : bs + 16 * j = b) (hj : j + 1 = j') (hg : On ops ⟨s, ob⟩ o true) (ht : T P N o b pre ⟨s, ob⟩ lv nn [(i, x)]) (hn : decide (nn ≤ 16) = true) (r : Run P N ops bs j' ⟨s, (i, x) :: ob⟩ tr st') :
    Run P N ops bs j ⟨s, ob⟩ (⟨true, pre, lv, nn, [(i, x)]⟩ :: tr) st' := by
  subst hb hj
  exact .op ho hg ht hn (by simpa [St.app, hd] using r)
theorem Run.stn (ho : ops[j]? = some o) (hd : o.dst = none) (hb : bs + 16 * j = b) (hj : j + 1 = j') (hg : On ops ⟨s, ob⟩ o true) (ht : T P N o b pre ⟨s, ob⟩ lv nn upd) (hn : decide (nn ≤ 16) = true) (r : Run P N ops bs j' ⟨s, upd ++ ob⟩ tr st') :
    Run P N ops bs j ⟨s, ob⟩ (⟨true, pre, lv, nn, upd⟩ :: tr) st' := by
  subst hb hj
  exact .op ho hg ht hn (by simpa [St.app, hd] using r)
theorem Run.no (ho : ops[j]? = some o) (hd : o.dst = some d) (hj : j + 1 = j') (hg : On ops ⟨s, ob⟩ o false) (r : Run P N ops bs j' ⟨(d, .v undef) :: s, ob⟩ tr st') :
    Run P N ops bs j ⟨s, ob⟩ (⟨false, [], .v undef, 0, []⟩ :: tr) st' := by
  subst hj
  exact .off ho hg (by simpa [St.app, hd] using r)
end
section
variable {J : Nat → St → Prop} {K : Exit → Nat → St → Prop} {b : Nat} {s : St} {i id : Nat}
theorem thenK_n (h : J b s) : thenK J K .normal b s := h
theorem thenK_e (h : K (.exit i) b s) : thenK J K (.exit i) b s := h
theorem thenK_r (h : K .ret b s) : thenK J K .ret b s := h
theorem blockK_n (h : K .normal b s) : blockK id K .normal b s := h
theorem blockK_hit (h : K .normal b s) : blockK id K (.exit id) b s := by simpa [blockK] using h
theorem blockK_miss (hi : (i == id) = false) (h : K (.exit i) b s) : blockK id K (.exit i) b s := by
  have : i ≠ id := by simpa using hi
  simpa [blockK, this] using h
theorem blockK_r (h : K .ret b s) : blockK id K .ret b s := h
end
inductive NilR (lo hi : Nat) : LV → LV → Prop
  | same (x : LV) : NilR lo hi x x
  | nil {i : Nat} (h : (decide (lo ≤ i) && decide (i < hi)) = true) : NilR lo hi (.v (.slice none 0 0)) (.r i)
inductive NilRs (lo hi : Nat) : List LV → List LV → Prop
  | nil : NilRs lo hi [] []
  | cons {x y : LV} {l m : List LV} (h : NilR lo hi x y) (t : NilRs lo hi l m) : NilRs lo hi (x :: l) (y :: m)
theorem NilR.val {lo hi : Nat} {x y : LV} (h : NilR lo hi x y) {ρ ρ' : Nat → Value} {U U' : Nat → Prop} (hρ : ∀ i, U i → ρ' i = ρ i) (hU : ∀ i, U i → U' i) (hn : ∀ i, lo ≤ i → i < hi → ρ' i = .slice none 0 0 ∧ U' i) (hu : x.used U ρ) :
    y.val ρ' = x.val ρ ∧ y.used U' ρ' := by
  cases h with
  | same x => exact ⟨used_congr hρ x hu, used_mono hρ hU x hu⟩
  | nil h =>
    simp only [Bool.and_eq_true, decide_eq_true_eq] at h
    exact ⟨(hn _ h.1 h.2).1, (hn _ h.1 h.2).2⟩
theorem NilRs.val {lo hi : Nat} {l m : List LV} (h : NilRs lo hi l m) {ρ ρ' : Nat → Value} {U U' : Nat → Prop} (hρ : ∀ i, U i → ρ' i = ρ i) (hU : ∀ i, U i → U' i) (hn : ∀ i, lo ≤ i → i < hi → ρ' i = .slice none 0 0 ∧ U' i) (hu : LV.useds U ρ l) :
    LV.vals ρ' m = LV.vals ρ l ∧ LV.useds U' ρ' m := by
  induction h with
  | nil => exact ⟨rfl, trivial⟩
  | cons h t ih =>
    obtain ⟨h1, h2⟩ := h.val hρ hU hn hu.1
    obtain ⟨h3, h4⟩ := ih hu.2
    exact ⟨by simp [LV.vals, h1, h3], h2, h4⟩
def nilRows (b : Nat) : List (Nat × Nat) → List (Nat × Ob)
  | [] => []
  | (e, sz) :: l => (b, .row e sz []) :: nilRows (b + 1) l
theorem nilRows_at : ∀ (l : List (Nat × Nat)) (b i : Nat) (ob : Ob), (l.all fun p => decide (0 < p.2)) = true → (nilRows b l).lookup i = some ob → b ≤ i ∧ i < b + l.length ∧ ∃ e sz, ob = .row e sz [] ∧ 0 < sz
  | [], b, i, ob, _, h => by simp [nilRows] at h
  | (e, sz) :: l, b, i, ob, hz, h => by
    simp only [List.all_cons, Bool.and_eq_true, decide_eq_true_eq] at hz
    simp only [nilRows, List.lookup] at h
    cases hk : i == b with
    | true =>
      rw [hk] at h
      obtain rfl : i = b := by simpa using hk
      cases h
      exact ⟨Nat.le_refl _, by simp, e, sz, rfl, hz.1⟩
    | false =>
      rw [hk] at h
      obtain ⟨h1, h2, h3⟩ := nilRows_at l (b + 1) i ob hz.2 h
      exact ⟨by omega, by simp only [List.length_cons]; omega, h3⟩
theorem nil_rep {w : World} {ρ : Nat → Value} {own : Nat → Option Nat} {i e sz : Nat} (h : ρ i = .slice none 0 0) (hs : 0 < sz) : RepOb w ρ own i (.row e sz []) :=
  ⟨hs, [], ⟨by simp, .inl ⟨h, rfl⟩⟩, (fun k hk => by rw [h] at hk; cases hk), ⟨by simp, fun i r hi => by simp at hi⟩⟩
theorem HR.addNils {w0 w : World} {M : Fp} {U : Nat → Prop} {ρ : Nat → Value} {own : Nat → Option Nat} {ob : List (Nat × Ob)} (hr : HR w0 M U ρ own ob w) (b : Nat) (l : List (Nat × Nat)) (hz : (l.all fun p => decide (0 < p.2)) = true) (hb : ∀ i, b ≤ i → i < b + l.length → ¬ U i) :
    HR w0 M (grow U b l.length) (fun i => if b ≤ i ∧ i < b + l.length then .slice none 0 0 else ρ i) own (nilRows b l ++ ob) w := by
  have hρ : ∀ i, U i → (if b ≤ i ∧ i < b + l.length then Value.slice none 0 0 else ρ i) = ρ i := fun i hi => if_neg (fun h => hb i h.1 h.2 hi)
  refine hr.step (fun _ => False) rfl rfl rfl (Nat.le_refl _) (fun k hk _ => ⟨rfl, rfl⟩) hρ (fun i hi => .inl hi) (fun _ h => h.elim) (fun i ob' hi => ?_) (fun i ob' hi => ?_)
  · obtain ⟨h1, h2, _⟩ := nilRows_at l b i ob' hz hi
    exact .inr (hb i h1 h2)
  · obtain ⟨h1, h2, e, sz, rfl, h3⟩ := nilRows_at l b i ob' hz hi
    exact ⟨nil_rep (by rw [if_pos ⟨h1, h2⟩]) h3, .inr ⟨h1, h2⟩, trivial⟩
section
variable {P : Program} {N b nn : Nat} {o : Oper} {st : St} {lv lv' : LV} {pre : List Nat} {upd : List (Nat × Ob)}
theorem T_nils (l : List (Nat × Nat)) (h : T P N o b pre st lv nn upd) (hz : (l.all fun p => decide (0 < p.2)) = true) {m : List LV} {m' : List LV} (hlv : (lv = .agg m ∧ lv' = .agg m') ∨ (m = [lv] ∧ m' = [lv'])) (hm : NilRs (b + nn) (b + nn + l.length) m m') {upd' : List (Nat × Ob)} (hupd : nilRows (b + nn) l ++ upd = upd') {nn' : Nat} (hnn : nn + l.length = nn') :
    T P N o b pre st lv' nn' upd' := by
  intro w0 M U ρ own st' a w hx hp hf fr hr
  subst hupd hnn
  intro next Q hn
  refine h w0 M U ρ own st' a w hx hp (fun i h1 h2 => hf i h1 (by omega)) fr hr next Q (fun v w' hv => hn v w' ?_)
  obtain ⟨ρ', own', rfl, h1, h2, h3⟩ := hv
  have hfresh : ∀ i, b + nn ≤ i → i < b + nn + l.length → ¬ grow U b nn i := fun i g1 g2 g3 => by
    rcases g3 with g3 | g3
    · exact hf i (by omega) (by omega) g3
    · omega
  have h4 := h3.addNils (b + nn) l hz hfresh
  let ρ2 : Nat → Value := fun i => if b + nn ≤ i ∧ i < b + nn + l.length then .slice none 0 0 else ρ' i
  have hρ : ∀ i, grow U b nn i → ρ2 i = ρ' i := fun i hi => if_neg (fun h => hfresh i h.1 h.2 hi)
  have hgrow : ∀ i, grow (grow U b nn) (b + nn) l.length i → grow U b (nn + l.length) i := fun i hi => by
    rcases hi with (hi | hi) | hi
    · exact .inl hi
    · exact .inr (by omega)
    · exact .inr (by omega)
  have hval : lv'.val ρ2 = lv.val ρ' ∧ lv'.used (grow (grow U b nn) (b + nn) l.length) ρ2 := by
    have hnew : ∀ i, b + nn ≤ i → i < b + nn + l.length → ρ2 i = .slice none 0 0 ∧ grow (grow U b nn) (b + nn) l.length i := fun i g1 g2 => ⟨if_pos ⟨g1, g2⟩, .inr ⟨g1, g2⟩⟩
    rcases hlv with ⟨rfl, rfl⟩ | ⟨rfl, rfl⟩
    · obtain ⟨k1, k2⟩ := hm.val (ρ := ρ') (ρ' := ρ2) hρ (fun i hi => .inl hi) hnew h2.1
      exact ⟨by simp only [LV.val]; rw [k1], k2, by rw [k1]; exact h2.2⟩
    · obtain ⟨k1, k2⟩ := hm.val (ρ := ρ') (ρ' := ρ2) hρ (fun i hi => .inl hi) hnew ⟨h2, trivial⟩
      exact ⟨by simpa [LV.vals] using k1, k2.1⟩
  refine ⟨ρ2, own', hval.1.symm, fun i hi => (hρ i (.inl hi)).trans (h1 i hi), used_mono (fun _ _ => rfl) hgrow lv' hval.2, ?_⟩
  rw [List.append_assoc]
  exact h4.mono hgrow
theorem T_nilbox (l : List (Nat × Nat)) {t : Nat} {cs cs' : List LV} (h : T P N o b pre st lv nn [(b, .box t cs)]) (hz : (l.all fun p => decide (0 < p.2)) = true) (hm : NilRs (b + nn) (b + nn + l.length) cs cs') {upd' : List (Nat × Ob)} (hupd : (b, .box t cs') :: nilRows (b + nn) l = upd') {nn' : Nat} (hnn : nn + l.length = nn') :
    T P N o b pre st lv nn' upd' := by
  intro w0 M U ρ own st' a w hx hp hf fr hr
  subst hupd hnn
  intro next Q hn
  refine h w0 M U ρ own st' a w hx hp (fun i h1 h2 => hf i h1 (by omega)) fr hr next Q (fun v w' hv => hn v w' ?_)
  obtain ⟨ρ', own', rfl, h1, h2, h3⟩ := hv
  have hfresh : ∀ i, b + nn ≤ i → i < b + nn + l.length → ¬ grow U b nn i := fun i g1 g2 g3 => by
    rcases g3 with g3 | g3
    · exact hf i (by omega) (by omega) g3
    · omega
  have h4 := h3.addNils (b + nn) l hz hfresh
  let ρ2 : Nat → Value := fun i => if b + nn ≤ i ∧ i < b + nn + l.length then .slice none 0 0 else ρ' i
  have hρ : ∀ i, grow U b nn i → ρ2 i = ρ' i := fun i hi => if_neg (fun h => hfresh i h.1 h.2 hi)
  have hgrow : ∀ i, grow (grow U b nn) (b + nn) l.length i → grow U b (nn + l.length) i := fun i hi => by
    rcases hi with (hi | hi) | hi
    · exact .inl hi
    · exact .inr (by omega)
    · exact .inr (by omega)
  have hnew : ∀ i, b + nn ≤ i → i < b + nn + l.length → ρ2 i = .slice none 0 0 ∧ grow (grow U b nn) (b + nn) l.length i := fun i g1 g2 => ⟨if_pos ⟨g1, g2⟩, .inr ⟨g1, g2⟩⟩
  obtain ⟨q1, q2, q3⟩ := h3.ob b (.box t cs) (by simp)
  obtain ⟨k1, k2⟩ := hm.val (ρ := ρ') (ρ' := ρ2) hρ (fun i hi => .inl hi) hnew q3.1
  refine ⟨ρ2, own', (used_congr hρ lv h2).symm, fun i hi => (hρ i (.inl hi)).trans (h1 i hi), used_mono hρ (fun i hi => hgrow i (.inl hi)) lv h2, ?_⟩
  -- the variable's cells, told by the rows
  have h5 : HR w0 M (grow (grow U b nn) (b + nn) l.length) ρ2 own' ([(b, .box t cs')] ++ (nilRows (b + nn) l ++ ([(b, .box t cs)] ++ st'.o))) w' := by
    refine h4.step (fun _ => False) rfl rfl rfl (Nat.le_refl _) (fun _ _ _ => ⟨rfl, rfl⟩) (fun _ _ => rfl) (fun _ h => h) (fun _ h => h.elim) (fun i ob' hi => .inl ?_) (fun i ob' hi => ?_)
    · rw [lookup_key hi]
      refine ⟨.box t cs, ?_⟩
      rw [lookup_append]
      cases hl : (nilRows (b + nn) l).lookup b with
      | some ob2 =>
        obtain ⟨g1, g2, _⟩ := nilRows_at l _ _ _ hz hl
        exact absurd q2 (hfresh b g1 g2)
      | none => simp
    · have hib := lookup_key hi
      subst hib
      obtain rfl : Ob.box t cs' = ob' := by simpa using hi
      obtain ⟨g, g1, g2, g3⟩ := q1
      exact ⟨⟨g, by show ρ2 i = _; rw [hρ i q2]; exact g1, g2, by rw [g3, k1]⟩, .inl q2, k2, by rw [k1]; exact q3.2⟩
  refine (h5.mono hgrow).congr (fun i => ?_)
  simp only [List.cons_append, List.nil_append, List.lookup, lookup_append]
  cases hib : i == b with
  | true => rfl
  | false => rfl
end
end Lg
end Go.Proofs.Ytpfhmodjjljpjaa

namespace Go.Proofs.Ytpfhmodjjljpjaa
open Go.RowKit
namespace Lg
set_option linter.unusedSimpArgs false
set_option linter.unusedVariables false
def RunK (P : Program) (N : Nat) (ops : Array Oper) (bs j : Nat) (st : St) (C : List Tr → St → Prop) : Prop := ∃ tr st', Run P N ops bs j st tr st' ∧ C tr st'
section
variable {P : Program} {N bs j j' b d nn i : Nat} {ops : Array Oper} {o : Oper} {s : List (Nat × LV)} {ob : List (Nat × Ob)} {lv : LV} {x : Ob} {pre : List Nat} {upd : List (Nat × Ob)} {C : List Tr → St → Prop}
theorem k_done {st : St} (h : ops.size = j) (hC : C [] st) : RunK P N ops bs j st C := ⟨[], st, .done h, hC⟩
theorem k_op0 (ho : ops[j]? = some o) (hd : o.dst = some d) (hb : bs + 16 * j = b) (hj : j + 1 = j') (hg : On ops ⟨s, ob⟩ o true) (ht : T P N o b pre ⟨s, ob⟩ lv nn []) (hn : decide (nn ≤ 16) = true) (r : RunK P N ops bs j' ⟨(d, lv) :: s, ob⟩ (fun tr => C (⟨true, pre, lv, nn, []⟩ :: tr))) : RunK P N ops bs j ⟨s, ob⟩ C := by
  obtain ⟨tr, st', r, hC⟩ := r
  exact ⟨_, st', .op0 ho hd hb hj hg ht hn r, hC⟩
theorem k_op1 (ho : ops[j]? = some o) (hd : o.dst = some d) (hb : bs + 16 * j = b) (hj : j + 1 = j') (hg : On ops ⟨s, ob⟩ o true) (ht : T P N o b pre ⟨s, ob⟩ lv nn [(i, x)]) (hn : decide (nn ≤ 16) = true) (r : RunK P N ops bs j' ⟨(d, lv) :: s, (i, x) :: ob⟩ (fun tr => C (⟨true, pre, lv, nn, [(i, x)]⟩ :: tr))) : RunK P N ops bs j ⟨s, ob⟩ C := by
  obtain ⟨tr, st', r, hC⟩ := r
  exact ⟨_, st', .op1 ho hd hb hj hg ht hn r, hC⟩
theorem k_opn (ho : ops[j]? = some o) (hd : o.dst = some d) (hb : bs + 16 * j = b) (hj : j + 1 = j') (hg : On ops ⟨s, ob⟩ o true) (ht : T P N o b pre ⟨s, ob⟩ lv nn upd) (hn : decide (nn ≤ 16) = true) (r : RunK P N ops bs j' ⟨(d, lv) :: s, upd ++ ob⟩ (fun tr => C (⟨true, pre, lv, nn, upd⟩ :: tr))) : RunK P N ops bs j ⟨s, ob⟩ C := by
  obtain ⟨tr, st', r, hC⟩ := r
  exact ⟨_, st', .opn ho hd hb hj hg ht hn r, hC⟩
theorem k_st0 (ho : ops[j]? = some o) (hd : o.dst = none) (hb : bs + 16 * j = b) (hj : j + 1 = j') (hg : On ops ⟨s, ob⟩ o true) (ht : T P N o b pre ⟨s, ob⟩ lv nn []) (hn : decide (nn ≤ 16) = true) (r : RunK P N ops bs j' ⟨s, ob⟩ (fun tr => C (⟨true, pre, lv, nn, []⟩ :: tr))) : RunK P N ops bs j ⟨s, ob⟩ C := by
  obtain ⟨tr, st', r, hC⟩ := r
  exact ⟨_, st', .st0 ho hd hb hj hg ht hn r, hC⟩
theorem k_st1 (ho : ops[j]? = some o) (hd : o.dst = none) (hb : bs + 16 * j = b) (hj : j + 1 = j') (hg : On ops ⟨s, ob⟩ o true) (ht : T P N o b pre ⟨s, ob⟩ lv nn [(i, x)]) (hn : decide (nn ≤ 16) = true) (r : RunK P N ops bs j' ⟨s, (i, x) :: ob⟩ (fun tr => C (⟨true, pre, lv, nn, [(i, x)]⟩ :: tr))) : RunK P N ops bs j ⟨s, ob⟩ C := by
  obtain ⟨tr, st', r, hC⟩ := r
  exact ⟨_, st', .st1 ho hd hb hj hg ht hn r, hC⟩
theorem k_stn (ho : ops[j]? = some o) (hd : o.dst = none) (hb : bs + 16 * j = b) (hj : j + 1 = j') (hg : On ops ⟨s, ob⟩ o true) (ht : T P N o b pre ⟨s, ob⟩ lv nn upd) (hn : decide (nn ≤ 16) = true) (r : RunK P N ops bs j' ⟨s, upd ++ ob⟩ (fun tr => C (⟨true, pre, lv, nn, upd⟩ :: tr))) : RunK P N ops bs j ⟨s, ob⟩ C := by
  obtain ⟨tr, st', r, hC⟩ := r
  exact ⟨_, st', .stn ho hd hb hj hg ht hn r, hC⟩
theorem k_no (ho : ops[j]? = some o) (hd : o.dst = some d) (hj : j + 1 = j') (hg : On ops ⟨s, ob⟩ o false) (r : RunK P N ops bs j' ⟨(d, .v undef) :: s, ob⟩ (fun tr => C (⟨false, [], .v undef, 0, []⟩ :: tr))) : RunK P N ops bs j ⟨s, ob⟩ C := by
  obtain ⟨tr, st', r, hC⟩ := r
  exact ⟨_, st', .no ho hd hj hg r, hC⟩
theorem k_split {st : St} {c : Bool} (hs : st.s.lookup d = some (.v (.bool c))) (h1 : c = true → RunK P N ops bs j st C) (h2 : c = false → RunK P N ops bs j st C) : RunK P N ops bs j st C := by
  cases c
  · exact h2 rfl
  · exact h1 rfl
theorem g_tt {st : St} {g d : Nat} {c : Bool} (h : o.guard = some (g, true)) (hj : (ops[g]?).bind (·.dst) = some d) (hs : st.s.lookup d = some (.v (.bool c))) (hc : c = true) : On ops st o true := .yes h hj hs (by rw [hc]; rfl)
theorem g_tf {st : St} {g d : Nat} {c : Bool} (h : o.guard = some (g, true)) (hj : (ops[g]?).bind (·.dst) = some d) (hs : st.s.lookup d = some (.v (.bool c))) (hc : c = false) : On ops st o false := .no h hj hs (by rw [hc]; rfl)
theorem g_ft {st : St} {g d : Nat} {c : Bool} (h : o.guard = some (g, false)) (hj : (ops[g]?).bind (·.dst) = some d) (hs : st.s.lookup d = some (.v (.bool c))) (hc : c = true) : On ops st o false := .no h hj hs (by rw [hc]; rfl)
theorem g_ff {st : St} {g d : Nat} {c : Bool} (h : o.guard = some (g, false)) (hj : (ops[g]?).bind (·.dst) = some d) (hs : st.s.lookup d = some (.v (.bool c))) (hc : c = false) : On ops st o true := .yes h hj hs (by rw [hc]; rfl)
end
section
variable {ro : Option Nat} {P : Program} {N n b b' id : Nat} {st : St} {ops : Array Oper} {K : Exit → Nat → St → Prop}
theorem W_seqK (hd : dstsOk ops N = true) (hb : b + 16 * ops.size = b') (r : RunK P N ops b 0 st (fun _ st' => K .normal b' st')) : W ro P N n (.region id ops false) b st K := by
  obtain ⟨tr, st', r, h⟩ := r
  exact W_region r hd hb h
theorem W_anyK (hm : P.follows .mixedOrders = true) (hd : dstsOk ops N = true) (hb : b + 16 * ops.size = b') (r : RunK P N ops b 0 st (fun tr st' => chk ops tr = true ∧ K .normal b' st')) : W ro P N n (.region id ops true) b st K := by
  obtain ⟨tr, st', r, h⟩ := r
  exact W_any hm r hd h.1 hb h.2
end
section
variable {P : Program} {N b nn : Nat} {o : Oper} {st : St} (D : Tab P)
theorem T_ldE {α : Type} [Inhabited α] {enc : α → List Cell} {xs : List α} {t i sz j f : Nat} {x : Operand} {cl : Cell} {ty : TyI} {lv : LV} {upd : List (Nat × Ob)} (ho : o.op = .load t x) (hx : st.ev x = some (.e i sz j f)) (hob : (st.o.lookup i).bind Ob.rows? = some (sz, xs.map enc)) (hi : D.get t = some ty) (ha : ty.agg = false)
    (hj : j < xs.length) (hf : (enc (xs.getD j default))[f]? = some cl) (hlv : cellsLV b [cl] = [lv]) (hn : cellsN [cl] = nn) (hu : cellsOb b [cl] = upd) : T P N o b [i] st lv nn upd := by
  subst hn hu
  exact T_load_e D ho hx hob hi ha hj hf hlv
theorem T_ldEA {α : Type} [Inhabited α] {enc : α → List Cell} {xs : List α} {t i sz j f : Nat} {x : Operand} {cls : List Cell} {ty : TyI} {l : List LV} {upd : List (Nat × Ob)} (ho : o.op = .load t x) (hx : st.ev x = some (.e i sz j f)) (hob : (st.o.lookup i).bind Ob.rows? = some (sz, xs.map enc)) (hi : D.get t = some ty) (ha : ty.agg = true)
    (hj : j < xs.length) (hf : ((enc (xs.getD j default)).drop f).take ty.size = cls) (hz : cls.length = ty.size) (hlv : cellsLV b cls = l) (hn : cellsN cls = nn) (hu : cellsOb b cls = upd) : T P N o b [i] st (.agg l) nn upd := by
  subst hn hu hlv
  exact T_load_eA D ho hx hob hi ha hj hf hz
theorem T_stB {t i n : Nat} {x y : Operand} {bt : Nat} {cs l cs' : List LV} {lv : LV} {pre : List Nat} {ty : TyI} (ho : o.op = .store t x y) (hx : st.ev x = some (.p i n)) (hob : st.o.lookup i = some (.box bt cs)) (hy : st.ev y = some lv) (hf : Flat st lv l pre) (hi : D.get t = some ty) (hl : l.length = ty.size) (hn : n + l.length ≤ cs.length) (hcs : cs.take n ++ l ++ cs.drop (n + l.length) = cs') :
    T P N o b (i :: pre) st (.v undef) 0 [(i, .box bt cs')] := by
  subst hcs
  exact T_store_b D ho hx hob hy hf hi hl hn
end
section
variable {P : Program} {N b : Nat} {o : Oper} {st : St} (D : Tab P)
theorem T_fa {t k i n off sz m : Nat} {x : Operand} {ty : TyI} (ho : o.op = .fieldAddr t x k) (hx : st.ev x = some (.p i n)) (hi : D.get t = some ty) (hk : ty.fields[k]? = some (off, sz)) (hs : (sz == 0) = false) (hm : n + off = m) : T P N o b [] st (.p i m) 0 [] := by
  subst hm; exact T_fieldAddr D ho hx hi hk hs
theorem T_fae {t k i z j f off sz m : Nat} {x : Operand} {ty : TyI} (ho : o.op = .fieldAddr t x k) (hx : st.ev x = some (.e i z j f)) (hi : D.get t = some ty) (hk : ty.fields[k]? = some (off, sz)) (hs : (sz == 0) = false) (hm : f + off = m) : T P N o b [] st (.e i z j m) 0 [] := by
  subst hm; exact T_fieldAddr_e D ho hx hi hk hs
end
theorem fill_all {β : Type} {sz : Nat} : ∀ (ls : List (Nat × List β)) (s : Nat) (cells : List β), ls.map (·.1) = List.range' s ls.length → (∀ p ∈ ls, p.2.length = sz) → cells.length = (s + ls.length) * sz →
    fillL (fun i => some (i * sz, sz)) cells ls = some (cells.take (s * sz) ++ (ls.map (·.2)).flatten)
  | [], s, cells, _, _, hc => by
    simp only [List.length_nil, Nat.add_zero] at hc
    simp [fillL, ← hc]
  | (i, l) :: rest, s, cells, hi, hl, hc => by
    simp only [List.map_cons, List.length_cons, List.range'_succ, List.cons.injEq] at hi
    obtain ⟨rfl, hi⟩ := hi
    have hl0 : l.length = sz := hl (i, l) (by simp)
    have hlen : (i + (rest.length + 1)) * sz = i * sz + sz + rest.length * sz := by
      rw [Nat.add_mul, Nat.succ_mul]; omega
    simp only [List.length_cons] at hc
    rw [hlen] at hc
    have hcond : (l.length != sz || decide (i * sz + l.length > cells.length)) = false := by
      simp only [hl0, bne_self_eq_false, Bool.false_or, decide_eq_false_iff_not]
      omega
    have h1 : (cells.take (i * sz)).length = i * sz := by rw [List.length_take]; omega
    have h2 : (splice cells (i * sz) l).length = (i + 1 + rest.length) * sz := by
      have : (i + 1 + rest.length) * sz = i * sz + sz + rest.length * sz := by rw [Nat.add_mul, Nat.add_mul]; omega
      rw [this]
      unfold splice
      simp only [List.length_append, List.length_drop, h1, hl0]
      omega
    have h3 : (splice cells (i * sz) l).take ((i + 1) * sz) = cells.take (i * sz) ++ l := by
      unfold splice
      rw [List.take_append_of_le_length (by rw [List.length_append, h1, hl0, Nat.succ_mul]; exact Nat.le_refl _)]
      exact List.take_of_length_le (by rw [List.length_append, h1, hl0, Nat.succ_mul]; exact Nat.le_refl _)
    simp only [fillL, hcond, Bool.false_eq_true, if_false]
    rw [fill_all rest (i + 1) (splice cells (i * sz) l) hi (fun p hp => hl p (List.mem_cons_of_mem _ hp)) h2, h3]
    simp
section
variable {P : Program} {N b : Nat} {o : Oper} {st : St} (D : Tab P)
theorem T_bs {α : Type} {enc : α → List Cell} {ys : List α} {t n : Nat} {parts : Array (Nat × Operand)} {ls : List (Nat × List LV)} {l : List LV} {pre pre' : List Nat} {frz : List (Nat × Ob)} {ty ety : TyI} (ho : o.op = .buildSlice t n parts) (hi : D.get t = some ty) (he0 : (ty.elem == 0) = false) (he : D.get ty.elem = some ety) (hs : (ety.size == 0) = false)
    (hn : decide (n * ety.size ≤ 16777216) = true) (hp : PartsOf st parts.toList ls pre) (hk : ls.map (·.1) = List.range' 0 ls.length) (hz : (ls.all fun p => p.2.length == ety.size) = true) (hln : ls.length = n) (hl : (ls.map (·.2)).flatten = l)
    (hc : CellsOf st.o l (ys.map enc).flatten pre' frz) (hy : ys.length = n) (hez : (ys.map enc).all (fun r => r.length == ety.size) = true) :
    T P N o b (pre ++ pre') st (.r b) 1 ((b, .row ty.elem ety.size (ys.map enc)) :: frz) := by
  refine T_buildSlice D ho hi he0 he hs hn hp ?_ hc hy hez
  rw [fill_all ls 0 _ hk (fun p hp => by simpa using List.all_eq_true.1 hz p hp) (by simp [size_madeCells, hln]), hl]
  simp
end
theorem fill_step {α β : Type} [Inhabited α] (f : α → β) (d : β) (xs : List α) (j n : Nat) (hn : n = xs.length) (h : j < n) (z : β) (hz : z = f (xs.getD j default)) :
    ((xs.take j).map f ++ List.replicate (n - j) d).set j z = (xs.take (j + 1)).map f ++ List.replicate (n - (j + 1)) d := by
  subst hn hz
  have h1 : ((xs.take j).map f).length = j := by simp; omega
  have h2 : List.replicate (xs.length - j) d = d :: List.replicate (xs.length - (j + 1)) d := by
    rw [show xs.length - j = (xs.length - (j + 1)) + 1 by omega, List.replicate_succ]
  rw [h2, List.set_append_right _ _ (by omega), h1, Nat.sub_self, List.set_cons_zero, List.take_add_one, List.map_append, List.append_assoc]
  congr 1
  simp [List.getD_eq_getElem?_getD, List.getElem?_eq_getElem h]
theorem fill_skip {α β : Type} [Inhabited α] (f : α → β) (d : β) (xs : List α) (j n : Nat) (hn : n = xs.length) (h : j < n) (hz : f (xs.getD j default) = d) :
    (xs.take j).map f ++ List.replicate (n - j) d = (xs.take (j + 1)).map f ++ List.replicate (n - (j + 1)) d := by
  rw [← fill_step f d xs j n hn h d hz.symm]
  have h1 : ((xs.take j).map f).length = j := by simp; omega
  rw [show n - j = (n - (j + 1)) + 1 by omega, List.replicate_succ, List.set_append_right _ _ (by omega), h1, Nat.sub_self, List.set_cons_zero]
def isSl : Option Ob → Bool
  | some (.row ..) => true
  | some (.fz ..) => true
  | _ => false
theorem flat_sl {st : St} {i : Nat} (h : isSl (st.o.lookup i) = true) : Flat st (.r i) [.r i] [i] := by
  cases hl : st.o.lookup i with
  | none => rw [hl] at h; cases h
  | some ob =>
    rw [hl] at h
    cases ob with
    | row e sz rows => exact flat_row hl
    | fz sz rows => exact flat_fz hl
    | _ => cases h
section
variable {P : Program} {N b nn : Nat} {o : Oper} {st : St} {fop : Operand} {aa : Array Operand} {ats : Array TypeId} {f : Nat} {caps lvs cargs : List LV} {L : List (Nat × Nat)} {b0 : Nat} {oc : List (Nat × Ob)}
theorem T_callV {v : Value} (hs : Spec P f cargs b0 oc (.v v) b0 []) (hbody : (P.funcs[f]?).map (fun fn => (fn.name == "runtime.NumGoroutine" || fn.body.isNone)) = some false)
    (ho : o.op = .call { callee := .value fop, args := aa, argTypes := ats }) (hf : st.ev fop = some (.fn f caps)) (has : aa.toList.map st.ev = lvs.map some)
    (hren : LV.rens (sg 0 L) cargs = lvs ++ caps) (he : Embs st.o (sg 0 L) oc) (hok : (LV.okBs (fun c => decide (c < b0)) cargs && embB (sg 0 L) b0 oc && backB oc [] L b0 b0) = true) :
    T P N o b (oc.map fun p => sg 0 L p.1) st (.v v) 0 [] := by
  simp only [Bool.and_eq_true] at hok
  have hz : frzOf true (sg 0 L) st.o oc = [] := by
    have : ∀ l, frzOf true (sg 0 L) st.o l = [] := by
      intro l
      induction l with
      | nil => rfl
      | cons p l ih => simp [frzOf, ih]
    exact this oc
  exact T_call true hs hbody ho hf has hren he (by simp only [Bool.and_eq_true]; exact ⟨⟨⟨hok.1.1, rfl⟩, hok.1.2⟩, hok.2⟩) (.inr (fun p hp => by cases hp)) rfl (by rw [hz]; rfl) (Nat.sub_self _)
theorem T_callR {e sz : Nat} {rows : List (List Cell)} {keep : Bool} (hs : Spec P f cargs b0 oc (.r b0) (b0 + 1) [(b0, .row e sz rows)]) (hbody : (P.funcs[f]?).map (fun fn => (fn.name == "runtime.NumGoroutine" || fn.body.isNone)) = some false)
    (ho : o.op = .call { callee := .value fop, args := aa, argTypes := ats }) (hf : st.ev fop = some (.fn f caps)) (has : aa.toList.map st.ev = lvs.map some)
    (hren : LV.rens (sg 0 L) cargs = lvs ++ caps) (he : Embs st.o (sg 0 L) oc) (hok : (LV.okBs (fun c => decide (c < b0)) cargs && embB (sg 0 L) b0 oc && backB oc [(b0, .row e sz [])] L b0 (b0 + 1)) = true)
    (hfl : keep = false ∨ FlatOb (.row e sz rows)) (hz : frzOf keep (sg 0 L) st.o oc = []) :
    T P N o b (oc.map fun p => sg 0 L p.1) st (.r b) 1 [(b, .row e sz rows)] := by
  simp only [Bool.and_eq_true] at hok
  have h1 : piC (sg 0 L) b0 b b0 = b := by simp [piC]
  exact T_call keep hs hbody ho hf has hren he (by simp only [Bool.and_eq_true]; exact ⟨⟨⟨hok.1.1, by simp [LV.okB]⟩, hok.1.2⟩, by simpa [backB, Ob.okB] using hok.2⟩) (hfl.imp (fun h => h) (fun h p hp => by simp at hp; subst hp; exact h)) (by simp [LV.ren, h1]) (by rw [hz]; simp [h1, Ob.ren]) (by omega)
end
theorem SEmb.same {s : List (Nat × LV)} {σ : Nat → Nat} {p : Nat → Bool} {d : Nat} {lv : LV} {l : List (Nat × LV)} (h : s.lookup d = some (lv.ren σ)) (hp : lv.okB p = true) (t : SEmb s σ p l) : SEmb s σ p ((d, lv) :: l) := .cons h rfl hp t
theorem SEmb.eq {s : List (Nat × LV)} {σ : Nat → Nat} {p : Nat → Bool} {d : Nat} {v v' : Value} {l : List (Nat × LV)} (h : s.lookup d = some (.v v')) (t : SEmb s σ p l) (he : v' = v) : SEmb s σ p ((d, .v v) :: l) := .cons h (by rw [he]; rfl) rfl t
theorem Embs.rowE {o : List (Nat × Ob)} {σ : Nat → Nat} {c e sz : Nat} {rows rows' : List (List Cell)} {l : List (Nat × Ob)} (h : o.lookup (σ c) = some (.row e sz rows')) (t : Embs o σ l) (he : rows' = rows) : Embs o σ ((c, .row e sz rows) :: l) := .row (by rw [h, he]) t
theorem Embs.fzE {o : List (Nat × Ob)} {σ : Nat → Nat} {c sz : Nat} {rows rows' : List (List Cell)} {l : List (Nat × Ob)} (h : o.lookup (σ c) = some (.fz sz rows')) (t : Embs o σ l) (he : rows' = rows) : Embs o σ ((c, .fz sz rows) :: l) := .fz (by rw [h, he]) t
theorem Embs.lendE {o : List (Nat × Ob)} {σ : Nat → Nat} {c e sz : Nat} {rows rows' : List (List Cell)} {l : List (Nat × Ob)} (h : o.lookup (σ c) = some (.row e sz rows')) (t : Embs o σ l) (he : rows' = rows) : Embs o σ ((c, .fz sz rows) :: l) := .lend (by rw [h, he]) t
end Lg
end Go.Proofs.Ytpfhmodjjljpjaa

namespace Go.Proofs.Ytpfhmodjjljpjaa
open Go.RowKit
namespace Lg
set_option linter.unusedSimpArgs false
set_option linter.unusedVariables false
section
variable {P : Program} {N bs j nn i : Nat} {ops : Array Oper} {o : Oper} {s : List (Nat × LV)} {ob : List (Nat × Ob)} {lv : LV} {x : Ob} {pre : List Nat} {upd : List (Nat × Ob)} {C : List Tr → St → Prop}
theorem q0 (d b j' : Nat) (ho : ops[j]? = some o) (h : (o.dst, bs + 16 * j, j + 1, o.guard) = (some d, b, j', none)) (ht : T P N o b pre ⟨s, ob⟩ lv nn []) (hn : decide (nn ≤ 16) = true) (r : RunK P N ops bs j' ⟨(d, lv) :: s, ob⟩ (fun tr => C (⟨true, pre, lv, nn, []⟩ :: tr))) : RunK P N ops bs j ⟨s, ob⟩ C :=
  k_op0 ho (congrArg (·.1) h) (congrArg (·.2.1) h) (congrArg (·.2.2.1) h) (.plain (congrArg (·.2.2.2) h)) ht hn r
theorem q1 (d b j' : Nat) (ho : ops[j]? = some o) (h : (o.dst, bs + 16 * j, j + 1, o.guard) = (some d, b, j', none)) (ht : T P N o b pre ⟨s, ob⟩ lv nn [(i, x)]) (hn : decide (nn ≤ 16) = true) (r : RunK P N ops bs j' ⟨(d, lv) :: s, (i, x) :: ob⟩ (fun tr => C (⟨true, pre, lv, nn, [(i, x)]⟩ :: tr))) : RunK P N ops bs j ⟨s, ob⟩ C :=
  k_op1 ho (congrArg (·.1) h) (congrArg (·.2.1) h) (congrArg (·.2.2.1) h) (.plain (congrArg (·.2.2.2) h)) ht hn r
theorem qn (d b j' : Nat) (ho : ops[j]? = some o) (h : (o.dst, bs + 16 * j, j + 1, o.guard) = (some d, b, j', none)) (ht : T P N o b pre ⟨s, ob⟩ lv nn upd) (hn : decide (nn ≤ 16) = true) (r : RunK P N ops bs j' ⟨(d, lv) :: s, upd ++ ob⟩ (fun tr => C (⟨true, pre, lv, nn, upd⟩ :: tr))) : RunK P N ops bs j ⟨s, ob⟩ C :=
  k_opn ho (congrArg (·.1) h) (congrArg (·.2.1) h) (congrArg (·.2.2.1) h) (.plain (congrArg (·.2.2.2) h)) ht hn r
theorem s0 (b j' : Nat) (ho : ops[j]? = some o) (h : (o.dst, bs + 16 * j, j + 1, o.guard) = (none, b, j', none)) (ht : T P N o b pre ⟨s, ob⟩ lv nn []) (hn : decide (nn ≤ 16) = true) (r : RunK P N ops bs j' ⟨s, ob⟩ (fun tr => C (⟨true, pre, lv, nn, []⟩ :: tr))) : RunK P N ops bs j ⟨s, ob⟩ C :=
  k_st0 ho (congrArg (·.1) h) (congrArg (·.2.1) h) (congrArg (·.2.2.1) h) (.plain (congrArg (·.2.2.2) h)) ht hn r
theorem s1 (b j' : Nat) (ho : ops[j]? = some o) (h : (o.dst, bs + 16 * j, j + 1, o.guard) = (none, b, j', none)) (ht : T P N o b pre ⟨s, ob⟩ lv nn [(i, x)]) (hn : decide (nn ≤ 16) = true) (r : RunK P N ops bs j' ⟨s, (i, x) :: ob⟩ (fun tr => C (⟨true, pre, lv, nn, [(i, x)]⟩ :: tr))) : RunK P N ops bs j ⟨s, ob⟩ C :=
  k_st1 ho (congrArg (·.1) h) (congrArg (·.2.1) h) (congrArg (·.2.2.1) h) (.plain (congrArg (·.2.2.2) h)) ht hn r
theorem sn (b j' : Nat) (ho : ops[j]? = some o) (h : (o.dst, bs + 16 * j, j + 1, o.guard) = (none, b, j', none)) (ht : T P N o b pre ⟨s, ob⟩ lv nn upd) (hn : decide (nn ≤ 16) = true) (r : RunK P N ops bs j' ⟨s, upd ++ ob⟩ (fun tr => C (⟨true, pre, lv, nn, upd⟩ :: tr))) : RunK P N ops bs j ⟨s, ob⟩ C :=
  k_stn ho (congrArg (·.1) h) (congrArg (·.2.1) h) (congrArg (·.2.2.1) h) (.plain (congrArg (·.2.2.2) h)) ht hn r
end
theorem c_eql_t {x y : Int} (h : cmpB .eql x y = true) : x = y := by simpa [cmpB] using h
theorem c_eql_f {x y : Int} (h : cmpB .eql x y = false) : ¬ x = y := by simpa [cmpB] using h
theorem c_neq_t {x y : Int} (h : cmpB .neq x y = true) : ¬ x = y := by simpa [cmpB] using h
theorem c_neq_f {x y : Int} (h : cmpB .neq x y = false) : x = y := by simpa [cmpB] using h
theorem c_lss_t {x y : Int} (h : cmpB .lss x y = true) : x < y := by simpa [cmpB] using h
theorem c_lss_f {x y : Int} (h : cmpB .lss x y = false) : y ≤ x := by simpa [cmpB] using h
theorem c_leq_t {x y : Int} (h : cmpB .leq x y = true) : x ≤ y := by simpa [cmpB] using h
theorem c_leq_f {x y : Int} (h : cmpB .leq x y = false) : y < x := by simpa [cmpB] using h
theorem c_gtr_t {x y : Int} (h : cmpB .gtr x y = true) : x > y := by simpa [cmpB] using h
theorem c_gtr_f {x y : Int} (h : cmpB .gtr x y = false) : x ≤ y := by simpa [cmpB] using h
theorem c_geq_t {x y : Int} (h : cmpB .geq x y = true) : x ≥ y := by simpa [cmpB] using h
theorem c_geq_f {x y : Int} (h : cmpB .geq x y = false) : x < y := by simpa [cmpB] using h
end Lg
end Go.Proofs.Ytpfhmodjjljpjaa

namespace Go.Proofs.Ytpfhmodjjljpjaa
open Go.RowKit
namespace Lg
set_option linter.unusedSimpArgs false
set_option linter.unusedVariables false
section
variable {P : Program} {d : Nat} {xs ys : Array Value} {f : Field} {fs : List Field} {a b : Value} {r s : Bool} {w : World}
theorem eqf_nil : (Op.eqFields d xs ys []).run P w = .ok true w := by simp [Op.eqFields]
theorem eqf_cons (hn : (f.name == "_") = false) (ha : (part f.type xs f.offset).run P w = .ok a w) (hb : (part f.type ys f.offset).run P w = .ok b w) (he : (Op.equalIn d f.type a b).run P w = .ok r w) (hr : (Op.eqFields d xs ys fs).run P w = .ok s w) : (Op.eqFields d xs ys (f :: fs)).run P w = .ok (r && s) w := by
  have hn' : f.name ≠ "_" := by simpa using hn
  rw [Op.eqFields]
  simp only [if_pos hn', Sem.run_bind, ha, hb, he, Result.andThen_ok]
  cases r
  · simp
  · simpa using hr
theorem eqA_of {t : TypeId} {fs : Array Field} (hu : P.underlying t = some (.struct fs)) (hp : P.stoodInHeld t = false) (h : (Op.eqFields d xs ys fs.toList).run P w = .ok r w) : (Op.equalIn (d + 1) t (.agg xs) (.agg ys)).run P w = .ok r w := by
  have hf : P.fieldsOf t = fs := by simp [Program.fieldsOf, hu]
  rw [run_equalIn_struct (P := P) w d t xs ys (by rw [hf]; exact hu) hp, hf]
  exact h
end
def tacV (t : GTac) : Array Value := #[.int .i64 t.op, .int .i64 t.d, .int .i64 t.a, .int .i64 t.b, .int .i64 t.k, .int .i64 t.base, .int .i64 t.size, .int .u32 t.n]
theorem eqTac_run (d : Nat) (w : World) (x y : GTac) : (Op.equalIn (d + 2) 70 (.agg (tacV x)) (.agg (tacV y))).run Try.prog w = .ok (x.op == y.op && (x.d == y.d && (x.a == y.a && (x.b == y.b && (x.k == y.k && (x.base == y.base && (x.size == y.size && (x.n == y.n && true)))))))) w := by
  unfold tacV
  refine eqA_of Try.underlying70 (by kernel_rfl) ?_
  refine eqf_cons (by rfl) (by go_simp; rfl) (by go_simp; rfl) (by go_simp) ?_
  refine eqf_cons (by rfl) (by go_simp; rfl) (by go_simp; rfl) (by go_simp) ?_
  refine eqf_cons (by rfl) (by go_simp; rfl) (by go_simp; rfl) (by go_simp) ?_
  refine eqf_cons (by rfl) (by go_simp; rfl) (by go_simp; rfl) (by go_simp) ?_
  refine eqf_cons (by rfl) (by go_simp; rfl) (by go_simp; rfl) (by go_simp) ?_
  refine eqf_cons (by rfl) (by go_simp; rfl) (by go_simp; rfl) (by go_simp) ?_
  refine eqf_cons (by rfl) (by go_simp; rfl) (by go_simp; rfl) (by go_simp) ?_
  exact eqf_cons (by rfl) (by go_simp; rfl) (by go_simp; rfl) (by go_simp) eqf_nil
theorem eqTac_b (x y : GTac) : (x.op == y.op && (x.d == y.d && (x.a == y.a && (x.b == y.b && (x.k == y.k && (x.base == y.base && (x.size == y.size && (x.n == y.n && true)))))))) = decide (x = y) := by
  obtain ⟨a, b, c, d, e, f, g, h⟩ := x
  obtain ⟨a', b', c', d', e', f', g', h'⟩ := y
  simp only [GTac.mk.injEq, Bool.and_true]
  by_cases h1 : a = a' <;> by_cases h2 : b = b' <;> by_cases h3 : c = c' <;> by_cases h4 : d = d' <;> by_cases h5 : e = e' <;> by_cases h6 : f = f' <;> by_cases h7 : g = g' <;> by_cases h8 : h = h' <;> simp [h1, h2, h3, h4, h5, h6, h7, h8]
def lvTac (t : GTac) : LV := .agg [.v (.int .i64 t.op), .v (.int .i64 t.d), .v (.int .i64 t.a), .v (.int .i64 t.b), .v (.int .i64 t.k), .v (.int .i64 t.base), .v (.int .i64 t.size), .v (.int .u32 t.n)]
theorem T_pure2 {P : Program} {N b : Nat} {o : Oper} {st : St} {x y : Operand} {op : BinOp} {t t' : TypeId} {lx ly : LV} {v : Value} (ho : o.op = .binOp op t x y t') (hx : st.ev x = some lx) (hy : st.ev y = some ly)
    (h : ∀ (ρ : Nat → Value) w, (do eqGuard op t x y (lx.val ρ) (ly.val ρ); binOp op t (lx.val ρ) (ly.val ρ) : Sem Value).run P w = .ok v w) : T P N o b [] st (.v v) 0 [] :=
  T_pure (fun ρ ev w hev => by
    have h1 := hev x _ (by simp [ho, Op.operands]) hx
    have h2 := hev y _ (by simp [ho, Op.operands]) hy
    have h3 := h ρ w
    simp only [execOp, ho, h1, h2]
    rw [Sem.run_bind, h3]
    rfl) (fun U ρ hU => trivial)
section
variable {N b : Nat} {o : Oper} {st : St}
theorem T_eqTac {x y : Operand} (u v : GTac) {t' : TypeId} (ho : o.op = .binOp .eql 70 x y t') (hx : st.ev x = some (lvTac u)) (hy : st.ev y = some (lvTac v)) : T Try.prog N o b [] st (.v (.bool (decide (u = v)))) 0 [] :=
  T_pure2 ho hx hy (fun ρ w => by
    show (do eqGuard .eql 70 x y (.agg (tacV u)) (.agg (tacV v)); binOp .eql 70 (.agg (tacV u)) (.agg (tacV v)) : Sem Value).run Try.prog w = _
    rw [Sem.run_bind, run_eqGuard_agg _ _ _ _ _ _ _ (by kernel_rfl), Result.andThen_ok, run_eql_struct, eqTac_run, eqTac_b]
    rfl)
theorem T_eqTacN {x y : Operand} (u v : GTac) {t' : TypeId} (ho : o.op = .binOp .neq 70 x y t') (hx : st.ev x = some (lvTac u)) (hy : st.ev y = some (lvTac v)) : T Try.prog N o b [] st (.v (.bool (!decide (u = v)))) 0 [] :=
  T_pure2 ho hx hy (fun ρ w => by
    show (do eqGuard .neq 70 x y (.agg (tacV u)) (.agg (tacV v)); binOp .neq 70 (.agg (tacV u)) (.agg (tacV v)) : Sem Value).run Try.prog w = _
    rw [Sem.run_bind, run_eqGuard_agg _ _ _ _ _ _ _ (by kernel_rfl), Result.andThen_ok, run_neq_struct, eqTac_run, eqTac_b]
    rfl)
theorem T_eqB {x y : Operand} {m n : Bool} {t' : TypeId} (ho : o.op = .binOp .eql 4 x y t') (hx : st.ev x = some (.v (.bool m))) (hy : st.ev y = some (.v (.bool n))) : T Try.prog N o b [] st (.v (.bool (m == n))) 0 [] :=
  T_bin ho hx hy (fun w => by
    have h := run_equalIn_bool' (P := Try.prog) w 9999 4 m n (by kernel_rfl)
    simp [eqGuard, binOp, Op.equal, Op.maxDepth, h, bne])
theorem T_eqBN {x y : Operand} {m n : Bool} {t' : TypeId} (ho : o.op = .binOp .neq 4 x y t') (hx : st.ev x = some (.v (.bool m))) (hy : st.ev y = some (.v (.bool n))) : T Try.prog N o b [] st (.v (.bool (m != n))) 0 [] :=
  T_bin ho hx hy (fun w => by
    have h := run_equalIn_bool' (P := Try.prog) w 9999 4 m n (by kernel_rfl)
    simp [eqGuard, binOp, Op.equal, Op.maxDepth, h, bne])
end
end Lg
end Go.Proofs.Ytpfhmodjjljpjaa

namespace Go.Proofs.Ytpfhmodjjljpjaa
open Go.RowKit
namespace Lg
set_option linter.unusedSimpArgs false
set_option linter.unusedVariables false
theorem ext_getD {α : Type} [Inhabited α] {a b : List α} (hl : a.length = b.length) (h : ∀ i, i < a.length → a.getD i default = b.getD i default) : a = b := by
  refine List.ext_getElem? (fun i => ?_)
  by_cases hi : i < a.length
  · have := h i hi
    simp only [List.getD_eq_getElem?_getD, List.getElem?_eq_getElem hi, List.getElem?_eq_getElem (show i < b.length by omega), Option.getD_some] at this
    rw [List.getElem?_eq_getElem hi, List.getElem?_eq_getElem (show i < b.length by omega), this]
  · rw [List.getElem?_eq_none (by omega), List.getElem?_eq_none (by omega)]
theorem ne_of_getD {α : Type} [Inhabited α] {a b : List α} {i : Nat} (h : ¬ a.getD i default = b.getD i default) : ¬ a = b := fun e => h (by rw [e])
theorem ne_of_len {α : Type} {a b : List α} (h : ¬ (a.length : Int) = (b.length : Int)) : ¬ a = b := fun e => h (by rw [e])
theorem getD_mem {α : Type} [Inhabited α] {a : List α} {i : Nat} (h : i < a.length) : a.getD i default ∈ a := by
  rw [List.getD_eq_getElem?_getD, List.getElem?_eq_getElem h]
  exact List.getElem_mem h
theorem all_iff_getD {α : Type} [Inhabited α] {a : List α} {p : α → Bool} : a.all p = true ↔ ∀ i, i < a.length → p (a.getD i default) = true := by
  rw [List.all_eq_true]
  constructor
  · exact fun h i hi => h _ (getD_mem hi)
  · intro h x hx
    obtain ⟨i, hi, rfl⟩ := List.mem_iff_getElem.1 hx
    have := h i hi
    simpa [List.getD_eq_getElem?_getD, List.getElem?_eq_getElem hi] using this
theorem take_succ_getD {α : Type} [Inhabited α] {a : List α} {i : Nat} (h : i < a.length) : a.take (i + 1) = a.take i ++ [a.getD i default] := by
  rw [List.take_add_one, List.getD_eq_getElem?_getD, List.getElem?_eq_getElem h]
  rfl
def leads (ps : List (List Int)) (n old : Int) : Bool := decide (0 ≤ n) && decide (n < ps.length) && ((ps.getD n.toNat default).getD 0 default == old)
def sumLen {α : Type} (l : List (List α)) : Nat := (l.map List.length).sum
theorem sumLen_take {α : Type} (l : List (List α)) (j : Nat) (h : j < l.length) : sumLen (l.take (j + 1)) = sumLen (l.take j) + (l.getD j default).length := by
  rw [take_succ_getD h]
  simp [sumLen]
theorem sumLen_take_le {α : Type} (l : List (List α)) (j : Nat) : sumLen (l.take j) ≤ sumLen l := by
  have h := congrArg sumLen (List.take_append_drop j l)
  have h2 : sumLen (l.take j ++ l.drop j) = sumLen (l.take j) + sumLen (l.drop j) := by simp only [sumLen, List.map_append, List.sum_append]
  omega
def insOf (f : GFn) : List (List GTac) := f.blocks.map (·.ins)
def few (f : GFn) (blocks most : Int) : Bool := decide ((f.blocks.length : Int) ≤ blocks) && decide ((sumLen (insOf f) : Int) ≤ most)
def outside (f : GFn) (k : Int) : Bool := decide (k < 0) || decide (k ≥ (f.blocks.length : Int))
def fstIdx {α : Type} (q : α → Bool) (p : List α) : Int := match p.findIdx? q with | some i => (i : Int) | none => -1
theorem fstIdx_hit {α : Type} [Inhabited α] (q : α → Bool) (p : List α) {j : Nat} (hj : j < p.length) (h : q (p.getD j default) = true) (hb : ∀ i, i < j → q (p.getD i default) = false) : fstIdx q p = (j : Int) := by
  have : p.findIdx? q = some j := by
    rw [List.findIdx?_eq_some_iff_getElem]
    refine ⟨hj, by simpa [List.getD_eq_getElem?_getD, List.getElem?_eq_getElem hj] using h, fun i hi => ?_⟩
    have := hb i hi
    simpa [List.getD_eq_getElem?_getD, List.getElem?_eq_getElem (show i < p.length by omega)] using this
  simp [fstIdx, this]
theorem fstIdx_none {α : Type} [Inhabited α] (q : α → Bool) (p : List α) (hb : ∀ i, i < p.length → q (p.getD i default) = false) : fstIdx q p = -1 := by
  have : p.findIdx? q = none := by
    rw [List.findIdx?_eq_none_iff]
    intro x hx
    obtain ⟨i, hi, rfl⟩ := List.mem_iff_getElem.1 hx
    have := hb i hi
    simpa [List.getD_eq_getElem?_getD, List.getElem?_eq_getElem hi] using this
  simp [fstIdx, this]
theorem fstIdx_any {α : Type} (q : α → Bool) (p : List α) : decide (fstIdx q p ≥ 0) = p.any q := by
  unfold fstIdx
  cases h : p.findIdx? q with
  | none =>
    rw [List.findIdx?_eq_none_iff] at h
    have : p.any q = false := by rw [List.any_eq_false]; exact fun x hx => by simp [h x hx]
    rw [this]; rfl
  | some i =>
    obtain ⟨hi, h1, _⟩ := List.findIdx?_eq_some_iff_getElem.1 h
    have : p.any q = true := List.any_eq_true.2 ⟨_, List.getElem_mem hi, h1⟩
    rw [this]; simp
def instrs (f : GFn) (p : List Int) : List GTac := (p.map fun k => (f.blocks.getD k.toNat default).ins).flatten
theorem instrs_take (f : GFn) (p : List Int) (j : Nat) (h : j < p.length) : instrs f (p.take (j + 1)) = instrs f (p.take j) ++ (f.blocks.getD (p.getD j default).toNat default).ins := by
  rw [take_succ_getD h]
  simp [instrs]
theorem range_all_true {n : Nat} {q : Nat → Bool} (h : ∀ i, i < n → q i = true) : (List.range n).all q = true := List.all_eq_true.2 (fun i hi => h i (by simpa using hi))
theorem range_all_false {n : Nat} {q : Nat → Bool} {i : Nat} (hi : i < n) (h : q i = false) : (List.range n).all q = false := by
  rw [List.all_eq_false]
  exact ⟨i, by simpa using hi, by simp [h]⟩
def blk (f : GFn) (k : Int) : GBlock := f.blocks.getD k.toNat default
def link (f : GFn) (p : List Int) (i : Nat) : Bool := (blk f (p.getD i default)).fin == 1 && (blk f (p.getD i default)).to == p.getD (i + 1) default
def chainB (f : GFn) (p : List Int) : Bool := (List.range (p.length - 1)).all (link f p)
def lastOf (p : List Int) : Int := p.getD ((p.length : Int) - 1).toNat default
def made (f : GFn) (b : GBlock) (p : List Int) (ps : List (List Int)) : Bool :=
  chainB f p && decide (b.ins = instrs f p) && b.fin == (blk f (lastOf p)).fin && b.v == (blk f (lastOf p)).v &&
  (if (blk f (lastOf p)).fin = 1 then leads ps b.to (blk f (lastOf p)).to && b.els == (blk f (lastOf p)).els
   else if (blk f (lastOf p)).fin = 2 then leads ps b.to (blk f (lastOf p)).to && leads ps b.els (blk f (lastOf p)).els
   else b.to == (blk f (lastOf p)).to && b.els == (blk f (lastOf p)).els)
theorem chain_t {f : GFn} {p : List Int} {j : Nat} (h : ∀ i, i < j → link f p i = true) (hj : p.length - 1 ≤ j) : chainB f p = true := range_all_true (fun i hi => h i (by omega))
theorem made_f {f : GFn} {b : GBlock} {p : List Int} {ps : List (List Int)} {i : Nat} (hi : i < p.length - 1) (h : link f p i = false) : made f b p ps = false := by
  have : chainB f p = false := range_all_false hi h
  simp [made, this]
def okPath (f : GFn) (p : List Int) : Bool := !decide (p.length = 0) && !p.any (outside f)
theorem okPath_t {f : GFn} {p : List Int} (h1 : 1 ≤ p.length) (h2 : p.any (outside f) = false) : okPath f p = true := by simp only [okPath, h2, decide_eq_false (show ¬ p.length = 0 by omega)]; rfl
theorem okPath_len {f : GFn} {p : List Int} (h : okPath f p = true) : 1 ≤ p.length := by
  simp only [okPath, Bool.and_eq_true, Bool.not_eq_true', decide_eq_false_iff_not] at h; omega
theorem okPath_in {f : GFn} {p : List Int} (h : okPath f p = true) (i : Nat) (hi : i < p.length) : 0 ≤ p.getD i default ∧ p.getD i default < (f.blocks.length : Int) := by
  simp only [okPath, Bool.and_eq_true, Bool.not_eq_true', List.any_eq_false] at h
  have := h.2 _ (getD_mem hi)
  simp only [outside, Bool.or_eq_true, decide_eq_true_eq, not_or] at this
  omega
theorem all_false_at {α : Type} [Inhabited α] {q : α → Bool} {l : List α} {i : Nat} (hi : i < l.length) (h : q (l.getD i default) = false) : l.all q = false := by
  rw [List.all_eq_false]
  exact ⟨_, getD_mem hi, by rw [h]; exact Bool.false_ne_true⟩
def tcheck (old new : GFn) (ps : List (List Int)) : Bool :=
  if ¬ (ps.length : Int) = (new.blocks.length : Int) ∨ (ps.length : Int) = 0 ∨ ¬ old.regs = new.regs then false
  else if ps.all (okPath old) = false then false
  else if ¬ (ps.getD 0 default).getD 0 default = 0 then false
  else (List.range ps.length).all fun i => made old (new.blocks.getD i default) (ps.getD i default) ps
end Lg
end Go.Proofs.Ytpfhmodjjljpjaa

namespace Go.Proofs.Ytpfhmodjjljpjaa
open Go.RowKit
namespace Lg
set_option maxRecDepth 100000
set_option linter.unusedVariables false
set_option linter.unusedSimpArgs false
theorem body90 : (Try.prog.funcs[90]?).map (fun fn => (fn.name == "runtime.NumGoroutine" || fn.body.isNone)) = some false := by kernel_rfl
theorem next_spec (f : GFn) (hf : f.blocks.length ≤ 1000000) : Spec Try.prog 90 [.agg [.v (.int .i64 f.regs), .r 1]] 2 [(1, .fz 5 (f.blocks.map eBlock))] (.r 2) 3 [(2, .row 52 1 ((f.blocks.map follows).map eIs))] := by
 refine spec_of D (fn := Try.f90) rfl rfl (Nat.le_of_ble_eq_true rfl) ?_
 refine W_seq ?_
 refine W_seqK (b' := 34) rfl rfl ?_
 refine q1 1 2 1 rfl rfl (T_box rfl rfl flat_agg) rfl ?_
 refine q1 2 18 2 rfl rfl (T_nils [(52, 1)] (T_assign rfl rfl) rfl (.inr ⟨rfl, rfl⟩) (.cons (.nil rfl) .nil) (lv' := .r 18) (upd' := [(18, .row 52 1 (List.map eIs ([] : List (List Int))))]) (nn' := 1) rfl rfl) rfl ?_
 refine k_done rfl ?_
 refine thenK_n ?_
 refine W_seq ?_
 refine W_seqK (b' := 114) rfl rfl ?_
 refine q0 6 34 1 rfl rfl (T_fa D (m := 1) rfl rfl rfl rfl rfl rfl) rfl ?_
 refine q0 7 50 2 rfl rfl (T_load_b D rfl rfl rfl rfl rfl rfl) rfl ?_
 refine q0 8 66 3 rfl rfl (T_len D rfl rfl rfl rfl rfl rfl) rfl ?_
 refine q1 9 82 4 rfl rfl (T_make D (zx := ([] : List Int)) (enc := eIs) rfl rfl rfl rfl rfl rfl rfl (.z (.nil)) rfl (by (try simp only [ty52]); first | assumption | omega | (simp; omega)) (by (try simp only [ty52]); first | assumption | omega | (simp; omega))) rfl ?_
 refine q0 3 98 5 rfl rfl (T_assign rfl rfl) rfl ?_
 refine k_done rfl ?_
 refine thenK_n ?_
 refine W_seq ?_
 refine W_seq ?_
 refine W_seqK (b' := 178) rfl rfl ?_
 refine q0 10 114 1 rfl rfl (T_fa D (m := 1) rfl rfl rfl rfl rfl rfl) rfl ?_
 refine q0 11 130 2 rfl rfl (T_load_b D rfl rfl rfl rfl rfl rfl) rfl ?_
 refine q0 12 146 3 rfl rfl (T_len D rfl rfl rfl rfl rfl rfl) rfl ?_
 refine q0 13 162 4 rfl rfl (T_move rfl rfl) rfl ?_
 refine k_done rfl ?_
 refine thenK_n ?_
 refine W_block ?_
 refine W_loop (ι := Nat) 3 (fun j => ⟨[(3, .r 2), (11, .r 1), (12, .v (.int .i64 (f.blocks.length : Int))), (13, .v (.int .i64 (j : Int)))], [(1, .fz 5 (f.blocks.map eBlock)), (2, .row 52 1 (((f.blocks.take j).map follows ++ List.replicate (f.blocks.length - j) []).map eIs))]⟩) (fun j => j ≤ f.blocks.length) (fun j => f.blocks.length - j) (0) (by exact Nat.zero_le _) ?_ (fun j hJ => ?_)
 ·exact ⟨[(2, 82)], .same rfl rfl (.same rfl rfl (.eq rfl (.eq rfl (.nil) (by first | rfl | simp)) (by first | rfl | simp))), .fzE rfl (.rowE rfl (.nil) (by first | rfl | simp)) (by first | rfl | simp), rfl⟩
 refine W_seq ?_
 refine W_seqK (b' := 19) rfl rfl ?_
 refine q0 14 3 1 rfl rfl (T_cmp rfl rfl rfl rfl) rfl ?_
 refine k_done rfl ?_
 refine thenK_n ?_
 refine W_seq ?_
 refine W_cond rfl (fun g1 => ?_) (fun g1 => ?_)
 ·have h1 := c_lss_t g1
  refine W_skip ?_
  refine thenK_n ?_
  refine W_seq ?_
  refine W_block ?_
  refine W_seq ?_
  refine W_seqK (b' := 115) rfl rfl ?_
  refine q0 15 19 1 rfl rfl (T_move rfl rfl) rfl ?_
  first | refine q0 16 35 2 rfl rfl (T_indexAddr D rfl rfl rfl rfl rfl rfl rfl rfl (by first | assumption | omega | (simp; omega))) rfl ?_ | refine q0 16 35 2 rfl rfl (T_indexAddrZ D rfl rfl rfl rfl rfl rfl rfl rfl (by first | assumption | omega | (simp; omega)) (by first | assumption | omega | (simp; omega))) rfl ?_
  refine q1 17 51 3 rfl rfl (T_ldEA D (l := [.r 51, .v _, .v _, .v _, .v _]) (nn := 1) (upd := [(51, .fz 8 _)]) rfl rfl rfl rfl rfl (by first | assumption | omega | (simp; omega)) rfl rfl rfl rfl rfl) rfl ?_
  refine qn 5 67 4 rfl rfl (T_nilbox [(70, 8)] (T_alloc D rfl rfl rfl) rfl (.cons (.nil rfl) <| .cons (.same _) <| .cons (.same _) <| .cons (.same _) <| .cons (.same _) <| .nil) (upd' := [(67, .box 72 [.r 68, .v (.int .i64 0), .v (.int .i64 0), .v (.int .i64 0), .v (.int .i64 0)]), (68, .row 70 8 (List.map eTac ([] : List (GTac))))]) (nn' := 2) rfl rfl) rfl ?_
  refine q0 4 83 5 rfl rfl (T_assign rfl rfl) rfl ?_
  refine s1 99 6 rfl rfl (T_stB D (cs' := [_, _, _, _, _]) rfl rfl rfl rfl flat_agg rfl rfl (Nat.le_of_ble_eq_true rfl) rfl) rfl ?_
  refine k_done rfl ?_
  refine thenK_n ?_
  refine W_seq ?_
  refine W_seqK (b' := 147) rfl rfl ?_
  refine q0 18 115 1 rfl rfl (T_fa D (m := 1) rfl rfl rfl rfl rfl rfl) rfl ?_
  refine q0 19 131 2 rfl rfl (T_load_b D rfl rfl rfl rfl rfl rfl) rfl ?_
  refine k_done rfl ?_
  refine thenK_n ?_
  refine W_block ?_
  refine W_seq ?_
  refine W_seqK (b' := 179) rfl rfl ?_
  refine q0 21 147 1 rfl rfl (T_cmp rfl rfl rfl rfl) rfl ?_
  refine q0 20 163 2 rfl rfl (T_assign rfl rfl) rfl ?_
  refine k_done rfl ?_
  refine thenK_n ?_
  refine W_cond rfl (fun g2 => ?_) (fun g2 => ?_)
  ·have h2 := c_eql_t g2
   refine W_seqK (b' := 291) rfl rfl ?_
   refine q0 22 179 1 rfl rfl (T_move rfl rfl) rfl ?_
   refine q0 23 195 2 rfl rfl (T_move rfl rfl) rfl ?_
   refine q0 24 211 3 rfl rfl (T_fa D (m := 3) rfl rfl rfl rfl rfl rfl) rfl ?_
   refine q0 25 227 4 rfl rfl (T_load_b D rfl rfl rfl rfl rfl rfl) rfl ?_
   refine q1 26 243 5 rfl rfl (T_bs D (ys := [_]) (enc := eI) (l := [_]) rfl rfl rfl rfl rfl rfl (.cons rfl (flat_v rfl) (.nil)) rfl rfl rfl rfl (.v rfl (.nil)) rfl rfl) rfl ?_
   first | refine q0 27 259 6 rfl rfl (T_indexAddr D rfl rfl rfl rfl rfl rfl rfl rfl (by first | assumption | omega | (simp; omega))) rfl ?_ | refine q0 27 259 6 rfl rfl (T_indexAddrZ D rfl rfl rfl rfl rfl rfl rfl rfl (by first | assumption | omega | (simp; omega)) (by first | assumption | omega | (simp; omega))) rfl ?_
   refine sn 275 7 rfl rfl (T_store_e D (z := _) rfl rfl rfl rfl (flat_sl rfl) rfl rfl (by first | assumption | omega | (simp; omega)) (.row rfl (.nil) rfl) rfl (Nat.le_of_ble_eq_true rfl) rfl) rfl ?_
   refine k_done rfl ?_
   refine blockK_n ?_
   refine blockK_n ?_
   refine thenK_n ?_
   refine W_seqK (b' := 323) rfl rfl ?_
   refine q0 38 291 1 rfl rfl (T_add64 rfl rfl rfl (by first | assumption | omega | (simp; omega))) rfl ?_
   refine q0 13 307 2 rfl rfl (T_move rfl rfl) rfl ?_
   refine k_done rfl ?_
   refine thenK_n ?_
   refine ⟨j + 1, by (try dsimp only); omega, by (try dsimp only); omega, ?_⟩
   exact ⟨[(2, 2)], .same rfl rfl (.same rfl rfl (.eq rfl (.eq rfl (.nil) (by first | rfl | exact congrArg _ (fill_step follows [] f.blocks j _ rfl (by omega) _ (by simp_all [follows])))) rfl)), .fzE rfl (.rowE rfl (.nil) (by first | rfl | exact congrArg _ (fill_step follows [] f.blocks j _ rfl (by omega) _ (by simp_all [follows])))) rfl, rfl⟩
  ·have h2 := c_eql_f g2
   refine W_seq ?_
   refine W_seqK (b' := 211) rfl rfl ?_
   refine q0 29 179 1 rfl rfl (T_cmp rfl rfl rfl rfl) rfl ?_
   refine q0 28 195 2 rfl rfl (T_assign rfl rfl) rfl ?_
   refine k_done rfl ?_
   refine thenK_n ?_
   refine W_cond rfl (fun g3 => ?_) (fun g3 => ?_)
   ·have h3 := c_eql_t g3
    refine W_seqK (b' := 355) rfl rfl ?_
    refine q0 30 211 1 rfl rfl (T_move rfl rfl) rfl ?_
    refine q0 31 227 2 rfl rfl (T_move rfl rfl) rfl ?_
    refine q0 32 243 3 rfl rfl (T_fa D (m := 3) rfl rfl rfl rfl rfl rfl) rfl ?_
    refine q0 33 259 4 rfl rfl (T_load_b D rfl rfl rfl rfl rfl rfl) rfl ?_
    refine q0 34 275 5 rfl rfl (T_fa D (m := 4) rfl rfl rfl rfl rfl rfl) rfl ?_
    refine q0 35 291 6 rfl rfl (T_load_b D rfl rfl rfl rfl rfl rfl) rfl ?_
    refine q1 36 307 7 rfl rfl (T_bs D (ys := [_, _]) (enc := eI) (l := [_, _]) rfl rfl rfl rfl rfl rfl (.cons rfl (flat_v rfl) (.cons rfl (flat_v rfl) (.nil))) rfl rfl rfl rfl (.v rfl (.v rfl (.nil))) rfl rfl) rfl ?_
    first | refine q0 37 323 8 rfl rfl (T_indexAddr D rfl rfl rfl rfl rfl rfl rfl rfl (by first | assumption | omega | (simp; omega))) rfl ?_ | refine q0 37 323 8 rfl rfl (T_indexAddrZ D rfl rfl rfl rfl rfl rfl rfl rfl (by first | assumption | omega | (simp; omega)) (by first | assumption | omega | (simp; omega))) rfl ?_
    refine sn 339 9 rfl rfl (T_store_e D (z := _) rfl rfl rfl rfl (flat_sl rfl) rfl rfl (by first | assumption | omega | (simp; omega)) (.row rfl (.nil) rfl) rfl (Nat.le_of_ble_eq_true rfl) rfl) rfl ?_
    refine k_done rfl ?_
    refine blockK_n ?_
    refine blockK_n ?_
    refine thenK_n ?_
    refine W_seqK (b' := 387) rfl rfl ?_
    refine q0 38 355 1 rfl rfl (T_add64 rfl rfl rfl (by first | assumption | omega | (simp; omega))) rfl ?_
    refine q0 13 371 2 rfl rfl (T_move rfl rfl) rfl ?_
    refine k_done rfl ?_
    refine thenK_n ?_
    refine ⟨j + 1, by (try dsimp only); omega, by (try dsimp only); omega, ?_⟩
    exact ⟨[(2, 2)], .same rfl rfl (.same rfl rfl (.eq rfl (.eq rfl (.nil) (by first | rfl | exact congrArg _ (fill_step follows [] f.blocks j _ rfl (by omega) _ (by simp_all [follows])))) rfl)), .fzE rfl (.rowE rfl (.nil) (by first | rfl | exact congrArg _ (fill_step follows [] f.blocks j _ rfl (by omega) _ (by simp_all [follows])))) rfl, rfl⟩
   ·have h3 := c_eql_f g3
    refine W_skip ?_
    refine blockK_n ?_
    refine blockK_n ?_
    refine thenK_n ?_
    refine W_seqK (b' := 243) rfl rfl ?_
    refine q0 38 211 1 rfl rfl (T_add64 rfl rfl rfl (by first | assumption | omega | (simp; omega))) rfl ?_
    refine q0 13 227 2 rfl rfl (T_move rfl rfl) rfl ?_
    refine k_done rfl ?_
    refine thenK_n ?_
    refine ⟨j + 1, by (try dsimp only); omega, by (try dsimp only); omega, ?_⟩
    exact ⟨[(2, 2)], .same rfl rfl (.same rfl rfl (.eq rfl (.eq rfl (.nil) (by first | rfl | exact congrArg _ (fill_skip follows [] f.blocks j _ rfl (by omega) (by simp_all [follows])))) rfl)), .fzE rfl (.rowE rfl (.nil) (by first | rfl | exact congrArg _ (fill_skip follows [] f.blocks j _ rfl (by omega) (by simp_all [follows])))) rfl, rfl⟩
 ·have h1 := c_lss_f g1
  refine W_exit ?_
  refine thenK_e ?_
  refine thenK_e ?_
  refine blockK_hit ?_
  refine thenK_n ?_
  refine W_seq ?_
  refine W_seqK (b' := 51) rfl rfl ?_
  refine q0 39 19 1 rfl rfl (T_move rfl rfl) rfl ?_
  refine q0 2 35 2 rfl rfl (T_assign rfl rfl) rfl ?_
  refine k_done rfl ?_
  refine thenK_n ?_
  refine W_ret ?_
  exact .mk [(2, 2)] (.inr rfl) (.tmp rfl (.nil)) rfl (.rowE rfl (.nil) (by first | rfl | (have : j = f.blocks.length := by omega); subst this; simp)) rfl
end Lg
end Go.Proofs.Ytpfhmodjjljpjaa

namespace Go.Proofs.Ytpfhmodjjljpjaa
open Go.RowKit
namespace Lg
def FnOk (f : GFn) : Prop := f.blocks.length ≤ 140737488351232 ∧ ∀ b ∈ f.blocks, b.ins.length ≤ 140737488351232
def PsOk (ps : List (List Int)) : Prop := ps.length ≤ 140737488351232 ∧ ∀ p ∈ ps, p.length ≤ 140737488351232
theorem flat_eB {e : Nat} (l : List Bool) : FlatOb (.row e 1 (l.map eB)) := fun r hr cl hc => by
  obtain ⟨x, _, rfl⟩ := List.mem_map.1 hr
  simp [eB] at hc
  exact ⟨_, hc⟩
theorem flat_eI {e : Nat} (l : List Int) : FlatOb (.row e 1 (l.map eI)) := fun r hr cl hc => by
  obtain ⟨x, _, rfl⟩ := List.mem_map.1 hr
  simp [eI] at hc
  exact ⟨_, hc⟩
theorem mem_getD {α : Type} [Inhabited α] {p : List α} {x : α} (h : x ∈ p) : ∃ i, i < p.length ∧ p.getD i default = x := by
  obtain ⟨i, hi, e⟩ := List.mem_iff_getElem.1 h
  exact ⟨i, hi, by rw [List.getD_eq_getElem?_getD, List.getElem?_eq_getElem hi, e]; rfl⟩
def nextL (f : GFn) : List (List Int) := f.blocks.map follows
theorem nextL_length (f : GFn) : (nextL f).length = f.blocks.length := by simp [nextL]
theorem nextL_getD (f : GFn) (i : Nat) : (nextL f).getD i default = follows (f.blocks.getD i default) := by
  unfold nextL
  rw [List.getD_eq_getElem?_getD, List.getElem?_map, List.getD_eq_getElem?_getD]
  cases f.blocks[i]? with
  | none => rfl
  | some b => rfl
theorem follows_le (f : GFn) : ∀ l ∈ nextL f, l.length ≤ 2 := fun l hl => by
  obtain ⟨b, _, rfl⟩ := List.mem_map.1 hl
  unfold follows
  split
  · simp
  · split <;> simp
end Lg
end Go.Proofs.Ytpfhmodjjljpjaa

namespace Go.Proofs.Ytpfhmodjjljpjaa
open Go.RowKit
namespace Lg
theorem fnOk {f : GFn} (h : WFn f) : FnOk f := ⟨by have := h.len; omega, fun b hb => by have := (h.each b hb).len; omega⟩
theorem psOk {l : List (List Int)} (h : WIss l) : PsOk l := ⟨by have := h.len; omega, fun p hp => by have := (h.each p hp).len; omega⟩
end Lg
end Go.Proofs.Ytpfhmodjjljpjaa

namespace Go.Proofs.Ytpfhmodjjljpjaa
open Go.ChangeShapes Go.WideShapes Go.ChangeAt Go.RowKit
namespace Lg
set_option maxRecDepth 100000
theorem one_int (k : IntKind) (x : Int) : (Value.int k x).oneCell' = true := rfl
structure GTwo where
  a : GFn
  b : GFn
  c : GFn
  p : List (List Int)
  q : List (List Int)
structure WTwo (x : GTwo) : Prop where
  a : WFn x.a
  b : WFn x.b
  c : WFn x.c
  p : WIss x.p
  q : WIss x.q
def eTwo (x : GTwo) : List Cell := eFn x.a ++ (eFn x.b ++ (eFn x.c ++ ([.sl 1 (x.p.map eIs)] ++ ([.sl 1 (x.q.map eIs)] ++ []))))
section
variable {H : Type} {enc : TypeId × Value → H} {w : World}
theorem o_two : Opens enc Try.prog w 78 eTwo WTwo :=
  (opens_struct (n := 8) Try.underlying78 (by kernel_rfl) (opensF_cons (k := 2) rfl (by kernel_rfl) o_fn <| opensF_cons (k := 2) rfl (by kernel_rfl) o_fn <| opensF_cons (k := 2) rfl (by kernel_rfl) o_fn <| opensF_cons (k := 1) rfl (by kernel_rfl) o_iss <|
    opensF_cons (k := 1) rfl (by kernel_rfl) o_iss <| opensF_nil rfl)).map
  (fun x h => ⟨⟨x.1, x.2.1, x.2.2.1, x.2.2.2.1, x.2.2.2.2.1⟩, rfl, ⟨h.1, h.2.1, h.2.2.1, h.2.2.2.1, h.2.2.2.2.1⟩⟩)
theorem rd_v {x v : Value} {ok : Nat → Prop} (h : Rd w ok (.v x) v) : v = x := by cases h; rfl
theorem arg_two {r : Reach} {b : Nat} {v : Value} {d : DataW H} {p : List MemPlace} (hv : Value.okWide Try.prog w r b 78 v) (hd : DataW.Trod enc Try.prog w 0 (fun _ => true) true 78 v d p) (hw : (d.weights Try.prog 78).all (· ≤ reachBytes) = true) :
    ∃ (x : GTwo) (s1 s2 s3 s4 s5 : Value), v = .agg #[.int .i64 x.a.regs, s1, .int .i64 x.b.regs, s2, .int .i64 x.c.regs, s3, s4, s5] ∧ Rd w (fun _ => True) (.sl 5 (x.a.blocks.map eBlock)) s1 ∧ Rd w (fun _ => True) (.sl 5 (x.b.blocks.map eBlock)) s2 ∧ Rd w (fun _ => True) (.sl 5 (x.c.blocks.map eBlock)) s3 ∧ Rd w (fun _ => True) (.sl 1 (x.p.map eIs)) s4 ∧ Rd w (fun _ => True) (.sl 1 (x.q.map eIs)) s5 ∧ WTwo x := by
  obtain ⟨x, cs, rfl, h1, h2⟩ := arg_agg o_two (by rw [Try.underlying78]) hv hd hw
  obtain ⟨l⟩ := cs
  match l, h1 with
  | [v1, s1, v2, s2, v3, s3, s4, s5], h1 =>
    obtain ⟨a1, a2, a3, a4, a5, a6, a7, a8, _⟩ := h1
    exact ⟨x, s1, s2, s3, s4, s5, by rw [rd_v a1, rd_v a3, rd_v a5], a2, a4, a6, a7, a8, h2⟩
theorem arg_prog {r : Reach} {b : Nat} {v : Value} {d : DataW H} {p : List MemPlace} (hv : Value.okWide Try.prog w r b 24 v) (hd : DataW.Trod enc Try.prog w 0 (fun _ => true) true 24 v d p) (hw : (d.weights Try.prog 24).all (· ≤ reachBytes) = true) :
    ∃ (x : GProg) (s : Value), v = .agg #[.int .i64 x.words, s] ∧ Rd w (fun _ => True) (.sl 2 (x.funcs.map eFn)) s ∧ WProg x := by
  obtain ⟨x, cs, rfl, h1, h2⟩ := arg_agg o_prog (by rw [Try.underlying24]) hv hd hw
  obtain ⟨l⟩ := cs
  match l, h1 with
  | [v1, s1], h1 =>
    obtain ⟨a1, a2, _⟩ := h1
    exact ⟨x, s1, by rw [rd_v a1], a2, h2⟩
theorem arg_u8 {r : Reach} {b : Nat} {v : Value} {d : DataW H} {p : List MemPlace} (hv : Value.okWide Try.prog w r b 5 v) (hd : DataW.Trod enc Try.prog w 0 (fun _ => true) true 5 v d p) (hw : (d.weights Try.prog 5).all (· ≤ reachBytes) = true) :
    ∃ x : Int, v = .int .u8 x ∧ 0 ≤ x ∧ x < 256 := by
  obtain ⟨n, rfl⟩ := okWide_int Try.underlying5 hv
  obtain ⟨fuel, hf⟩ := hd
  obtain ⟨x, h1, h2⟩ := o_u8 fuel _ d p hf hw
  have h3 := rd_v h1.1
  cases h3
  exact ⟨_, rfl, h2⟩
end
end Lg
end Go.Proofs.Ytpfhmodjjljpjaa

namespace Go.Proofs.Ytpfhmodjjljpjaa
open Go.ChangeShapes Go.WideShapes Go.ChangeAt Go.RowKit
namespace Lg
set_option maxRecDepth 100000
set_option linter.unusedVariables false
section
variable {H : Type} {enc : TypeId × Value → H} {w : World}
theorem arg_u32 {r : Reach} {b : Nat} {v : Value} {d : DataW H} {p : List MemPlace} (hv : Value.okWide Try.prog w r b 68 v) (hd : DataW.Trod enc Try.prog w 0 (fun _ => true) true 68 v d p) (hw : (d.weights Try.prog 68).all (· ≤ reachBytes) = true) :
    ∃ x : Int, v = .int .u32 x ∧ 0 ≤ x ∧ x < 4294967296 := by
  obtain ⟨n, rfl⟩ := okWide_int Try.underlying68 hv
  obtain ⟨fuel, hf⟩ := hd
  obtain ⟨x, h1, h2⟩ := o_u32 fuel _ d p hf hw
  have h3 := rd_v h1.1
  cases h3
  exact ⟨_, rfl, h2⟩
theorem u8_of {x : Int} (h : (Lit.int .u8 x).wf = true) : 0 ≤ x ∧ x < 256 := by
  simp only [Lit.wf, Bool.and_eq_true, decide_eq_true_eq] at h
  have h1 : (0 : Int) ≤ x := h.1
  have h2 : x ≤ (255 : Int) := h.2
  omega
theorem arg_pair {r : Reach} {b : Nat} {v : Value} {d : DataW H} {p : List MemPlace} (hv : Value.okWide Try.prog w r b 53 v) (hd : DataW.Trod enc Try.prog w 0 (fun _ => true) true 53 v d p) :
    ∃ x y : Int, v = .agg #[.int .u8 x, .int .u8 y] ∧ (0 ≤ x ∧ x < 256) ∧ (0 ≤ y ∧ y < 256) := by
  unfold Value.okWide at hv
  rw [Try.underlying53] at hv
  obtain ⟨cs, rfl, hs, _⟩ := hv
  obtain ⟨fuel, hf⟩ := hd
  obtain ⟨xs, m, _, _, hl, hx, he⟩ := DataW.trod_array Try.underlying53 hf
  have hc : Try.prog.cellsOf 5 = 1 := by kernel_rfl
  have hc2 : Try.prog.cellsOf 53 = 2 := by kernel_rfl
  rw [hc2] at hs
  obtain ⟨l⟩ := cs
  match l, hs with
  | [c0, c1], _ =>
    match xs, hx with
    | [a0, a1], _ =>
      have e0 := he 0 (by decide)
      have e1 := he 1 (by decide)
      rw [hc] at e0 e1
      obtain ⟨n0, h0, _, w0⟩ := DataW.trod_int Try.underlying5 (x := a0) e0
      obtain ⟨n1, h1, _, w1⟩ := DataW.trod_int Try.underlying5 (x := a1) e1
      have q0 : [c0] = [Value.int .u8 n0] := h0
      have q1 : [c1] = [Value.int .u8 n1] := h1
      cases q0; cases q1
      exact ⟨n0, n1, rfl, u8_of w0, u8_of w1⟩
end
end Lg
end Go.Proofs.Ytpfhmodjjljpjaa

namespace Go.Proofs.Ytpfhmodjjljpjaa
open Go.RowKit
namespace Lg
set_option linter.unusedSimpArgs false
set_option linter.unusedVariables false
theorem T_conv {N : Nat} {o : Oper} {b : Nat} {st : St} {src dst : TypeId} {x : Operand} {q k : IntKind} {n r : Int} (ho : o.op = .convert src dst x) (hx : st.ev x = some (.v (.int q n))) (hs : (Try.prog.underlying src).isSome = true) (hd : Try.prog.underlying dst = some (.int k)) (hr : k.wrap n = r) : T Try.prog N o b [] st (.v (.int k r)) 0 [] :=
  T_pure (fun ρ ev w hev => by
    have h1 := hev x _ (by simp [ho, Op.operands]) hx
    obtain ⟨d, hd'⟩ := Option.isSome_iff_exists.mp hs
    simp only [execOp, ho, h1, LV.val]
    have h2 : (convert src dst (.int q n)).run Try.prog w = .ok (.int k r) w := by
      simp [convert, run_underlying hd', run_underlying hd, Conv.intToInt, hr]
    rw [Sem.run_bind, h2]
    rfl) (fun U ρ hU => trivial)
theorem T_conv64 {N : Nat} {o : Oper} {b : Nat} {st : St} {src : TypeId} {x : Operand} {q : IntKind} {n : Int} (ho : o.op = .convert src 3 x) (hx : st.ev x = some (.v (.int q n))) (hs : (Try.prog.underlying src).isSome = true) (h : -9223372036854775808 ≤ n ∧ n ≤ 9223372036854775807) : T Try.prog N o b [] st (.v (.int .i64 n)) 0 [] :=
  T_conv ho hx hs Try.underlying3 (wrap_i64 h)
end Lg
end Go.Proofs.Ytpfhmodjjljpjaa

namespace Go.Proofs.Ytpfhmodjjljpjaa
open Go.RowKit
namespace Lg
set_option linter.unusedSimpArgs false
set_option linter.unusedVariables false
section
variable {P : Program} {N : Nat} {o : Oper} {b : Nat} {st : St}
theorem T_nilCheck {x : Operand} {i n : Nat} (ho : o.op = .nilCheck x) (hx : st.ev x = some (.p i n)) : T P N o b [] st (.p i n) 0 [] := by
  intro w0 M U ρ own st' a w hev hp hfr fr hr
  obtain ⟨hv, hu⟩ := fr.eval ((hev x (by simp [ho, Op.operands])).trans hx)
  obtain ⟨ad, had⟩ := hu.2
  have h1 : a.eval x = .pointer (some (ad.add n)) := by rw [hv]; simp [LV.val, ptrOf, had]
  have hrun : (execOp a.eval o).run P w = .ok (.value ((LV.p i n).val ρ)) w := by
    rw [← hv, h1]; simp [execOp, ho, h1]
  exact does_value hrun ⟨ρ, own, rfl, fun _ _ => rfl, ⟨.inl hu.1, ad, had⟩, hr.mono (fun i hi => .inl hi)⟩
theorem T_lenS {x : Operand} {t : Nat} {s : ByteArray} (hu : P.underlying t = some .string) (ho : o.op = .call { callee := .builtin .len, args := #[x], argTypes := #[t] }) (hx : st.ev x = some (.v (.string s))) : T P N o b [] st (.v (.int .i64 (s.size : Int))) 0 [] :=
  T_pure (fun ρ ev w hev => by
    have h1 := hev x _ (by simp [ho, Op.operands, Call.operands]) hx
    simp [execOp, ho, resolve, invoke, builtin, h1, LV.val, Builtin.len_, run_underlying hu, goInt]) (fun _ _ _ => trivial)
def byteAt (s : ByteArray) (j : Int) : Int := match s[j.toNat]? with | some b => (b.toNat : Int) | none => 0
theorem T_ixS {x y : Operand} {t : Nat} {s : ByteArray} {j : Int} (hu : P.underlying t = some .string) (ho : o.op = .index t x y) (hx : st.ev x = some (.v (.string s))) (hy : st.ev y = some (.v (.int .i64 j))) (h : 0 ≤ j ∧ j < (s.size : Int)) : T P N o b [] st (.v (.int .u8 (byteAt s j))) 0 [] :=
  T_pure (fun ρ ev w hev => by
    have h1 := hev x _ (by simp [ho, Op.operands]) hx
    have h2 := hev y _ (by simp [ho, Op.operands]) hy
    have h3 : j.toNat < s.size := by omega
    have h4 : s[j.toNat]? = some s[j.toNat] := by simp [h3]
    simp [execOp, ho, h1, h2, LV.val, Instr.index, asIntOf, run_underlying hu, byteAt, h.1, h4, h3]) (fun _ _ _ => trivial)
theorem wrapU {k : IntKind} {n : Int} (hk : k.signed = false) (h : 0 ≤ n ∧ n < (2 ^ k.bits : Int)) : k.wrap n = n := by
  simp only [IntKind.wrap, hk, Bool.false_and]
  exact Int.emod_eq_of_lt h.1 h.2
theorem wrap_mod {k : IntKind} {n : Int} (hk : k.signed = false) : k.wrap n = n % (2 ^ k.bits : Int) := by simp [IntKind.wrap, hk]
theorem T_addU {t t' : TypeId} {x y : Operand} {k : IntKind} {m n : Int} (ho : o.op = .binOp .add t x y t') (hx : st.ev x = some (.v (.int k m))) (hy : st.ev y = some (.v (.int k n))) (hk : k.signed = false) {top : Int} (ht : (2 ^ k.bits : Int) = top)
    (h : 0 ≤ m + n ∧ m + n < top) : T P N o b [] st (.v (.int k (m + n))) 0 [] := T_arith ho hx hy (.inl ⟨rfl, wrapU hk (ht ▸ h)⟩)
theorem T_subU {t t' : TypeId} {x y : Operand} {k : IntKind} {m n : Int} (ho : o.op = .binOp .sub t x y t') (hx : st.ev x = some (.v (.int k m))) (hy : st.ev y = some (.v (.int k n))) (hk : k.signed = false) {top : Int} (ht : (2 ^ k.bits : Int) = top)
    (h : 0 ≤ m - n ∧ m - n < top) : T P N o b [] st (.v (.int k (m - n))) 0 [] := T_arith ho hx hy (.inr (.inl ⟨rfl, wrapU hk (ht ▸ h)⟩))
theorem T_mulU {t t' : TypeId} {x y : Operand} {k : IntKind} {m n : Int} (ho : o.op = .binOp .mul t x y t') (hx : st.ev x = some (.v (.int k m))) (hy : st.ev y = some (.v (.int k n))) (hk : k.signed = false) {top : Int} (ht : (2 ^ k.bits : Int) = top)
    (h : 0 ≤ m * n ∧ m * n < top) : T P N o b [] st (.v (.int k (m * n))) 0 [] := T_arith ho hx hy (.inr (.inr ⟨rfl, wrapU hk (ht ▸ h)⟩))
theorem T_remU {t t' : TypeId} {x y : Operand} {k : IntKind} {m n : Int} (ho : o.op = .binOp .rem t x y t') (hx : st.ev x = some (.v (.int k m))) (hy : st.ev y = some (.v (.int k n))) 
    (h : 0 ≤ m ∧ 0 < n) : T P N o b [] st (.v (.int k (m % n))) 0 [] := T_bin ho hx hy (fun w => by
      have h0 : ¬ n = 0 := by omega
      simp [eqGuard, binOp, Op.intDiv, h0, Int.tmod_eq_emod_of_nonneg h.1])
theorem T_quoU {t t' : TypeId} {x y : Operand} {k : IntKind} {m n : Int} (ho : o.op = .binOp .quo t x y t') (hx : st.ev x = some (.v (.int k m))) (hy : st.ev y = some (.v (.int k n))) (hk : k.signed = false) {top : Int} (ht : (2 ^ k.bits : Int) = top)
    (h : (0 ≤ m ∧ 0 < n) ∧ m < top) : T P N o b [] st (.v (.int k (m / n))) 0 [] := T_bin ho hx hy (fun w => by
      have h0 : ¬ n = 0 := by omega
      have h1 : k.wrap (m / n) = m / n := wrapU hk ⟨Int.ediv_nonneg h.1.1 (by omega), Int.lt_of_le_of_lt (Int.ediv_le_self _ h.1.1) (ht ▸ h.2)⟩
      simp [eqGuard, binOp, Op.intDiv, h0, Int.tdiv_eq_ediv_of_nonneg h.1.1, h1])
theorem T_convU {o : Oper} {src dst : TypeId} {x : Operand} {q k : IntKind} {n : Int} (ho : o.op = .convert src dst x) (hx : st.ev x = some (.v (.int q n))) (hs : (Try.prog.underlying src).isSome = true) (hd : Try.prog.underlying dst = some (.int k)) (hk : k.signed = false) {top : Int} (ht : (2 ^ k.bits : Int) = top) (h : 0 ≤ n ∧ n < top) : T Try.prog N o b [] st (.v (.int k n)) 0 [] :=
  T_conv ho hx hs hd (wrapU hk (ht ▸ h))
theorem T_convM {o : Oper} {src dst : TypeId} {x : Operand} {q k : IntKind} {n : Int} (ho : o.op = .convert src dst x) (hx : st.ev x = some (.v (.int q n))) (hs : (Try.prog.underlying src).isSome = true) (hd : Try.prog.underlying dst = some (.int k)) (hk : k.signed = false) {top : Int} (ht : (2 ^ k.bits : Int) = top) : T Try.prog N o b [] st (.v (.int k (n % top))) 0 [] :=
  T_conv ho hx hs hd (ht ▸ wrap_mod hk)
theorem T_convS {i : Nat} {xs : List Int} {src dst e : TypeId} {x : Operand} (hs : P.underlying src = some (.slice e)) (he : P.underlying e = some (.int .u8)) (hd : P.underlying dst = some .string) (ho : o.op = .convert src dst x) (hx : st.ev x = some (.r i)) (hob : (st.o.lookup i).bind Ob.rows? = some (1, xs.map eU8)) : T P N o b [i] st (.v (.string (strOfNums xs))) 0 [] := by
  intro w0 M U ρ own st' a w hev hp hfr fr hr
  obtain ⟨hv, hu⟩ := fr.eval ((hev x (by simp [ho, Op.operands])).trans hx)
  obtain ⟨ob, hob1, hob2⟩ := Option.bind_eq_some_iff.1 hob
  obtain ⟨g1, g2, g3⟩ := hr.ob i _ ((hp i (by simp)).trans hob1)
  obtain ⟨A, c, cells, hA, hR, hC, hn⟩ := rows_cells g1 hob2 (by omega)
  rw [List.length_map] at hA
  have hcell : ∀ (q : Nat) (n : Int), xs[q]? = some n → cells[q]? = some (.int .u8 n) := fun q n hq => by
    obtain ⟨_, h2⟩ := hR.each q (eU8 n) (by simp [hq])
    obtain ⟨u, h3, h4⟩ := h2 0 (.v (.int .u8 n)) rfl
    cases h4
    simpa using h3
  have hrun : (convert src dst (ρ i)).run P w = .ok (.string (strOfNums xs)) w := by
    rw [hA]
    cases A with
    | none =>
      have : xs = [] := by simpa using hn rfl
      subst this
      exact run_convert_bytes_nil w src e hs he _ _ dst hd
    | some ad =>
      have hl : (loadCells ad xs.length).run P w = .ok (xs.map (Value.int .u8)).toArray w := by
        have := run_loadCells_list (P := P) w ad (xs.map (Value.int .u8)) (fun j v hj => by
          rw [List.getElem?_map] at hj
          obtain ⟨n, h5, rfl⟩ := Option.map_eq_some_iff.1 hj
          exact hC ad rfl j _ (hcell j n h5))
        simpa using this
      rw [run_convert_bytes_string w src dst e _ _ c hs he hd, run_bytesToString w _ _ c xs hl, foldl_push_bytes]
      simp [strOfNums, ByteArray.empty, ByteArray.emptyWithCapacity]
      rfl
  have hrun2 : (execOp a.eval o).run P w = .ok (.value (.string (strOfNums xs))) w := by
    simp only [execOp, ho, hv, LV.val]
    rw [Sem.run_bind, hrun]
    rfl
  exact does_value hrun2 ⟨ρ, own, rfl, fun _ _ => rfl, trivial, hr.mono (fun i hi => .inl hi)⟩
theorem T_makeZ {x y : Operand} {z : Int} {m : Nat} (hz : z = (m : Int)) (hx : st.ev x = some (.v (.int .i64 z))) (hy : st.ev y = some (.v (.int .i64 z)))
    {lv : LV} {nn : Nat} {upd : List (Nat × Ob)} (h : st.ev x = some (.v (.int .i64 (m : Int))) → st.ev y = some (.v (.int .i64 (m : Int))) → T P N o b [] st lv nn upd) : T P N o b [] st lv nn upd := by
  subst hz
  exact h hx hy
end
end Lg
end Go.Proofs.Ytpfhmodjjljpjaa

namespace Go.Proofs.Ytpfhmodjjljpjaa
open Go.RowKit
namespace Lg
set_option linter.unusedSimpArgs false
set_option linter.unusedVariables false
def sub {α : Type} (xs : List α) (l h : Nat) : List α := (xs.drop l).take (h - l)
theorem sub_map {α β : Type} (f : α → β) (xs : List α) (l h : Nat) : sub (xs.map f) l h = (sub xs l h).map f := by simp [sub, List.map_take, List.map_drop]
theorem sub_at {α : Type} {xs : List α} {l h i : Nat} {x : α} (hx : (sub xs l h)[i]? = some x) : xs[l + i]? = some x := by
  unfold sub at hx
  rw [List.getElem?_take] at hx
  split at hx
  · rwa [List.getElem?_drop] at hx
  · cases hx
theorem sub_length {α : Type} {xs : List α} {l h : Nat} (h1 : l ≤ h) (h2 : h ≤ xs.length) : (sub xs l h).length = h - l := by
  simp [sub]; omega
theorem rd_cap {w : World} {ok : Nat → Prop} {sz : Nat} {rows : List (List Cell)} {A : Option Addr} {n c : Nat} (hr : Rd w ok (.sl sz rows) (.slice A n c)) : n ≤ c := by
  cases hr with
  | sl _ _ _ _ u hc hm hz hn hA hR => exact hc
theorem Rd.subs {w : World} {ok : Nat → Prop} {sz : Nat} {rows : List (List Cell)} {A : Option Addr} {n c : Nat} (hr : Rd w ok (.sl sz rows) (.slice A n c)) {l h m : Nat} (h1 : l ≤ h) (h2 : h ≤ n) (h3 : h ≤ m) :
    Rd w ok (.sl sz (sub rows l h)) (.slice (if m = l then A else A.map (·.add (l * sz))) (h - l) (m - l)) := by
  cases hr with
  | sl _ _ _ _ u hc hm hz hn hA hR =>
    have hlen := sub_length (xs := rows) h1 h2
    have hlen2 : (sub rows l h).length = h - l := hlen
    have hA' : ∀ (i : Nat) (r : List Cell), (sub rows l h)[i]? = some r → ¬ m = l ∧ ∃ a, A = some a := fun i r hi => by
      have h5 : i < h - l := by rw [← hlen2]; exact (List.getElem?_eq_some_iff.1 hi).1
      refine ⟨by omega, hn (fun e => ?_)⟩
      subst e
      simp at h2; omega
    rw [show h - l = (sub rows l h).length from hlen2.symm]
    refine .sl sz _ _ (m - l) (fun i j => u (l + i) j) (by omega) (by omega) (fun r hr => ?_) (fun hne => ?_) (fun i r j cl hi hj => ?_) (fun i r j cl hi hj => ?_)
    · exact hz r (List.mem_of_mem_drop (List.mem_of_mem_take hr))
    · obtain ⟨r, hr⟩ := List.exists_mem_of_ne_nil _ hne
      obtain ⟨i, hi⟩ := List.getElem?_of_mem hr
      obtain ⟨h5, a, rfl⟩ := hA' i r hi
      exact ⟨a.add (l * sz), by simp [h5]⟩
    · obtain ⟨h5, _⟩ := hA' i r hi
      obtain ⟨a, rfl, hok, hcell⟩ := hA (l + i) r j cl (sub_at hi) hj
      refine ⟨a.add (l * sz), by simp [h5], by rw [add_block]; exact hok, ?_⟩
      rw [add_add, show l * sz + (i * sz + j) = (l + i) * sz + j by rw [Nat.add_mul]; omega]
      exact hcell
    · exact hR (l + i) r j cl (sub_at hi) hj
section
variable {P : Program} {N b : Nat} {o : Oper} {st : St} (D : Tab P)
def SlB (P : Program) (n l h : Nat) (lo hi mx : Option Value) : Prop := ∀ (c : Nat) (w : World), n ≤ c → ∃ m, (Instr.sliceBounds true n c lo hi mx).run P w = .ok (l, h, m) w ∧ h ≤ m ∧ m ≤ c
theorem slb_l {n l : Nat} (h : l ≤ n) : SlB P n l n (some (.int .i64 (l : Int))) none none := fun c w hc =>
  ⟨c, by
    have := run_sliceBound (P := P) (w := w) .i64 (l : Int) n .sliceB (by omega) (by omega)
    simp [Instr.sliceBounds, this], by omega, Nat.le_refl _⟩
theorem slb_h {n h : Nat} (hh : h ≤ n) : SlB P n 0 h none (some (.int .i64 (h : Int))) none := fun c w hc =>
  ⟨c, by
    have := run_sliceBound (P := P) (w := w) .i64 (h : Int) c .sliceAcap (by omega) (by omega)
    simp [Instr.sliceBounds, this], by omega, Nat.le_refl _⟩
theorem slb_lh {n l h : Nat} (h1 : l ≤ h) (hh : h ≤ n) : SlB P n l h (some (.int .i64 (l : Int))) (some (.int .i64 (h : Int))) none := fun c w hc =>
  ⟨c, by
    have h2 := run_sliceBound (P := P) (w := w) .i64 (h : Int) c .sliceAcap (by omega) (by omega)
    have h3 := run_sliceBound (P := P) (w := w) .i64 (l : Int) h .sliceB (by omega) (by omega)
    simp [Instr.sliceBounds, h2, h3], by omega, Nat.le_refl _⟩
theorem slb_hm {n h m : Nat} (hh : h ≤ m) (hm : m ≤ n) : SlB P n 0 h none (some (.int .i64 (h : Int))) (some (.int .i64 (m : Int))) := fun c w hc =>
  ⟨m, by
    have h2 := run_sliceBound (P := P) (w := w) .i64 (m : Int) c .slice3Acap (by omega) (by omega)
    have h3 := run_sliceBound (P := P) (w := w) .i64 (h : Int) m .slice3B (by omega) (by omega)
    simp [Instr.sliceBounds, h2, h3], hh, by omega⟩
theorem run_sl {t : Nat} {ty ety : TyI} (hg : Good P t ty) (he0 : ty.elem ≠ 0) (he : Good P ty.elem ety) {A : Option Addr} {n c l h m : Nat} {lo hi mx : Option Value} {w : World} (hb : (Instr.sliceBounds true n c lo hi mx).run P w = .ok (l, h, m) w) :
    (Instr.sliceAt t (.slice A n c) lo hi mx).run P w = .ok (.slice (if m = l then A else A.map (·.add (l * ety.size))) (h - l) (m - l)) w := by
  have hu := hg.sl he0
  simp only [Instr.sliceAt, Sem.run_bind, run_underlying hu, Result.andThen_ok, Instr.slice, hb, he.sizeOf w, Sem.run_pure]
theorem run_slice_op {t : Nat} {x : Operand} {lo hi mx : Option Operand} {ev : Operand → Value} {w : World} {v : Value} (ho : o.op = .slice t x lo hi mx) (h : (Instr.sliceAt t (ev x) (lo.map ev) (hi.map ev) (mx.map ev)).run P w = .ok v w) : (execOp ev o).run P w = .ok (.value v) w := by
  simp only [execOp, ho]
  rw [Sem.run_bind, h]
  rfl
def oev (st : St) : Option Operand → Option (Option LV)
  | none => some none
  | some y => (st.ev y).map some
theorem opt_eval {N : Nat} {U : Nat → Prop} {ρ : Nat → Value} {st st' : St} {a : Act} (fr : FR N U ρ st'.s a) {x : Option Operand} {v : Option Value} (hx : ∀ y, x = some y → st'.ev y = st.ev y) (h : oev st x = some (v.map LV.v)) : x.map a.eval = v := by
  cases x with
  | none => cases v with
    | none => rfl
    | some v => simp [oev] at h
  | some y =>
    cases v with
    | none => simp [oev] at h
    | some v =>
      simp only [oev, Option.map_some, Option.map_eq_some_iff] at h
      obtain ⟨lv, h1, h2⟩ := h
      cases h2
      have := (fr.eval ((hx y rfl).trans h1)).1
      simp [this, LV.val]
theorem T_slF {α : Type} {enc : α → List Cell} {xs : List α} {t i sz l h : Nat} {x : Operand} {lo hi mx : Option Operand} {vl vh vm : Option Value} {ty ety : TyI} (ho : o.op = .slice t x lo hi mx) (hx : st.ev x = some (.r i)) (hob : st.o.lookup i = some (.fz sz (xs.map enc))) (hlo : oev st lo = some (vl.map .v)) (hhi : oev st hi = some (vh.map .v)) (hmx : oev st mx = some (vm.map .v))
    (hi' : D.get t = some ty) (he0 : (ty.elem == 0) = false) (he : D.get ty.elem = some ety) (hs : ety.size = sz) (h1 : l ≤ h) (h2 : h ≤ xs.length) (hb : SlB P xs.length l h vl vh vm) :
    T P N o b [i] st (.r b) 1 [(b, .fz sz ((sub xs l h).map enc))] := by
  intro w0 M U ρ own st' a w hev hp hfrs fr hr
  obtain ⟨hv, hu⟩ := fr.eval ((hev x (by simp [ho, Op.operands])).trans hx)
  have e1 := opt_eval (st := st) fr (x := lo) (fun y hy => hev y (by simp [ho, Op.operands, hy])) hlo
  have e2 := opt_eval (st := st) fr (x := hi) (fun y hy => hev y (by simp [ho, Op.operands, hy])) hhi
  have e3 := opt_eval (st := st) fr (x := mx) (fun y hy => hev y (by simp [ho, Op.operands, hy])) hmx
  obtain ⟨g1, g2, g3⟩ := hr.ob i _ ((hp i (by simp)).trans hob)
  obtain ⟨A, c, hA⟩ := fz_slice g1
  have g1' : Rd w (fun k => own k = none) (.sl sz (xs.map enc)) (ρ i) := g1
  rw [hA] at g1'
  have hlen : (xs.map enc).length = xs.length := by simp
  have hcap : xs.length ≤ c := by
    rw [← hlen]; exact rd_cap g1'
  obtain ⟨m, hm, hm1, hm2⟩ := hb c w hcap
  have hrun := run_slice_op (P := P) (ev := a.eval) (w := w) ho (v := .slice (if m = l then A else A.map (·.add (l * ety.size))) (h - l) (m - l)) (by
    rw [e1, e2, e3, hv]
    simp only [LV.val, hA, hlen]
    exact run_sl (D.ok t ty hi') (by simpa using he0) (D.ok _ ety he) hm)
  have hnew : Rd w (fun k => own k = none) (.sl sz ((sub xs l h).map enc)) (.slice (if m = l then A else A.map (·.add (l * ety.size))) (h - l) (m - l)) := by
    rw [hs, ← sub_map]
    exact g1'.subs h1 (by omega) hm1
  have hb' : ¬ U b := hfrs b (Nat.le_refl _) (by omega)
  exact does_value hrun ⟨upd1 ρ b _, own, by simp [LV.val, upd1_same], fun i hi => upd1_other _ _ (fun e => hb' (e ▸ hi)), .inr ⟨Nat.le_refl _, by omega⟩, hr.addFz b hb' hnew⟩
theorem T_slR {α : Type} {enc : α → List Cell} {xs : List α} {t i e sz l h : Nat} {x : Operand} {lo hi mx : Option Operand} {vl vh vm : Option Value} {ty ety : TyI} (ho : o.op = .slice t x lo hi mx) (hx : st.ev x = some (.r i)) (hob : st.o.lookup i = some (.row e sz (xs.map enc))) (hlo : oev st lo = some (vl.map .v)) (hhi : oev st hi = some (vh.map .v)) (hmx : oev st mx = some (vm.map .v))
    (hi' : D.get t = some ty) (he0 : (ty.elem == 0) = false) (he : D.get ty.elem = some ety) (hs : ety.size = sz) (h1 : l ≤ h) (h2 : h ≤ xs.length) (hb : SlB P xs.length l h vl vh vm) :
    T P N o b [i] st (.r b) 1 [(b, .fz sz ((sub xs l h).map enc)), (i, .fz sz (xs.map enc))] := by
  intro w0 M U ρ own st' a w hev hp hfrs fr hr
  obtain ⟨hv, hu⟩ := fr.eval ((hev x (by simp [ho, Op.operands])).trans hx)
  have e1 := opt_eval (st := st) fr (x := lo) (fun y hy => hev y (by simp [ho, Op.operands, hy])) hlo
  have e2 := opt_eval (st := st) fr (x := hi) (fun y hy => hev y (by simp [ho, Op.operands, hy])) hhi
  have e3 := opt_eval (st := st) fr (x := mx) (fun y hy => hev y (by simp [ho, Op.operands, hy])) hmx
  have hfz := hr.freeze ((hp i (by simp)).trans hob)
  obtain ⟨g1, g2, g3⟩ := hfz.ob i (.fz sz (xs.map enc)) (by simp)
  obtain ⟨A, c, hA⟩ := fz_slice g1
  have g1' : Rd w (fun k => thaw own i k = none) (.sl sz (xs.map enc)) (ρ i) := g1
  rw [hA] at g1'
  have hlen : (xs.map enc).length = xs.length := by simp
  have hcap : xs.length ≤ c := by
    rw [← hlen]; exact rd_cap g1'
  obtain ⟨m, hm, hm1, hm2⟩ := hb c w hcap
  have hrun := run_slice_op (P := P) (ev := a.eval) (w := w) ho (v := .slice (if m = l then A else A.map (·.add (l * ety.size))) (h - l) (m - l)) (by
    rw [e1, e2, e3, hv]
    simp only [LV.val, hA, hlen]
    exact run_sl (D.ok t ty hi') (by simpa using he0) (D.ok _ ety he) hm)
  have hnew : Rd w (fun k => thaw own i k = none) (.sl sz ((sub xs l h).map enc)) (.slice (if m = l then A else A.map (·.add (l * ety.size))) (h - l) (m - l)) := by
    rw [hs, ← sub_map]
    exact g1'.subs h1 (by omega) hm1
  have hb' : ¬ U b := hfrs b (Nat.le_refl _) (by omega)
  exact does_value hrun ⟨upd1 ρ b _, thaw own i, by simp [LV.val, upd1_same], fun i hi => upd1_other _ _ (fun e => hb' (e ▸ hi)), .inr ⟨Nat.le_refl _, by omega⟩, hfz.addFz b hb' hnew⟩
end
theorem sub_getD {α : Type} [Inhabited α] {xs : List α} {l h i : Nat} (hi : i < (sub xs l h).length) : (sub xs l h).getD i default = xs.getD (l + i) default := by
  have h1 := sub_at (xs := xs) (l := l) (h := h) (i := i) (List.getElem?_eq_getElem hi)
  rw [List.getD_eq_getElem?_getD, List.getD_eq_getElem?_getD, List.getElem?_eq_getElem hi, h1]
theorem sub1_length {α : Type} {xs : List α} (h : 1 ≤ xs.length) : (sub xs 1 xs.length).length = xs.length - 1 := sub_length h (Nat.le_refl _)
end Lg
end Go.Proofs.Ytpfhmodjjljpjaa

namespace Go.Proofs.Ytpfhmodjjljpjaa
open Go.RowKit
namespace Lg
set_option linter.unusedSimpArgs false
set_option linter.unusedVariables false
def isW (x : Int) : Prop := 0 ≤ x ∧ x < 4294967296
def flagU (c : Bool) : Int := if c then 1 else 0
def bitsR : Nat → Int → List Int
  | 0, _ => []
  | n + 1, a => (a % 2) :: bitsR n (a / 2)
def ofR : List Int → Int
  | [] => 0
  | b :: l => 2 * ofR l + b
def bothBit (op x y : Int) : Int := if (x + y = 2 ∧ op ≠ 11) ∨ (x + y = 1 ∧ op ≠ 9) then 1 else 0
def bothL (op : Int) (x y : List Int) : List Int := List.zipWith (bothBit op) x y
def bothU (op a b : Int) : Int := ofR (bothL op (bitsR 32 a) (bitsR 32 b)) % 4294967296
def shiftN (op : Int) : Nat → Int → Int
  | 0, n => n
  | k + 1, n => shiftN op k (if op = 12 then 2 * n % 4294967296 else n / 2)
def shiftU (op a b : Int) : Int := if b ≥ 32 then 0 else shiftN op b.toNat a
def appV (op a b : Int) : Int :=
  if op = 4 then (a + b) % 4294967296 else if op = 5 then (a + 4294967296 - b) % 4294967296 else if op = 6 then (a * b) % 4294967296
  else if op = 7 then (if b = 0 then 0 else a / b) else if op = 8 then (if b = 0 then 0 else a % b)
  else if op = 9 ∨ op = 10 ∨ op = 11 then bothU op a b else if op = 12 ∨ op = 13 then shiftU op a b
  else if op = 14 then flagU (decide (a < b)) else if op = 15 then flagU (decide (a = b)) else 0
def appE (op b : Int) : Int := if (op = 7 ∨ op = 8) ∧ b = 0 then 14 else if 4 ≤ op ∧ op ≤ 15 then 0 else 1
theorem bitsR_len : ∀ (n : Nat) (a : Int), (bitsR n a).length = n
  | 0, _ => rfl
  | n + 1, a => by simp [bitsR, bitsR_len n]
theorem bitsR_bit : ∀ (n : Nat) (a : Int), ∀ x ∈ bitsR n a, x = 0 ∨ x = 1
  | 0, _, x, h => by cases h
  | n + 1, a, x, h => by
    rcases List.mem_cons.1 h with rfl | h
    · omega
    · exact bitsR_bit n _ x h
theorem bothBit_bit (op x y : Int) : bothBit op x y = 0 ∨ bothBit op x y = 1 := by
  unfold bothBit; split <;> simp
theorem bothL_bit {op : Int} {x y : List Int} : ∀ z ∈ bothL op x y, z = 0 ∨ z = 1 := fun z hz => by
  unfold bothL at hz
  obtain ⟨i, hi, rfl⟩ := List.getElem_of_mem hz
  simp only [List.getElem_zipWith]
  exact bothBit_bit _ _ _
theorem ofR_bd : ∀ (l : List Int), (∀ x ∈ l, x = 0 ∨ x = 1) → 0 ≤ ofR l ∧ ofR l < 2 ^ l.length
  | [], _ => by simp [ofR]
  | b :: l, h => by
    obtain ⟨h1, h2⟩ := ofR_bd l (fun x hx => h x (List.mem_cons_of_mem _ hx))
    have h3 := h b (by simp)
    simp only [ofR, List.length_cons, Int.pow_succ]
    omega
theorem ofR_drop {l : List Int} {j : Nat} (h : j < l.length) : ofR (l.drop j) = 2 * ofR (l.drop (j + 1)) + l.getD j default := by
  rw [List.drop_eq_getElem_cons h]
  simp [ofR, List.getD, h]
theorem ofR_bd32 {l : List Int} (hb : ∀ x ∈ l, x = 0 ∨ x = 1) (hl : l.length ≤ 32) (j : Nat) : 0 ≤ ofR (l.drop j) ∧ ofR (l.drop j) < 4294967296 := by
  obtain ⟨h1, h2⟩ := ofR_bd (l.drop j) (fun x hx => hb x (List.mem_of_mem_drop hx))
  refine ⟨h1, Int.lt_of_lt_of_le h2 ?_⟩
  have h3 : (l.drop j).length ≤ 32 := by simp; omega
  have h4 : (2 : Int) ^ (l.drop j).length ≤ 2 ^ 32 := by exact_mod_cast Nat.pow_le_pow_right (by omega) h3
  simpa using h4
theorem mul_bd {a b : Int} (ha : isW a) (hb : isW b) : 0 ≤ a * b ∧ a * b < 18446744073709551616 := by
  obtain ⟨a1, a2⟩ := ha
  obtain ⟨b1, b2⟩ := hb
  refine ⟨Int.mul_nonneg a1 b1, ?_⟩
  have h : a * b ≤ 4294967295 * 4294967295 := Int.mul_le_mul (by omega) (by omega) b1 (by omega)
  omega
theorem div_bd {a b : Int} (ha : isW a) (hb : isW b) : 0 ≤ a / b ∧ a / b < 4294967296 :=
  ⟨Int.ediv_nonneg ha.1 hb.1, Int.lt_of_le_of_lt (Int.ediv_le_self _ ha.1) ha.2⟩
theorem mod_bd {a b : Int} (ha : isW a) (hb : isW b) (h : b ≠ 0) : 0 ≤ a % b ∧ a % b < 4294967296 :=
  ⟨Int.emod_nonneg _ h, by have := Int.emod_lt_of_pos a (show 0 < b by have := hb.1; omega); have := hb.2; omega⟩
theorem shiftN_isW {op : Int} : ∀ (k : Nat) (n : Int), isW n → isW (shiftN op k n)
  | 0, n, h => h
  | k + 1, n, h => by
    refine shiftN_isW k _ ?_
    obtain ⟨h1, h2⟩ := h
    split <;> constructor <;> omega
theorem appV_isW {op a b : Int} (ha : isW a) (hb : isW b) : isW (appV op a b) := by
  have hz : isW 0 := ⟨by omega, by omega⟩
  have hf : ∀ c, isW (flagU c) := fun c => by cases c <;> constructor <;> decide
  have hm : ∀ x : Int, isW (x % 4294967296) := fun x => ⟨by omega, by omega⟩
  unfold appV
  by_cases h4 : op = 4
  · rw [if_pos h4]; exact hm _
  rw [if_neg h4]
  by_cases h5 : op = 5
  · rw [if_pos h5]; exact hm _
  rw [if_neg h5]
  by_cases h6 : op = 6
  · rw [if_pos h6]; exact hm _
  rw [if_neg h6]
  by_cases h7 : op = 7
  · rw [if_pos h7]; by_cases hb0 : b = 0
    · rw [if_pos hb0]; exact hz
    · rw [if_neg hb0]; exact div_bd ha hb
  rw [if_neg h7]
  by_cases h8 : op = 8
  · rw [if_pos h8]; by_cases hb0 : b = 0
    · rw [if_pos hb0]; exact hz
    · rw [if_neg hb0]; exact mod_bd ha hb hb0
  rw [if_neg h8]
  by_cases h9 : op = 9 ∨ op = 10 ∨ op = 11
  · rw [if_pos h9]; exact hm _
  rw [if_neg h9]
  by_cases h12 : op = 12 ∨ op = 13
  · rw [if_pos h12]; unfold shiftU
    by_cases h32 : b ≥ 32
    · rw [if_pos h32]; exact hz
    · rw [if_neg h32]; exact shiftN_isW _ _ ha
  rw [if_neg h12]
  by_cases h14 : op = 14
  · rw [if_pos h14]; exact hf _
  rw [if_neg h14]
  by_cases h15 : op = 15
  · rw [if_pos h15]; exact hf _
  rw [if_neg h15]
  exact hz
theorem bits_fin {n : Nat} {acc L : List Int} {y : Int} (h0 : n ≤ 32) (h1 : 32 ≤ (n : Int)) (h : acc ++ bitsR (32 - n) y = L) : L = acc := by
  have e : n = 32 := by omega
  subst e
  rw [← h]
  exact List.append_nil _
def mixB (op : Int) (x y : List Int) (j : Nat) : List Int := (bothL op x y).take j ++ x.drop j
section
variable {op : Int} {x y : List Int} {j : Nat}
theorem bothL_len (hx : x.length = 32) (hy : y.length = 32) : (bothL op x y).length = 32 := by simp [bothL, hx, hy]
theorem mixB_len (hx : x.length = 32) (hy : y.length = 32) (hj : j ≤ 32) : (mixB op x y j).length = 32 := by
  have := bothL_len (op := op) hx hy
  simp [mixB, hx, this]; omega
theorem mixB_get (hx : x.length = 32) (hy : y.length = 32) (hj : j < 32) : (mixB op x y j).getD j default = x.getD j default := by
  have := bothL_len (op := op) hx hy
  have h1 : ((bothL op x y).take j).length = j := by simp [this]; omega
  simp only [mixB, List.getD]
  rw [List.getElem?_append_right (by omega), h1]
  simp
theorem mixB_set (hx : x.length = 32) (hy : y.length = 32) (hj : j < 32) {v : Int} (hv : v = bothBit op (x.getD j default) (y.getD j default)) : (mixB op x y j).set j v = mixB op x y (j + 1) := by
  have hl := bothL_len (op := op) hx hy
  apply List.ext_getElem?
  intro i
  rw [List.getElem?_set]
  have hm := mixB_len (op := op) (j := j) hx hy (by omega)
  by_cases hi : j = i
  · subst hi
    rw [if_pos rfl, if_pos (by omega)]
    simp only [mixB]
    rw [List.getElem?_append_left (by simp [hl]; omega), List.getElem?_take, if_pos (by omega), hv]
    simp [bothL, List.getElem?_zipWith, List.getD, show j < x.length by omega, show j < y.length by omega]
  · rw [if_neg hi]
    simp only [mixB]
    by_cases h2 : i < j
    · rw [List.getElem?_append_left (by simp [hl]; omega), List.getElem?_append_left (by simp [hl]; omega), List.getElem?_take, List.getElem?_take, if_pos h2, if_pos (by omega)]
    · rw [List.getElem?_append_right (by simp [hl]; omega), List.getElem?_append_right (by simp [hl]; omega)]
      simp only [List.getElem?_drop, List.length_take, hl]
      congr 1
      omega
theorem mixB_end (hx : x.length = 32) (hy : y.length = 32) (hj : j = 32) : mixB op x y j = bothL op x y := by
  subst hj
  rw [mixB, List.take_of_length_le (by rw [bothL_len hx hy]; omega), List.drop_of_length_le (by omega), List.append_nil]
theorem bb_one {op a b : Int} (h : (a + b = 2 ∧ op ≠ 11) ∨ (a + b = 1 ∧ op ≠ 9)) : 1 = bothBit op a b := by unfold bothBit; rw [if_pos h]
theorem bb_zero {op a b : Int} (h : ¬ ((a + b = 2 ∧ op ≠ 11) ∨ (a + b = 1 ∧ op ≠ 9))) : 0 = bothBit op a b := by unfold bothBit; rw [if_neg h]
theorem mix_one (hx : x.length = 32) (hy : y.length = 32) (hj : j < 32) (h : ((mixB op x y j).getD j default + y.getD j default = 2 ∧ op ≠ 11) ∨ ((mixB op x y j).getD j default + y.getD j default = 1 ∧ op ≠ 9)) : ((mixB op x y j).set j 0).set j 1 = mixB op x y (j + 1) := by
  rw [List.set_set]
  rw [mixB_get hx hy hj] at h
  exact mixB_set hx hy hj (bb_one h)
theorem mix_zero (hx : x.length = 32) (hy : y.length = 32) (hj : j < 32) (h : ¬ (((mixB op x y j).getD j default + y.getD j default = 2 ∧ op ≠ 11) ∨ ((mixB op x y j).getD j default + y.getD j default = 1 ∧ op ≠ 9))) : (mixB op x y j).set j 0 = mixB op x y (j + 1) := by
  rw [mixB_get hx hy hj] at h
  exact mixB_set hx hy hj (bb_zero h)
theorem mix_bd (hx : x.length = 32) (hy : y.length = 32) (hj : j < 32) (hbx : ∀ z ∈ x, z = 0 ∨ z = 1) (hby : ∀ z ∈ y, z = 0 ∨ z = 1) : (0 ≤ (mixB op x y j).getD j default ∧ (mixB op x y j).getD j default ≤ 1) ∧ 0 ≤ y.getD j default ∧ y.getD j default ≤ 1 := by
  rw [mixB_get hx hy hj]
  have h1 := hbx (x.getD j default) (getD_mem (by omega))
  have h2 := hby (y.getD j default) (getD_mem (by omega))
  omega
end
theorem shift_hi {op a b : Int} (h : b ≥ 32) : shiftU op a b = 0 := by unfold shiftU; rw [if_pos h]
theorem shift_lo {op a b y : Int} {n : Nat} (h : b < 32) (hn : (n : Int) ≤ b) (hn2 : b ≤ (n : Int)) (he : shiftN op (b.toNat - n) y = shiftN op b.toNat a) : shiftU op a b = y := by
  unfold shiftU
  rw [if_neg (by omega), ← he, show b.toNat - n = 0 by omega]
  rfl
theorem app_end {σ : Nat → Nat} {op a b x e : Int} (h1 : appV op a b = x) (h2 : appE op b = e) : resLV [.v (.int .u32 x), .v (.int .i64 e)] = LV.ren σ (.tup [.v (.int .u32 (appV op a b)), .v (.int .i64 (appE op b))]) := by subst h1 h2; rfl
end Lg
end Go.Proofs.Ytpfhmodjjljpjaa

namespace Go.Proofs.Ytpfhmodjjljpjaa
open Go.RowKit
namespace Lg
theorem T_eqTac8 {N : Nat} {o : Oper} {b : Nat} {st : St} {x y : Operand} (u : GTac) {v1 v2 v3 v4 v5 v6 v7 v8 : Int} {t' : TypeId} (ho : o.op = .binOp .eql 70 x y t') (hx : st.ev x = some (lvTac u))
    (hy : st.ev y = some (.agg [.v (.int .i64 v1), .v (.int .i64 v2), .v (.int .i64 v3), .v (.int .i64 v4), .v (.int .i64 v5), .v (.int .i64 v6), .v (.int .i64 v7), .v (.int .u32 v8)])) : T Try.prog N o b [] st (.v (.bool (decide (u = ⟨v1, v2, v3, v4, v5, v6, v7, v8⟩)))) 0 [] :=
  T_eqTac u ⟨v1, v2, v3, v4, v5, v6, v7, v8⟩ ho hx hy
def withinB (i n : Int) : Bool := decide (0 ≤ i) && decide (i < n)
def setsOp (op : Int) : Bool := decide (op = 1 ∨ op = 2 ∨ op = 3 ∨ op = 4 ∨ op = 6 ∨ op = 8)
def setsT (t : GTac) : Int := if setsOp t.op = true then t.d else -1
def usesT (t : GTac) : List Int := if t.op = 2 ∨ t.op = 5 ∨ t.op = 6 ∨ t.op = 9 then [t.a] else if t.op = 3 ∨ t.op = 7 then [t.a, t.b] else []
def wantT (t : GTac) : GTac :=
  ⟨t.op, if setsOp t.op = true then t.d else 0, if 0 < (usesT t).length then t.a else 0, if 1 < (usesT t).length then t.b else 0, if t.op = 3 then t.k else 0, if t.op = 4 ∨ t.op = 5 ∨ t.op = 6 ∨ t.op = 7 ∨ t.op = 10 then t.base else 0, if t.op = 6 ∨ t.op = 7 then t.size else 0, if t.op = 1 then t.n else 0⟩
def FitsP (t : GTac) (f regs words : Int) : Prop :=
  (1 ≤ t.op ∧ t.op ≤ 10) ∧ (setsOp t.op = true → withinB t.d regs = true) ∧ (∀ u ∈ usesT t, withinB u regs = true) ∧ (t.op = 3 → 4 ≤ t.k ∧ t.k ≤ 15) ∧ (t.op = 4 ∨ t.op = 5 → withinB t.base words = true) ∧
  (t.op = 6 ∨ t.op = 7 → 1 ≤ t.size ∧ t.size ≤ 4096 ∧ 0 ≤ t.base ∧ t.base ≤ words - t.size) ∧ (t.op = 10 → withinB t.base f = true) ∧ t = wantT t
instance (t : GTac) (f regs words : Int) : Decidable (FitsP t f regs words) := by unfold FitsP; infer_instance
def fitsB (t : GTac) (f regs words : Int) : Bool := decide (FitsP t f regs words)
def endsB (b : GBlock) (blocks regs : Int) : Bool :=
  if b.fin = 1 then withinB b.to blocks && (b.v == 0) && (b.els == 0)
  else if b.fin = 2 then withinB b.to blocks && withinB b.els blocks && withinB b.v regs
  else (b.fin == 3) && (b.v == 0) && (b.to == 0) && (b.els == 0)
def blockB (b : GBlock) (blocks number regs words : Int) : Bool := endsB b blocks regs && b.ins.all (fun t => fitsB t number regs words)
def oneB (f : GFn) (number words : Int) : Bool := decide (0 ≤ f.regs ∧ f.regs ≤ 4000 ∧ f.blocks ≠ []) && f.blocks.all (fun b => blockB b f.blocks.length number f.regs words)
def rightB (p : GProg) : Bool := decide (0 ≤ p.words ∧ p.words ≤ 1048576 ∧ p.funcs ≠ []) && (List.range p.funcs.length).all (fun i => oneB (p.funcs.getD i default) (i : Int) p.words)
theorem setsOp_t {op : Int} (h : op = 1 ∨ op = 2 ∨ op = 3 ∨ op = 4 ∨ op = 6 ∨ op = 8) : setsOp op = true := decide_eq_true h
theorem setsOp_f {op : Int} (h : ¬ (op = 1 ∨ op = 2 ∨ op = 3 ∨ op = 4 ∨ op = 6 ∨ op = 8)) : setsOp op = false := decide_eq_false h
theorem setsT_ge {t : GTac} (h : setsT t ≥ 0) : setsOp t.op = true := by
  unfold setsT at h
  split at h
  · assumption
  · omega
theorem fits_fin {t : GTac} {f regs words k base size n : Int} (h : (1 ≤ t.op ∧ t.op ≤ 10) ∧ (setsOp t.op = true → withinB t.d regs = true) ∧ (∀ u ∈ usesT t, withinB u regs = true)) (h3 : t.op = 3 → 4 ≤ t.k ∧ t.k ≤ 15) (h4 : t.op = 4 ∨ t.op = 5 → withinB t.base words = true)
    (h6 : t.op = 6 ∨ t.op = 7 → 1 ≤ t.size ∧ t.size ≤ 4096 ∧ 0 ≤ t.base ∧ t.base ≤ words - t.size) (h10 : t.op = 10 → withinB t.base f = true)
    (hk : k = if t.op = 3 then t.k else 0) (hb : base = if t.op = 4 ∨ t.op = 5 ∨ t.op = 6 ∨ t.op = 7 ∨ t.op = 10 then t.base else 0) (hs : size = if t.op = 6 ∨ t.op = 7 then t.size else 0) (hn : n = if t.op = 1 then t.n else 0) :
    decide (t = ⟨t.op, if setsOp t.op = true then t.d else 0, if 0 < (usesT t).length then t.a else 0, if 1 < (usesT t).length then t.b else 0, k, base, size, n⟩) = fitsB t f regs words := by
  subst hk hb hs hn
  show decide (t = wantT t) = _
  unfold fitsB
  by_cases hw : t = wantT t
  · rw [decide_eq_true hw, decide_eq_true]
    exact ⟨h.1, h.2.1, h.2.2, h3, h4, h6, h10, hw⟩
  · rw [decide_eq_false hw, decide_eq_false]
    exact fun hF => hw hF.2.2.2.2.2.2.2
theorem fits_no {t : GTac} {f regs words : Int} (h : ¬ FitsP t f regs words) : false = fitsB t f regs words := (decide_eq_false h).symm
theorem usesT_le (t : GTac) : (usesT t).length ≤ 2 := by
  unfold usesT
  split
  · simp
  · split <;> simp
theorem blockB_t {b : GBlock} {n number regs words : Int} (h : endsB b n regs = true) (h2 : ∀ m, m < b.ins.length → fitsB (b.ins.getD m default) number regs words = true) : blockB b n number regs words = true := by
  unfold blockB
  rw [h, all_iff_getD.2 h2]
  rfl
theorem one_no1 {f : GFn} {number words : Int} (h : ¬ (0 ≤ f.regs ∧ f.regs ≤ 4000 ∧ ¬ (f.blocks.length : Int) = 0)) : false = oneB f number words := by
  unfold oneB
  rw [decide_eq_false (fun hk => h ⟨hk.1, hk.2.1, fun e => hk.2.2 (List.eq_nil_of_length_eq_zero (by omega))⟩)]
  rfl
theorem one_no2 {f : GFn} {number words : Int} {j : Nat} (hj : j < f.blocks.length) (h : endsB (f.blocks.getD j default) f.blocks.length f.regs = false) : false = oneB f number words := by
  unfold oneB
  rw [all_false_at hj (by unfold blockB; rw [h]; rfl), Bool.and_false]
theorem one_no3 {f : GFn} {number words : Int} {j i : Nat} (hj : j < f.blocks.length) (hi : i < (f.blocks.getD j default).ins.length) (h : fitsB ((f.blocks.getD j default).ins.getD i default) number f.regs words = false) : false = oneB f number words := by
  unfold oneB
  rw [all_false_at hj (by unfold blockB; rw [all_false_at hi h, Bool.and_false]), Bool.and_false]
theorem one_yes {f : GFn} {number words : Int} (h : 0 ≤ f.regs ∧ f.regs ≤ 4000) (h0 : ¬ (f.blocks.length : Int) = 0) (hb : ∀ i, i < f.blocks.length → blockB (f.blocks.getD i default) f.blocks.length number f.regs words = true) : true = oneB f number words := by
  unfold oneB
  rw [decide_eq_true ⟨h.1, h.2, fun e => h0 (by rw [e]; rfl)⟩, all_iff_getD.2 hb]
  rfl
end Lg
end Go.Proofs.Ytpfhmodjjljpjaa

namespace Go.Proofs.Ytpfhmodjjljpjaa
open Go.RowKit
namespace Lg
set_option linter.unusedSimpArgs false
set_option linter.unusedVariables false
structure RS where
  ws : List Int
  out : List Int
  read : Int
  steps : Int
  fin : Int
def RS.tick (s : RS) : RS := { s with steps := s.steps + 1 }
def RS.stop (s : RS) (e : Int) : RS := { s with fin := e }
section
variable (inp : ByteArray) (fuel : Int)
def oneR (t : GTac) (regs : List Int) (s : RS) : List Int :=
  if t.op = 1 then regs.set t.d.toNat t.n
  else if t.op = 2 then regs.set t.d.toNat (regs.getD t.a.toNat default)
  else if t.op = 3 then (if appE t.k (regs.getD t.b.toNat default) = 0 then regs.set t.d.toNat (appV t.k (regs.getD t.a.toNat default) (regs.getD t.b.toNat default)) else regs)
  else if t.op = 4 then regs.set t.d.toNat (s.ws.getD t.base.toNat default)
  else if t.op = 6 then (if regs.getD t.a.toNat default < t.size then regs.set t.d.toNat (s.ws.getD (t.base + regs.getD t.a.toNat default).toNat default) else regs)
  else if t.op = 8 then (if s.read < (inp.size : Int) then (regs.set t.d.toNat 256).set t.d.toNat (byteAt inp s.read) else regs.set t.d.toNat 256)
  else regs
def oneS (call : Int → RS → RS) (t : GTac) (regs : List Int) (s : RS) : RS :=
  if t.op = 3 then (if appE t.k (regs.getD t.b.toNat default) = 0 then s else s.stop 2)
  else if t.op = 5 then { s with ws := s.ws.set t.base.toNat (regs.getD t.a.toNat default) }
  else if t.op = 6 then (if regs.getD t.a.toNat default < t.size then s else s.stop 3)
  else if t.op = 7 then (if regs.getD t.a.toNat default < t.size then { s with ws := s.ws.set (t.base + regs.getD t.a.toNat default).toNat (regs.getD t.b.toNat default) } else s.stop 3)
  else if t.op = 8 then (if s.read < (inp.size : Int) then { s with read := s.read + 1 } else s)
  else if t.op = 9 then (if (s.out.length : Int) < 65536 then { s with out := s.out ++ [regs.getD t.a.toNat default % 256] } else s.stop 4)
  else if t.op = 10 then call t.base s
  else s
def insL (call : Int → RS → RS) : List GTac → List Int → RS → List Int × RS × Bool
  | [], regs, s => (regs, s, false)
  | t :: ts, regs, s =>
    if s.steps < fuel then
      if (oneS inp call t regs s.tick).fin = 0 then insL call ts (oneR inp t regs s.tick) (oneS inp call t regs s.tick)
      else (oneR inp t regs s.tick, oneS inp call t regs s.tick, true)
    else (regs, s.stop 5, true)
def nextB (b : GBlock) (regs : List Int) : Int := if b.fin = 2 ∧ regs.getD b.v.toNat default = 0 then b.els else b.to
def blkL (call : Int → RS → RS) (f : GFn) : Nat → Int → List Int → RS → RS
  | 0, _, _, s => s
  | m + 1, at_, regs, s =>
    let b := f.blocks.getD at_.toNat default
    let q := insL inp fuel call b.ins regs s
    if q.2.2 = true then q.2.1
    else if q.2.1.steps < fuel then
      if b.fin = 3 then q.2.1.tick else blkL call f m (nextB b q.1) q.1 q.2.1.tick
    else q.2.1.stop 5
def callF (fs : List GFn) : Nat → Int → RS → RS
  | 0, _, s => s
  | d + 1, i, s => blkL inp fuel (callF fs d) (fs.getD i.toNat default) ((fuel - s.steps).toNat + 1) 0 (List.replicate (fs.getD i.toNat default).regs.toNat 0) s
end
structure SOk (words : Int) (inp : ByteArray) (fuel : Int) (s : RS) : Prop where
  len : (s.ws.length : Int) = words
  ws : ∀ x ∈ s.ws, isW x
  out : (s.out.length : Int) ≤ 65536
  read : 0 ≤ s.read ∧ s.read ≤ (inp.size : Int)
  steps : 0 ≤ s.steps ∧ s.steps ≤ fuel
structure ROk (n : Int) (regs : List Int) : Prop where
  len : (regs.length : Int) = n
  ws : ∀ x ∈ regs, isW x
theorem isW0 : isW 0 := ⟨by omega, by omega⟩
theorem all_getD {l : List Int} (h : ∀ x ∈ l, isW x) (j : Nat) : isW (l.getD j default) := by
  rcases Nat.lt_or_ge j l.length with hj | hj
  · exact h _ (getD_mem hj)
  · rw [List.getD, List.getElem?_eq_none hj]; exact isW0
theorem all_set {l : List Int} (h : ∀ x ∈ l, isW x) {v : Int} (hv : isW v) (j : Nat) : ∀ x ∈ l.set j v, isW x := fun x hx => by
  rcases List.mem_or_eq_of_mem_set hx with h1 | h1
  · exact h x h1
  · rw [h1]; exact hv
theorem byteAt_isW (s : ByteArray) (j : Int) : isW (byteAt s j) := by
  unfold byteAt
  split
  · rename_i b _; have := b.toNat_lt; constructor <;> omega
  · exact isW0
theorem ROk.set {n : Int} {regs : List Int} (h : ROk n regs) (j : Nat) {v : Int} (hv : isW v) : ROk n (regs.set j v) := ⟨by rw [List.length_set]; exact h.len, all_set h.ws hv j⟩
theorem ROk.at {n : Int} {regs : List Int} (h : ROk n regs) (j : Nat) : isW (regs.getD j default) := all_getD h.ws j
theorem oneR_ok {n words fuel : Int} {inp : ByteArray} {t : GTac} {regs : List Int} {s : RS} (h : ROk n regs) (hs : SOk words inp fuel s) (ht : isW t.n) : ROk n (oneR inp t regs s) := by
  unfold oneR
  repeat' split
  all_goals first | exact h | exact h.set _ ht | exact h.set _ (h.at _) | exact h.set _ (appV_isW (h.at _) (h.at _)) | exact h.set _ (all_getD hs.ws _) | exact (h.set _ (by constructor <;> omega)).set _ (byteAt_isW _ _) | exact h.set _ (by constructor <;> omega)
def Keeps (words : Int) (inp : ByteArray) (fuel : Int) (call : Int → RS → RS) (i : Int) : Prop := ∀ s, SOk words inp fuel s → SOk words inp fuel (call i s) ∧ s.steps ≤ (call i s).steps
section
variable {n words fuel : Int} {inp : ByteArray} {call : Int → RS → RS} {regs : List Int} {s : RS}
theorem SOk.stop (h : SOk words inp fuel s) (e : Int) : SOk words inp fuel (s.stop e) := ⟨h.len, h.ws, h.out, h.read, h.steps⟩
theorem SOk.tick (h : SOk words inp fuel s) (hs : s.steps < fuel) : SOk words inp fuel s.tick := ⟨h.len, h.ws, h.out, h.read, by have := h.steps; show 0 ≤ s.steps + 1 ∧ s.steps + 1 ≤ fuel; omega⟩
theorem oneS_ok {t : GTac} (h : ROk n regs) (hs : SOk words inp fuel s) (hc : t.op = 10 → Keeps words inp fuel call t.base) : SOk words inp fuel (oneS inp call t regs s) ∧ s.steps ≤ (oneS inp call t regs s).steps := by
  have hw : ∀ j v, isW v → SOk words inp fuel { s with ws := s.ws.set j v } := fun j v hv => ⟨by rw [← hs.len]; simp, all_set hs.ws hv j, hs.out, hs.read, hs.steps⟩
  unfold oneS
  repeat' split
  all_goals first | exact ⟨hs, Int.le_refl _⟩ | exact ⟨hs.stop _, Int.le_refl _⟩ | exact ⟨hw _ _ (h.at _), Int.le_refl _⟩ | exact hc (by assumption) s hs | skip
  · refine ⟨⟨hs.len, hs.ws, hs.out, ?_, hs.steps⟩, Int.le_refl _⟩
    have := hs.read
    show 0 ≤ s.read + 1 ∧ s.read + 1 ≤ _
    omega
  · refine ⟨⟨hs.len, hs.ws, ?_, hs.read, hs.steps⟩, Int.le_refl _⟩
    show ((s.out ++ [_]).length : Int) ≤ _
    rw [List.length_append, List.length_singleton]
    omega
theorem insL_ok : ∀ (l : List GTac) (regs : List Int) (s : RS), ROk n regs → SOk words inp fuel s → (∀ t ∈ l, isW t.n ∧ (t.op = 10 → Keeps words inp fuel call t.base)) →
    ROk n (insL inp fuel call l regs s).1 ∧ SOk words inp fuel (insL inp fuel call l regs s).2.1 ∧ s.steps ≤ (insL inp fuel call l regs s).2.1.steps
  | [], regs, s, h, hs, _ => ⟨h, hs, Int.le_refl _⟩
  | t :: ts, regs, s, h, hs, hl => by
    simp only [insL]
    by_cases h1 : s.steps < fuel
    · rw [if_pos h1]
      have ht := hs.tick h1
      have h2 := oneR_ok h ht (hl t (by simp)).1
      obtain ⟨h3, h4⟩ := oneS_ok (t := t) h ht (hl t (by simp)).2
      have h5 : s.steps ≤ s.tick.steps := by show s.steps ≤ s.steps + 1; omega
      by_cases h6 : (oneS inp call t regs s.tick).fin = 0
      · rw [if_pos h6]
        obtain ⟨k1, k2, k3⟩ := insL_ok ts _ _ h2 h3 (fun t ht => hl t (List.mem_cons_of_mem _ ht))
        exact ⟨k1, k2, by omega⟩
      · rw [if_neg h6]
        exact ⟨h2, h3, by show _ ≤ (oneS inp call t regs s.tick).steps; omega⟩
    · rw [if_neg h1]
      exact ⟨h, hs.stop 5, Int.le_refl _⟩
theorem blkL_ok {f : GFn} (hf : ∀ b ∈ f.blocks, ∀ t ∈ b.ins, isW t.n ∧ (t.op = 10 → Keeps words inp fuel call t.base)) : ∀ (m : Nat) (at_ : Int) (regs : List Int) (s : RS), ROk n regs → SOk words inp fuel s → SOk words inp fuel (blkL inp fuel call f m at_ regs s) ∧ s.steps ≤ (blkL inp fuel call f m at_ regs s).steps
  | 0, _, _, s, _, hs => ⟨hs, Int.le_refl _⟩
  | m + 1, at_, regs, s, h, hs => by
    have hb : ∀ t ∈ (f.blocks.getD at_.toNat default).ins, isW t.n ∧ (t.op = 10 → Keeps words inp fuel call t.base) := fun t ht => by
      rcases Nat.lt_or_ge at_.toNat f.blocks.length with hj | hj
      · exact hf _ (getD_mem hj) t ht
      · rw [List.getD, List.getElem?_eq_none hj] at ht; cases ht
    obtain ⟨k1, k2, k3⟩ := insL_ok (call := call) _ _ _ h hs hb
    simp only [blkL]
    generalize insL inp fuel call (f.blocks.getD at_.toNat default).ins regs s = q at k1 k2 k3
    by_cases h1 : q.2.2 = true
    · rw [if_pos h1]; exact ⟨k2, k3⟩
    rw [if_neg h1]
    by_cases h2 : q.2.1.steps < fuel
    · rw [if_pos h2]
      have ht := k2.tick h2
      have h5 : q.2.1.steps ≤ q.2.1.tick.steps := by show q.2.1.steps ≤ q.2.1.steps + 1; omega
      by_cases h3 : (f.blocks.getD at_.toNat default).fin = 3
      · rw [if_pos h3]; exact ⟨ht, by omega⟩
      · rw [if_neg h3]
        obtain ⟨j1, j2⟩ := blkL_ok hf m (nextB (f.blocks.getD at_.toNat default) q.1) q.1 q.2.1.tick k1 ht
        exact ⟨j1, by omega⟩
    · rw [if_neg h2]; exact ⟨k2.stop 5, k3⟩
end
structure RunOk (p : GProg) : Prop where
  right : rightB p = true
  n : ∀ f ∈ p.funcs, ∀ b ∈ f.blocks, ∀ t ∈ b.ins, isW t.n
theorem right_oneB {p : GProg} (h : rightB p = true) {i : Nat} (hi : i < p.funcs.length) : oneB (p.funcs.getD i default) (i : Int) p.words = true := by
  unfold rightB at h
  simp only [Bool.and_eq_true] at h
  exact List.all_eq_true.1 h.2 i (List.mem_range.2 hi)
theorem right_words {p : GProg} (h : rightB p = true) : 0 ≤ p.words ∧ p.words ≤ 1048576 := by
  unfold rightB at h
  simp only [Bool.and_eq_true, decide_eq_true_eq] at h
  exact ⟨h.1.1, h.1.2.1⟩
theorem one_regs {f : GFn} {i words : Int} (h : oneB f i words = true) : 0 ≤ f.regs ∧ f.regs ≤ 4000 ∧ 0 < f.blocks.length := by
  unfold oneB at h
  simp only [Bool.and_eq_true, decide_eq_true_eq] at h
  exact ⟨h.1.1, h.1.2.1, List.length_pos_iff.2 h.1.2.2⟩
theorem one_blk {f : GFn} {i words : Int} (h : oneB f i words = true) : ∀ b ∈ f.blocks, blockB b f.blocks.length i f.regs words = true := by
  unfold oneB at h
  simp only [Bool.and_eq_true] at h
  exact List.all_eq_true.1 h.2
theorem blk_fits {b : GBlock} {k i regs words : Int} (h : blockB b k i regs words = true) : endsB b k regs = true ∧ ∀ t ∈ b.ins, FitsP t i regs words := by
  unfold blockB at h
  simp only [Bool.and_eq_true] at h
  exact ⟨h.1, fun t ht => of_decide_eq_true (List.all_eq_true.1 h.2 t ht)⟩
theorem fits_call {t : GTac} {i regs words : Int} (h : FitsP t i regs words) (ho : t.op = 10) : 0 ≤ t.base ∧ t.base < i := by
  have h1 := h.2.2.2.2.2.2.1 ho
  unfold withinB at h1
  simpa using h1
theorem callF_keeps {p : GProg} (hp : RunOk p) {inp : ByteArray} {fuel : Int} : ∀ (d : Nat) (i : Int), 0 ≤ i → i < d → i < p.funcs.length → Keeps p.words inp fuel (callF inp fuel p.funcs d) i
  | 0, i, h0, h1, _ => by omega
  | d + 1, i, h0, h1, h2 => fun s hs => by
    have h3 := right_oneB hp.right (i := i.toNat) (by omega)
    obtain ⟨r1, r2, r3⟩ := one_regs h3
    refine blkL_ok (n := (p.funcs.getD i.toNat default).regs) (fun b hb t ht => ?_) _ _ _ _ ⟨by rw [List.length_replicate]; omega, fun x hx => by rw [List.eq_of_mem_replicate hx]; exact isW0⟩ hs
    have h4 := (blk_fits (one_blk h3 b hb)).2 t ht
    refine ⟨hp.n _ (getD_mem (by omega)) b hb t ht, fun ho => ?_⟩
    have h5 := fits_call h4 ho
    exact callF_keeps hp d t.base h5.1 (by omega) (by omega)
end Lg
end Go.Proofs.Ytpfhmodjjljpjaa

namespace Go.Proofs.Ytpfhmodjjljpjaa
open Go.ChangeShapes Go.WideShapes Go.ChangeAt Go.RowKit
namespace Lg
set_option maxRecDepth 100000
set_option linter.unusedVariables false
theorem arg_strA {w : World} {H : Type} {enc : TypeId × Value → H} {r : Reach} {b : Nat} {v : Value} {d : DataW H} {p : List MemPlace} (hv : Value.okWide Try.prog w r b 9 v) (hd : DataW.Trod enc Try.prog w 0 (fun _ => true) true 9 v d p) : ∃ s : ByteArray, v = .string s := okWide_string Try.underlying9 hv
theorem wprog_nA {p : GProg} (h : WProg p) : ∀ f ∈ p.funcs, ∀ b ∈ f.blocks, ∀ t ∈ b.ins, isW t.n := fun f hf b hb t ht => (((h.each f hf).each b hb).ins t ht).n
end Lg
end Go.Proofs.Ytpfhmodjjljpjaa

namespace Go.Proofs.Ytpfhmodjjljpjaa
open Go.RowKit
namespace Lg
set_option linter.unusedSimpArgs false
set_option linter.unusedVariables false
theorem u154 : Try.prog.underlying 154 = some (.array 2 3) := by kernel_rfl
theorem u115 : Try.prog.underlying 115 = some (.map 154 4) := by kernel_rfl
theorem pk3 : Try.prog.plainKey 3 = true := by kernel_rfl
theorem c3 : Try.prog.cellsOf 3 = 1 := by kernel_rfl
theorem i3 : ∃ i, Try.prog.info? 3 = some i := by
  have h := ty3_good.info
  cases hi : Try.prog.info? 3 with
  | none => rw [hi] at h; cases h
  | some i => exact ⟨i, rfl⟩
def pairV (p : Int × Int) : Value := .agg #[.int .i64 p.1, .int .i64 p.2]
theorem part0 (w : World) (a b : Int) : (part 3 #[.int .i64 a, .int .i64 b] 0).run Try.prog w = .ok (.int .i64 a) w := run_part_plain w pk3 rfl
theorem part1 (w : World) (a b : Int) : (part 3 #[.int .i64 a, .int .i64 b] 1).run Try.prog w = .ok (.int .i64 b) w := run_part_plain w pk3 rfl
theorem eq3 (d : Nat) (w : World) (a b : Int) : (Op.equalIn (d + 1) 3 (.int .i64 a) (.int .i64 b)).run Try.prog w = .ok (a == b) w := by
  simp [Op.equalIn, run_underlying Try.underlying3]
theorem eqPair_run (d : Nat) (w : World) (p q : Int × Int) : (Op.equalIn (d + 2) 154 (pairV p) (pairV q)).run Try.prog w = .ok (p == q) w := by
  obtain ⟨i, hi⟩ := i3
  unfold pairV
  rw [run_equalIn_array w (d + 1) _ _ u154 hi, c3]
  have hr : List.range 2 = [0, 1] := rfl
  rw [hr]
  simp only [Op.eqItems, Sem.run_bind, Nat.mul_one, part0, part1, eq3, Result.andThen_ok]
  obtain ⟨a, b⟩ := p
  obtain ⟨a', b'⟩ := q
  by_cases h1 : a = a' <;> by_cases h2 : b = b' <;> simp [h1, h2, part0, part1, eq3]
theorem chk3 (e : Bool) (n : Nat) (w : World) (a : Int) : (Instr.checkKey e (n + 1) 3 (.int .i64 a)).run Try.prog w = .ok () w := by
  simp [Instr.checkKey, run_underlying Try.underlying3]
theorem chkPair_run (e : Bool) (n : Nat) (w : World) (p : Int × Int) : (Instr.checkKey e (n + 2) 154 (pairV p)).run Try.prog w = .ok () w := by
  obtain ⟨i, hi⟩ := i3
  unfold pairV
  simp only [Instr.checkKey, Sem.run_bind, run_underlying u154, Result.andThen_ok, run_sizeOf w hi, c3]
  simp only [Std.Legacy.Range.forIn_eq_forIn_range', Std.Legacy.Range.size, Nat.sub_zero, Nat.add_one_sub_one, Nat.div_one]
  have hr : List.range' 0 2 = [0, 1] := rfl
  rw [hr]
  simp [List.forIn_cons, part0, part1, chk3, Result.andThen]
theorem z4 : (Try.prog.info? 4).map (·.zero) = some (some (.bool false)) := by kernel_rfl
theorem zero4 (w : World) : (zeroValue 4).run Try.prog w = .ok (.bool false) w := by
  cases hi : Try.prog.info? 4 with
  | none => have := z4; rw [hi] at this; cases this
  | some i =>
    have h := z4
    rw [hi] at h
    have hz : i.zero = some (.bool false) := by simpa using h
    simp [zeroValue, typeInfo, hi, hz]
def setB (w : World) (b : Nat) (o : Obj) : World := { w with heap := w.heap.setIfInBounds b o }
def findL (p : Int × Int) : List (Int × Int) → Nat → Option (Nat × Value)
  | [], _ => none
  | q :: l, i => if p == q then some (i, .bool true) else findL p l (i + 1)
theorem find_run (w : World) (p : Int × Int) : ∀ (es : List MapEntry) (l : List (Int × Int)) (i : Nat), es.map (fun e : MapEntry => (e.key, e.val)) = l.map kvM → (Instr.findAsking 154 (pairV p) es i).run Try.prog w = .ok (findL p l i) w
  | [], [], i, _ => by simp [Instr.findAsking, findL]
  | [], q :: l, i, h => by simp at h
  | e :: es, [], i, h => by simp at h
  | e :: es, q :: l, i, h => by
    simp only [List.map_cons, List.cons.injEq] at h
    obtain ⟨h1, h2⟩ := h
    have hk : e.key = pairV q := congrArg Prod.fst h1
    have hv : e.val = .bool true := congrArg Prod.snd h1
    have he : (Op.equal 154 (pairV p) e.key).run Try.prog w = .ok (p == q) w := by rw [hk]; exact eqPair_run 9998 w p q
    rw [Instr.findAsking, findL]
    simp only [Sem.run_bind, he, Result.andThen_ok]
    cases hpq : p == q
    · simp only [Bool.false_eq_true, if_false]; exact find_run w p es l (i + 1) h2
    · simp [hv]
theorem findL_none {p : Int × Int} : ∀ (l : List (Int × Int)) (i : Nat), findL p l i = none → p ∉ l
  | [], _, _ => by simp
  | q :: l, i, h => by
    rw [findL] at h
    by_cases e : p = q
    · subst e; simp at h
    · rw [if_neg (by simpa using e)] at h
      simp only [List.mem_cons, not_or]
      exact ⟨e, findL_none l (i + 1) h⟩
theorem findL_some {p : Int × Int} : ∀ (l : List (Int × Int)) (i j : Nat) (v : Value), findL p l i = some (j, v) → v = .bool true ∧ i ≤ j ∧ l[j - i]? = some p
  | [], _, _, _, h => by simp [findL] at h
  | q :: l, i, j, v, h => by
    rw [findL] at h
    by_cases e : p = q
    · subst e
      simp only [BEq.rfl, if_true, Option.some.injEq, Prod.mk.injEq] at h
      obtain ⟨rfl, rfl⟩ := h
      exact ⟨rfl, Nat.le_refl _, by simp⟩
    · rw [if_neg (by simpa using e)] at h
      obtain ⟨h1, h2, h3⟩ := findL_some l (i + 1) j v h
      refine ⟨h1, by omega, ?_⟩
      obtain ⟨m, hm⟩ : ∃ m, j - i = m + 1 := ⟨j - i - 1, by omega⟩
      rw [hm, List.getElem?_cons_succ, show m = j - (i + 1) by omega]; exact h3
theorem findKey_run (w : World) (p : Int × Int) (es : List MapEntry) (l : List (Int × Int)) (h : es.map (fun e : MapEntry => (e.key, e.val)) = l.map kvM) : (Instr.findKey 154 (pairV p) es).run Try.prog w = .ok (findL p l 0) w := by
  rw [run_findKey_eq w (by rw [u154])]
  exact find_run w p es l 0 h
theorem lookup_run {w : World} {b : Nat} {es : Array MapEntry} {ck : Nat} {l : List (Int × Int)} (hb : w.heap[b]? = some (.map es ck)) (h : es.toList.map (fun e : MapEntry => (e.key, e.val)) = l.map kvM) (p : Int × Int) : (Instr.lookup 115 (.map (some b)) (pairV p) false).run Try.prog w = .ok (.bool (decide (p ∈ l))) w := by
  have hzb : (zeroValue 4).run Try.prog w = .ok (.bool false) w := zero4 w
  simp only [Instr.lookup, Sem.run_bind, run_underlying u115, Result.andThen_ok, MapKept.run_getObj_map hb, Sem.run_pure, chkPair_run _ 9998, findKey_run w p _ l h]
  cases hf : findL p l 0 with
  | none => simp [hzb, findL_none l 0 hf]
  | some q =>
    obtain ⟨j, v⟩ := q
    obtain ⟨rfl, _, h3⟩ := findL_some l 0 j v hf
    simp [List.mem_of_getElem? h3]
def putM (l : List (Int × Int)) (p : Int × Int) : List (Int × Int) := if p ∈ l then l else l ++ [p]
theorem putM_mem {l : List (Int × Int)} {p q : Int × Int} : q ∈ putM l p ↔ q = p ∨ q ∈ l := by
  unfold putM
  split
  · rename_i h
    constructor
    · exact .inr
    · rintro (rfl | h2)
      · exact h
      · exact h2
  · simp [or_comm]
theorem map_modify_same {α β : Type} (g : α → β) (f : α → α) : ∀ (l : List α) (i : Nat), (∀ e, l[i]? = some e → g (f e) = g e) → (l.modify i f).map g = l.map g
  | [], i, _ => by simp
  | x :: l, 0, h => by simp [h x (by simp)]
  | x :: l, i + 1, h => by simp [map_modify_same g f l i (fun e he => h e (by simpa using he))]
theorem update_run {w : World} {b : Nat} {es : Array MapEntry} {ck : Nat} {l : List (Int × Int)} (hb : w.heap[b]? = some (.map es ck)) (h : es.toList.map (fun e : MapEntry => (e.key, e.val)) = l.map kvM) (p : Int × Int) :
    ∃ es' ck', (Instr.mapUpdate 115 (.map (some b)) (pairV p) (.bool true)).run Try.prog w = .ok () (setB w b (.map es' ck')) ∧ es'.toList.map (fun e : MapEntry => (e.key, e.val)) = (putM l p).map kvM := by
  cases hf : findL p l 0 with
  | none =>
    refine ⟨es.push { key := pairV p, val := .bool true, born := ck }, ck + 1, ?_, ?_⟩
    · simp [Instr.mapUpdate, run_underlying u115, MapKept.run_getObj_map hb, chkPair_run _ 9998, findKey_run w p _ l h, hf, MapKept.run_setObj_map _ hb, Result.andThen, setB]
    · rw [putM, if_neg (findL_none l 0 hf)]
      simp [h, kvM, pairV]
  | some q =>
    obtain ⟨j, v⟩ := q
    obtain ⟨rfl, _, h3⟩ := findL_some l 0 j v hf
    simp only [Nat.sub_zero] at h3
    have h4 : (es.toList.map (fun e : MapEntry => (e.key, e.val)))[j]? = some (kvM p) := by rw [h]; simp [h3]
    rw [List.getElem?_map] at h4
    obtain ⟨e, he, he2⟩ := Option.map_eq_some_iff.1 h4
    have hk : e.key = pairV p := congrArg Prod.fst he2
    have hv : e.val = .bool true := congrArg Prod.snd he2
    have hej : es[j]? = some e := by simpa using he
    have hsame : (Instr.keyThatStays (pairV p) (pairV p)).run Try.prog w = .ok (pairV p) w := by simp [Instr.keyThatStays, Instr.sameBits, pairV]
    refine ⟨es.modify j fun e => { e with key := pairV p, val := .bool true }, ck, ?_, ?_⟩
    · simp [Instr.mapUpdate, run_underlying u115, MapKept.run_getObj_map hb, chkPair_run _ 9998, findKey_run w p _ l h, hf, hej, hk, hsame, MapKept.run_setObj_map _ hb, Result.andThen, setB]
    · rw [putM, if_pos (List.mem_of_getElem? h3), Array.toList_modify, map_modify_same, h]
      intro e' he'
      rw [he] at he'
      cases he'
      rw [hk, hv]
end Lg
end Go.Proofs.Ytpfhmodjjljpjaa

namespace Go.Proofs.Ytpfhmodjjljpjaa
open Go.RowKit
namespace Lg
set_option linter.unusedSimpArgs false
set_option linter.unusedVariables false
theorem HR.newMap {w0 w : World} {M : Fp} {U : Nat → Prop} {ρ : Nat → Value} {own : Nat → Option Nat} {ob : List (Nat × Ob)} (hr : HR w0 M U ρ own ob w) (b : Nat) (hb : ¬ U b) :
    HR w0 M (grow U b 1) (upd1 ρ b (.map (some w.heap.size))) (upd1 own w.heap.size (some b)) ([(b, .map [])] ++ ob) (w.alloc (.map #[] 0)) := by
  have hρ : ∀ i, U i → upd1 ρ b (.map (some w.heap.size)) i = ρ i := fun i hi => upd1_other _ _ (fun h => hb (h ▸ hi))
  refine hr.step (fun _ => False) rfl rfl rfl (by rw [World.size_alloc]; omega) (fun k hk _ => ⟨heap_alloc_old w _ hk, upd1_other _ _ (by omega)⟩) hρ (fun i hi => .inl hi) (fun _ h => h.elim) (fun i ob' hi => .inr (by rw [lookup_key hi]; exact hb)) (fun i ob' hi => ?_)
  simp only [List.lookup] at hi
  cases hq : i == b with
  | false => rw [hq] at hi; cases hi
  | true =>
    rw [hq] at hi
    obtain rfl : i = b := by simpa using hq
    obtain rfl : Ob.map [] = ob' := by injection hi
    exact ⟨⟨w.heap.size, #[], 0, upd1_same _ _ _, upd1_same _ _ _, heap_alloc_new w _, rfl⟩, .inr ⟨Nat.le_refl _, by omega⟩, trivial⟩
def mnI (a b : Int) : Int := if b < a then b else a
def mxI (a b : Int) : Int := if b > a then b else a
def prI (a b : Int) : Int × Int := (mnI a b, mxI a b)
section
variable {N b : Nat} {o : Oper} {st : St}
theorem T_makeMap {P : Program} {t : Nat} (ho : o.op = .makeMap t none) : T P N o b [] st (.r b) 1 [(b, .map [])] := by
  intro w0 M U ρ own st' a w hev hp hfr fr hr
  have hrun : (execOp a.eval o).run P w = .ok (.value (.map (some w.heap.size))) (w.alloc (.map #[] 0)) := by
    simp only [execOp, ho]
    rfl
  exact does_value hrun ⟨upd1 ρ b (.map (some w.heap.size)), upd1 own w.heap.size (some b), by simp [LV.val, upd1_same], fun i hi => upd1_other _ _ (fun h => hfr b (Nat.le_refl _) (by omega) (h ▸ hi)), .inr ⟨Nat.le_refl _, by omega⟩, hr.newMap b (hfr b (Nat.le_refl _) (by omega))⟩
theorem T_lookup {x y : Operand} {i : Nat} {l : List (Int × Int)} {p q : Int} (ho : o.op = .lookup 115 x y false) (hx : st.ev x = some (.r i)) (hob : st.o.lookup i = some (.map l)) (hy : st.ev y = some (.agg [.v (.int .i64 p), .v (.int .i64 q)])) : T Try.prog N o b [i] st (.v (.bool (decide ((p, q) ∈ l)))) 0 [] := by
  intro w0 M U ρ own st' a w hev hp hfr fr hr
  obtain ⟨hv, hu⟩ := fr.eval ((hev x (by simp [ho, Op.operands])).trans hx)
  obtain ⟨hv2, _⟩ := fr.eval ((hev y (by simp [ho, Op.operands])).trans hy)
  obtain ⟨⟨g, es, ck, g1, g2, g3, g4⟩, _, _⟩ := hr.ob i _ ((hp i (by simp)).trans hob)
  have hrun : (execOp a.eval o).run Try.prog w = .ok (.value (.bool (decide ((p, q) ∈ l)))) w := by
    simp only [execOp, ho, hv, hv2, LV.val, LV.vals, g1]
    rw [Sem.run_bind]
    have h := lookup_run g3 g4 (p, q)
    unfold pairV at h
    rw [h]
    rfl
  exact does_value hrun ⟨ρ, own, rfl, fun _ _ => rfl, trivial, hr.mono (fun i hi => .inl hi)⟩
theorem T_mapUpd {x y z : Operand} {i : Nat} {l : List (Int × Int)} {p q : Int} (ho : o.op = .mapUpdate 115 x y z) (hx : st.ev x = some (.r i)) (hob : st.o.lookup i = some (.map l)) (hy : st.ev y = some (.agg [.v (.int .i64 p), .v (.int .i64 q)])) (hz : st.ev z = some (.v (.bool true))) :
    T Try.prog N o b [i] st (.v undef) 0 [(i, .map (putM l (p, q)))] := by
  intro w0 M U ρ own st' a w hev hp hfr fr hr
  obtain ⟨hv, hu⟩ := fr.eval ((hev x (by simp [ho, Op.operands])).trans hx)
  obtain ⟨hv2, _⟩ := fr.eval ((hev y (by simp [ho, Op.operands])).trans hy)
  obtain ⟨hv3, _⟩ := fr.eval ((hev z (by simp [ho, Op.operands])).trans hz)
  obtain ⟨⟨g, es, ck, g1, g2, g3, g4⟩, hU, _⟩ := hr.ob i _ ((hp i (by simp)).trans hob)
  obtain ⟨es', ck', h1, h2⟩ := update_run g3 g4 (p, q)
  have hlt := heap_lt g3
  have hrun : (execOp a.eval o).run Try.prog w = .ok .skip (setB w g (.map es' ck')) := by
    simp only [execOp, ho, hv, hv2, hv3, LV.val, LV.vals, g1]
    rw [Sem.run_bind]
    unfold pairV at h1
    rw [h1]
    rfl
  refine does_skip hrun ⟨ρ, own, rfl, fun _ _ => rfl, trivial, ?_⟩
  refine HR.mono ?_ (fun i hi => .inl hi)
  have hheap : ∀ k, k ≠ g → (setB w g (.map es' ck')).heap[k]? = w.heap[k]? := fun k hk => by
    simp only [setB, Array.getElem?_setIfInBounds]
    rw [if_neg (Ne.symm hk)]
  have hnew : (setB w g (.map es' ck')).heap[g]? = some (.map es' ck') := by
    simp [setB, Array.getElem?_setIfInBounds, hlt]
  refine hr.step (fun j => j = i) rfl rfl rfl (by simp [setB]) (fun k hk hj => ⟨hheap k (fun h => hj i (h ▸ g2) rfl), rfl⟩) (fun _ _ => rfl) (fun _ h => h) (fun j hj => ⟨.map (putM l (p, q)), by simp [List.lookup, hj]⟩) (fun j ob' hj => .inl (by rw [lookup_key hj]; exact ⟨_, (hp i (by simp)).trans hob⟩)) (fun j ob' hj => ?_)
  simp only [List.lookup] at hj
  cases hq : j == i with
  | false => rw [hq] at hj; cases hj
  | true =>
    rw [hq] at hj
    obtain rfl : j = i := by simpa using hq
    obtain rfl : Ob.map (putM l (p, q)) = ob' := by injection hj
    exact ⟨⟨g, es', ck', g1, g2, hnew, h2⟩, hU, trivial⟩
theorem flat_map {i : Nat} {l : List (Int × Int)} (h : st.o.lookup i = some (.map l)) : Flat st (.r i) [.r i] [i] := fun _ _ _ _ ρ _ o' hp hr hu => by
  obtain ⟨⟨g, es, ck, g1, g2, g3, g4⟩, _, _⟩ := hr.ob i _ ((hp i (by simp)).trans h)
  exact ⟨by simp [LV.val, LV.vals, g1, Value.cells], ⟨hu, trivial⟩, by simp [LV.val, LV.vals, g1, Value.oneCell']⟩
theorem build154 (w : World) (a b : Int) : (Instr.build 154 #[(0, .int .i64 a), (1, .int .i64 b)]).run Try.prog w = .ok (.agg #[.int .i64 a, .int .i64 b]) w := by
  obtain ⟨z, hz, hc⟩ := ty154_good.zeroV w
  obtain ⟨i, hi⟩ := i3
  have hzc : z.cells = #[.int .i64 0, .int .i64 0] := by
    apply Array.ext'
    rw [hc]; rfl
  have hf : Instr.fill (fun i => some (i * 1, 1)) #[.int .i64 0, .int .i64 0] [(0, .int .i64 a), (1, .int .i64 b)] = some #[.int .i64 a, .int .i64 b] := rfl
  simp only [Instr.build, Sem.run_bind, hz, Result.andThen_ok, run_underlying u154, run_sizeOf w hi, c3, hzc, hf, Sem.run_pure]
theorem T_pair {x y : Operand} {p q : Int} (ho : o.op = .build 154 #[(0, x), (1, y)]) (hx : st.ev x = some (.v (.int .i64 p))) (hy : st.ev y = some (.v (.int .i64 q))) : T Try.prog N o b [] st (.agg [.v (.int .i64 p), .v (.int .i64 q)]) 0 [] :=
  T_pure (fun ρ ev w hev => by
    have h1 := hev x _ (by simp [ho, Op.operands]) hx
    have h2 := hev y _ (by simp [ho, Op.operands]) hy
    have h3 := build154 w p q
    simp [execOp, ho, h1, h2, LV.val, LV.vals, h3]) (fun U ρ hU => ⟨⟨trivial, trivial, trivial⟩, rfl⟩)
theorem Embs.mapE {o : List (Nat × Ob)} {σ : Nat → Nat} {c : Nat} {xs xs' : List (Int × Int)} {l : List (Nat × Ob)} (h : o.lookup (σ c) = some (.map xs')) (t : Embs o σ l) (he : xs' = xs) : Embs o σ ((c, .map xs) :: l) := .map (by rw [h, he]) t
theorem T_min {P : Program} {x y : Operand} {ats : Array TypeId} {p q : Int} (ho : o.op = .call { callee := .builtin .min, args := #[x, y], argTypes := ats }) (hx : st.ev x = some (.v (.int .i64 p))) (hy : st.ev y = some (.v (.int .i64 q))) : T P N o b [] st (.v (.int .i64 (mnI p q))) 0 [] :=
  T_pure (fun ρ ev w hev => by
    have h1 := hev x _ (by simp [ho, Op.operands, Call.operands]) hx
    have h2 := hev y _ (by simp [ho, Op.operands, Call.operands]) hy
    simp [execOp, ho, resolve, invoke, builtin, h1, h2, LV.val, run_min_int2, mnI]) (fun _ _ _ => trivial)
theorem T_max {P : Program} {x y : Operand} {ats : Array TypeId} {p q : Int} (ho : o.op = .call { callee := .builtin .max, args := #[x, y], argTypes := ats }) (hx : st.ev x = some (.v (.int .i64 p))) (hy : st.ev y = some (.v (.int .i64 q))) : T P N o b [] st (.v (.int .i64 (mxI p q))) 0 [] :=
  T_pure (fun ρ ev w hev => by
    have h1 := hev x _ (by simp [ho, Op.operands, Call.operands]) hx
    have h2 := hev y _ (by simp [ho, Op.operands, Call.operands]) hy
    simp [execOp, ho, resolve, invoke, builtin, h1, h2, LV.val, run_max_int2, mxI]) (fun _ _ _ => trivial)
theorem T_neg64 {P : Program} {t : TypeId} {x : Operand} {n : Int} (ho : o.op = .unOp .neg t x) (hx : st.ev x = some (.v (.int .i64 n))) (h : -9223372036854775807 ≤ n ∧ n ≤ 9223372036854775807) : T P N o b [] st (.v (.int .i64 (-n))) 0 [] :=
  T_pure (fun ρ ev w hev => by
    have h1 := hev x _ (by simp [ho, Op.operands]) hx
    have h2 : IntKind.i64.wrap (-n) = -n := wrap_i64 (by omega)
    simp [execOp, ho, h1, LV.val, Op.unary, Op.intArith, h2]) (fun U ρ hU => trivial)
end
end Lg
end Go.Proofs.Ytpfhmodjjljpjaa

namespace Go.Proofs.Ytpfhmodjjljpjaa
open Go.RowKit
namespace Lg
set_option linter.unusedSimpArgs false
set_option linter.unusedVariables false
theorem HR.retell {w0 w : World} {M : Fp} {U : Nat → Prop} {ρ : Nat → Value} {own : Nat → Option Nat} {o : List (Nat × Ob)} (hr : HR w0 M U ρ own o w) {i : Nat} {ob ob' : Ob} (hi : o.lookup i = some ob) (h : RepOb w ρ own i ob → RepOb w ρ own i ob') (hu : ob.used U ρ → ob'.used U ρ) : HR w0 M U ρ own ((i, ob') :: o) w := by
  obtain ⟨h1, h2, h3⟩ := hr.ob i ob hi
  refine hr.step (upd := [(i, ob')]) (fun _ => False) rfl rfl rfl (Nat.le_refl _) (fun _ _ _ => ⟨rfl, rfl⟩) (fun _ _ => rfl) (fun _ h => h) (fun _ h => h.elim) (fun q x hq => .inl (by rw [lookup_key hq]; exact ⟨_, hi⟩)) (fun q x hq => ?_)
  have hq' := lookup_key hq
  subst hq'
  obtain rfl : ob' = x := by simpa using hq
  exact ⟨h h1, h2, hu h3⟩
def nilC : Cell := .v (.slice none 0 0)
theorem nest_of_nils {w : World} {ρ : Nat → Value} {own : Nat → Option Nat} {i e e2 sz2 m : Nat} (hs : 0 < sz2) (h : RepOb w ρ own i (.row e 1 ((List.replicate m ()).map fun _ => [nilC]))) : RepOb w ρ own i (.nest e e2 sz2 (List.replicate m []) none) := by
  obtain ⟨h0, cells, h1, h2, h3⟩ := h
  have hlen : ((List.replicate m ()).map fun _ => [nilC]).length = m := by simp
  have hv : ∀ j v, cells[j]? = some v → v = Value.slice none 0 0 := fun j v hj => by
    have hjm : j < m := by
      have := (List.getElem?_eq_some_iff.1 hj).1
      rw [h3.len, hlen] at this; omega
    obtain ⟨u, hu, hR⟩ := (h3.each j [nilC] (by simp [List.getElem?_map, hjm])).2 0 nilC rfl
    rw [Nat.mul_one, Nat.add_zero, hj] at hu
    cases hu
    cases hR with
    | v _ _ => rfl
  refine ⟨cells, hs, by simpa [hlen] using h1, h2, (fun j b hb => by cases hb), fun j r v hj hjv _ => ?_, fun j j' v v' k hne _ _ hjv hjv' hk => ?_⟩
  · have := hv j v hjv
    subst this
    have hr : r = [] := (List.mem_replicate.1 (List.mem_of_getElem? hj)).2
    subst hr
    exact ⟨[], ⟨by simp, .inl ⟨rfl, rfl⟩⟩, ⟨by simp, (fun i r hi => by simp at hi)⟩, (fun k hk => by cases hk)⟩
  · rw [hv j v hjv] at hk; cases hk
section
variable {P : Program} {N b : Nat} {o : Oper} {st : St} (D : Tab P)
theorem T_makeN {t : Nat} {x y : Operand} {m e2 sz2 : Nat} {ty ety : TyI} (ho : o.op = .makeSlice t x y) (hx : st.ev x = some (.v (.int .i64 (m : Int)))) (hy : st.ev y = some (.v (.int .i64 (m : Int))))
    (hi : D.get t = some ty) (he0 : (ty.elem == 0) = false) (he : D.get ty.elem = some ety) (hz : ety.zero = [.slice none 0 0]) (hsz : ety.size = 1) (hs2 : (0 < sz2) = True) (hm : m * ety.bytes ≤ 281474976710656) (hm2 : m ≤ 9223372036854775807) :
    T P N o b [] st (.r b) 1 [(b, .nest ty.elem e2 sz2 (List.replicate m []) none)] := by
  have h := T_make D (enc := fun (_ : Unit) => [nilC]) (zx := ()) (N := N) (b := b) ho hx hy hi he0 he (by rw [hsz]; rfl) (by rw [hz]; exact .v rfl .nil) (by rw [hz, hsz]; rfl) hm hm2
  rw [hsz] at h
  intro w0 M U ρ own st' a w hev hp hf fr hr next Q hn
  refine h w0 M U ρ own st' a w hev hp hf fr hr next Q (fun v w' hv => hn v w' ?_)
  obtain ⟨ρ', own', h1, h2, h3, h4⟩ := hv
  refine ⟨ρ', own', h1, h2, h3, ?_⟩
  have h5 := h4.retell (i := b) (ob := .row ty.elem 1 ((List.replicate m ()).map fun _ => [nilC])) (ob' := .nest ty.elem e2 sz2 (List.replicate m []) none) (by simp) (nest_of_nils (of_eq_true hs2)) (fun _ => fun j q hq => by cases hq)
  refine h5.congr (fun i => ?_)
  simp only [List.cons_append, List.nil_append, List.lookup]
  cases hib : i == b <;> rfl
theorem nest_base {w : World} {ρ : Nat → Value} {own : Nat → Option Nat} {i e e2 sz2 : Nat} {rows : List (List (List Cell))} {hole : Option (Nat × Nat)} (h : RepOb w ρ own i (.nest e e2 sz2 rows hole)) : ∃ A c, ρ i = .slice A rows.length c ∧ (0 < rows.length → ∃ a, A = some a) := by
  obtain ⟨vs, hN⟩ := h
  rcases hN.out.2 with ⟨h4, h5⟩ | ⟨g, off, cap, cur, he, hh, r1, r2, r3, r4⟩
  · exact ⟨none, 0, by rw [h4, h5], fun hp => by omega⟩
  · exact ⟨_, cap, he, fun _ => ⟨_, rfl⟩⟩
theorem T_lenN {α : Type} {enc : α → List Cell} {xs : List (List α)} {t tt i e e2 sz2 : Nat} {hole : Option (Nat × Nat)} {x : Operand} {ty : TyI} (ho : o.op = .call { callee := .builtin .len, args := #[x], argTypes := #[t] }) (hx : st.ev x = some (.r i)) (hob : st.o.lookup i = some (.nest e e2 sz2 (xs.map (List.map enc)) hole))
    (hi : D.get t = some ty) (he0 : (ty.elem == 0) = false) (_htt : o.type = tt) : T P N o b [i] st (.v (.int .i64 (xs.length : Int))) 0 [] := by
  intro w0 M U ρ own st' a w hev hp hfr fr hr
  obtain ⟨hv, hu⟩ := fr.eval ((hev x (by simp [ho, Op.operands, Call.operands])).trans hx)
  obtain ⟨g1, g2, g3⟩ := hr.ob i _ ((hp i (by simp)).trans hob)
  obtain ⟨A, c, hA, hn⟩ := nest_base g1
  rw [List.length_map] at hA
  have hu' := (D.ok t ty hi).sl (by simpa using he0)
  have hrun : (execOp a.eval o).run P w = .ok (.value (.int .i64 (xs.length : Int))) w := by
    simp [execOp, ho, resolve, invoke, builtin, hv, LV.val, hA, Builtin.len_, run_underlying hu', goInt]
  exact does_value hrun ⟨ρ, own, rfl, fun _ _ => rfl, trivial, hr.mono (fun i hi => .inl hi)⟩
theorem T_indexAddrN {α : Type} {enc : α → List Cell} {xs : List (List α)} {t i e e2 sz2 : Nat} {hole : Option (Nat × Nat)} {x y : Operand} {k : IntKind} {j : Int} {ty ety : TyI} (ho : o.op = .indexAddr t x y) (hx : st.ev x = some (.r i)) (hob : st.o.lookup i = some (.nest e e2 sz2 (xs.map (List.map enc)) hole)) (hy : st.ev y = some (.v (.int k j)))
    (hi : D.get t = some ty) (he0 : (ty.elem == 0) = false) (he : D.get ty.elem = some ety) (hs : ety.size = 1) (h0 : 0 ≤ j) (h1 : j < (xs.length : Int)) : T P N o b [i] st (.e i 1 j.toNat 0) 0 [] := by
  intro w0 M U ρ own st' a w hev hp hfr fr hr
  obtain ⟨hv, hu⟩ := fr.eval ((hev x (by simp [ho, Op.operands])).trans hx)
  obtain ⟨hv2, _⟩ := fr.eval ((hev y (by simp [ho, Op.operands])).trans hy)
  obtain ⟨g1, g2, g3⟩ := hr.ob i _ ((hp i (by simp)).trans hob)
  obtain ⟨A, c, hA, hn⟩ := nest_base g1
  rw [List.length_map] at hA hn
  obtain ⟨ad, rfl⟩ := hn (by omega)
  have hb : base (ρ i) = some ad := by rw [hA]; rfl
  have hrun : (execOp a.eval o).run P w = .ok (.value (.pointer (some (ad.add (j.toNat * 1))))) w := by
    simp only [execOp, ho, hv, hv2, LV.val, hA]
    rw [Sem.run_bind, run_indexAddr (D.ok t ty hi) (by simpa using he0) (D.ok _ ety he) h0 h1, hs]
    rfl
  exact does_value hrun ⟨ρ, own, by simp [LV.val, ptrOf, hb], fun _ _ => rfl, ⟨.inl hu, ad, hb⟩, hr.mono (fun i hi => .inl hi)⟩
theorem owns_same {w w' : World} {e sz n : Nat} {v : Value} {cells : List Value} (h : OwnsR w e sz v n cells) (hk : ∀ k, v.ownBlock = some k → w'.heap[k]? = w.heap[k]?) : OwnsR w' e sz v n cells := by
  refine ⟨h.1, ?_⟩
  rcases h.2 with h4 | ⟨g, off, cap, cur, he, hh, r⟩
  · exact .inl h4
  · exact .inr ⟨g, off, cap, cur, he, (hk g (by rw [he]; rfl)).trans hh, r⟩
theorem T_ldN {α : Type} [Inhabited α] {enc : α → List Cell} {xs : List (List α)} {t i e e2 sz2 j : Nat} {x : Operand} {ty : TyI} (ho : o.op = .load t x) (hx : st.ev x = some (.e i 1 j 0)) (hob : st.o.lookup i = some (.nest e e2 sz2 (xs.map (List.map enc)) none)) (hi : D.get t = some ty) (ha : ty.agg = false) (hj : j < xs.length) :
    T P N o b [i] st (.r b) 1 [(b, .row e2 sz2 ((xs.getD j default).map enc)), (i, .nest e e2 sz2 (xs.map (List.map enc)) (some (j, b)))] := by
  intro w0 M U ρ own st' a w hev hp hfrs fr hr
  obtain ⟨hv, hu⟩ := fr.eval ((hev x (by simp [ho, Op.operands])).trans hx)
  obtain ⟨ad, had⟩ := hu.2
  have hob' := (hp i (by simp)).trans hob
  obtain ⟨⟨vs, hN⟩, hUi, _⟩ := hr.ob i _ hob'
  have hbU : ¬ U b := hfrs b (Nat.le_refl _) (by omega)
  have hbi : b ≠ i := fun h => hbU (h ▸ hUi)
  have hrl : (xs.map (List.map enc)).length = xs.length := by simp
  have hvl : vs.length = xs.length := by rw [hN.out.1, hrl]; simp
  have hjv : vs[j]? = some vs[j] := List.getElem?_eq_getElem (by omega)
  have hrow : (xs.map (List.map enc))[j]? = some ((xs.getD j default).map enc) := by
    rw [List.getElem?_map, List.getElem?_eq_getElem hj, List.getD_eq_getElem?_getD, List.getElem?_eq_getElem hj]; rfl
  generalize hvj : vs[j] = v at hjv
  obtain ⟨cells, g1, g2, g3⟩ := hN.inn j _ v hrow hjv (fun b hb => by cases hb)
  have hcell : w.cell? (ad.add (j * 1 + 0)) = some v := by
    rcases hN.out.2 with ⟨h4, h5⟩ | ⟨g, off, cap, cur, he, hh, r⟩
    · omega
    · have had' : ad = ⟨g, off, none⟩ := by rw [he] at had; simpa [base] using had.symm
      subst had'
      rw [Nat.mul_one, Nat.add_zero]
      exact hN.out.cells he _ _ hjv
  have hrun : (execOp a.eval o).run P w = .ok (.value v) w := by
    simp only [execOp, ho]
    rw [Sem.run_bind, run_load1 (D.ok t ty hi) ha (a := ad.add (j * 1 + 0)) (by rw [hv]; simp [LV.val, ptrOf, had]) hcell]
    rfl
  let own' : Nat → Option Nat := fun k => if own k = some i ∧ v.ownBlock = some k then some b else own k
  have hρ : ∀ q, U q → upd1 ρ b v q = ρ q := fun q hq => upd1_other _ _ (fun h => hbU (h ▸ hq))
  have hnone : ∀ k, own k = none → k < w.heap.size → own' k = none ∧ w.heap[k]? = w.heap[k]? := fun k hk _ => ⟨by simp [own', hk], rfl⟩
  have hkeep : ∀ k, v.ownBlock ≠ some k → own' k = own k := fun k hk => by simp [own', hk]
  refine does_value hrun ⟨upd1 ρ b v, own', by simp [LV.val, upd1_same], hρ, .inr ⟨Nat.le_refl _, by omega⟩, ?_⟩
  refine hr.step (fun q => q = i) rfl rfl rfl (Nat.le_refl _) (fun k hk hq => ⟨rfl, ?_⟩) hρ (fun q hq => .inl hq) (fun q hq => ⟨.nest e e2 sz2 (xs.map (List.map enc)) (some (j, b)), by subst hq; simp [List.lookup, show (q == b) = false by simpa using Ne.symm hbi]⟩) (fun q ob' hq => ?_) (fun q ob' hq => ?_)
  · have : own k ≠ some i := fun h => hq i h rfl
    simp [own', this]
  · simp only [List.lookup] at hq
    cases hqb : q == b with
    | true => exact .inr (by rw [show q = b by simpa using hqb]; exact hbU)
    | false =>
      rw [hqb] at hq
      cases hqi : q == i with
      | true => exact .inl (by rw [show q = i by simpa using hqi]; exact ⟨_, hob'⟩)
      | false => rw [hqi] at hq; cases hq
  · simp only [List.lookup] at hq
    cases hqb : q == b with
    | true =>
      rw [hqb] at hq
      obtain rfl : q = b := by simpa using hqb
      obtain rfl : Ob.row e2 sz2 ((xs.getD j default).map enc) = ob' := by injection hq
      refine ⟨⟨hN.pos, cells, by rw [upd1_same]; exact g1, fun k hk => ?_, g2.mono hnone⟩, .inr ⟨Nat.le_refl _, by omega⟩, trivial⟩
      rw [upd1_same] at hk
      simp [own', (g3 k hk).1, hk]
    | false =>
      rw [hqb] at hq
      cases hqi : q == i with
      | false => rw [hqi] at hq; cases hq
      | true =>
        rw [hqi] at hq
        obtain rfl : q = i := by simpa using hqi
        obtain rfl : Ob.nest e e2 sz2 (xs.map (List.map enc)) (some (j, b)) = ob' := by injection hq
        have hρi := hρ q hUi
        refine ⟨⟨vs, hN.pos, by rw [hρi]; exact hN.out, fun k hk => ?_, fun j' b' hb => ?_, fun j' r v' hj' hv' hh => ?_, fun j1 j2 v1 v2 k hne _ _ => hN.dis j1 j2 v1 v2 k hne (fun b hb => by cases hb) (fun b hb => by cases hb)⟩, .inl hUi, fun j' b' hb => ?_⟩
        · rw [hρi] at hk
          rw [hkeep k (fun h => (g3 k h).2 hk)]
          exact hN.blk k hk
        · cases hb
          rw [upd1_same]; exact hjv
        · have hjj : j ≠ j' := fun h => hh b (by rw [h])
          obtain ⟨cells', k1, k2, k3⟩ := hN.inn j' r v' hj' hv' (fun b hb => by cases hb)
          refine ⟨cells', k1, k2.mono hnone, fun k hk => ?_⟩
          rw [hkeep k (fun h => hN.dis j j' v v' k hjj (fun b hb => by cases hb) (fun b hb => by cases hb) hjv hv' h hk), hρi]
          exact k3 k hk
        · cases hb
          exact .inr ⟨Nat.le_refl _, by omega⟩
theorem T_stN {α : Type} {enc : α → List Cell} {xs : List (List α)} {ys : List α} {t i q e e2 sz2 j : Nat} {hole : Option (Nat × Nat)} {x y : Operand} {ty : TyI} (ho : o.op = .store t x y) (hx : st.ev x = some (.e i 1 j 0)) (hob : st.o.lookup i = some (.nest e e2 sz2 (xs.map (List.map enc)) hole)) (hy : st.ev y = some (.r q)) (hoq : st.o.lookup q = some (.row e2 sz2 (ys.map enc)))
    (hi : D.get t = some ty) (hsz : ty.size = 1) (hiq : (i == q) = false) (hj : j < xs.length) (hh : hole = none ∨ ∃ b0, hole = some (j, b0)) :
    T P N o b [i, q] st (.v undef) 0 [(i, .nest e e2 sz2 ((xs.set j ys).map (List.map enc)) none), (q, .no)] := by
  intro w0 M U ρ own st' a w hev hp hfrs fr hr
  obtain ⟨hv, hu⟩ := fr.eval ((hev x (by simp [ho, Op.operands])).trans hx)
  obtain ⟨hv2, hu2⟩ := fr.eval ((hev y (by simp [ho, Op.operands])).trans hy)
  obtain ⟨ad, had⟩ := hu.2
  have hiq' : i ≠ q := by simpa using hiq
  have hob' := (hp i (by simp)).trans hob
  have hoq' := (hp q (by simp)).trans hoq
  obtain ⟨⟨vs, hN⟩, hUi, _⟩ := hr.ob i _ hob'
  obtain ⟨hq1, hUq, _⟩ := hr.ob q _ hoq'
  obtain ⟨A, c, hA⟩ := row_slice hq1
  obtain ⟨_, cellsq, q1, q2, q3⟩ := hq1
  have hrl : (xs.map (List.map enc)).length = xs.length := by simp
  have hvl : vs.length = xs.length := by rw [hN.out.1, hrl]; simp
  have hhole : ∀ j', j' ≠ j → ∀ b, hole ≠ some (j', b) := fun j' hne b hb => by
    rcases hh with rfl | ⟨b0, rfl⟩
    · cases hb
    · cases hb; exact hne rfl
  rcases hN.out.2 with ⟨h4, h5⟩ | ⟨g, off, cap, cur, he, hheap, r1, r2, r3, r4⟩
  · omega
  have hgi : own g = some i := hN.blk g (by rw [he]; rfl)
  have hb : base (ρ i) = some ⟨g, off, none⟩ := by rw [he]; rfl
  have hfits : off + j + [ρ q].length ≤ cur.size := by simp only [List.length_singleton]; omega
  have hcur : cur.toList.length = cur.size := Array.length_toList
  have hrun : (execOp a.eval o).run P w = .ok .skip (w.setRow g (splice cur.toList (off + j) [ρ q]).toArray) := by
    simp only [execOp, ho]
    rw [Sem.run_bind, run_storeAt (D.ok t ty hi) (g := g) (n := off + j) (vs := [ρ q]) (by rw [hv]; simp [LV.val, ptrOf, hb, add_at]) (by rw [hv2]; simp [LV.val, hA, Value.cells]) (by simp [hsz]) hheap hfits (fun u hu => by simp at hu; subst hu; rw [hA]; rfl)]
    rfl
  let own' : Nat → Option Nat := fun k => if own k = some q then some i else own k
  have hkq : ∀ k, own k ≠ some q → own' k = own k := fun k hk => by simp [own', hk]
  have hoth : ∀ k, own k ≠ some i → (w.setRow g (splice cur.toList (off + j) [ρ q]).toArray).heap[k]? = w.heap[k]? := fun k hk => setRow_other w g k _ (fun h => hk (by rw [h]; exact hgi))
  have hne2 : ∀ k, (ρ i).ownBlock ≠ some k → k ≠ g := fun k hk h => hk (by rw [he, h]; rfl)
  have hnone : ∀ k, own k = none → k < w.heap.size → own' k = none ∧ (w.setRow g (splice cur.toList (off + j) [ρ q]).toArray).heap[k]? = w.heap[k]? := fun k hk _ => ⟨by simp [own', hk], hoth k (by rw [hk]; simp)⟩
  refine does_skip hrun ⟨ρ, own', rfl, fun _ _ => rfl, trivial, ?_⟩
  refine HR.mono ?_ (fun i hi => .inl hi)
  refine hr.step (fun p => p = i ∨ p = q) (by simp) (by simp) (by simp) (by simp) (fun k hk hp' => ⟨hoth k (fun h => hp' i h (.inl rfl)), hkq k (fun h => hp' q h (.inr rfl))⟩) (fun _ _ => rfl) (fun _ h => h) (fun p hp' => ?_) (fun p ob' hp' => ?_) (fun p ob' hp' => ?_)
  · rcases hp' with rfl | rfl
    · exact ⟨_, by simp; rfl⟩
    · exact ⟨.no, by simp [List.lookup, show (p == i) = false by simpa using Ne.symm hiq']⟩
  · simp only [List.lookup] at hp'
    cases hpi : p == i with
    | true => exact .inl (by rw [show p = i by simpa using hpi]; exact ⟨_, hob'⟩)
    | false =>
      rw [hpi] at hp'
      cases hpq : p == q with
      | true => exact .inl (by rw [show p = q by simpa using hpq]; exact ⟨_, hoq'⟩)
      | false => rw [hpq] at hp'; cases hp'
  · simp only [List.lookup] at hp'
    cases hpi : p == i with
    | false =>
      rw [hpi] at hp'
      cases hpq : p == q with
      | false => rw [hpq] at hp'; cases hp'
      | true =>
        rw [hpq] at hp'
        obtain rfl : p = q := by simpa using hpq
        obtain rfl : Ob.no = ob' := by injection hp'
        exact ⟨trivial, hUq, trivial⟩
    | true =>
      rw [hpi] at hp'
      obtain rfl : p = i := by simpa using hpi
      obtain rfl : Ob.nest e e2 sz2 ((xs.set j ys).map (List.map enc)) none = ob' := by injection hp'
      have hat : ∀ j' v', (splice vs j [ρ q])[j']? = some v' → (j' = j ∧ v' = ρ q) ∨ (j' ≠ j ∧ vs[j']? = some v') := fun j' v' h => by
        rw [splice_get vs j [ρ q] (by simp; omega)] at h
        simp only [List.length_singleton] at h
        by_cases h1 : j' < j
        · rw [if_pos h1] at h; exact .inr ⟨by omega, h⟩
        · rw [if_neg h1] at h
          by_cases h2 : j' < j + 1
          · rw [if_pos h2] at h
            have : j' = j := by omega
            subst this
            simp at h
            exact .inl ⟨rfl, h.symm⟩
          · rw [if_neg h2] at h; exact .inr ⟨by omega, h⟩
      refine ⟨⟨splice vs j [ρ q], hN.pos, ?_, fun k hk => ?_, (fun j' b' hb => by cases hb), fun j' r v' hj' hv' _ => ?_, fun j1 j2 v1 v2 k hne _ _ hv1 hv2' hk1 hk2 => ?_⟩, hUi, (fun j' b' hb => by cases hb)⟩
      · have hlen : ((xs.set j ys).map (List.map enc)).length = xs.length := by simp
        refine ⟨by rw [splice_length _ _ _ (by simp; omega), hvl, hlen]; simp, .inr ⟨g, off, cap, _, by rw [he, hrl, hlen], setRow_heap w g cur _ e _ hheap, by rw [hlen]; omega, r2, ?_, ?_⟩⟩
        · rw [List.size_toArray, splice_length _ _ _ (by rw [hcur]; exact hfits), Array.length_toList]; exact r3
        · rw [hlen, ← r4, hrl]
          show ((splice cur.toList (off + j) [ρ q]).drop off).take _ = _
          rw [splice_drop _ _ _ _ (by rw [hcur]; omega)]
          exact splice_take _ _ _ _ (by simp; omega) (by rw [List.length_drop, hcur]; omega)
      · rw [hkq k (by rw [hN.blk k hk]; intro h; exact hiq' (Option.some.inj h))]
        exact hN.blk k hk
      · rcases hat j' v' hv' with ⟨rfl, rfl⟩ | ⟨hne, hv''⟩
        · have hr : r = ys.map enc := by
            rw [List.getElem?_map, List.getElem?_set_self (by omega)] at hj'
            simpa using hj'.symm
          subst hr
          refine ⟨cellsq, owns_same q1 (fun k hk => hoth k (by rw [q2 k hk]; intro h; exact hiq' (Option.some.inj h).symm)), q3.mono hnone, fun k hk => ⟨by simp [own', q2 k hk], fun h => ?_⟩⟩
          have h1 := hN.blk k h
          rw [q2 k hk] at h1
          exact hiq' (Option.some.inj h1).symm
        · have hr : (xs.map (List.map enc))[j']? = some r := by
            rw [List.getElem?_map, List.getElem?_set_ne (Ne.symm hne)] at hj'
            rw [List.getElem?_map]; exact hj'
          obtain ⟨cells', k1, k2, k3⟩ := hN.inn j' r v' hr hv'' (hhole j' hne)
          refine ⟨cells', owns_same k1 (fun k hk => setRow_other w g k _ (hne2 k (k3 k hk).2)), k2.mono hnone, fun k hk => ⟨?_, (k3 k hk).2⟩⟩
          rw [hkq k (by rw [(k3 k hk).1]; intro h; exact hiq' (Option.some.inj h))]
          exact (k3 k hk).1
      · have hown : ∀ j' v', j' ≠ j → vs[j']? = some v' → ∀ k, v'.ownBlock = some k → own k = some p := fun j' v' hne hv'' k hk => by
          have hj3 : j' < xs.length := by rw [← hvl]; exact (List.getElem?_eq_some_iff.1 hv'').1
          obtain ⟨cells', k1, k2, k3⟩ := hN.inn j' _ v' (by rw [List.getElem?_map, List.getElem?_eq_getElem hj3]; rfl) hv'' (hhole j' hne)
          exact (k3 k hk).1
        rcases hat j1 v1 hv1 with ⟨rfl, rfl⟩ | ⟨hne1, hv1'⟩
        · rcases hat j2 v2 hv2' with ⟨rfl, rfl⟩ | ⟨hne2', hv2''⟩
          · exact hne rfl
          · have h1 := hown j2 v2 hne2' hv2'' k hk2
            rw [q2 k hk1] at h1
            exact hiq' (Option.some.inj h1).symm
        · rcases hat j2 v2 hv2' with ⟨rfl, rfl⟩ | ⟨hne2', hv2''⟩
          · have h1 := hown j1 v1 hne1 hv1' k hk1
            rw [q2 k hk2] at h1
            exact hiq' (Option.some.inj h1).symm
          · exact hN.dis j1 j2 v1 v2 k hne (hhole j1 hne1) (hhole j2 hne2') hv1' hv2'' hk1 hk2
end
theorem Embs.nestE {o : List (Nat × Ob)} {σ : Nat → Nat} {c e e2 sz2 : Nat} {rows rows' : List (List (List Cell))} {l : List (Nat × Ob)} (h : o.lookup (σ c) = some (.nest e e2 sz2 rows' none)) (t : Embs o σ l) (he : rows' = rows) : Embs o σ ((c, .nest e e2 sz2 rows none) :: l) := .nest (by rw [h, he]) t
theorem Embs.lendNE {o : List (Nat × Ob)} {σ : Nat → Nat} {c e e2 sz2 : Nat} {rows : List (List Cell)} {rows' : List (List (List Cell))} {l : List (Nat × Ob)} (h : o.lookup (σ c) = some (.nest e e2 sz2 rows' none)) (t : Embs o σ l) (he : nestRows sz2 rows' = rows) : Embs o σ ((c, .fz 1 rows) :: l) := by
  subst he
  exact .lendN h t
theorem nestRows_eIs (xs : List (List Int)) : nestRows 1 (xs.map (List.map eI)) = xs.map eIs := by simp [nestRows, eIs, Function.comp_def]
theorem nestRows_eBs (xs : List (List Bool)) : nestRows 1 (xs.map (List.map eB)) = xs.map eBs := by simp [nestRows, eBs, Function.comp_def]
end Lg
end Go.Proofs.Ytpfhmodjjljpjaa
