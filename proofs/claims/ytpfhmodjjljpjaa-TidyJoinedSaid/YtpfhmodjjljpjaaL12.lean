import Derived.Test.YtpfhmodjjljpjaaL11
import Derived.Laws.Sem
namespace Go.Proofs.Ytpfhmodjjljpjaa
open Go.RowKit
namespace Lg
set_option linter.unusedSimpArgs false
set_option linter.unusedVariables false

/-! ### What a function does, told once -/
def Spec (P : Program) (f : Nat) (args : List LV) (b0 : Nat) (oc : List (Nat × Ob)) (res : LV) (b1 : Nat) (oc' : List (Nat × Ob)) : Prop :=
  ∀ (w0 : World) (M : Fp) (ρ : Nat → Value) (own : Nat → Option Nat) (w : World), M.n = b0 → HR w0 M (fun c => c < b0) ρ own oc w → LV.useds (fun c => c < b0) ρ args →
    Calls P f (LV.vals ρ args).toArray w (fun e w' => ∃ ρ' own', e = .returned (res.val ρ') ∧ res.used (fun c => c < b1) ρ' ∧ HR w0 M (fun c => c < b1) ρ' own' oc' w')

theorem Embs.congr {o o' : List (Nat × Ob)} {σ : Nat → Nat} {oc : List (Nat × Ob)} (h : Embs o σ oc) (hc : ∀ i, i ∈ oc.map (fun p => σ p.1) → o'.lookup i = o.lookup i) : Embs o' σ oc := by
  induction h with
  | nil => exact .nil
  | row h t ih => exact .row ((hc _ (by simp)).trans h) (ih (fun i hi => hc i (List.mem_cons_of_mem _ hi)))
  | fz h t ih => exact .fz ((hc _ (by simp)).trans h) (ih (fun i hi => hc i (List.mem_cons_of_mem _ hi)))
  | lend h t ih => exact .lend ((hc _ (by simp)).trans h) (ih (fun i hi => hc i (List.mem_cons_of_mem _ hi)))
  | nest h t ih => exact .nest ((hc _ (by simp)).trans h) (ih (fun i hi => hc i (List.mem_cons_of_mem _ hi)))
  | lendN h t ih => exact .lendN ((hc _ (by simp)).trans h) (ih (fun i hi => hc i (List.mem_cons_of_mem _ hi)))
  | no t ih => exact .no (ih (fun i hi => hc i (List.mem_cons_of_mem _ hi)))
  | box h t ih => exact .box ((hc _ (by simp)).trans h) (ih (fun i hi => hc i (List.mem_cons_of_mem _ hi)))

/-- The lent rows that a call freezes. -/
def frzOf (keep : Bool) (σ : Nat → Nat) (o : List (Nat × Ob)) : List (Nat × Ob) → List (Nat × Ob)
  | [] => []
  | p :: l => match keep, p.2, isRow (o.lookup (σ p.1)) with
    | false, .fz sz rows, true => (σ p.1, .fz sz rows) :: frzOf keep σ o l
    | _, _, _ => frzOf keep σ o l

theorem frzOf_congr {keep : Bool} {σ : Nat → Nat} {o o' : List (Nat × Ob)} : ∀ {oc : List (Nat × Ob)}, (∀ i, i ∈ oc.map (fun p => σ p.1) → o'.lookup i = o.lookup i) → frzOf keep σ o' oc = frzOf keep σ o oc
  | [], _ => rfl
  | p :: l, h => by
    simp only [frzOf, h (σ p.1) (by simp), frzOf_congr (oc := l) (fun i hi => h i (List.mem_cons_of_mem _ hi))]
theorem frzOf_mem {keep : Bool} {σ : Nat → Nat} {o : List (Nat × Ob)} {q : Nat × Ob} : ∀ {oc : List (Nat × Ob)}, q ∈ frzOf keep σ o oc → keep = false ∧ ∃ c sz rows, (c, Ob.fz sz rows) ∈ oc ∧ isRow (o.lookup (σ c)) = true ∧ q = (σ c, .fz sz rows)
  | [], h => by cases h
  | (c, ob) :: l, h => by
    have hrec : q ∈ frzOf keep σ o l → keep = false ∧ ∃ c' sz rows, (c', Ob.fz sz rows) ∈ (c, ob) :: l ∧ isRow (o.lookup (σ c')) = true ∧ q = (σ c', .fz sz rows) := fun h => by
      obtain ⟨h1, c', sz, rows, h2, h3, h4⟩ := frzOf_mem h
      exact ⟨h1, c', sz, rows, List.mem_cons_of_mem _ h2, h3, h4⟩
    simp only [frzOf] at h
    split at h
    · rename_i sz rows hr
      rcases List.mem_cons.1 h with h | h
      · exact ⟨by first | rfl | trivial, c, sz, rows, by simp, hr, h⟩
      · exact hrec h
    · exact hrec h
theorem mem_frzOf {σ : Nat → Nat} {o : List (Nat × Ob)} {c sz : Nat} {rows : List (List Cell)} : ∀ {oc : List (Nat × Ob)}, (c, Ob.fz sz rows) ∈ oc → isRow (o.lookup (σ c)) = true → (σ c, Ob.fz sz rows) ∈ frzOf false σ o oc
  | p :: l, h, hr => by
    rcases List.mem_cons.1 h with rfl | h
    · simp [frzOf, hr]
    · have := mem_frzOf (o := o) h hr
      simp only [frzOf]
      split
      · exact List.mem_cons_of_mem _ this
      · exact this
theorem mem_lookup_isSome {β : Type} {i : Nat} {x : β} : ∀ {l : List (Nat × β)}, (i, x) ∈ l → ∃ y, l.lookup i = some y
  | (k, b) :: l, h => by
    simp only [List.lookup]
    cases hk : i == k with
    | true => exact ⟨_, rfl⟩
    | false =>
      rcases List.mem_cons.1 h with h | h
      · cases h; simp at hk
      · exact mem_lookup_isSome h

/-- The checks of a call. -/
def backB (oc oc' : List (Nat × Ob)) (L : List (Nat × Nat)) (b0 b1 : Nat) : Bool :=
  decide (0 < b0) && decide (b0 ≤ b1) && (oc.all fun p => !isNo p.2) && (L.all fun p => (oc.lookup p.1).isSome) &&
  (oc'.all fun p => (decide (b0 ≤ p.1) || ((oc.lookup p.1).any isMut)) && decide (p.1 < b1) && p.2.okB (fun c => decide (c < b1))) &&
  (oc.all fun p => !isMut p.2 || (oc'.lookup p.1).isSome)

theorem back_of {o oc oc' : List (Nat × Ob)} {L : List (Nat × Nat)} {b0 b1 : Nat} {keep : Bool} (he : Embs o (sg 0 L) oc) (hp : pairB (sg 0 L) oc = true) (h : backB oc oc' L b0 b1 = true) (hfl : keep = false ∨ ∀ p ∈ oc', FlatOb p.2) :
    Back o oc oc' L b0 b1 keep (frzOf keep (sg 0 L) o oc) := by
  simp only [backB, Bool.and_eq_true, decide_eq_true_eq] at h
  obtain ⟨⟨⟨⟨⟨h0, h1⟩, hno⟩, h2⟩, h3⟩, h4⟩ := h
  refine ⟨h1, hno, h2, h3, h4, fun hk c ob hc hm hr => ?_, fun j ob hj => ?_, ?_⟩
  · subst hk
    rcases embs_at he hc with ⟨e, sz, rows, rfl, _⟩ | ⟨sz, rows, rfl, _⟩ | ⟨ob', sz, rows, rfl, _, _⟩ | ⟨e, e2, sz2, rows, rfl, _⟩ | ⟨t, cs, rfl, _⟩ | rfl
    · cases hm
    · exact mem_lookup_isSome (mem_frzOf (lookup_mem hc) hr)
    · exact mem_lookup_isSome (mem_frzOf (lookup_mem hc) hr)
    · cases hm
    · cases hm
    · have := List.all_eq_true.1 hno _ (lookup_mem hc)
      simp [isNo] at this
  · obtain ⟨g1, c, sz, rows, g2, g3, g4⟩ := frzOf_mem (lookup_mem hj)
    cases g4
    have g5 := lookup_of_mem hp g2
    refine ⟨g1, c, ?_⟩
    rcases embs_at he g5 with ⟨e, sz', rows', h, _⟩ | ⟨sz', rows', h, h6⟩ | ⟨ob', sz', rows', h, h6, hl⟩ | ⟨e, e2, sz2, rows', h, _⟩ | ⟨t, cs, h, _⟩ | h
    · cases h
    · rw [h6] at g3; cases g3
    · cases h
      exact ⟨ob', sz, rows, rfl, g5, h6, hl, rfl⟩
    · cases h
    · cases h
    · cases h
  · exact hfl.imp (fun h => h) (fun h c ob hc => h _ (lookup_mem hc))

theorem evals_of {N : Nat} {U : Nat → Prop} {ρ : Nat → Value} {st st' : St} {a : Act} (fr : FR N U ρ st'.s a) : ∀ (xs : List Operand) (l : List LV), (∀ x ∈ xs, st'.ev x = st.ev x) → xs.map st.ev = l.map some → xs.map a.eval = LV.vals ρ l ∧ LV.useds U ρ l
  | [], [], _, _ => ⟨rfl, trivial⟩
  | [], _ :: _, _, h => by simp at h
  | _ :: _, [], _, h => by simp at h
  | x :: xs, y :: l, hx, h => by
    simp only [List.map_cons, List.cons.injEq] at h
    obtain ⟨h1, h2⟩ := evals_of fr xs l (fun x hm => hx x (by simp [hm])) h.2
    obtain ⟨h3, h4⟩ := fr.eval ((hx x (by simp)).trans h.1)
    exact ⟨by simp [LV.vals, h1, h3], h4, h2⟩

section
variable {P : Program} {N : Nat} {o : Oper} {b : Nat} {st : St}

theorem T_call {fop : Operand} {as : Array Operand} {ats : Array TypeId} {f : Nat} {caps lvs cargs : List LV} {L : List (Nat × Nat)} {b0 b1 nn : Nat} {oc oc' upd : List (Nat × Ob)} {res lv : LV} (keep : Bool) (hs : Spec P f cargs b0 oc res b1 oc') (hbody : (P.funcs[f]?).map (fun fn => (fn.name == "runtime.NumGoroutine" || fn.body.isNone)) = some false)
    (ho : o.op = .call { callee := .value fop, args := as, argTypes := ats }) (hf : st.ev fop = some (.fn f caps)) (has : as.toList.map st.ev = lvs.map some)
    (hren : LV.rens (sg 0 L) cargs = lvs ++ caps) (he : Embs st.o (sg 0 L) oc) (hok : (LV.okBs (fun c => decide (c < b0)) cargs && res.okB (fun c => decide (c < b1)) && embB (sg 0 L) b0 oc && backB oc oc' L b0 b1) = true)
    (hfl : keep = false ∨ ∀ p ∈ oc', FlatOb p.2) (hlv : res.ren (piC (sg 0 L) b0 b) = lv) (hupd : (oc'.map fun p => (piC (sg 0 L) b0 b p.1, p.2.ren (piC (sg 0 L) b0 b))) ++ frzOf keep (sg 0 L) st.o oc = upd) (hnn : b1 - b0 = nn) :
    T P N o b (oc.map fun p => sg 0 L p.1) st lv nn upd := by
  intro w0 M U ρ own st' a w hx hp hf' fr hr
  subst hlv hupd hnn
  simp only [Bool.and_eq_true] at hok
  obtain ⟨⟨⟨hok1, hok2⟩, hemb⟩, hback⟩ := hok
  have hpair : pairB (sg 0 L) oc = true := by
    have := hemb
    simp only [embB, Bool.and_eq_true] at this
    exact this.1
  have h0 : 0 < b0 := by
    have := hback
    simp only [backB, Bool.and_eq_true, decide_eq_true_eq] at this
    exact this.1.1.1.1.1
  obtain ⟨hfv, hfu⟩ := fr.eval ((hx fop (by simp [ho, Op.operands, Call.operands])).trans hf)
  obtain ⟨hav, hau⟩ := evals_of (st := st) fr as.toList lvs (fun x hm => hx x (by simp [ho, Op.operands, Call.operands, Array.mem_toList_iff.1 hm])) has
  have he' := he.congr (o' := st'.o) (fun i hi => hp i hi)
  have hrc := hr.callee he' hemb h0
  have hall : LV.useds U ρ (lvs ++ caps) := by
    rw [useds_iff]
    intro x hx
    rcases List.mem_append.1 hx with h | h
    · exact useds_iff.1 hau x h
    · exact useds_iff.1 hfu x h
  have huc : LV.useds (fun c => c < b0) (fun c => ρ (sg 0 L c)) cargs := useds_ren (fun c hc => of_decide_eq_true hc) cargs hok1 (by rw [hren]; exact hall)
  have hvals : LV.vals (fun c => ρ (sg 0 L c)) cargs = LV.vals ρ lvs ++ LV.vals ρ caps := by
    rw [← rens_val (p := fun c => decide (c < b0)) (ρ' := ρ) (π := sg 0 L) (fun _ _ => rfl) cargs hok1, hren, vals_append]
  have hcall := hs w (fpC ρ own (sg 0 L) oc st'.o b0) (fun c => ρ (sg 0 L c)) _ w rfl hrc huc
  obtain ⟨fn, hfn, hfnb⟩ := Option.map_eq_some_iff.1 hbody
  simp only [Bool.or_eq_false_iff] at hfnb
  have hne : fn.name ≠ "runtime.NumGoroutine" := by simpa using hfnb.1
  have hbn : fn.body ≠ none := fun h => by rw [h] at hfnb; simp at hfnb
  have hrun : (execOp a.eval o).run P w = .ok (.enter f (LV.vals (fun c => ρ (sg 0 L c)) cargs).toArray) w := by
    have hargs : as.map a.eval = (LV.vals ρ lvs).toArray := by
      apply Array.ext'
      rw [Array.toList_map, hav]
    simp [execOp, ho, resolve, hfv, LV.val, Deferred.ofValue, invoke, callFunc, hfn, hne, hbn, hargs, hvals]
  intro next Q hn
  unfold Oper.wp
  rw [hrun]
  refine Calls.mono hcall (fun e w' he2 => ?_)
  obtain ⟨ρc, ownc, rfl, hru, hr'⟩ := he2
  have hbk := back_of (keep := keep) he' hpair hback hfl
  obtain ⟨ρ', own', k1, k2, k3⟩ := hr.back he' hemb hbk hf' hr'
  refine hn _ _ ⟨ρ', own', (ren_val (p := fun c => decide (c < b1)) (fun c h => (k2 c (of_decide_eq_true h)).1) res hok2).symm, k1, ren_used (ρ := ρc) (p := fun c => decide (c < b1)) (fun c h => (k2 c (of_decide_eq_true h)).1) (fun c h => (k2 c (of_decide_eq_true h)).2) res hok2 hru, ?_⟩
  rw [frzOf_congr (fun i hi => hp i hi)] at k3
  exact k3
end

/-! ### The walk -/
def W (P : Program) (N n : Nat) (c : Code) (b : Nat) (st : St) (K : Exit → Nat → St → Prop) : Prop :=
  ∀ (w0 : World) (M : Fp) (Q : Exit → Act → World → Prop) (a : Act) (w : World), M.n = n → (∀ x b' st' a' w', K x b' st' → Rep N w0 M (fun i => i < b') st' a' w' → Q x a' w') → Rep N w0 M (fun i => i < b) st a w → c.wp P Q a w

/-- The slots, by other numbers. -/
inductive SEmb (s : List (Nat × LV)) (σ : Nat → Nat) (p : Nat → Bool) : List (Nat × LV) → Prop
  | nil : SEmb s σ p []
  | cons {d : Nat} {lv lv' : LV} {l : List (Nat × LV)} (h : s.lookup d = some lv') (he : lv' = lv.ren σ) (hp : lv.okB p = true) (t : SEmb s σ p l) : SEmb s σ p ((d, lv) :: l)

theorem SEmb.at {s : List (Nat × LV)} {σ : Nat → Nat} {p : Nat → Bool} {l : List (Nat × LV)} (h : SEmb s σ p l) {d : Nat} {lv : LV} (hd : l.lookup d = some lv) : s.lookup d = some (lv.ren σ) ∧ lv.okB p = true := by
  induction h with
  | nil => simp at hd
  | @cons d' lv' lv2 l h he hp t ih =>
    simp only [List.lookup] at hd
    cases hk : d == d' with
    | true =>
      rw [hk] at hd
      obtain rfl : lv' = lv := by injection hd
      obtain rfl : d = d' := by simpa using hk
      exact ⟨by rw [h, he], hp⟩
    | false => rw [hk] at hd; exact ih hd

def leB (σ : Nat → Nat) (n b0 : Nat) (oc : List (Nat × Ob)) : Bool := embB σ b0 oc && decide (n ≤ b0) && decide (0 < b0)

/-- A state holds, seen by other numbers; slices may be frozen. -/
def Le (n : Nat) (s : St) (b0 : Nat) (s' : St) : Prop := ∃ L, SEmb s.s (sg n L) (fun c => decide (c < b0)) s'.s ∧ Embs s.o (sg n L) s'.o ∧ leB (sg n L) n b0 s'.o = true

theorem Rep.le {N : Nat} {w0 : World} {M : Fp} {U : Nat → Prop} {s s' : St} {b0 n : Nat} {a : Act} {w : World} (h : Rep N w0 M U s a w) (hn : M.n = n) (hl : Le n s b0 s') : Rep N w0 M (fun i => i < b0) s' a w := by
  subst hn
  obtain ⟨ρ, own, fr, hr⟩ := h
  obtain ⟨L, h1, h2, h3⟩ := hl
  simp only [leB, Bool.and_eq_true, decide_eq_true_eq] at h3
  refine ⟨fun c => ρ (sg M.n L c), _, ⟨fr.sz, fr.df, fun d lv hd => ?_⟩, hr.emb h2 h3.1.1 h3.1.2 h3.2⟩
  obtain ⟨h4, h5⟩ := h1.at hd
  obtain ⟨h6, h7⟩ := fr.sl d _ h4
  refine ⟨by rw [h6, ren_val (p := fun c => decide (c < b0)) (ρ := fun c => ρ (sg M.n L c)) (fun _ _ => rfl) lv h5], used_ren (fun c hc => of_decide_eq_true hc) lv h5 h7⟩

def thenK (J : Nat → St → Prop) (K : Exit → Nat → St → Prop) : Exit → Nat → St → Prop
  | .normal, b, s => J b s
  | x, b, s => K x b s
def blockK (id : Nat) (K : Exit → Nat → St → Prop) : Exit → Nat → St → Prop
  | .exit i, b, s => if i = id then K .normal b s else K (.exit i) b s
  | x, b, s => K x b s

section
variable {P : Program} {N n b : Nat} {st : St} {K : Exit → Nat → St → Prop}

theorem W_seq {c d : Code} (h : W P N n c b st (thenK (fun b' s' => W P N n d b' s' K) K)) : W P N n (.seq c d) b st K := by
  intro w0 M Q a w hn hq hr
  refine wp_seq (h w0 M _ a w hn (fun x b' st' a' w' hk hr' => ?_) hr)
  cases x with
  | normal => exact hk w0 M Q a' w' hn hq hr'
  | _ => exact hq _ _ _ _ _ hk hr'
theorem W_skip (h : K .normal b st) : W P N n .skip b st K := fun _ _ _ _ _ _ hq hr => wp_skip (hq _ _ _ _ _ h hr)
theorem W_exit {id : Nat} (h : K (.exit id) b st) : W P N n (.exit id) b st K := fun _ _ _ _ _ _ hq hr => wp_exit (hq _ _ _ _ _ h hr)
theorem W_ret (h : K .ret b st) : W P N n .ret b st K := fun _ _ _ _ _ _ hq hr => wp_ret (hq _ _ _ _ _ h hr)
theorem W_block {id : Nat} {c : Code} (h : W P N n c b st (blockK id K)) : W P N n (.block id c) b st K := by
  intro w0 M Q a w hn hq hr
  refine wp_block (h w0 M _ a w hn (fun x b' st' a' w' hk hr' => ?_) hr)
  cases x with
  | exit i =>
    show if i = id then _ else _
    have hk' : if i = id then K .normal b' st' else K (.exit i) b' st' := hk
    split
    · rename_i h; rw [if_pos h] at hk'; exact hq _ _ _ _ _ hk' hr'
    · rename_i h; rw [if_neg h] at hk'; exact hq _ _ _ _ _ hk' hr'
  | _ => exact hq _ _ _ _ _ hk hr'
theorem W_cond {x : Operand} {c d : Code} {t : Bool} (hc : st.ev x = some (.v (.bool t))) (h1 : t = true → W P N n c b st K) (h2 : t = false → W P N n d b st K) : W P N n (.cond x c d) b st K := by
  intro w0 M Q a w hn hq hr
  have hr' := hr
  obtain ⟨ρ, own, fr, _⟩ := hr'
  refine wp_cond_split (t := t) ((fr.eval hc).1) (fun ht => h1 ht w0 M Q a w hn hq hr) (fun ht => h2 ht w0 M Q a w hn hq hr)
theorem W_region {id b' : Nat} {ops : Array Oper} {tr : List Tr} {st' : St} (r : Run P N ops b 0 st tr st') (hd : dstsOk ops N = true) (hb : b + 16 * ops.size = b') (h : K .normal b' st') : W P N n (.region id ops false) b st K := by
  intro w0 M Q a w hn hq hr
  subst hb
  exact region_seq hd r hr (fun a' w' hr' => hq _ _ _ _ _ h hr')
theorem W_any {id b' : Nat} {ops : Array Oper} {tr : List Tr} {st' : St} (hm : P.follows .mixedOrders = true) (r : Run P N ops b 0 st tr st') (hd : dstsOk ops N = true) (hc : chk ops tr = true) (hb : b + 16 * ops.size = b') (h : K .normal b' st') : W P N n (.region id ops true) b st K := by
  intro w0 M Q a w hn hq hr
  subst hb
  exact region_any hm hd r hc hr (fun a' w' hr' => hq _ _ _ _ _ h hr')
theorem W_le {c : Code} {b0 : Nat} {st0 : St} (hl : Le n st b0 st0) (h : W P N n c b0 st0 K) : W P N n c b st K := fun w0 M Q a w hn hq hr => h w0 M Q a w hn hq (hr.le hn hl)
theorem W_mono {c : Code} {K' : Exit → Nat → St → Prop} (h : W P N n c b st K') (hk : ∀ x b s, K' x b s → K x b s) : W P N n c b st K := fun w0 M Q a w hn hq hr => h w0 M Q a w hn (fun x b s a w h1 h2 => hq x b s a w (hk _ _ _ h1) h2) hr
/-- Behind c there are few states; what follows is walked from these. -/
def joinK {ι : Type} (n b0 : Nat) (I : ι → St) (J : ι → Prop) : Nat → St → Prop := fun _ s => ∃ i, J i ∧ Le n s b0 (I i)
theorem W_join {ι : Type} {c d : Code} (b0 : Nat) (I : ι → St) (J : ι → Prop) (h : W P N n c b st (thenK (joinK n b0 I J) K)) (h2 : ∀ i, J i → W P N n d b0 (I i) K) : W P N n (.seq c d) b st K := by
  intro w0 M Q a w hn hq hr
  refine wp_seq (h w0 M _ a w hn (fun x b' st' a' w' hk hr' => ?_) hr)
  cases x with
  | normal =>
    obtain ⟨i, hi, hl⟩ := hk
    exact h2 i hi w0 M Q a' w' hn hq (hr'.le hn hl)
  | _ => exact hq _ _ _ _ _ hk hr'
def roundK {ι : Type} (n b0 : Nat) (I : ι → St) (J : ι → Prop) (μ : ι → Nat) (m : Nat) : Nat → St → Prop := fun _ s => ∃ i, J i ∧ μ i < m ∧ Le n s b0 (I i)
theorem W_loop {ι : Type} {c : Code} (b0 : Nat) (I : ι → St) (J : ι → Prop) (μ : ι → Nat) (i0 : ι) (hi : J i0) (h0 : Le n st b0 (I i0)) (round : ∀ i, J i → W P N n c b0 (I i) (thenK (roundK n b0 I J μ (μ i)) K)) : W P N n (.loop c) b st K := by
  intro w0 M Q a w hn hq hr
  refine wp_loop_ghost (fun m a w => ∃ i, J i ∧ μ i = m ∧ Rep N w0 M (fun i => i < b0) (I i) a w) (μ i0) ⟨i0, hi, rfl, hr.le hn h0⟩ (fun m a w hI => ?_)
  obtain ⟨i, hJ, rfl, hr1⟩ := hI
  refine round i hJ w0 M _ a w hn (fun x b' st' a' w' hk hr' => ?_) hr1
  cases x with
  | normal =>
    obtain ⟨i', h1, h2, h3⟩ := hk
    exact ⟨μ i', h2, i', h1, rfl, hr'.le hn h3⟩
  | _ => exact hq _ _ _ _ _ hk hr'
end

/-! ### A function's end -/
inductive Res {P : Program} (D : Tab P) (st : St) : List ResultVar → List LV → Prop
  | nil : Res D st [] []
  | tmp {t : Nat} {lv : LV} {rs : List ResultVar} {l : List LV} (h : st.s.lookup t = some lv) (r : Res D st rs l) : Res D st (.tmp t :: rs) (lv :: l)
  | cellA {a t i bt : Nat} {cs : List LV} {ty : TyI} {rs : List ResultVar} {l : List LV} (h : st.s.lookup a = some (.p i 0)) (ho : st.o.lookup i = some (.box bt cs)) (hi : D.get t = some ty) (ha : ty.agg = true) (hl : cs.length = ty.size) (r : Res D st rs l) : Res D st (.cell a t :: rs) (.agg cs :: l)
  | cell {a t i bt : Nat} {lv : LV} {ty : TyI} {rs : List ResultVar} {l : List LV} (h : st.s.lookup a = some (.p i 0)) (ho : st.o.lookup i = some (.box bt [lv])) (hi : D.get t = some ty) (ha : ty.agg = false) (r : Res D st rs l) : Res D st (.cell a t :: rs) (lv :: l)

def resLV : List LV → LV
  | [x] => x
  | l => .tup l

def resOne (a : Act) : ResultVar → Sem Value
  | .tmp t => pure (a.tmps.getD t undef)
  | .cell x t => do loadVar t (← asAddr (a.tmps.getD x undef))

theorem res_run {P : Program} {D : Tab P} {st : St} {N : Nat} {w0 w : World} {M : Fp} {U : Nat → Prop} {ρ : Nat → Value} {own : Nat → Option Nat} {a : Act} (fr : FR N U ρ st.s a) (hr : HR w0 M U ρ own st.o w) {rs : List ResultVar} {l : List LV} (h : Res D st rs l) :
    (rs.mapM (resOne a)).run P w = .ok (LV.vals ρ l) w ∧ LV.useds U ρ l := by
  induction h with
  | nil => exact ⟨rfl, trivial⟩
  | @tmp t lv rs l h r ih =>
    obtain ⟨h1, h2⟩ := fr.sl t lv h
    rw [List.mapM_cons]
    refine ⟨?_, h2, ih.2⟩
    have hv : (resOne a (.tmp t)).run P w = .ok (lv.val ρ) w := by simp [resOne, h1]
    rw [Sem.run_bind, hv, Result.andThen_ok, Sem.run_bind, ih.1]
    rfl
  | @cellA x t i bt cs ty rs l h ho hi ha hl r ih =>
    obtain ⟨h1, h2⟩ := fr.sl x _ h
    obtain ⟨ad, had⟩ := h2.2
    obtain ⟨g1, g2, g3⟩ := hr.ob i _ ho
    have hl1 := run_loadA (D.ok t ty hi) ha (a := ad.add 0) (cs := LV.vals ρ cs) (pv := .pointer (some (ad.add 0))) rfl (w := w) (by rw [vals_length]; exact hl) (fun j v hj => by
      rw [vals_getElem?, Option.map_eq_some_iff] at hj
      obtain ⟨lv, hlv, rfl⟩ := hj
      rw [add_add, Nat.zero_add]
      exact box_cell g1 had hlv)
    rw [List.mapM_cons]
    refine ⟨?_, ⟨g3.1, g3.2⟩, ih.2⟩
    have hv0 : a.tmps.getD x undef = .pointer (some (ad.add 0)) := by
      have : a.tmps[x]? = some (.pointer (some (ad.add 0))) := by rw [h1]; simp [LV.val, ptrOf, had]
      simp [this]
    have hv : (resOne a (.cell x t)).run P w = .ok (.agg (LV.vals ρ cs).toArray) w := by
      simp only [Instr.loadAt, Instr.sureAddr, Sem.run_bind, Sem.run_pure, Result.andThen_ok] at hl1
      simp only [resOne, hv0, asAddr, Sem.run_bind, Sem.run_pure, Result.andThen_ok, hl1]
    rw [Sem.run_bind, hv, Result.andThen_ok, Sem.run_bind, ih.1]
    rfl
  | @cell x t i bt lv ty rs l h ho hi ha r ih =>
    obtain ⟨h1, h2⟩ := fr.sl x _ h
    obtain ⟨ad, had⟩ := h2.2
    obtain ⟨g1, g2, g3⟩ := hr.ob i _ ho
    have hl1 := run_load1 (D.ok t ty hi) ha (a := ad.add 0) (pv := .pointer (some (ad.add 0))) rfl (box_cell g1 had (n := 0) (lv := lv) rfl)
    rw [List.mapM_cons]
    refine ⟨?_, g3.1.1, ih.2⟩
    have hv0 : a.tmps.getD x undef = .pointer (some (ad.add 0)) := by
      have : a.tmps[x]? = some (.pointer (some (ad.add 0))) := by rw [h1]; simp [LV.val, ptrOf, had]
      simp [this]
    have hv : (resOne a (.cell x t)).run P w = .ok (lv.val ρ) w := by
      simp only [Instr.loadAt, Instr.sureAddr, Sem.run_bind, Sem.run_pure, Result.andThen_ok] at hl1
      simp only [resOne, hv0, asAddr, Sem.run_bind, Sem.run_pure, Result.andThen_ok, hl1]
    rw [Sem.run_bind, hv, Result.andThen_ok, Sem.run_bind, ih.1]
    rfl

def endB (σ : Nat → Nat) (b0 b1 : Nat) (res : LV) (oc' : List (Nat × Ob)) : Bool := res.okB (fun c => decide (c < b1)) && embB σ b1 oc' && decide (b0 ≤ b1) && decide (0 < b1)

/-- The end of a function's body. -/
inductive retK {P : Program} (D : Tab P) (rs : List ResultVar) (b0 : Nat) (res : LV) (b1 : Nat) (oc' : List (Nat × Ob)) : Exit → Nat → St → Prop
  | mk {x : Exit} {b : Nat} {s : St} {l : List LV} (L : List (Nat × Nat)) (hx : x = .normal ∨ x = .ret) (hr : Res D s rs l) (hl : resLV l = res.ren (sg b0 L)) (he : Embs s.o (sg b0 L) oc') (hb : endB (sg b0 L) b0 b1 res oc' = true) : retK D rs b0 res b1 oc' x b s

theorem resLV_run (ρ : Nat → Value) (l : List LV) : (if h : (LV.vals ρ l).toArray.size = 1 then (LV.vals ρ l).toArray[0] else .tuple (LV.vals ρ l).toArray) = (resLV l).val ρ := by
  match l with
  | [] => rfl
  | [x] => rfl
  | x :: y :: l => simp [resLV, LV.val, LV.vals]

theorem results_run {P : Program} {D : Tab P} {st : St} {N : Nat} {w0 w : World} {M : Fp} {U : Nat → Prop} {ρ : Nat → Value} {own : Nat → Option Nat} {a : Act} (fr : FR N U ρ st.s a) (hr : HR w0 M U ρ own st.o w) {fn : Func} {l : List LV} (h : Res D st fn.results.toList l) : (results fn a.tmps).run P w = .ok ((resLV l).val ρ) w := by
  have h1 := (res_run fr hr h).1
  have h2 : results fn a.tmps = (do let vs ← fn.results.mapM (resOne a); pure (if h : vs.size = 1 then vs[0] else .tuple vs)) := by
    unfold results
    have h3 : (fun x : ResultVar => match x with | .tmp t => (pure (a.tmps.getD t undef) : Sem Value) | .cell x t => do loadVar t (← asAddr (a.tmps.getD x undef))) = resOne a := funext fun r => by cases r <;> rfl
    rw [← h3]
    rfl
  rw [h2, ← resLV_run, Sem.run_bind, Array.mapM_eq_mapM_toList, Sem.run_map, h1]
  rfl

theorem sem_used {U : Nat → Prop} {ρ : Nat → Value} : ∀ {l : List LV}, LV.useds U ρ l → (resLV l).used U ρ
  | [], h => h
  | [_], h => h.1
  | _ :: _ :: _, h => h

def argSlots : Nat → List LV → List (Nat × LV)
  | _, [] => []
  | i, x :: xs => (i, x) :: argSlots (i + 1) xs

theorem argSlots_at : ∀ (l : List LV) (i d : Nat) (lv : LV), (argSlots i l).lookup d = some lv → i ≤ d ∧ l[d - i]? = some lv
  | [], i, d, lv, h => by simp [argSlots] at h
  | x :: xs, i, d, lv, h => by
    simp only [argSlots, List.lookup] at h
    cases hk : d == i with
    | true =>
      rw [hk] at h
      obtain rfl : d = i := by simpa using hk
      obtain rfl : x = lv := by injection h
      simp
    | false =>
      rw [hk] at h
      obtain ⟨h1, h2⟩ := argSlots_at xs (i + 1) d lv h
      refine ⟨by omega, ?_⟩
      rw [show d - i = (d - (i + 1)) + 1 by omega]
      simpa using h2

theorem spec_of {P : Program} (D : Tab P) {f : Nat} {fn : Func} {c : Code} {args : List LV} {b0 : Nat} {oc : List (Nat × Ob)} {res : LV} {b1 : Nat} {oc' : List (Nat × Ob)} (hf : P.funcs[f]? = some fn) (hb : fn.body = some c) (hn : args.length ≤ fn.ntmps)
    (h : W P fn.ntmps b0 c b0 ⟨argSlots 0 args, oc⟩ (retK D fn.results.toList b0 res b1 oc')) : Spec P f args b0 oc res b1 oc' := by
  intro w0 M ρ own w hM hr hu
  refine calls_of_wp hf hb ?_
  refine h w0 M _ _ w hM (fun x b st a' w' hk hr' => ?_) ⟨ρ, own, ⟨?_, rfl, fun d lv hd => ?_⟩, hr⟩
  · obtain ⟨ρ', own', fr', hr'⟩ := hr'
    cases hk with
    | mk L hx hR hl he hB =>
      rename_i l
      have hrun := results_run fr' hr' hR
      have hus := sem_used (res_run fr' hr' hR).2
      simp only [endB, Bool.and_eq_true, decide_eq_true_eq] at hB
      subst hM
      have hemb := hr'.emb he hB.1.1.2 hB.1.2 hB.2
      have hval : (resLV l).val ρ' = res.val (fun c => ρ' (sg M.n L c)) := by
        rw [hl, ren_val (p := fun c => decide (c < b1)) (ρ := fun c => ρ' (sg M.n L c)) (fun _ _ => rfl) res hB.1.1.1]
      have hfin : a'.defers = [] ∧ ∃ v, (results fn a'.tmps).run P w' = .ok v w' ∧ (∃ ρ'' own'', Ending.returned v = .returned (res.val ρ'') ∧ res.used (fun c => c < b1) ρ'' ∧ HR w0 M (fun c => c < b1) ρ'' own'' oc' w') :=
        ⟨fr'.df, _, hrun, _, _, by rw [hval], by rw [hl] at hus; exact used_ren (fun c hc => of_decide_eq_true hc) res hB.1.1.1 hus, hemb⟩
      rcases hx with rfl | rfl
      · exact hfin
      · exact hfin
  · simp [vals_length]; omega
  · obtain ⟨_, h1⟩ := argSlots_at args 0 d lv hd
    rw [Nat.sub_zero] at h1
    have h2 : (LV.vals ρ args)[d]? = some (lv.val ρ) := by rw [vals_getElem?, h1]; rfl
    have h3 : d < (LV.vals ρ args).length := (List.getElem?_eq_some_iff.1 h2).1
    refine ⟨?_, useds_iff.1 hu lv (List.mem_of_getElem? h1)⟩
    rw [Array.getElem?_append_left (by simpa using h3)]
    simpa using h2
end Lg
end Go.Proofs.Ytpfhmodjjljpjaa
