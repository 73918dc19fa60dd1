import Derived.Test.YtpfhmodjjljpjaaL9
import Derived.Deep.LoopGhost
namespace Go.Proofs.Ytpfhmodjjljpjaa
open Go.RowKit
namespace Lg
set_option linter.unusedSimpArgs false
set_option linter.unusedVariables false

/-! ### Other numbers for the objects -/
mutual
def LV.ren (π : Nat → Nat) : LV → LV
  | .v x => .v x
  | .r i => .r (π i)
  | .p i n => .p (π i) n
  | .e i sz j f => .e (π i) sz j f
  | .agg l => .agg (LV.rens π l)
  | .tup l => .tup (LV.rens π l)
  | .fn f l => .fn f (LV.rens π l)
def LV.rens (π : Nat → Nat) : List LV → List LV
  | [] => []
  | x :: xs => x.ren π :: LV.rens π xs
end
mutual
def LV.okB (p : Nat → Bool) : LV → Bool
  | .v _ => true
  | .r i => p i
  | .p i _ => p i
  | .e i _ _ _ => p i
  | .agg l => LV.okBs p l
  | .tup l => LV.okBs p l
  | .fn _ l => LV.okBs p l
def LV.okBs (p : Nat → Bool) : List LV → Bool
  | [] => true
  | x :: xs => x.okB p && LV.okBs p xs
end
mutual
theorem ren_val {π : Nat → Nat} {ρ ρ' : Nat → Value} {p : Nat → Bool} (h : ∀ c, p c = true → ρ' (π c) = ρ c) : ∀ (x : LV), x.okB p = true → (x.ren π).val ρ' = x.val ρ
  | .v _, _ => rfl
  | .r i, hu => h i hu
  | .p i n, hu => by simp only [LV.ren, LV.val]; rw [h i hu]
  | .e i sz j f, hu => by simp only [LV.ren, LV.val]; rw [h i hu]
  | .agg l, hu => by simp only [LV.ren, LV.val]; rw [rens_val h l hu]
  | .tup l, hu => by simp only [LV.ren, LV.val]; rw [rens_val h l hu]
  | .fn f l, hu => by simp only [LV.ren, LV.val]; rw [rens_val h l hu]
theorem rens_val {π : Nat → Nat} {ρ ρ' : Nat → Value} {p : Nat → Bool} (h : ∀ c, p c = true → ρ' (π c) = ρ c) : ∀ (l : List LV), LV.okBs p l = true → LV.vals ρ' (LV.rens π l) = LV.vals ρ l
  | [], _ => rfl
  | x :: xs, hu => by
    simp only [LV.okBs, Bool.and_eq_true] at hu
    simp only [LV.rens, LV.vals]
    rw [ren_val h x hu.1, rens_val h xs hu.2]
end
mutual
theorem ren_used {π : Nat → Nat} {ρ ρ' : Nat → Value} {p : Nat → Bool} {U U' : Nat → Prop} (h : ∀ c, p c = true → ρ' (π c) = ρ c) (hU : ∀ c, p c = true → U' (π c)) : ∀ (x : LV), x.okB p = true → x.used U ρ → (x.ren π).used U' ρ'
  | .v _, _, _ => trivial
  | .r i, hp, _ => hU i hp
  | .p i n, hp, hu => ⟨hU i hp, by rw [h i hp]; exact hu.2⟩
  | .e i sz j f, hp, hu => ⟨hU i hp, by rw [h i hp]; exact hu.2⟩
  | .agg l, hp, hu => ⟨rens_used h hU l hp hu.1, by rw [rens_val h l hp]; exact hu.2⟩
  | .tup l, hp, hu => rens_used h hU l hp hu
  | .fn f l, hp, hu => rens_used h hU l hp hu
theorem rens_used {π : Nat → Nat} {ρ ρ' : Nat → Value} {p : Nat → Bool} {U U' : Nat → Prop} (h : ∀ c, p c = true → ρ' (π c) = ρ c) (hU : ∀ c, p c = true → U' (π c)) : ∀ (l : List LV), LV.okBs p l = true → LV.useds U ρ l → LV.useds U' ρ' (LV.rens π l)
  | [], _, _ => trivial
  | x :: xs, hp, hu => by
    simp only [LV.okBs, Bool.and_eq_true] at hp
    exact ⟨ren_used h hU x hp.1 hu.1, rens_used h hU xs hp.2 hu.2⟩
end
mutual
theorem used_ren {π : Nat → Nat} {ρ : Nat → Value} {p : Nat → Bool} {U U' : Nat → Prop} (hU : ∀ c, p c = true → U' c) : ∀ (x : LV), x.okB p = true → (x.ren π).used U ρ → x.used U' (fun c => ρ (π c))
  | .v _, _, _ => trivial
  | .r i, hp, _ => hU i hp
  | .p i n, hp, hu => ⟨hU i hp, hu.2⟩
  | .e i sz j f, hp, hu => ⟨hU i hp, hu.2⟩
  | .agg l, hp, hu => ⟨useds_ren hU l hp hu.1, by rw [← rens_val (ρ' := ρ) (fun _ _ => rfl) l hp]; exact hu.2⟩
  | .tup l, hp, hu => useds_ren hU l hp hu
  | .fn f l, hp, hu => useds_ren hU l hp hu
theorem useds_ren {π : Nat → Nat} {ρ : Nat → Value} {p : Nat → Bool} {U U' : Nat → Prop} (hU : ∀ c, p c = true → U' c) : ∀ (l : List LV), LV.okBs p l = true → LV.useds U ρ (LV.rens π l) → LV.useds U' (fun c => ρ (π c)) l
  | [], _, _ => trivial
  | x :: xs, hp, hu => by
    simp only [LV.okBs, Bool.and_eq_true] at hp
    exact ⟨used_ren hU x hp.1 hu.1, useds_ren hU xs hp.2 hu.2⟩
end

def Ob.ren (π : Nat → Nat) : Ob → Ob
  | .box t cs => .box t (LV.rens π cs)
  | .row e sz rows => .row e sz rows
  | .fz sz rows => .fz sz rows
  | .nest e e2 sz2 rows hole => .nest e e2 sz2 rows (hole.map fun p => (p.1, π p.2))
  | .no => .no
def Ob.okB (p : Nat → Bool) : Ob → Bool
  | .box _ cs => LV.okBs p cs
  | .nest _ _ _ _ (some q) => p q.2
  | _ => true
def isNo : Ob → Bool
  | .no => true
  | _ => false
def isMut : Ob → Bool
  | .row .. => true
  | .box .. => true
  | .nest .. => true
  | _ => false

/-! ### A heap seen by other numbers -/
inductive Embs (o : List (Nat × Ob)) (σ : Nat → Nat) : List (Nat × Ob) → Prop
  | nil : Embs o σ []
  | row {c e sz : Nat} {rows : List (List Cell)} {l : List (Nat × Ob)} (h : o.lookup (σ c) = some (.row e sz rows)) (t : Embs o σ l) : Embs o σ ((c, .row e sz rows) :: l)
  | fz {c sz : Nat} {rows : List (List Cell)} {l : List (Nat × Ob)} (h : o.lookup (σ c) = some (.fz sz rows)) (t : Embs o σ l) : Embs o σ ((c, .fz sz rows) :: l)
  | lend {c e sz : Nat} {rows : List (List Cell)} {l : List (Nat × Ob)} (h : o.lookup (σ c) = some (.row e sz rows)) (t : Embs o σ l) : Embs o σ ((c, .fz sz rows) :: l)
  | nest {c e e2 sz2 : Nat} {rows : List (List (List Cell))} {l : List (Nat × Ob)} (h : o.lookup (σ c) = some (.nest e e2 sz2 rows none)) (t : Embs o σ l) : Embs o σ ((c, .nest e e2 sz2 rows none) :: l)
  | lendN {c e e2 sz2 : Nat} {rows : List (List (List Cell))} {l : List (Nat × Ob)} (h : o.lookup (σ c) = some (.nest e e2 sz2 rows none)) (t : Embs o σ l) : Embs o σ ((c, .fz 1 (nestRows sz2 rows)) :: l)
  | no {c : Nat} {l : List (Nat × Ob)} (t : Embs o σ l) : Embs o σ ((c, .no) :: l)
  | box {c t : Nat} {cs : List LV} {l : List (Nat × Ob)} (h : o.lookup (σ c) = some (.box t (LV.rens σ cs))) (ts : Embs o σ l) : Embs o σ ((c, .box t cs) :: l)

def pairB (σ : Nat → Nat) : List (Nat × Ob) → Bool
  | [] => true
  | p :: l => (l.all fun q => p.1 != q.1 && (σ p.1 != σ q.1 || ((!isMut p.2 && !isMut q.2) || (isNo p.2 || isNo q.2)))) && pairB σ l

def isRow : Option Ob → Bool
  | some (.row ..) => true
  | some (.nest _ _ _ _ none) => true
  | _ => false
/-- What may be read as a frozen slice. -/
def Lend (sz : Nat) (rows : List (List Cell)) (ob : Ob) : Prop := (∃ e, ob = .row e sz rows) ∨ ∃ e e2 sz2 xs, ob = .nest e e2 sz2 xs none ∧ sz = 1 ∧ rows = nestRows sz2 xs
theorem lend_row {sz : Nat} {rows : List (List Cell)} {ob : Ob} (h : Lend sz rows ob) : isRow (some ob) = true := by
  rcases h with ⟨e, rfl⟩ | ⟨e, e2, sz2, xs, rfl, _, _⟩ <;> rfl
theorem rd_of_lend {w : World} {ρ : Nat → Value} {own : Nat → Option Nat} {i sz : Nat} {rows : List (List Cell)} {ob : Ob} (hl : Lend sz rows ob) (h : RepOb w ρ own i ob) {ok : Nat → Prop} (hok : ∀ k, own k = none ∨ own k = some i → ok k) : Rd w ok (.sl sz rows) (ρ i) := by
  rcases hl with ⟨e, rfl⟩ | ⟨e, e2, sz2, xs, rfl, rfl, rfl⟩
  · exact rd_of_row h hok
  · exact rd_of_nest h hok
def ownC (σ : Nat → Nat) (oc o : List (Nat × Ob)) (own : Nat → Option Nat) (k : Nat) : Option Nat :=
  match own k with
  | none => none
  | some j => match oc.find? (fun p => σ p.1 == j && !isNo p.2) with
    | some p => if isMut p.2 then some p.1 else if isRow (o.lookup j) then none else some 0
    | none => some 0

theorem lookup_mem {β : Type} {c : Nat} {ob : β} : ∀ {l : List (Nat × β)}, l.lookup c = some ob → (c, ob) ∈ l
  | [], h => by simp at h
  | (k, b) :: l, h => by
    simp only [List.lookup] at h
    cases hk : c == k with
    | true =>
      rw [hk] at h
      obtain rfl : b = ob := by injection h
      simp at hk; simp [hk]
    | false => rw [hk] at h; exact List.mem_cons_of_mem _ (lookup_mem h)

theorem lookup_of_mem {σ : Nat → Nat} {p : Nat × Ob} : ∀ {oc : List (Nat × Ob)}, pairB σ oc = true → p ∈ oc → oc.lookup p.1 = some p.2
  | q :: l, hp, h => by
    simp only [pairB, Bool.and_eq_true, List.all_eq_true] at hp
    simp only [List.lookup]
    rcases List.mem_cons.1 h with rfl | h
    · simp
    · have h1 := hp.1 p h
      have h2 : (p.1 == q.1) = false := by
        have : q.1 ≠ p.1 := by simpa using h1.1
        simpa using Ne.symm this
      rw [h2]
      exact lookup_of_mem hp.2 h
theorem mut_no {ob : Ob} (h : isMut ob = true) : isNo ob = false := by cases ob <;> first | rfl | cases h
theorem find_mut {σ : Nat → Nat} {c : Nat} {ob : Ob} : ∀ {oc : List (Nat × Ob)}, pairB σ oc = true → oc.lookup c = some ob → isMut ob = true → oc.find? (fun p => σ p.1 == σ c && !isNo p.2) = some (c, ob)
  | [], _, h, _ => by simp at h
  | (k, b) :: l, hp, h, hm => by
    simp only [pairB, Bool.and_eq_true, List.all_eq_true] at hp
    simp only [List.lookup] at h
    cases hk : c == k with
    | true =>
      rw [hk] at h
      obtain rfl : b = ob := by injection h
      obtain rfl : c = k := by simpa using hk
      simp [mut_no hm]
    | false =>
      rw [hk] at h
      have h1 := hp.1 _ (lookup_mem h)
      have h2 : (σ k == σ c && !isNo b) = false := by
        simp only [hm, mut_no hm, Bool.not_true, Bool.and_false, Bool.false_or, Bool.or_false] at h1
        cases hn : isNo b
        · simpa [hn] using h1.2
        · simp
      simp only [List.find?_cons, h2]
      exact find_mut hp.2 h hm
theorem find_fz {σ : Nat → Nat} {c : Nat} {ob : Ob} : ∀ {oc : List (Nat × Ob)}, pairB σ oc = true → oc.lookup c = some ob → isMut ob = false → isNo ob = false → ∃ p, oc.find? (fun p => σ p.1 == σ c && !isNo p.2) = some p ∧ isMut p.2 = false
  | [], _, h, _, _ => by simp at h
  | (k, b) :: l, hp, h, hm, hn => by
    simp only [pairB, Bool.and_eq_true, List.all_eq_true] at hp
    simp only [List.lookup] at h
    cases hk : c == k with
    | true =>
      rw [hk] at h
      obtain rfl : b = ob := by injection h
      obtain rfl : c = k := by simpa using hk
      exact ⟨(c, b), by simp [hn], hm⟩
    | false =>
      rw [hk] at h
      have h1 := hp.1 _ (lookup_mem h)
      simp only [List.find?_cons]
      cases h2 : σ k == σ c && !isNo b with
      | true =>
        refine ⟨_, rfl, ?_⟩
        simp only [Bool.and_eq_true, Bool.not_eq_true', beq_iff_eq] at h2
        simp only [h2.1, h2.2, hn, bne_self_eq_false, Bool.false_or, Bool.or_false, Bool.and_eq_true] at h1
        simpa using h1.2.1
      | false => exact find_fz hp.2 h hm hn

theorem ownC_none {σ : Nat → Nat} {oc o : List (Nat × Ob)} {own : Nat → Option Nat} {k : Nat} (h : own k = none) : ownC σ oc o own k = none := by simp [ownC, h]
theorem ownC_mut {σ : Nat → Nat} {oc o : List (Nat × Ob)} {own : Nat → Option Nat} {k c : Nat} {ob : Ob} (hp : pairB σ oc = true) (hc : oc.lookup c = some ob) (hm : isMut ob = true) (h : own k = some (σ c)) : ownC σ oc o own k = some c := by
  simp [ownC, h, find_mut hp hc hm, hm]
theorem ownC_fz {σ : Nat → Nat} {oc o : List (Nat × Ob)} {own : Nat → Option Nat} {k c : Nat} {ob : Ob} (hp : pairB σ oc = true) (hc : oc.lookup c = some ob) (hm : isMut ob = false) (hn : isNo ob = false) (hr : isRow (o.lookup (σ c)) = true) (h : own k = some (σ c)) : ownC σ oc o own k = none := by
  obtain ⟨p, h1, h2⟩ := find_fz hp hc hm hn
  simp [ownC, h, h1, h2, hr]

/-- The checks of an embedding. -/
def embB (σ : Nat → Nat) (b0 : Nat) (oc : List (Nat × Ob)) : Bool := pairB σ oc && oc.all fun p => decide (0 < p.1) && decide (p.1 < b0) && p.2.okB (fun c => decide (c < b0))

theorem embs_at {o : List (Nat × Ob)} {σ : Nat → Nat} {c : Nat} {ob : Ob} {oc : List (Nat × Ob)} (h : Embs o σ oc) (hc : oc.lookup c = some ob) :
    (∃ e sz rows, ob = .row e sz rows ∧ o.lookup (σ c) = some (.row e sz rows)) ∨ (∃ sz rows, ob = .fz sz rows ∧ o.lookup (σ c) = some (.fz sz rows)) ∨ (∃ ob' sz rows, ob = .fz sz rows ∧ o.lookup (σ c) = some ob' ∧ Lend sz rows ob') ∨ (∃ e e2 sz2 rows, ob = .nest e e2 sz2 rows none ∧ o.lookup (σ c) = some (.nest e e2 sz2 rows none)) ∨ (∃ t cs, ob = .box t cs ∧ o.lookup (σ c) = some (.box t (LV.rens σ cs))) ∨ ob = .no := by
  induction h with
  | nil => simp at hc
  | @row c' e sz rows l h t ih =>
    simp only [List.lookup] at hc
    cases hk : c == c' with
    | true => rw [hk] at hc; obtain rfl : c = c' := by simpa using hk
              cases hc; exact .inl ⟨_, _, _, rfl, h⟩
    | false => rw [hk] at hc; exact ih hc
  | @fz c' sz rows l h t ih =>
    simp only [List.lookup] at hc
    cases hk : c == c' with
    | true => rw [hk] at hc; obtain rfl : c = c' := by simpa using hk
              cases hc; exact .inr (.inl ⟨_, _, rfl, h⟩)
    | false => rw [hk] at hc; exact ih hc
  | @lend c' e sz rows l h t ih =>
    simp only [List.lookup] at hc
    cases hk : c == c' with
    | true => rw [hk] at hc; obtain rfl : c = c' := by simpa using hk
              cases hc; exact .inr (.inr (.inl ⟨_, _, _, rfl, h, .inl ⟨_, rfl⟩⟩))
    | false => rw [hk] at hc; exact ih hc
  | @nest c' e e2 sz2 rows l h t ih =>
    simp only [List.lookup] at hc
    cases hk : c == c' with
    | true => rw [hk] at hc; obtain rfl : c = c' := by simpa using hk
              cases hc; exact .inr (.inr (.inr (.inl ⟨_, _, _, _, rfl, h⟩)))
    | false => rw [hk] at hc; exact ih hc
  | @lendN c' e e2 sz2 rows l h t ih =>
    simp only [List.lookup] at hc
    cases hk : c == c' with
    | true => rw [hk] at hc; obtain rfl : c = c' := by simpa using hk
              cases hc; exact .inr (.inr (.inl ⟨_, _, _, rfl, h, .inr ⟨_, _, _, _, rfl, rfl, rfl⟩⟩))
    | false => rw [hk] at hc; exact ih hc
  | @no c' l t ih =>
    simp only [List.lookup] at hc
    cases hk : c == c' with
    | true => rw [hk] at hc; cases hc; exact .inr (.inr (.inr (.inr (.inr rfl))))
    | false => rw [hk] at hc; exact ih hc
  | @box c' t cs l h t' ih =>
    simp only [List.lookup] at hc
    cases hk : c == c' with
    | true => rw [hk] at hc; obtain rfl : c = c' := by simpa using hk
              cases hc; exact .inr (.inr (.inr (.inr (.inl ⟨_, _, rfl, h⟩))))
    | false => rw [hk] at hc; exact ih hc

theorem emb_rep {w0 w : World} {M : Fp} {U : Nat → Prop} {ρ : Nat → Value} {own : Nat → Option Nat} {o oc : List (Nat × Ob)} {σ : Nat → Nat} {b0 : Nat} (hr : HR w0 M U ρ own o w) (he : Embs o σ oc) (hb : embB σ b0 oc = true) {c : Nat} {ob : Ob} (hc : oc.lookup c = some ob) :
    RepOb w (fun c => ρ (σ c)) (ownC σ oc o own) c ob ∧ c < b0 ∧ 0 < c ∧ ob.used (fun c => c < b0) (fun c => ρ (σ c)) := by
  simp only [embB, Bool.and_eq_true, List.all_eq_true] at hb
  obtain ⟨hp, hb⟩ := hb
  have h1 := hb _ (lookup_mem hc)
  simp only [Bool.and_eq_true, decide_eq_true_eq] at h1
  have hfz : ∀ k, own k = none → k < w.heap.size → ownC σ oc o own k = none ∧ w.heap[k]? = w.heap[k]? := fun k h _ => ⟨ownC_none h, rfl⟩
  refine ⟨?_, h1.1.2, h1.1.1, ?_⟩
  · rcases embs_at he hc with ⟨e, sz, rows, rfl, h2⟩ | ⟨sz, rows, rfl, h2⟩ | ⟨ob', sz, rows, rfl, h2, hl⟩ | ⟨e, e2, sz2, rows, rfl, h2⟩ | ⟨t, cs, rfl, h2⟩ | rfl
    · obtain ⟨h3, _, _⟩ := hr.ob _ _ h2
      obtain ⟨h0, cells, g1, g2, g3⟩ := h3
      exact ⟨h0, cells, g1, fun k hk => ownC_mut hp hc rfl (g2 k hk), g3.mono hfz⟩
    · obtain ⟨h3, _, _⟩ := hr.ob _ _ h2
      exact Rd.mono h3 hfz
    · obtain ⟨h3, _, _⟩ := hr.ob _ _ h2
      exact rd_of_lend hl h3 (fun k hk => by
        rcases hk with hk | hk
        · exact ownC_none hk
        · exact ownC_fz hp hc rfl rfl (by rw [h2]; exact lend_row hl) hk)
    · obtain ⟨h3, _, _⟩ := hr.ob _ _ h2
      obtain ⟨vs, hN⟩ := h3
      refine ⟨vs, hN.pos, hN.out, fun k hk => ownC_mut hp hc rfl (hN.blk k hk), (fun j b hb => by cases hb), fun j r v hj hv hh => ?_, hN.dis⟩
      obtain ⟨cells, g1, g2, g3⟩ := hN.inn j r v hj hv hh
      exact ⟨cells, g1, g2.mono hfz, fun k hk => ⟨ownC_mut hp hc rfl (g3 k hk).1, (g3 k hk).2⟩⟩
    · obtain ⟨h3, _, _⟩ := hr.ob _ _ h2
      obtain ⟨g, g1, g2, g3⟩ := h3
      exact ⟨g, g1, ownC_mut hp hc rfl g2, by rw [g3, rens_val (p := fun c => decide (c < b0)) (ρ := fun c => ρ (σ c)) (fun _ _ => rfl) cs h1.2]⟩
    · trivial
  · rcases embs_at he hc with ⟨e, sz, rows, rfl, h2⟩ | ⟨sz, rows, rfl, h2⟩ | ⟨ob', sz, rows, rfl, h2, hl⟩ | ⟨e, e2, sz2, rows, rfl, h2⟩ | ⟨t, cs, rfl, h2⟩ | rfl
    · trivial
    · trivial
    · trivial
    · exact fun j b hb => by cases hb
    · obtain ⟨_, _, h4⟩ := hr.ob _ _ h2
      refine ⟨useds_ren (fun c hc => of_decide_eq_true hc) cs h1.2 h4.1, ?_⟩
      rw [← rens_val (p := fun c => decide (c < b0)) (ρ := fun c => ρ (σ c)) (ρ' := ρ) (π := σ) (fun _ _ => rfl) cs h1.2]
      exact h4.2
    · trivial

/-- The numbers below n stay; the others by a list. -/
def sg (n : Nat) (L : List (Nat × Nat)) (c : Nat) : Nat := if c < n then c else (L.lookup c).getD 0

theorem HR.emb {w0 w : World} {M : Fp} {U : Nat → Prop} {ρ : Nat → Value} {own : Nat → Option Nat} {o oc : List (Nat × Ob)} {L : List (Nat × Nat)} {b0 : Nat} (hr : HR w0 M U ρ own o w) (he : Embs o (sg M.n L) oc) (hb : embB (sg M.n L) b0 oc = true) (hn : M.n ≤ b0) (h0 : 0 < b0) :
    HR w0 M (fun c => c < b0) (fun c => ρ (sg M.n L c)) (ownC (sg M.n L) oc o own) oc w := by
  refine ⟨fun c ob hc => ?_, hr.gr, fun k hk hM => ?_, ?_, h0, fun i hi => ⟨by omega, ?_⟩⟩
  · obtain ⟨h1, h2, _, h3⟩ := emb_rep hr he hb hc
    exact ⟨h1, h2, h3⟩
  · obtain ⟨h1, h2⟩ := hr.fr k hk hM
    refine ⟨fun h => ownC_none (h1 h), fun h => ?_⟩
    simp only [ownC, h2 h]
    cases hf : oc.find? (fun p => sg M.n L p.1 == 0 && !isNo p.2) with
    | none => rfl
    | some p =>
      exfalso
      have hm := List.mem_of_find?_eq_some hf
      have hz := List.find?_some hf
      simp only [embB, Bool.and_eq_true, List.all_eq_true] at hb
      have hob := lookup_of_mem hb.1 hm
      simp only [Bool.and_eq_true, Bool.not_eq_true', beq_iff_eq] at hz
      rcases embs_at he hob with ⟨e, sz, rows, h1, h2⟩ | ⟨sz, rows, h1, h2⟩ | ⟨ob', sz, rows, h1, h2, _⟩ | ⟨e, e2, sz2, rows, h1, h2⟩ | ⟨t, cs, h1, h2⟩ | h1
      · rw [hz.1, hr.z] at h2; cases h2
      · rw [hz.1, hr.z] at h2; cases h2
      · rw [hz.1, hr.z] at h2; cases h2
      · rw [hz.1, hr.z] at h2; cases h2
      · rw [hz.1, hr.z] at h2; cases h2
      · rw [h1] at hz; simp [isNo] at hz
  · cases hl : oc.lookup 0 with
    | none => rfl
    | some ob => exact absurd (emb_rep hr he hb hl).2.2.1 (by omega)
  · have : sg M.n L i = i := by simp [sg, hi]
    rw [this]
    exact (hr.ag i hi).2
end Lg
end Go.Proofs.Ytpfhmodjjljpjaa
