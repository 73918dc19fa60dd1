import Derived.Test.YtpfhmodjjljpjaaL8
namespace Go.Proofs.Ytpfhmodjjljpjaa
open Go.RowKit
namespace Lg
set_option linter.unusedSimpArgs false
set_option linter.unusedVariables false

/-! ### Regions that draw: any order that the edges allow -/

/-- What an operation looks at and writes, by slots and objects. -/
def slotsOf (ops : Array Oper) (o : Oper) : List Nat := o.looksAt ops

def dep1 (ops : Array Oper) (k j : Nat) : Prop := ∃ o e, ops[j]? = some o ∧ e ∈ o.after ∧ Region.binds .any e = true ∧ e.on = k
inductive Dep (ops : Array Oper) : Nat → Nat → Prop
  | one {k j : Nat} (h : dep1 ops k j) : Dep ops k j
  | more {k m j : Nat} (h : dep1 ops m j) (r : Dep ops k m) : Dep ops k j

def predMask (masks : List Nat) (o : Oper) : Nat := o.after.toList.foldl (fun m e => if Region.binds .any e then m ||| (1 <<< e.on ||| masks.getD e.on 0) else m) 0
def masks (ops : Array Oper) : Nat → List Nat
  | 0 => []
  | j + 1 => masks ops j ++ [match ops[j]? with | some o => predMask (masks ops j) o | none => 0]

theorem foldl_mask {ms : List Nat} {k : Nat} : ∀ (es : List Edge) (m : Nat), (es.foldl (fun m e => if Region.binds .any e then m ||| (1 <<< e.on ||| ms.getD e.on 0) else m) m).testBit k = true →
    m.testBit k = true ∨ ∃ e ∈ es, Region.binds .any e = true ∧ (e.on = k ∨ (ms.getD e.on 0).testBit k = true)
  | [], m, h => .inl h
  | e :: es, m, h => by
    simp only [List.foldl_cons] at h
    rcases foldl_mask es _ h with h | ⟨e', he', h1, h2⟩
    · split at h
      · rename_i hb
        rw [Nat.testBit_or, Nat.testBit_or, Nat.one_shiftLeft, Nat.testBit_two_pow] at h
        simp only [Bool.or_eq_true, decide_eq_true_eq] at h
        rcases h with h | h | h
        · exact .inl h
        · exact .inr ⟨e, by simp, hb, .inl h⟩
        · exact .inr ⟨e, by simp, hb, .inr h⟩
      · exact .inl h
    · exact .inr ⟨e', by simp [he'], h1, h2⟩

theorem masks_length (ops : Array Oper) : ∀ n, (masks ops n).length = n
  | 0 => rfl
  | n + 1 => by simp [masks, masks_length ops n]

theorem masks_dep (ops : Array Oper) : ∀ (n m k : Nat), ((masks ops n).getD m 0).testBit k = true → Dep ops k m
  | 0, m, k, h => by simp [masks] at h
  | n + 1, m, k, h => by
    have hl := masks_length ops n
    rcases Nat.lt_trichotomy m n with hm | hm | hm
    · refine masks_dep ops n m k ?_
      simp only [List.getD_eq_getElem?_getD, masks] at h ⊢
      rw [List.getElem?_append_left (by omega)] at h
      exact h
    · subst hm
      simp only [List.getD_eq_getElem?_getD, masks] at h
      rw [List.getElem?_append_right (by omega)] at h
      simp only [hl, Nat.sub_self, List.getElem?_cons_zero, Option.getD_some] at h
      cases ho : ops[m]? with
      | none => rw [ho] at h; simp at h
      | some o =>
        rw [ho] at h
        rcases foldl_mask _ _ h with h | ⟨e, he, hb, h | h⟩
        · simp at h
        · exact .one ⟨o, e, ho, Array.mem_toList_iff.1 he, hb, h⟩
        · exact .more ⟨o, e, ho, Array.mem_toList_iff.1 he, hb, rfl⟩ (masks_dep ops m e.on k h)
    · simp only [List.getD_eq_getElem?_getD, masks] at h
      rw [List.getElem?_append_right (by omega)] at h
      rw [List.getElem?_eq_none (by simp; omega)] at h
      simp at h

/-- k and j are ordered, as the text orders them. -/
def ord (ms : List Nat) (k j : Nat) : Bool := if k < j then (ms.getD j 0).testBit k else (ms.getD k 0).testBit j

def reads (tr : List Tr) (j : Nat) : List Nat := match tr[j]? with | some t => t.pre ++ t.upd.map (·.1) | none => []
def writes (tr : List Tr) (j : Nat) : List Nat := match tr[j]? with | some t => t.upd.map (·.1) | none => []
def looks (ops : Array Oper) (j : Nat) : List Nat := match ops[j]? with | some o => o.looksAt ops | none => []
def dstOf (ops : Array Oper) (j : Nat) : Option Nat := (ops[j]?).bind (·.dst)

/-- Whether any order that the edges allow does the same: no two that are not ordered touch one another's. -/
def chk (ops : Array Oper) (tr : List Tr) : Bool :=
  let ms := masks ops ops.size
  (ops.toList.all fun o => match o.op with | .select .. => false | _ => true) &&
  (List.range ops.size).all fun j =>
    (match ops[j]? with | some o => o.after.toList.all (fun e => !Region.binds .any e || decide (e.on < j)) | none => true) &&
    (List.range ops.size).all fun k => k == j || ord ms k j ||
      ((match dstOf ops k with | some d => !(looks ops j).contains d && dstOf ops j != some d | none => true) &&
       (reads tr j).all fun i => !(writes tr k).contains i)


def lvOf (tr : List Tr) (j : Nat) : LV := match tr[j]? with | some t => t.lv | none => .v undef
def updOf (tr : List Tr) (j : Nat) : List (Nat × Ob) := match tr[j]? with | some t => t.upd | none => []
def stepOf (ops : Array Oper) (tr : List Tr) (st : St) (j : Nat) : St := st.app (dstOf ops j) (lvOf tr j) (updOf tr j)

theorem slot_at {ops : Array Oper} {tr : List Tr} (d : Nat) : ∀ (L : List Nat) (st : St), (L.foldl (stepOf ops tr) st).s.lookup d =
    match (L.filter (fun k => dstOf ops k == some d)).getLast? with | some k => some (lvOf tr k) | none => st.s.lookup d
  | [], st => rfl
  | k :: L, st => by
    rw [List.foldl_cons, slot_at d L]
    have hk : (stepOf ops tr st k).s.lookup d = if dstOf ops k == some d then some (lvOf tr k) else st.s.lookup d := by
      unfold stepOf St.app
      cases hd : dstOf ops k with
      | none => simp
      | some e =>
        simp only [List.lookup]
        by_cases h : d = e
        · subst h; simp
        · have h1 : (d == e) = false := by simpa using h
          have h2 : (some e == some d) = false := by simpa using fun h' => h h'.symm
          rw [h1, h2]; rfl
    rw [List.filter_cons, hk]
    cases hp : dstOf ops k == some d
    · simp
    · simp only [if_true, List.getLast?_cons]
      cases (L.filter (fun k => dstOf ops k == some d)).getLast? <;> rfl

theorem obj_at {ops : Array Oper} {tr : List Tr} (i : Nat) : ∀ (L : List Nat) (st : St), (L.foldl (stepOf ops tr) st).o.lookup i =
    match (L.filter (fun k => ((updOf tr k).lookup i).isSome)).getLast? with | some k => (updOf tr k).lookup i | none => st.o.lookup i
  | [], st => rfl
  | k :: L, st => by
    rw [List.foldl_cons, obj_at i L]
    have hk : (stepOf ops tr st k).o.lookup i = if ((updOf tr k).lookup i).isSome then (updOf tr k).lookup i else st.o.lookup i := by
      unfold stepOf St.app
      simp only [lookup_append]
      cases (updOf tr k).lookup i <;> rfl
    rw [List.filter_cons, hk]
    cases hp : ((updOf tr k).lookup i).isSome
    · simp
    · simp only [if_true, List.getLast?_cons]
      cases (L.filter (fun k => ((updOf tr k).lookup i).isSome)).getLast? <;> rfl

theorem run_spec {P : Program} {N : Nat} {ops : Array Oper} {bs : Nat} {j : Nat} {st st' : St} {tr : List Tr} (r : Run P N ops bs j st tr st') :
    ∃ f : Nat → St, f j = st ∧ f ops.size = st' ∧ j + tr.length = ops.size ∧ ∀ k, j ≤ k → k < ops.size → ∃ o t, ops[k]? = some o ∧ tr[k - j]? = some t ∧ f (k + 1) = (f k).app o.dst t.lv t.upd ∧
      ((On ops (f k) o true ∧ T P N o (bs + 16 * k) t.pre (f k) t.lv t.nn t.upd ∧ t.nn ≤ 16) ∨ (On ops (f k) o false ∧ t.lv = .v undef ∧ t.upd = [])) := by
  induction r with
  | @done j st h => exact ⟨fun _ => st, rfl, rfl, by simp [h], fun k h1 h2 => by omega⟩
  | @op j o st st' lv pre nn upd tr ho hg ht hn r ih =>
    obtain ⟨f, h1, h2, h3, h4⟩ := ih
    have hlt : j < ops.size := (Array.getElem?_eq_some_iff.1 ho).1
    refine ⟨fun k => if k = j then st else f k, by simp, by simp [show ¬ ops.size = j by omega, h2], by simp; omega, fun k hk hs => ?_⟩
    rcases Nat.lt_or_ge j k with hjk | hjk
    · obtain ⟨o', t, e1, e2, e3, e4⟩ := h4 k hjk hs
      refine ⟨o', t, e1, ?_, ?_, ?_⟩
      · rw [show k - j = (k - (j + 1)) + 1 by omega]; exact e2
      · simp [show ¬ k + 1 = j by omega, show ¬ k = j by omega, e3]
      · simp [show ¬ k = j by omega, e4]
    · obtain rfl : k = j := by omega
      refine ⟨o, _, ho, by simp; rfl, by simp [h1], .inl ⟨by simpa using hg, by simpa using ht, of_decide_eq_true hn⟩⟩
  | @off j o st st' tr ho hg r ih =>
    obtain ⟨f, h1, h2, h3, h4⟩ := ih
    have hlt : j < ops.size := (Array.getElem?_eq_some_iff.1 ho).1
    refine ⟨fun k => if k = j then st else f k, by simp, by simp [show ¬ ops.size = j by omega, h2], by simp; omega, fun k hk hs => ?_⟩
    rcases Nat.lt_or_ge j k with hjk | hjk
    · obtain ⟨o', t, e1, e2, e3, e4⟩ := h4 k hjk hs
      refine ⟨o', t, e1, ?_, ?_, ?_⟩
      · rw [show k - j = (k - (j + 1)) + 1 by omega]; exact e2
      · simp [show ¬ k + 1 = j by omega, show ¬ k = j by omega, e3]
      · simp [show ¬ k = j by omega, e4]
    · obtain rfl : k = j := by omega
      refine ⟨o, _, ho, by simp; rfl, by simp [h1], .inr ⟨by simpa using hg, rfl, rfl⟩⟩

/-- The lists of what is done, in the text's order. -/
def doneL (n : Nat) (D : Nat → Bool) : List Nat := (List.range n).filter D

theorem range_split {n j : Nat} (h : j < n) : List.range n = List.range j ++ j :: List.range' (j + 1) (n - (j + 1)) := by
  rw [List.range_eq_range', List.range_eq_range', show n = j + (1 + (n - (j + 1))) by omega, ← List.range'_append, ← List.range'_append]
  simp [List.range']
  omega

theorem doneL_upto {n j : Nat} (h : j ≤ n) : List.range j = doneL n (fun k => decide (k < j)) := by
  unfold doneL
  rcases Nat.lt_or_ge j n with hj | hj
  · rw [range_split hj, List.filter_append, List.filter_cons]
    have h1 : (List.range j).filter (fun k => decide (k < j)) = List.range j := List.filter_eq_self.2 (by simp)
    have h2 : (List.range' (j + 1) (n - (j + 1))).filter (fun k => decide (k < j)) = [] := List.filter_eq_nil_iff.2 (fun k hk => by simp at hk ⊢; omega)
    rw [h1, h2]; simp
  · obtain rfl : j = n := by omega
    exact (List.filter_eq_self.2 (by simp)).symm

theorem filter_done {n : Nat} {D D' p : Nat → Bool} (h : ∀ k, k < n → p k = true → D k = D' k) : (doneL n D).filter p = (doneL n D').filter p := by
  unfold doneL
  rw [List.filter_filter, List.filter_filter]
  refine List.filter_congr fun k hk => ?_
  cases hp : p k
  · rfl
  · simpa using h k (by simpa using hk) hp

theorem last_done {n j : Nat} {D p : Nat → Bool} (hj : j < n) (hD : D j = true) (hp : p j = true) (h : ∀ k, k < n → p k = true → D k = true → k ≤ j) : ((doneL n D).filter p).getLast? = some j := by
  unfold doneL
  rw [List.filter_filter, range_split hj, List.filter_append, List.filter_cons]
  have h2 : (List.range' (j + 1) (n - (j + 1))).filter (fun a => p a && D a) = [] := List.filter_eq_nil_iff.2 (fun k hk => by
    simp at hk ⊢
    intro hpk
    cases hDk : D k
    · rfl
    · have := h k (by omega) hpk hDk; omega)
  simp [hp, hD, h2]

def isIn (l : Array Bool) (k : Nat) : Bool := l.getD k false

theorem isIn_set {l : Array Bool} {j k : Nat} (hj : j < l.size) : isIn (l.setIfInBounds j true) k = (isIn l k || k == j) := by
  unfold isIn
  by_cases h : j = k
  · subst h; simp [hj]
  · rw [getD_set_ne false h]
    simp [show ¬ k = j from fun e => h e.symm]

theorem getD_eq {l : Array Bool} {j : Nat} (hj : j < l.size) (d : Bool) : l.getD j d = isIn l j := by simp [isIn, hj]

def Down (ops : Array Oper) (D : Nat → Bool) : Prop := ∀ j, D j = true → ∀ k, dep1 ops k j → D k = true
theorem Down.dep {ops : Array Oper} {D : Nat → Bool} (h : Down ops D) {k j : Nat} (hd : Dep ops k j) : D j = true → D k = true := by
  induction hd with
  | one h1 => exact fun hj => h _ hj _ h1
  | more h1 r ih => exact fun hj => ih (h _ hj _ h1)

theorem ord_in {ops : Array Oper} {D : Nat → Bool} (h : Down ops D) {j k : Nat} (hp : ∀ m, dep1 ops m j → D m = true) (hj : D j = false) (ho : ord (masks ops ops.size) k j = true) : D k = decide (k < j) := by
  unfold ord at ho
  split at ho
  · rename_i hlt
    have hd := masks_dep ops _ _ _ ho
    have : D k = true := by
      cases hd with
      | one h1 => exact hp _ h1
      | more h1 r => exact h.dep r (hp _ h1)
    simp [this, hlt]
  · rename_i hlt
    have hd := masks_dep ops _ _ _ ho
    cases hk : D k with
    | true => rw [h.dep hd hk] at hj; cases hj
    | false => simp [hlt]

theorem lookup_some_mem {β : Type} {i : Nat} : ∀ {l : List (Nat × β)}, (l.lookup i).isSome = true → i ∈ l.map (·.1)
  | [], h => by simp at h
  | (k, b) :: l, h => by
    simp only [List.lookup] at h
    cases hk : i == k with
    | true => simp at hk; simp [hk]
    | false => rw [hk] at h; simp [lookup_some_mem h]

theorem on_congr {ops : Array Oper} {st st' : St} {o : Oper} {b : Bool} (h : On ops st o b) (hs : ∀ d, d ∈ o.looksAt ops → st'.s.lookup d = st.s.lookup d) : On ops st' o b := by
  cases h with
  | plain h => exact .plain h
  | @yes j d c t h hj h1 hc => exact .yes h hj ((hs d (List.mem_append_right _ (by simp [h, hj]))).trans h1) hc
  | @no j d c t h hj h1 hc => exact .no h hj ((hs d (List.mem_append_right _ (by simp [h, hj]))).trans h1) hc
  | @und j d t h hj h1 => exact .und h hj ((hs d (List.mem_append_right _ (by simp [h, hj]))).trans h1)

theorem ev_congr {ops : Array Oper} {st st' : St} {o : Oper} (hs : ∀ d, d ∈ o.looksAt ops → st'.s.lookup d = st.s.lookup d) : ∀ x, x ∈ o.op.operands → st'.ev x = st.ev x := by
  intro x hx
  cases x with
  | tmp t => exact hs t (List.mem_append_left _ (List.mem_filterMap.2 ⟨.tmp t, by simpa using hx, rfl⟩))
  | _ => rfl

theorem left_lt {n j : Nat} {D : Nat → Bool} (hj : j < n) (hD : D j = false) : ((List.range n).filter (fun k => !(D k || k == j))).length < ((List.range n).filter (fun k => !D k)).length := by
  rw [range_split hj]
  simp only [List.filter_append, List.filter_cons, List.length_append]
  have h1 : (List.range j).filter (fun k => !(D k || k == j)) = (List.range j).filter (fun k => !D k) := List.filter_congr (fun k hk => by
    have : k < j := by simpa using hk
    simp [show ¬ k = j by omega])
  have h2 : (List.range' (j + 1) (n - (j + 1))).filter (fun k => !(D k || k == j)) = (List.range' (j + 1) (n - (j + 1))).filter (fun k => !D k) := List.filter_congr (fun k hk => by
    have : j < k := by simp at hk; omega
    simp [show ¬ k = j by omega])
  rw [h1, h2]
  simp [hD]

section
variable {P : Program} {N : Nat} {ops : Array Oper} {bs : Nat} {st st' : St} {tr : List Tr}

def sD (ops : Array Oper) (tr : List Tr) (st : St) (D : Nat → Bool) : St := (doneL ops.size D).foldl (stepOf ops tr) st
def uD (ops : Array Oper) (bs : Nat) (D : Nat → Bool) (i : Nat) : Prop := i < bs ∨ ∃ k, k < ops.size ∧ D k = true ∧ bs + 16 * k ≤ i ∧ i < bs + 16 * k + 16

theorem chk_ord (hc : chk ops tr = true) {j k : Nat} (hj : j < ops.size) (hk : k < ops.size) (hne : k ≠ j) (h : (∃ d, dstOf ops k = some d ∧ (d ∈ looks ops j ∨ dstOf ops j = some d)) ∨ ∃ i, i ∈ reads tr j ∧ i ∈ writes tr k) : ord (masks ops ops.size) k j = true := by
  simp only [chk, Bool.and_eq_true, List.all_eq_true, List.mem_range, Bool.or_eq_true, beq_iff_eq] at hc
  rcases (hc.2 j hj).2 k hk with (h1 | h1) | h1
  · exact absurd h1 hne
  · exact h1
  · exfalso
    rcases h with ⟨d, hd, h⟩ | ⟨i, hi, hw⟩
    · have h2 := h1.1
      rw [hd] at h2
      simp at h2
      rcases h with h | h
      · exact h2.1 h
      · exact h2.2 h
    · have := h1.2 i hi
      simp at this
      exact this hw
theorem chk_lt (hc : chk ops tr = true) {j k : Nat} (hd : dep1 ops k j) : k < j := by
  obtain ⟨o, e, ho, he, hb, rfl⟩ := hd
  simp only [chk, Bool.and_eq_true, List.all_eq_true, List.mem_range] at hc
  have h1 := (hc.2 j (Array.getElem?_eq_some_iff.1 ho).1).1
  rw [ho] at h1
  have := List.all_eq_true.1 h1 e (Array.mem_toList_iff.2 he)
  simpa [hb] using this

theorem region_any_go (hm : P.follows .mixedOrders = true) (hd : dstsOk ops N = true) (r : Run P N ops bs 0 st tr st') (hc : chk ops tr = true) {w0 : World} {M : Fp} {Q : Exit → Act → World → Prop}
    (hq : ∀ a' w', Rep N w0 M (fun i => i < bs + 16 * ops.size) st' a' w' → Q .normal a' w') :
    ∀ (fuel : Nat) (l : Array Bool) (a : Act) (w : World), l.size = ops.size → Down ops (isIn l) → ((List.range ops.size).filter (fun k => !isIn l k)).length ≤ fuel → Rep N w0 M (uD ops bs (isIn l)) (sD ops tr st (isIn l)) a w → wpAny P .any ops Q fuel l a w := by
  obtain ⟨f, hf0, hfn, htl, hf⟩ := run_spec r
  have hstep : ∀ k, k < ops.size → f (k + 1) = stepOf ops tr (f k) k := fun k hk => by
    obtain ⟨o, t, ho, ht, he, _⟩ := hf k (Nat.zero_le _) hk
    rw [Nat.sub_zero] at ht
    rw [he]; simp [stepOf, dstOf, lvOf, updOf, ho, ht]
  have hfr : ∀ k, k ≤ ops.size → f k = (List.range k).foldl (stepOf ops tr) st := by
    intro k
    induction k with
    | zero => intro _; exact hf0
    | succ k ih => intro hk; rw [List.range_succ, List.foldl_append, ← ih (by omega)]; exact hstep k (by omega)
  have hall : ∀ (l : Array Bool) (a : Act) (w : World), l.size = ops.size → Rep N w0 M (uD ops bs (isIn l)) (sD ops tr st (isIn l)) a w → (∀ j, j < ops.size → isIn l j = true) → Q .normal a w := by
    intro l a w hl hr hj
    refine hq a w ?_
    have h1 : sD ops tr st (isIn l) = st' := by
      rw [← hfn, hfr _ (Nat.le_refl _)]
      unfold sD doneL
      rw [List.filter_eq_self.2 (fun k hk => hj k (by simpa using hk))]
    rw [← h1]
    refine hr.mono (fun i hi => ?_)
    rcases hi with hi | ⟨k, hk, _, h2, h3⟩ <;> omega
  intro fuel
  induction fuel with
  | zero =>
    intro l a w hl hdn hlen hr
    have hj : ∀ j, j < ops.size → isIn l j = true := fun j hj => by
      have h1 := List.filter_eq_nil_iff.1 (List.eq_nil_of_length_eq_zero (Nat.le_zero.1 hlen)) j (by simpa using hj)
      simpa using h1
    refine ⟨List.eq_nil_iff_forall_not_mem.2 (fun j hjr => ?_), hall l a w hl hr hj⟩
    obtain ⟨h1, o, ho, _⟩ := mem_ready.1 hjr
    have hlt : j < ops.size := (Array.getElem?_eq_some_iff.1 ho).1
    rw [getD_eq (by omega)] at h1
    rw [hj j hlt] at h1; cases h1
  | succ fuel ih =>
    intro l a w hl hdn hlen hr
    refine ⟨fun hre => hall l a w hl hr (fun j => ?_), fun j hjr => ?_⟩
    · induction j using Nat.strongRecOn with
      | _ j ihj =>
        intro hj
        cases hD : isIn l j with
        | true => rfl
        | false =>
          exfalso
          have : j ∈ Region.ready .any ops l := by
            refine mem_ready.2 ⟨by rw [getD_eq (by omega)]; exact hD, ops[j], Array.getElem?_eq_getElem hj, fun e he hb => ?_⟩
            have hlt := chk_lt hc ⟨ops[j], e, Array.getElem?_eq_getElem hj, he, hb, rfl⟩
            exact ihj _ hlt (by omega)
          rw [hre] at this; cases this
    · obtain ⟨h1, o, ho, hpre⟩ := mem_ready.1 hjr
      have hlt : j < ops.size := (Array.getElem?_eq_some_iff.1 ho).1
      rw [getD_eq (by omega)] at h1
      obtain ⟨o', t, ho', ht, hfj, hcase⟩ := hf j (Nat.zero_le _) hlt
      rw [ho] at ho'
      obtain rfl : o = o' := by injection ho'
      rw [Nat.sub_zero] at ht
      have hp : ∀ m, dep1 ops m j → isIn l m = true := fun m hm => by
        obtain ⟨o', e, ho', he, hb, rfl⟩ := hm
        rw [ho] at ho'
        obtain rfl : o = o' := by injection ho'
        exact hpre e he hb
      have hord : ∀ k, ord (masks ops ops.size) k j = true → k ≠ j → isIn l k = decide (k < j) := fun k h2 _ => ord_in hdn hp h1 h2
      have hlk : looks ops j = o.looksAt ops := by simp [looks, ho]
      have hslot : ∀ d, d ∈ o.looksAt ops → (sD ops tr st (isIn l)).s.lookup d = (f j).s.lookup d := fun d hdl => by
        rw [hfr j (by omega), doneL_upto (show j ≤ ops.size by omega)]
        unfold sD
        rw [slot_at, slot_at, filter_done (D' := fun k => decide (k < j)) (fun k hk hpk => ?_)]
        by_cases hkj : k = j
        · subst hkj; simp [h1]
        · exact hord k (chk_ord hc hlt hk hkj (.inl ⟨d, by simpa using hpk, .inl (by rw [hlk]; exact hdl)⟩)) hkj
      have hobj : ∀ i, i ∈ reads tr j → (sD ops tr st (isIn l)).o.lookup i = (f j).o.lookup i := fun i hi => by
        rw [hfr j (by omega), doneL_upto (show j ≤ ops.size by omega)]
        unfold sD
        rw [obj_at, obj_at, filter_done (D' := fun k => decide (k < j)) (fun k hk hpk => ?_)]
        by_cases hkj : k = j
        · subst hkj; simp [h1]
        · have hw : i ∈ writes tr k := by
            have := lookup_some_mem hpk
            unfold updOf at this
            unfold writes
            cases hk2 : tr[k]? with
            | none => rw [hk2] at this; simp at this
            | some t => rw [hk2] at this; exact this
          exact hord k (chk_ord hc hlt hk hkj (.inr ⟨i, hi, hw⟩)) hkj
      have hlv : lvOf tr j = t.lv := by simp [lvOf, ht]
      have hup : updOf tr j = t.upd := by simp [updOf, ht]
      have hds : dstOf ops j = o.dst := by simp [dstOf, ho]
      have hset : isIn (l.setIfInBounds j true) = fun k => isIn l k || k == j := funext fun k => isIn_set (by omega)
      have hdn' : Down ops (isIn (l.setIfInBounds j true)) := by
        intro m hm k hk
        rw [isIn_set (by omega)] at hm ⊢
        simp only [Bool.or_eq_true, beq_iff_eq] at hm ⊢
        rcases hm with hm | rfl
        · exact .inl (hdn m hm k hk)
        · exact .inl (hp k hk)
      have hlen' : ((List.range ops.size).filter (fun k => !isIn (l.setIfInBounds j true) k)).length ≤ fuel := by
        have := left_lt hlt h1
        simp only [hset]
        omega
      -- what one operation leaves is what is done then
      have hB : ∀ a' w', Rep N w0 M (uD ops bs (isIn (l.setIfInBounds j true))) ((sD ops tr st (isIn l)).app o.dst t.lv t.upd) a' w' → wpAny P .any ops Q fuel (l.setIfInBounds j true) a' w' := by
        intro a' w' h'
        refine ih _ a' w' (by simp [hl]) hdn' hlen' (h'.congr (fun d => ?_) (fun i => ?_))
        · have hA : ((sD ops tr st (isIn l)).app o.dst t.lv t.upd).s.lookup d = if dstOf ops j == some d then some t.lv else (sD ops tr st (isIn l)).s.lookup d := by
            rw [hds]
            unfold St.app
            cases hd2 : o.dst with
            | none => simp
            | some e =>
              simp only [List.lookup]
              by_cases h : d = e
              · subst h; simp
              · have h1 : (d == e) = false := by simpa using h
                have h2 : (some e == some d) = false := by simpa using fun h' => h h'.symm
                rw [h1, h2]; rfl
          rw [hA]
          conv => lhs; unfold sD
          rw [slot_at]
          cases hpj : dstOf ops j == some d with
          | true =>
            rw [last_done hlt (by rw [hset]; simp) hpj (fun k hk hpk hDk => ?_)]
            · simp [hlv]
            · by_cases hkj : k = j
              · omega
              · rw [hset] at hDk
                simp only [Bool.or_eq_true, beq_iff_eq, hkj, or_false] at hDk
                have := hord k (chk_ord hc hlt hk hkj (.inl ⟨d, by simpa using hpk, .inr (by simpa using hpj)⟩)) hkj
                rw [hDk] at this
                have := of_decide_eq_true this.symm
                omega
          | false =>
            unfold sD
            rw [slot_at, filter_done (D' := isIn l) (fun k hk hpk => ?_)]
            · rfl
            · have hkj : k ≠ j := fun e => by subst e; rw [hpj] at hpk; cases hpk
              rw [hset]; simp [hkj]
        · have hA : ((sD ops tr st (isIn l)).app o.dst t.lv t.upd).o.lookup i = if ((updOf tr j).lookup i).isSome then (updOf tr j).lookup i else (sD ops tr st (isIn l)).o.lookup i := by
            rw [hup]
            unfold St.app
            simp only [lookup_append]
            cases t.upd.lookup i <;> rfl
          rw [hA]
          conv => lhs; unfold sD
          rw [obj_at]
          cases hpj : ((updOf tr j).lookup i).isSome with
          | true =>
            rw [last_done hlt (by rw [hset]; simp) hpj (fun k hk hpk hDk => ?_)]
            · simp
            · by_cases hkj : k = j
              · omega
              · rw [hset] at hDk
                simp only [Bool.or_eq_true, beq_iff_eq, hkj, or_false] at hDk
                have hw : i ∈ writes tr k := by
                  have := lookup_some_mem hpk
                  unfold updOf at this
                  unfold writes
                  cases hk2 : tr[k]? with
                  | none => rw [hk2] at this; simp at this
                  | some t => rw [hk2] at this; exact this
                have hrd : i ∈ reads tr j := by
                  have := lookup_some_mem hpj
                  rw [hup] at this
                  simp only [reads, ht]
                  exact List.mem_append_right _ this
                have := hord k (chk_ord hc hlt hk hkj (.inr ⟨i, hrd, hw⟩)) hkj
                rw [hDk] at this
                have := of_decide_eq_true this.symm
                omega
          | false =>
            unfold sD
            rw [obj_at, filter_done (D' := isIn l) (fun k hk hpk => ?_)]
            · rfl
            · have hkj : k ≠ j := fun e => by subst e; rw [hpj] at hpk; cases hpk
              rw [hset]; simp [hkj]
      have hUm : ∀ i, uD ops bs (isIn l) i → uD ops bs (isIn (l.setIfInBounds j true)) i := fun i hi => by
        rcases hi with hi | ⟨k, hk, h2, h3⟩
        · exact .inl hi
        · exact .inr ⟨k, hk, by rw [isIn_set (by omega), h2]; rfl, h3⟩
      unfold wpOp
      simp only [ho]
      obtain ⟨ρ, own, fr, hh⟩ := hr
      rcases hcase with ⟨hg, hT, hnn⟩ | ⟨hg, hlv0, hup0⟩
      · rw [wanted_of (on_congr hg hslot) fr]
        simp only [if_true]
        refine .inl (rep_op hT ⟨ρ, own, fr, hh⟩ (ev_congr hslot) (fun i hi => hobj i (by simp only [reads, ht]; exact List.mem_append_left _ hi)) (fun i h2 h3 h4 => ?_) (fun i hi => ?_) (dsts_ok hd ho) _ Q hB)
        · rcases h4 with h4 | ⟨k, hk, hDk, h5, h6⟩
          · omega
          · have : k = j := by omega
            subst this
            rw [h1] at hDk; cases hDk
        · rcases hi with hi | ⟨h2, h3⟩
          · exact hUm i hi
          · exact .inr ⟨j, hlt, by rw [isIn_set (by omega)]; simp, h2, by omega⟩
      · rw [wanted_of (on_congr hg hslot) fr]
        simp only [Bool.false_eq_true, if_false]
        refine hB _ _ ?_
        rw [hlv0, hup0]
        exact (put_undef ⟨ρ, own, fr, hh⟩ (dsts_ok hd ho)).mono hUm

theorem region_any {id : Nat} (hm : P.follows .mixedOrders = true) (hd : dstsOk ops N = true) (r : Run P N ops bs 0 st tr st') (hc : chk ops tr = true) {w0 : World} {M : Fp} {Q : Exit → Act → World → Prop} {a : Act} {w : World} (h : Rep N w0 M (fun i => i < bs) st a w)
    (hq : ∀ a' w', Rep N w0 M (fun i => i < bs + 16 * ops.size) st' a' w' → Q .normal a' w') : (Code.region id ops true).wp P Q a w := by
  have hemp : isIn (Array.replicate ops.size false) = fun _ => false := funext fun k => by
    simp only [isIn, Array.getD_eq_getD_getElem?, Array.getElem?_replicate]
    split <;> rfl
  refine wp_region_any hm (region_any_go hm hd r hc hq ops.size _ a _ (by simp) ?_ ?_ ?_)
  · rw [hemp]; intro j hj; cases hj
  · refine Nat.le_trans (List.length_filter_le _ _) (by simp)
  · rw [hemp]
    have h1 : sD ops tr st (fun _ => false) = st := by
      unfold sD doneL
      rw [List.filter_eq_nil_iff.2 (by simp)]
      rfl
    rw [h1]
    obtain ⟨ρ, own, fr, hh⟩ := h
    exact Rep.mono ⟨ρ, own, fr, hh.drew _⟩ (fun i hi => .inl hi)
end
end Lg
end Go.Proofs.Ytpfhmodjjljpjaa
