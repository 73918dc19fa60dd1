import Derived.Test.YtpfhmodjjljpjaaEnc
namespace Go.Proofs.Ytpfhmodjjljpjaa
open Go.RowKit
namespace Lg
set_option linter.unusedSimpArgs false
set_option linter.unusedVariables false

/-! ### Rules as the walks' printer uses them -/
section
variable {P : Program} {N bs j j' b d nn i : Nat} {ops : Array Oper} {o : Oper} {s : List (Nat × LV)} {ob : List (Nat × Ob)} {lv : LV} {x : Ob} {pre : List Nat} {upd : List (Nat × Ob)} {tr : List Tr} {st' : St}

theorem Run.op0 (ho : ops[j]? = some o) (hd : o.dst = some d) (hb : bs + 16 * j = b) (hj : j + 1 = j') (hg : On ops ⟨s, ob⟩ o true) (ht : T P N o b pre ⟨s, ob⟩ lv nn []) (hn : decide (nn ≤ 16) = true) (r : Run P N ops bs j' ⟨(d, lv) :: s, ob⟩ tr st') :
    Run P N ops bs j ⟨s, ob⟩ (⟨true, pre, lv, nn, []⟩ :: tr) st' := by
  subst hb hj
  exact .op ho hg ht hn (by simpa [St.app, hd] using r)
theorem Run.op1 (ho : ops[j]? = some o) (hd : o.dst = some d) (hb : bs + 16 * j = b) (hj : j + 1 = j') (hg : On ops ⟨s, ob⟩ o true) (ht : T P N o b pre ⟨s, ob⟩ lv nn [(i, x)]) (hn : decide (nn ≤ 16) = true) (r : Run P N ops bs j' ⟨(d, lv) :: s, (i, x) :: ob⟩ tr st') :
    Run P N ops bs j ⟨s, ob⟩ (⟨true, pre, lv, nn, [(i, x)]⟩ :: tr) st' := by
  subst hb hj
  exact .op ho hg ht hn (by simpa [St.app, hd] using r)
theorem Run.opn (ho : ops[j]? = some o) (hd : o.dst = some d) (hb : bs + 16 * j = b) (hj : j + 1 = j') (hg : On ops ⟨s, ob⟩ o true) (ht : T P N o b pre ⟨s, ob⟩ lv nn upd) (hn : decide (nn ≤ 16) = true) (r : Run P N ops bs j' ⟨(d, lv) :: s, upd ++ ob⟩ tr st') :
    Run P N ops bs j ⟨s, ob⟩ (⟨true, pre, lv, nn, upd⟩ :: tr) st' := by
  subst hb hj
  exact .op ho hg ht hn (by simpa [St.app, hd] using r)
/-- Without a place for the result. -/
theorem Run.st0 (ho : ops[j]? = some o) (hd : o.dst = none) (hb : bs + 16 * j = b) (hj : j + 1 = j') (hg : On ops ⟨s, ob⟩ o true) (ht : T P N o b pre ⟨s, ob⟩ lv nn []) (hn : decide (nn ≤ 16) = true) (r : Run P N ops bs j' ⟨s, ob⟩ tr st') :
    Run P N ops bs j ⟨s, ob⟩ (⟨true, pre, lv, nn, []⟩ :: tr) st' := by
  subst hb hj
  exact .op ho hg ht hn (by simpa [St.app, hd] using r)
theorem Run.st1 (ho : ops[j]? = some o) (hd : o.dst = none) (hb : bs + 16 * j = b) (hj : j + 1 = j') (hg : On ops ⟨s, ob⟩ o true) (ht : T P N o b pre ⟨s, ob⟩ lv nn [(i, x)]) (hn : decide (nn ≤ 16) = true) (r : Run P N ops bs j' ⟨s, (i, x) :: ob⟩ tr st') :
    Run P N ops bs j ⟨s, ob⟩ (⟨true, pre, lv, nn, [(i, x)]⟩ :: tr) st' := by
  subst hb hj
  exact .op ho hg ht hn (by simpa [St.app, hd] using r)
theorem Run.stn (ho : ops[j]? = some o) (hd : o.dst = none) (hb : bs + 16 * j = b) (hj : j + 1 = j') (hg : On ops ⟨s, ob⟩ o true) (ht : T P N o b pre ⟨s, ob⟩ lv nn upd) (hn : decide (nn ≤ 16) = true) (r : Run P N ops bs j' ⟨s, upd ++ ob⟩ tr st') :
    Run P N ops bs j ⟨s, ob⟩ (⟨true, pre, lv, nn, upd⟩ :: tr) st' := by
  subst hb hj
  exact .op ho hg ht hn (by simpa [St.app, hd] using r)
/-- Not carried out. -/
theorem Run.no (ho : ops[j]? = some o) (hd : o.dst = some d) (hj : j + 1 = j') (hg : On ops ⟨s, ob⟩ o false) (r : Run P N ops bs j' ⟨(d, .v undef) :: s, ob⟩ tr st') :
    Run P N ops bs j ⟨s, ob⟩ (⟨false, [], .v undef, 0, []⟩ :: tr) st' := by
  subst hj
  exact .off ho hg (by simpa [St.app, hd] using r)
end

section
variable {J : Nat → St → Prop} {K : Exit → Nat → St → Prop} {b : Nat} {s : St} {i id : Nat}
theorem thenK_n (h : J b s) : thenK J K .normal b s := h
theorem thenK_e (h : K (.exit i) b s) : thenK J K (.exit i) b s := h
theorem thenK_r (h : K .ret b s) : thenK J K .ret b s := h
theorem blockK_n (h : K .normal b s) : blockK id K .normal b s := h
theorem blockK_hit (h : K .normal b s) : blockK id K (.exit id) b s := by simpa [blockK] using h
theorem blockK_miss (hi : (i == id) = false) (h : K (.exit i) b s) : blockK id K (.exit i) b s := by
  have : i ≠ id := by simpa using hi
  simpa [blockK, this] using h
theorem blockK_r (h : K .ret b s) : blockK id K .ret b s := h
end

/-! ### Slices that are nil, as rows -/
inductive NilR (lo hi : Nat) : LV → LV → Prop
  | same (x : LV) : NilR lo hi x x
  | nil {i : Nat} (h : (decide (lo ≤ i) && decide (i < hi)) = true) : NilR lo hi (.v (.slice none 0 0)) (.r i)
inductive NilRs (lo hi : Nat) : List LV → List LV → Prop
  | nil : NilRs lo hi [] []
  | cons {x y : LV} {l m : List LV} (h : NilR lo hi x y) (t : NilRs lo hi l m) : NilRs lo hi (x :: l) (y :: m)

theorem NilR.val {lo hi : Nat} {x y : LV} (h : NilR lo hi x y) {ρ ρ' : Nat → Value} {U U' : Nat → Prop} (hρ : ∀ i, U i → ρ' i = ρ i) (hU : ∀ i, U i → U' i) (hn : ∀ i, lo ≤ i → i < hi → ρ' i = .slice none 0 0 ∧ U' i) (hu : x.used U ρ) :
    y.val ρ' = x.val ρ ∧ y.used U' ρ' := by
  cases h with
  | same x => exact ⟨used_congr hρ x hu, used_mono hρ hU x hu⟩
  | nil h =>
    simp only [Bool.and_eq_true, decide_eq_true_eq] at h
    exact ⟨(hn _ h.1 h.2).1, (hn _ h.1 h.2).2⟩
theorem NilRs.val {lo hi : Nat} {l m : List LV} (h : NilRs lo hi l m) {ρ ρ' : Nat → Value} {U U' : Nat → Prop} (hρ : ∀ i, U i → ρ' i = ρ i) (hU : ∀ i, U i → U' i) (hn : ∀ i, lo ≤ i → i < hi → ρ' i = .slice none 0 0 ∧ U' i) (hu : LV.useds U ρ l) :
    LV.vals ρ' m = LV.vals ρ l ∧ LV.useds U' ρ' m := by
  induction h with
  | nil => exact ⟨rfl, trivial⟩
  | cons h t ih =>
    obtain ⟨h1, h2⟩ := h.val hρ hU hn hu.1
    obtain ⟨h3, h4⟩ := ih hu.2
    exact ⟨by simp [LV.vals, h1, h3], h2, h4⟩

/-- Rows of none, with numbers from b on. -/
def nilRows (b : Nat) : List (Nat × Nat) → List (Nat × Ob)
  | [] => []
  | (e, sz) :: l => (b, .row e sz []) :: nilRows (b + 1) l

theorem nilRows_at : ∀ (l : List (Nat × Nat)) (b i : Nat) (ob : Ob), (l.all fun p => decide (0 < p.2)) = true → (nilRows b l).lookup i = some ob → b ≤ i ∧ i < b + l.length ∧ ∃ e sz, ob = .row e sz [] ∧ 0 < sz
  | [], b, i, ob, _, h => by simp [nilRows] at h
  | (e, sz) :: l, b, i, ob, hz, h => by
    simp only [List.all_cons, Bool.and_eq_true, decide_eq_true_eq] at hz
    simp only [nilRows, List.lookup] at h
    cases hk : i == b with
    | true =>
      rw [hk] at h
      obtain rfl : i = b := by simpa using hk
      cases h
      exact ⟨Nat.le_refl _, by simp, e, sz, rfl, hz.1⟩
    | false =>
      rw [hk] at h
      obtain ⟨h1, h2, h3⟩ := nilRows_at l (b + 1) i ob hz.2 h
      exact ⟨by omega, by simp only [List.length_cons]; omega, h3⟩

theorem nil_rep {w : World} {ρ : Nat → Value} {own : Nat → Option Nat} {i e sz : Nat} (h : ρ i = .slice none 0 0) (hs : 0 < sz) : RepOb w ρ own i (.row e sz []) :=
  ⟨hs, [], ⟨by simp, .inl ⟨h, rfl⟩⟩, (fun k hk => by rw [h] at hk; cases hk), ⟨by simp, fun i r hi => by simp at hi⟩⟩

/-- A heap with slices of none besides. -/
theorem HR.addNils {w0 w : World} {M : Fp} {U : Nat → Prop} {ρ : Nat → Value} {own : Nat → Option Nat} {ob : List (Nat × Ob)} (hr : HR w0 M U ρ own ob w) (b : Nat) (l : List (Nat × Nat)) (hz : (l.all fun p => decide (0 < p.2)) = true) (hb : ∀ i, b ≤ i → i < b + l.length → ¬ U i) :
    HR w0 M (grow U b l.length) (fun i => if b ≤ i ∧ i < b + l.length then .slice none 0 0 else ρ i) own (nilRows b l ++ ob) w := by
  have hρ : ∀ i, U i → (if b ≤ i ∧ i < b + l.length then Value.slice none 0 0 else ρ i) = ρ i := fun i hi => if_neg (fun h => hb i h.1 h.2 hi)
  refine hr.step (fun _ => False) rfl rfl rfl (Nat.le_refl _) (fun k hk _ => ⟨rfl, rfl⟩) hρ (fun i hi => .inl hi) (fun _ h => h.elim) (fun i ob' hi => ?_) (fun i ob' hi => ?_)
  · obtain ⟨h1, h2, _⟩ := nilRows_at l b i ob' hz hi
    exact .inr (hb i h1 h2)
  · obtain ⟨h1, h2, e, sz, rfl, h3⟩ := nilRows_at l b i ob' hz hi
    exact ⟨nil_rep (by rw [if_pos ⟨h1, h2⟩]) h3, .inr ⟨h1, h2⟩, trivial⟩

section
variable {P : Program} {N b nn : Nat} {o : Oper} {st : St} {lv lv' : LV} {pre : List Nat} {upd : List (Nat × Ob)}

/-- A result that holds nil slices, told by rows of none. -/
theorem T_nils (l : List (Nat × Nat)) (h : T P N o b pre st lv nn upd) (hz : (l.all fun p => decide (0 < p.2)) = true) {m : List LV} {m' : List LV} (hlv : (lv = .agg m ∧ lv' = .agg m') ∨ (m = [lv] ∧ m' = [lv'])) (hm : NilRs (b + nn) (b + nn + l.length) m m') {upd' : List (Nat × Ob)} (hupd : nilRows (b + nn) l ++ upd = upd') {nn' : Nat} (hnn : nn + l.length = nn') :
    T P N o b pre st lv' nn' upd' := by
  intro w0 M U ρ own st' a w hx hp hf fr hr
  subst hupd hnn
  intro next Q hn
  refine h w0 M U ρ own st' a w hx hp (fun i h1 h2 => hf i h1 (by omega)) fr hr next Q (fun v w' hv => hn v w' ?_)
  obtain ⟨ρ', own', rfl, h1, h2, h3⟩ := hv
  have hfresh : ∀ i, b + nn ≤ i → i < b + nn + l.length → ¬ grow U b nn i := fun i g1 g2 g3 => by
    rcases g3 with g3 | g3
    · exact hf i (by omega) (by omega) g3
    · omega
  have h4 := h3.addNils (b + nn) l hz hfresh
  let ρ2 : Nat → Value := fun i => if b + nn ≤ i ∧ i < b + nn + l.length then .slice none 0 0 else ρ' i
  have hρ : ∀ i, grow U b nn i → ρ2 i = ρ' i := fun i hi => if_neg (fun h => hfresh i h.1 h.2 hi)
  have hgrow : ∀ i, grow (grow U b nn) (b + nn) l.length i → grow U b (nn + l.length) i := fun i hi => by
    rcases hi with (hi | hi) | hi
    · exact .inl hi
    · exact .inr (by omega)
    · exact .inr (by omega)
  have hval : lv'.val ρ2 = lv.val ρ' ∧ lv'.used (grow (grow U b nn) (b + nn) l.length) ρ2 := by
    have hnew : ∀ i, b + nn ≤ i → i < b + nn + l.length → ρ2 i = .slice none 0 0 ∧ grow (grow U b nn) (b + nn) l.length i := fun i g1 g2 => ⟨if_pos ⟨g1, g2⟩, .inr ⟨g1, g2⟩⟩
    rcases hlv with ⟨rfl, rfl⟩ | ⟨rfl, rfl⟩
    · obtain ⟨k1, k2⟩ := hm.val (ρ := ρ') (ρ' := ρ2) hρ (fun i hi => .inl hi) hnew h2.1
      exact ⟨by simp only [LV.val]; rw [k1], k2, by rw [k1]; exact h2.2⟩
    · obtain ⟨k1, k2⟩ := hm.val (ρ := ρ') (ρ' := ρ2) hρ (fun i hi => .inl hi) hnew ⟨h2, trivial⟩
      exact ⟨by simpa [LV.vals] using k1, k2.1⟩
  refine ⟨ρ2, own', hval.1.symm, fun i hi => (hρ i (.inl hi)).trans (h1 i hi), used_mono (fun _ _ => rfl) hgrow lv' hval.2, ?_⟩
  rw [List.append_assoc]
  exact h4.mono hgrow

/-- A new variable that holds nil slices. -/
theorem T_nilbox (l : List (Nat × Nat)) {t : Nat} {cs cs' : List LV} (h : T P N o b pre st lv nn [(b, .box t cs)]) (hz : (l.all fun p => decide (0 < p.2)) = true) (hm : NilRs (b + nn) (b + nn + l.length) cs cs') {upd' : List (Nat × Ob)} (hupd : (b, .box t cs') :: nilRows (b + nn) l = upd') {nn' : Nat} (hnn : nn + l.length = nn') :
    T P N o b pre st lv nn' upd' := by
  intro w0 M U ρ own st' a w hx hp hf fr hr
  subst hupd hnn
  intro next Q hn
  refine h w0 M U ρ own st' a w hx hp (fun i h1 h2 => hf i h1 (by omega)) fr hr next Q (fun v w' hv => hn v w' ?_)
  obtain ⟨ρ', own', rfl, h1, h2, h3⟩ := hv
  have hfresh : ∀ i, b + nn ≤ i → i < b + nn + l.length → ¬ grow U b nn i := fun i g1 g2 g3 => by
    rcases g3 with g3 | g3
    · exact hf i (by omega) (by omega) g3
    · omega
  have h4 := h3.addNils (b + nn) l hz hfresh
  let ρ2 : Nat → Value := fun i => if b + nn ≤ i ∧ i < b + nn + l.length then .slice none 0 0 else ρ' i
  have hρ : ∀ i, grow U b nn i → ρ2 i = ρ' i := fun i hi => if_neg (fun h => hfresh i h.1 h.2 hi)
  have hgrow : ∀ i, grow (grow U b nn) (b + nn) l.length i → grow U b (nn + l.length) i := fun i hi => by
    rcases hi with (hi | hi) | hi
    · exact .inl hi
    · exact .inr (by omega)
    · exact .inr (by omega)
  have hnew : ∀ i, b + nn ≤ i → i < b + nn + l.length → ρ2 i = .slice none 0 0 ∧ grow (grow U b nn) (b + nn) l.length i := fun i g1 g2 => ⟨if_pos ⟨g1, g2⟩, .inr ⟨g1, g2⟩⟩
  obtain ⟨q1, q2, q3⟩ := h3.ob b (.box t cs) (by simp)
  obtain ⟨k1, k2⟩ := hm.val (ρ := ρ') (ρ' := ρ2) hρ (fun i hi => .inl hi) hnew q3.1
  refine ⟨ρ2, own', (used_congr hρ lv h2).symm, fun i hi => (hρ i (.inl hi)).trans (h1 i hi), used_mono hρ (fun i hi => hgrow i (.inl hi)) lv h2, ?_⟩
  -- the variable's cells, told by the rows
  have h5 : HR w0 M (grow (grow U b nn) (b + nn) l.length) ρ2 own' ([(b, .box t cs')] ++ (nilRows (b + nn) l ++ ([(b, .box t cs)] ++ st'.o))) w' := by
    refine h4.step (fun _ => False) rfl rfl rfl (Nat.le_refl _) (fun _ _ _ => ⟨rfl, rfl⟩) (fun _ _ => rfl) (fun _ h => h) (fun _ h => h.elim) (fun i ob' hi => .inl ?_) (fun i ob' hi => ?_)
    · rw [lookup_key hi]
      refine ⟨.box t cs, ?_⟩
      rw [lookup_append]
      cases hl : (nilRows (b + nn) l).lookup b with
      | some ob2 =>
        obtain ⟨g1, g2, _⟩ := nilRows_at l _ _ _ hz hl
        exact absurd q2 (hfresh b g1 g2)
      | none => simp
    · have hib := lookup_key hi
      subst hib
      obtain rfl : Ob.box t cs' = ob' := by simpa using hi
      obtain ⟨g, g1, g2, g3⟩ := q1
      exact ⟨⟨g, by show ρ2 i = _; rw [hρ i q2]; exact g1, g2, by rw [g3, k1]⟩, .inl q2, k2, by rw [k1]; exact q3.2⟩
  refine (h5.mono hgrow).congr (fun i => ?_)
  simp only [List.cons_append, List.nil_append, List.lookup, lookup_append]
  cases hib : i == b with
  | true => rfl
  | false => rfl
end
end Lg
end Go.Proofs.Ytpfhmodjjljpjaa
