import Derived.Test.YtpfhmodjjljpjaaEnc
import Derived.SizedLaws
import Derived.OpenShut
import Derived.ChangeOld
namespace Go.Proofs.Ytpfhmodjjljpjaa
open Go.RowKit
namespace Lg

/-! ### A call's data, read as Lean's -/
def RdL (w : World) : List Cell → List Value → Prop
  | [], [] => True
  | c :: cs, v :: vs => Rd w (fun _ => True) c v ∧ RdL w cs vs
  | _, _ => False

theorem RdL.len {w : World} : ∀ {cs : List Cell} {vs : List Value}, RdL w cs vs → cs.length = vs.length
  | [], [], _ => rfl
  | _ :: _, _ :: _, h => by simp [RdL.len h.2]
  | [], _ :: _, h => h.elim
  | _ :: _, [], h => h.elim
theorem RdL.at {w : World} : ∀ {cs : List Cell} {vs : List Value}, RdL w cs vs → ∀ (j : Nat) (c : Cell), cs[j]? = some c → ∃ u, vs[j]? = some u ∧ Rd w (fun _ => True) c u
  | [], [], _, j, c, hj => by simp at hj
  | c0 :: cs, v :: vs, h, 0, c, hj => by
    simp at hj
    subst hj
    exact ⟨v, rfl, h.1⟩
  | c0 :: cs, v :: vs, h, j + 1, c, hj => by
    simp at hj
    obtain ⟨u, h1, h2⟩ := RdL.at h.2 j c hj
    exact ⟨u, by simpa using h1, h2⟩
  | [], _ :: _, h, _, _, _ => h.elim
  | _ :: _, [], h, _, _, _ => h.elim
theorem RdL.append {w : World} : ∀ {a c : List Cell} {b d : List Value}, RdL w a b → RdL w c d → RdL w (a ++ c) (b ++ d)
  | [], _, [], _, _, h => h
  | _ :: _, _, _ :: _, _, h, k => ⟨h.1, RdL.append h.2 k⟩
  | [], _, _ :: _, _, h, _ => h.elim
  | _ :: _, _, [], _, h, _ => h.elim

theorem mapM_at {α β : Type} {f : α → Option β} : ∀ {l : List α} {r : List β}, l.mapM f = some r → r.length = l.length ∧ ∀ (i : Nat) x, l[i]? = some x → f x = r[i]?
  | [], r, h => by
    simp at h
    subst h
    exact ⟨rfl, fun i x hx => by simp at hx⟩
  | a :: l, r, h => by
    rw [List.mapM_cons] at h
    simp only [bind, Option.bind_eq_some_iff, pure, Option.some.injEq] at h
    obtain ⟨y, h1, ys, h2, rfl⟩ := h
    obtain ⟨h3, h4⟩ := mapM_at h2
    refine ⟨by simp [h3], fun i x hx => ?_⟩
    cases i with
    | zero => simp at hx; subst hx; simpa using h1
    | succ i => simpa using h4 i x (by simpa using hx)
theorem cells?_at {w : World} {base : Nat} {a : Addr} {n : Nat} {cs : List Value} (h : w.cells? base a n = some cs) : cs.length = n ∧ ∀ (j : Nat) u, cs[j]? = some u → w.cell? (a.add j) = some u := by
  unfold World.cells? at h
  split at h
  · obtain ⟨h1, h2⟩ := mapM_at h
    simp at h1
    refine ⟨h1, fun j u hj => ?_⟩
    have hlt := (List.getElem?_eq_some_iff.1 hj).1
    rw [h2 j j (List.getElem?_range (by omega)), hj]
  · cases h
theorem choose_list {α : Type} {Q : Nat → α → Prop} : ∀ (n : Nat), (∀ i, i < n → ∃ x, Q i x) → ∃ xs : List α, xs.length = n ∧ ∀ (i : Nat) x, xs[i]? = some x → Q i x
  | 0, _ => ⟨[], rfl, fun i x h => by simp at h⟩
  | n + 1, h => by
    obtain ⟨xs, h1, h2⟩ := choose_list n (fun i hi => h i (by omega))
    obtain ⟨x, hx⟩ := h n (by omega)
    refine ⟨xs ++ [x], by simp [h1], fun i y hy => ?_⟩
    rcases Nat.lt_or_ge i n with hi | hi
    · rw [List.getElem?_append_left (by omega)] at hy; exact h2 i y hy
    · rw [List.getElem?_append_right (by omega), h1] at hy
      have : i - n = 0 := by
        have := (List.getElem?_eq_some_iff.1 hy).1
        simp at this; omega
      rw [this] at hy
      simp at hy
      subst hy
      rwa [show i = n by omega]

section
variable {H : Type} (enc : TypeId × Value → H) (P : Program) (w : World)
def Opens (t : Nat) {α : Type} (en : α → List Cell) (WF : α → Prop) : Prop :=
  ∀ (fuel : Nat) (cs : List Value) (d : DataW H) (p : List MemPlace), DataW.trod enc P w 0 (fun _ => true) true fuel t cs = some (d, p) → (d.weights P t).all (· ≤ reachBytes) = true → ∃ x, RdL w (en x) cs ∧ WF x
def OpensF (n : Nat) (fs : List Field) (off : Nat) {α : Type} (en : α → List Cell) (WF : α → Prop) : Prop :=
  ∀ (m : Nat) (cs : List Value) (xs : List (DataW H × List MemPlace)), cs.length = n → xs.length = fs.length → (∀ (i : Nat) (f : Field), fs[i]? = some f → DataW.trod enc P w 0 (fun _ => true) true m f.type ((cs.drop f.offset).take (P.cellsOf f.type)) = xs[i]?) →
    (DataW.weightsEach P (fs.map (·.type)) (xs.map (·.1))).all (· ≤ reachBytes) = true → ∃ x, RdL w (en x) (cs.drop off) ∧ WF x
end
section
variable {H : Type} {enc : TypeId × Value → H} {P : Program} {w : World}

theorem opens_int {t : Nat} {k : IntKind} (hu : P.underlying t = some (.int k)) : Opens enc P w t (fun x : Int => [.v (.int k x)]) (fun x => (Lit.int k x).wf = true) := by
  intro fuel cs d p h _
  obtain ⟨n, rfl, _, hw⟩ := DataW.trod_int hu h
  exact ⟨n, ⟨.v _ rfl, trivial⟩, hw⟩
theorem opens_bool {t : Nat} (hu : P.underlying t = some .bool) : Opens enc P w t (fun x : Bool => [.v (.bool x)]) (fun _ => True) := by
  intro fuel cs d p h _
  obtain ⟨n, rfl, _⟩ := DataW.trod_bool hu h
  exact ⟨n, ⟨.v _ rfl, trivial⟩, trivial⟩
theorem opens_string {t : Nat} (hu : P.underlying t = some .string) : Opens enc P w t (fun x : ByteArray => [.v (.string x)]) (fun x => x.size ≤ reachBytes) := by
  intro fuel cs d p h hwt
  obtain ⟨s, rfl, hx, hw⟩ := DataW.trod_string hu h
  refine ⟨s, ⟨.v _ rfl, trivial⟩, ?_⟩
  simp only [Prod.mk.injEq] at hx
  rw [hx.1] at hwt
  have : s.data.size ≤ reachBytes := by simpa [DataW.weights] using hwt
  exact this

theorem weightsAll_mem {e : Nat} : ∀ {ds : List (DataW H)} {d : DataW H}, d ∈ ds → ∀ n ∈ d.weights P e, n ∈ DataW.weightsAll P e ds
  | d0 :: ds, d, hd, n, hn => by
    simp only [DataW.weightsAll, List.mem_append]
    rcases List.mem_cons.1 hd with rfl | hd
    · exact .inl hn
    · exact .inr (weightsAll_mem hd n hn)

theorem opens_slice {t e sz by_ : Nat} {α : Type} {en : α → List Cell} {WF : α → Prop} (hu : P.underlying t = some (.slice e)) (hz : P.cellsOf e = sz) (hb : P.bytesOf e = by_) (he : Opens enc P w e en WF) :
    Opens enc P w t (fun l : List α => [.sl sz (l.map en)]) (fun l => l.length ≤ maxLen ∧ l.length * by_ ≤ reachBytes ∧ ∀ x ∈ l, WF x) := by
  intro fuel cs d p h hwt
  rcases DataW.trod_slice hu h with ⟨rfl, hx⟩ | ⟨a, len, cap, elems, rest, n, _, rfl, hx, hb', hl, hm, hlen, hel, hsp, hns⟩
  · refine ⟨[], ⟨?_, trivial⟩, by simp, by simp, by simp⟩
    exact .sl sz [] none 0 (fun _ _ => undef) (Nat.le_refl _) (Nat.zero_le _) (by simp) (by simp) (by simp) (by simp)
  · simp only [Prod.mk.injEq] at hx
    have hw1 : ∀ m ∈ d.weights P t, m ≤ reachBytes := fun m hm => by simpa using List.all_eq_true.1 hwt m hm
    rw [hx.1] at hw1
    simp only [DataW.weights, hu, List.length_map] at hw1
    have hw2 : (elems.length + rest.length) * P.bytesOf e ≤ reachBytes := hw1 _ (by simp)
    have hw3 : ∀ y ∈ elems, (y.1.weights P e).all (· ≤ reachBytes) = true := fun y hy => by
      rw [List.all_eq_true]
      intro m hm
      simpa using hw1 m (List.mem_cons_of_mem _ (List.mem_append_left _ (weightsAll_mem (List.mem_map_of_mem hy) m hm)))
    have hex : ∀ i, i < len → ∃ x, (∃ cs, w.cells? 0 (a.add (i * sz)) sz = some cs ∧ RdL w (en x) cs) ∧ WF x := by
      intro i hi
      obtain ⟨y, hy⟩ : ∃ y, elems[i]? = some y := ⟨elems[i], List.getElem?_eq_getElem (by omega)⟩
      have h1 := hel i hi
      rw [hy, Option.bind_eq_some_iff] at h1
      obtain ⟨cs, h2, h3⟩ := h1
      obtain ⟨x, h4, h5⟩ := he n cs y.1 y.2 h3 (hw3 y (List.mem_of_getElem? hy))
      exact ⟨x, ⟨cs, hz ▸ h2, h4⟩, h5⟩
    obtain ⟨xs, hxl, hxs⟩ := choose_list len hex
    refine ⟨xs, ⟨?_, trivial⟩, by omega, ?_, fun x hx => ?_⟩
    · have e1 : (xs.map en).length = len := by simp [hxl]
      rw [← e1]
      have key : ∀ (i : Nat) (r : List Cell), (xs.map en)[i]? = some r → ∃ cs, cs.length = sz ∧ r.length = sz ∧ (∀ (j : Nat) u, cs[j]? = some u → w.cell? (a.add (i * sz + j)) = some u) ∧ RdL w r cs := fun i r hi => by
        rw [List.getElem?_map, Option.map_eq_some_iff] at hi
        obtain ⟨x, hx, rfl⟩ := hi
        obtain ⟨⟨cs, h1, h2⟩, _⟩ := hxs i x hx
        obtain ⟨h3, h4⟩ := cells?_at h1
        refine ⟨cs, h3, by rw [h2.len, h3], fun j u hj => ?_, h2⟩
        rw [← h4 j u hj, add_add]
      refine .sl sz (xs.map en) (some a) cap (fun i j => (w.cell? (a.add (i * sz + j))).getD undef) (by omega) (by omega) (fun r hr => ?_) (fun _ => ⟨a, rfl⟩) (fun i r j cl hi hj => ?_) (fun i r j cl hi hj => ?_)
      · obtain ⟨i, hi⟩ := List.getElem?_of_mem hr
        obtain ⟨cs, _, h2, _⟩ := key i r hi
        exact h2
      · obtain ⟨cs, h1, h2, h3, h4⟩ := key i r hi
        obtain ⟨u, h5, h6⟩ := h4.at j cl hj
        exact ⟨a, rfl, trivial, by rw [h3 j u h5]; rfl⟩
      · obtain ⟨cs, h1, h2, h3, h4⟩ := key i r hi
        obtain ⟨u, h5, h6⟩ := h4.at j cl hj
        rw [h3 j u h5]
        exact h6
    · rw [hb] at hw2
      exact Nat.le_trans (Nat.mul_le_mul_right _ (by omega)) hw2
    · obtain ⟨i, hi⟩ := List.getElem?_of_mem hx
      exact (hxs i x hi).2

theorem opensF_nil {n off : Nat} (ho : off = n) : OpensF enc P w n [] off (fun _ : Unit => []) (fun _ => True) := by
  intro m cs xs hn _ _ _
  rw [List.drop_of_length_le (by omega)]
  exact ⟨(), trivial, trivial⟩
theorem opensF_cons {n off k : Nat} {f : Field} {fs : List Field} {α β : Type} {en : α → List Cell} {WF : α → Prop} {en' : β → List Cell} {WF' : β → Prop} (ho : f.offset = off) (hk : P.cellsOf f.type = k)
    (h : Opens enc P w f.type en WF) (h' : OpensF enc P w n fs (off + k) en' WF') : OpensF enc P w n (f :: fs) off (fun x : α × β => en x.1 ++ en' x.2) (fun x => WF x.1 ∧ WF' x.2) := by
  intro m cs xs hn hl ht hw
  cases xs with
  | nil => simp at hl
  | cons y ys =>
    simp only [List.map_cons, DataW.weightsEach, List.all_append, Bool.and_eq_true] at hw
    have h0 := ht 0 f rfl
    simp only [List.getElem?_cons_zero] at h0
    obtain ⟨x, h1, h2⟩ := h m _ y.1 y.2 h0 hw.1
    obtain ⟨x', h3, h4⟩ := h' m cs ys hn (by simpa using hl) (fun i g hg => by simpa using ht (i + 1) g (by simpa using hg)) hw.2
    refine ⟨(x, x'), ?_, h2, h4⟩
    have e : cs.drop off = (cs.drop f.offset).take (P.cellsOf f.type) ++ cs.drop (off + k) := by
      rw [ho, hk, ← List.drop_drop, List.take_append_drop]
    rw [e]
    exact h1.append h3
theorem opens_struct {t n : Nat} {fs : Array Field} {α : Type} {en : α → List Cell} {WF : α → Prop} (hu : P.underlying t = some (.struct fs)) (hn : P.cellsOf t = n) (h : OpensF enc P w n fs.toList 0 en WF) : Opens enc P w t en WF := by
  intro fuel cs d p hd hw
  obtain ⟨xs, m, _, hx, hl, hlen, hf⟩ := DataW.trod_struct hu hd
  simp only [Prod.mk.injEq] at hx
  rw [hx.1] at hw
  simp only [DataW.weights, hu] at hw
  obtain ⟨x, h1, h2⟩ := h m cs xs (by omega) (by simpa using hlen) (fun i f hi => hf i f (by simpa using hi)) hw
  exact ⟨x, by simpa using h1, h2⟩
theorem Opens.map {t : Nat} {α β : Type} {en : α → List Cell} {WF : α → Prop} {en' : β → List Cell} {WF' : β → Prop} (h : Opens enc P w t en WF) (hm : ∀ x, WF x → ∃ y, en' y = en x ∧ WF' y) : Opens enc P w t en' WF' := by
  intro fuel cs d p hd hw
  obtain ⟨x, h1, h2⟩ := h fuel cs d p hd hw
  obtain ⟨y, h3, h4⟩ := hm x h2
  exact ⟨y, by rw [h3]; exact h1, h4⟩
end

/-! ### From a contract to the law's row -/
theorem start_HR {w : World} {b0 : Nat} {ρ : Nat → Value} {o : List (Nat × Ob)} (h0 : 0 < b0) (hz : o.lookup 0 = none) (ho : ∀ i b, o.lookup i = some b → i < b0 ∧ ∃ sz rows, b = .fz sz rows ∧ Rd w (fun _ => True) (.sl sz rows) (ρ i)) :
    HR w ⟨fun _ => False, fun _ => True, b0, ρ⟩ (fun c => c < b0) ρ (fun _ => none) o w := by
  refine ⟨fun i b hi => ?_, Grew.refl _ _, fun k _ _ => ⟨fun _ => rfl, fun h => absurd trivial h⟩, hz, h0, fun i hi => ⟨hi, rfl⟩⟩
  obtain ⟨h1, sz, rows, rfl, h2⟩ := ho i b hi
  exact ⟨h2.mono (fun _ _ _ => ⟨rfl, rfl⟩), h1, trivial⟩
theorem run_law {P : Program} {f : Nat} {args : List LV} {b0 b1 : Nat} {oc oc' : List (Nat × Ob)} {r : Value} (hs : Spec P f args b0 oc (.v r) b1 oc') {w : World} {ρ : Nat → Value} (h0 : 0 < b0) (hz : oc.lookup 0 = none)
    (ho : ∀ i b, oc.lookup i = some b → i < b0 ∧ ∃ sz rows, b = .fz sz rows ∧ Rd w (fun _ => True) (.sl sz rows) (ρ i)) (hu : LV.useds (fun c => c < b0) ρ args) :
    Calls P f (LV.vals ρ args).toArray w (fun e w' => e = .returned r ∧ Below w.heap.size w w') := by
  refine Calls.mono (hs w ⟨fun _ => False, fun _ => True, b0, ρ⟩ ρ (fun _ => none) w rfl (start_HR h0 hz ho) hu) (fun e w' h => ?_)
  obtain ⟨ρ', own', h1, _, h3⟩ := h
  exact ⟨h1, h3.gr.below⟩
end Lg
end Go.Proofs.Ytpfhmodjjljpjaa
