import Derived.Test.YtpfhmodjjljpjaaL7
namespace Go.Proofs.Ytpfhmodjjljpjaa
open Go.RowKit
namespace Lg
set_option linter.unusedSimpArgs false
set_option linter.unusedVariables false

def St.app (st : St) (dst : Option Tmp) (lv : LV) (upd : List (Nat × Ob)) : St :=
  ⟨match dst with | some d => (d, lv) :: st.s | none => st.s, upd ++ st.o⟩

/-- Is the operation carried out? -/
inductive On (ops : Array Oper) (st : St) (o : Oper) : Bool → Prop
  | plain (h : o.guard = none) : On ops st o true
  | yes {j d : Nat} {c t : Bool} (h : o.guard = some (j, t)) (hj : (ops[j]?).bind (·.dst) = some d) (hs : st.s.lookup d = some (.v (.bool c))) (hc : (c == t) = true) : On ops st o true
  | no {j d : Nat} {c t : Bool} (h : o.guard = some (j, t)) (hj : (ops[j]?).bind (·.dst) = some d) (hs : st.s.lookup d = some (.v (.bool c))) (hc : (c == t) = false) : On ops st o false
  | und {j d : Nat} {t : Bool} (h : o.guard = some (j, t)) (hj : (ops[j]?).bind (·.dst) = some d) (hs : st.s.lookup d = some (.v undef)) : On ops st o false

structure Tr where
  on : Bool
  pre : List Nat
  lv : LV
  nn : Nat
  upd : List (Nat × Ob)

/-- A region's operations in the text's order, by triples. -/
inductive Run (P : Program) (N : Nat) (ops : Array Oper) (bs : Nat) : Nat → St → List Tr → St → Prop
  | done {j : Nat} {st : St} (h : ops.size = j) : Run P N ops bs j st [] st
  | op {j : Nat} {o : Oper} {st st' : St} {lv : LV} {pre : List Nat} {nn : Nat} {upd : List (Nat × Ob)} {tr : List Tr} (ho : ops[j]? = some o) (hg : On ops st o true) (ht : T P N o (bs + 16 * j) pre st lv nn upd) (hn : decide (nn ≤ 16) = true)
      (r : Run P N ops bs (j + 1) (st.app o.dst lv upd) tr st') : Run P N ops bs j st (⟨true, pre, lv, nn, upd⟩ :: tr) st'
  | off {j : Nat} {o : Oper} {st st' : St} {tr : List Tr} (ho : ops[j]? = some o) (hg : On ops st o false) (r : Run P N ops bs (j + 1) (st.app o.dst (.v undef) []) tr st') : Run P N ops bs j st (⟨false, [], .v undef, 0, []⟩ :: tr) st'

/-- A frame and a world are as a logical state says. -/
def Rep (N : Nat) (w0 : World) (M : Fp) (U : Nat → Prop) (st : St) (a : Act) (w : World) : Prop := ∃ ρ own, FR N U ρ st.s a ∧ HR w0 M U ρ own st.o w

theorem Rep.congr {N : Nat} {w0 : World} {M : Fp} {U : Nat → Prop} {st st' : St} {a : Act} {w : World} (h : Rep N w0 M U st a w) (hs : ∀ d, st'.s.lookup d = st.s.lookup d) (ho : ∀ i, st'.o.lookup i = st.o.lookup i) : Rep N w0 M U st' a w := by
  obtain ⟨ρ, own, fr, hr⟩ := h
  exact ⟨ρ, own, ⟨fr.sz, fr.df, fun d lv hd => fr.sl d lv ((hs d).symm.trans hd)⟩, hr.congr ho⟩
theorem Rep.mono {N : Nat} {w0 : World} {M : Fp} {U U' : Nat → Prop} {st : St} {a : Act} {w : World} (h : Rep N w0 M U st a w) (hU : ∀ i, U i → U' i) : Rep N w0 M U' st a w := by
  obtain ⟨ρ, own, fr, hr⟩ := h
  exact ⟨ρ, own, fr.keep (fun _ _ => rfl) hU, hr.mono hU⟩

theorem wanted_of {ops : Array Oper} {st : St} {o : Oper} {t : Bool} (h : On ops st o t) {N : Nat} {U : Nat → Prop} {ρ : Nat → Value} {a : Act} (fr : FR N U ρ st.s a) : Region.wanted o (yielded ops a.tmps) = t := by
  cases h with
  | plain h => simp [Region.wanted, h]
  | @yes j d c t h hj hs hc =>
    have h1 := (fr.sl d _ hs).1
    have h2 : yielded ops a.tmps j = some c := by simp [yielded, hj, h1, LV.val]
    simp only [Region.wanted, h, h2]
    simpa using hc
  | @no j d c t h hj hs hc =>
    have h1 := (fr.sl d _ hs).1
    have h2 : yielded ops a.tmps j = some c := by simp [yielded, hj, h1, LV.val]
    simp only [Region.wanted, h, h2]
    simpa using hc
  | @und j d t h hj hs =>
    have h1 := (fr.sl d _ hs).1
    have h2 : yielded ops a.tmps j = none := by simp [yielded, hj, h1, LV.val, undef]
    simp only [Region.wanted, h, h2]
    simp

theorem put_undef {N : Nat} {w0 : World} {M : Fp} {U : Nat → Prop} {st : St} {a : Act} {w : World} (h : Rep N w0 M U st a w) {dst : Option Tmp} (hd : ∀ d, dst = some d → d < N) : Rep N w0 M U (st.app dst (.v undef) []) (a.put dst undef) w := by
  obtain ⟨ρ, own, fr, hr⟩ := h
  refine ⟨ρ, own, ?_, hr⟩
  cases dst with
  | none => exact fr
  | some d => exact fr.put (fun _ _ => rfl) (fun _ h => h) (lv := .v undef) trivial d (hd d rfl)

/-- One operation, carried out. -/
theorem rep_op {P : Program} {N : Nat} {o : Oper} {b : Nat} {pre : List Nat} {st st1 : St} {lv : LV} {nn : Nat} {upd : List (Nat × Ob)} (ht : T P N o b pre st1 lv nn upd) {w0 : World} {M : Fp} {U U' : Nat → Prop} {a : Act} {w : World} (h : Rep N w0 M U st a w)
    (hev : ∀ x, x ∈ o.op.operands → st.ev x = st1.ev x) (hp : ∀ i, i ∈ pre → st.o.lookup i = st1.o.lookup i) (hf : ∀ i, b ≤ i → i < b + nn → ¬ U i) (hU : ∀ i, grow U b nn i → U' i) (hd : ∀ d, o.dst = some d → d < N) (next : Act → World → Prop) (Q : Exit → Act → World → Prop)
    (hn : ∀ a' w', Rep N w0 M U' (st.app o.dst lv upd) a' w' → next a' w') : o.wp P a w next Q := by
  obtain ⟨ρ, own, fr, hr⟩ := h
  refine ht w0 M U ρ own st a w hev hp hf fr hr next Q (fun v w' hv => hn _ _ ?_)
  obtain ⟨ρ', own', rfl, h1, h2, h3⟩ := hv
  refine ⟨ρ', own', ?_, h3.mono hU⟩
  cases hdst : o.dst with
  | none => exact fr.keep h1 (fun i hi => hU i (.inl hi))
  | some d => exact fr.put h1 (fun i hi => hU i (.inl hi)) (used_mono (fun _ _ => rfl) hU lv h2) d (hd d hdst)

def dstsOk (ops : Array Oper) (N : Nat) : Bool := ops.toList.all fun o => match o.dst with | some d => decide (d < N) | none => true
theorem dsts_ok {ops : Array Oper} {N : Nat} (h : dstsOk ops N = true) {j : Nat} {o : Oper} (ho : ops[j]? = some o) : ∀ d, o.dst = some d → d < N := fun d hd => by
  have h1 := List.all_eq_true.1 h o (by rw [← Array.getElem?_toList] at ho; exact List.mem_of_getElem? ho)
  rw [hd] at h1
  exact of_decide_eq_true h1

theorem run_seq {P : Program} {N : Nat} {ops : Array Oper} {bs : Nat} (hd : dstsOk ops N = true) {w0 : World} {M : Fp} {Q : Exit → Act → World → Prop} {j : Nat} {st st' : St} {tr : List Tr} (r : Run P N ops bs j st tr st') :
    ∀ (a : Act) (w : World), Rep N w0 M (fun i => i < bs + 16 * j) st a w → (∀ a' w', Rep N w0 M (fun i => i < bs + 16 * ops.size) st' a' w' → Q .normal a' w') → wpOps P ops Q (List.range' j (ops.size - j)) a w := by
  induction r with
  | @done j st h =>
    intro a w hr hq
    subst h
    rw [Nat.sub_self]
    exact hq a w hr
  | @op j o st st' lv pre nn upd tr ho hg ht hn r ih =>
    intro a w hr hq
    have hlt : j < ops.size := (Array.getElem?_eq_some_iff.1 ho).1
    have hsz : ops.size - j = (ops.size - (j + 1)) + 1 := by omega
    have hn' : nn ≤ 16 := of_decide_eq_true hn
    obtain ⟨ρ, own, fr, hh⟩ := hr
    rw [hsz, List.range'_succ]
    simp only [wpOps, ho, wanted_of hg fr, if_true]
    refine .inl (rep_op ht ⟨ρ, own, fr, hh⟩ (fun _ _ => rfl) (fun _ _ => rfl) (fun i h1 h2 h3 => by omega) (U' := fun i => i < bs + 16 * (j + 1)) (fun i hi => ?_) (dsts_ok hd ho) _ Q (fun a' w' h' => ih a' w' h' hq))
    rcases hi with hi | hi <;> omega
  | @off j o st st' tr ho hg r ih =>
    intro a w hr hq
    have hlt : j < ops.size := (Array.getElem?_eq_some_iff.1 ho).1
    have hsz : ops.size - j = (ops.size - (j + 1)) + 1 := by omega
    have hr' := hr
    obtain ⟨ρ, own, fr, hh⟩ := hr
    rw [hsz, List.range'_succ]
    simp only [wpOps, ho, wanted_of hg fr, Bool.false_eq_true, if_false]
    exact ih _ _ ((put_undef hr' (dsts_ok hd ho)).mono (fun i hi => by omega)) hq

theorem region_seq {P : Program} {N : Nat} {ops : Array Oper} {bs id : Nat} (hd : dstsOk ops N = true) {w0 : World} {M : Fp} {Q : Exit → Act → World → Prop} {st st' : St} {tr : List Tr} (r : Run P N ops bs 0 st tr st') {a : Act} {w : World} (h : Rep N w0 M (fun i => i < bs) st a w)
    (hq : ∀ a' w', Rep N w0 M (fun i => i < bs + 16 * ops.size) st' a' w' → Q .normal a' w') : (Code.region id ops false).wp P Q a w := by
  refine wp_region ?_
  have := run_seq hd r a w (h.mono (fun i hi => by omega)) hq
  rw [Nat.sub_zero, ← List.range_eq_range'] at this
  exact this
end Lg
end Go.Proofs.Ytpfhmodjjljpjaa
