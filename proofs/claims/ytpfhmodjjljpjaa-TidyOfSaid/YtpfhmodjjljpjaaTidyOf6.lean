import Derived.Test.YtpfhmodjjljpjaaTidyOf5
set_option linter.unusedVariables false
set_option linter.unusedSimpArgs false
namespace Go.Proofs.Ytpfhmodjjljpjaa
open Go.RowKit
namespace Lg

/-! ### What is reached, breadth first -/
theorem mem_getD' {α : Type} [Inhabited α] {p : List α} {x : α} (h : x ∈ p) : ∃ i, i < p.length ∧ p.getD i default = x := by
  obtain ⟨i, hi, e⟩ := List.mem_iff_getElem.1 h
  exact ⟨i, hi, by rw [List.getD_eq_getElem?_getD, List.getElem?_eq_getElem hi, e]; rfl⟩
def reachN (next : List (List Int)) : List Bool := ((visit next (-1) (next.length + 1) 0 (List.replicate next.length false, List.replicate next.length false)).getD ([], [])).2
theorem reachN_length (next : List (List Int)) : (reachN next).length = next.length := by
  obtain ⟨s2, o2, h1, h2, h3⟩ := visit_all next
  unfold reachN; rw [h1]; exact h2
theorem reachN_iff (next : List (List Int)) (x : Nat) : (reachN next).getD x default = true ↔ RF next (-1) 0 x := by
  obtain ⟨s2, o2, h1, h2, h3⟩ := visit_all next
  unfold reachN; rw [h1]; exact h3 x

def closedAt (next : List (List Int)) (out : List Bool) (x : Nat) : Prop := ∀ y ∈ next.getD x default, 0 ≤ y → y < (next.length : Int) → out.getD y.toNat default = true
def msr (out : List Bool) (todo : List Int) : Nat := 2 * out.count false + todo.length
structure BF (next : List (List Int)) (out : List Bool) (todo : List Int) : Prop where
  len : out.length = next.length
  fr : ∀ x, out.getD x default = true → RF next (-1) 0 x
  tin : ∀ t ∈ todo, 0 ≤ t ∧ t < (next.length : Int) ∧ out.getD t.toNat default = true
  clos : ∀ x : Nat, out.getD x default = true → (x : Int) ∈ todo ∨ closedAt next out x
  zero : out.getD 0 default = true
  size : msr out todo ≤ 2 * next.length + 1
structure BI (next : List (List Int)) (c m i : Nat) (out : List Bool) (todo : List Int) : Prop where
  len : out.length = next.length
  fr : ∀ x, out.getD x default = true → RF next (-1) 0 x
  tin : ∀ t ∈ todo, 0 ≤ t ∧ t < (next.length : Int) ∧ out.getD t.toNat default = true
  zero : out.getD 0 default = true
  cin : c < next.length ∧ out.getD c default = true
  clos : ∀ x : Nat, out.getD x default = true → x = c ∨ (x : Int) ∈ todo ∨ closedAt next out x
  done : ∀ q, q < i → 0 ≤ (next.getD c default).getD q default → (next.getD c default).getD q default < (next.length : Int) → out.getD ((next.getD c default).getD q default).toNat default = true
  size : msr out todo ≤ m
theorem bf_start {next : List (List Int)} (h : 0 < next.length) : BF next ((List.replicate next.length false).set 0 true) [0] := by
  have hg : ∀ x, ((List.replicate next.length false).set 0 true).getD x default = true ↔ x = 0 := fun x => by
    rw [getD_set_true (by simpa using h)]
    split
    · rename_i e; exact ⟨fun _ => e, fun _ => rfl⟩
    · rename_i e
      have hf : (List.replicate next.length false).getD x default = false := by
        rw [List.getD_eq_getElem?_getD, List.getElem?_replicate]
        split <;> rfl
      rw [hf]
      exact ⟨fun k => absurd k (by decide), fun k => absurd k e⟩
  refine ⟨by simp, fun x hx => ?_, fun t ht => ?_, fun x hx => .inl ?_, (hg 0).2 rfl, ?_⟩
  · rw [(hg x).1 hx]
    exact RF.refl (b := 0) (by omega) (by omega) (by omega)
  · rw [List.mem_singleton.1 ht]
    exact ⟨by omega, by omega, (hg 0).2 rfl⟩
  · rw [(hg x).1 hx]; simp
  · have : ((List.replicate next.length false).set 0 true).count false + 1 = (List.replicate next.length false).count false := count_set_lt (by simpa using h) (by
      rw [List.getD_eq_getElem?_getD, List.getElem?_replicate, if_pos h]; rfl)
    rw [List.count_replicate_self] at this
    unfold msr
    simp only [List.length_singleton]; omega
theorem BF.pop {next : List (List Int)} {out : List Bool} {t : Int} {rest : List Int} (h : BF next out (t :: rest)) : BI next t.toNat (msr out rest) 0 out rest := by
  have ht := h.tin t (by simp)
  refine ⟨h.len, h.fr, fun s hs => h.tin s (List.mem_cons_of_mem _ hs), h.zero, ⟨by omega, ht.2.2⟩, fun x hx => ?_, fun q hq => absurd hq (Nat.not_lt_zero _), Nat.le_refl _⟩
  rcases h.clos x hx with hm | hm
  · rcases List.mem_cons.1 hm with e | e
    · exact .inl (by omega)
    · exact .inr (.inl e)
  · exact .inr (.inr hm)
theorem BI.skip {next : List (List Int)} {c m i : Nat} {out : List Bool} {todo : List Int} (h : BI next c m i out todo) (hk : 0 ≤ (next.getD c default).getD i default → (next.getD c default).getD i default < (next.length : Int) → out.getD ((next.getD c default).getD i default).toNat default = true) : BI next c m (i + 1) out todo :=
  ⟨h.len, h.fr, h.tin, h.zero, h.cin, h.clos, fun q hq => by
    rcases Nat.lt_or_ge q i with h1 | h1
    · exact h.done q h1
    · have : q = i := by omega
      subst this; exact hk, h.size⟩
theorem BI.push {next : List (List Int)} {c m i : Nat} {out : List Bool} {todo : List Int} {k : Int} (h : BI next c m i out todo) (hi : i < (next.getD c default).length) (hk : (next.getD c default).getD i default = k) (h0 : 0 ≤ k) (h1 : k < (next.length : Int)) (hf : out.getD k.toNat default = false) : BI next c m (i + 1) (out.set k.toNat true) (todo ++ [k]) := by
  have hl : k.toNat < out.length := by rw [h.len]; omega
  have hmono : ∀ x, out.getD x default = true → (out.set k.toNat true).getD x default = true := fun x hx => by
    rw [getD_set_true hl]; split
    · rfl
    · exact hx
  have hself : (out.set k.toNat true).getD k.toNat default = true := by rw [getD_set_true hl, if_pos rfl]
  have hnew : ∀ x, (out.set k.toNat true).getD x default = true → x = k.toNat ∨ out.getD x default = true := fun x hx => by
    rw [getD_set_true hl] at hx
    split at hx
    · exact .inl (by assumption)
    · exact .inr hx
  have hcl : ∀ x, closedAt next out x → closedAt next (out.set k.toNat true) x := fun x hx y hy a1 a2 => hmono _ (hx y hy a1 a2)
  refine ⟨by rw [List.length_set]; exact h.len, fun x hx => ?_, fun t ht => ?_, hmono _ h.zero, ⟨h.cin.1, hmono _ h.cin.2⟩, fun x hx => ?_, fun q hq a1 a2 => ?_, ?_⟩
  · rcases hnew x hx with e | e
    · rw [e]
      refine RF.step (h.fr c h.cin.2) ?_ h0 h1 (by omega)
      rw [← hk]; exact getD_mem hi
    · exact h.fr x e
  · rcases List.mem_append.1 ht with e | e
    · have := h.tin t e
      exact ⟨this.1, this.2.1, hmono _ this.2.2⟩
    · rw [List.mem_singleton.1 e]; exact ⟨h0, h1, hself⟩
  · rcases hnew x hx with e | e
    · right; left
      rw [e, List.mem_append]
      right
      rw [List.mem_singleton]; omega
    · rcases h.clos x e with e2 | e2 | e2
      · exact .inl e2
      · exact .inr (.inl (List.mem_append_left _ e2))
      · exact .inr (.inr (hcl x e2))
  · rcases Nat.lt_or_ge q i with h2 | h2
    · exact hmono _ (h.done q h2 a1 a2)
    · have : q = i := by omega
      subst this
      rw [hk]; exact hself
  · have h3 := count_set_lt hl hf
    have h4 := h.size
    unfold msr at h4 ⊢
    rw [List.length_append, List.length_singleton]; omega
theorem BI.fin {next : List (List Int)} {c m i : Nat} {out : List Bool} {todo : List Int} (h : BI next c m i out todo) (hi : (next.getD c default).length ≤ i) (hm : m ≤ 2 * next.length + 1) : BF next out todo := by
  refine ⟨h.len, h.fr, h.tin, fun x hx => ?_, h.zero, Nat.le_trans h.size hm⟩
  rcases h.clos x hx with e | e | e
  · right
    rw [e]
    intro y hy a1 a2
    obtain ⟨q, hq, rfl⟩ := mem_getD' hy
    exact h.done q (by omega) a1 a2
  · exact .inl e
  · exact .inr e
theorem BF.fin {next : List (List Int)} {out : List Bool} (h : BF next out []) : out = reachN next := by
  have hback : ∀ x, RF next (-1) 0 x → out.getD x default = true := fun x hr => by
    induction hr with
    | refl a0 a1 a2 => exact h.zero
    | @step x y _ hy a0 a1 a2 ih =>
      rcases h.clos x ih with e | e
      · cases e
      · exact e y hy a0 a1
  refine ext_getD (by rw [h.len, reachN_length]) (fun x _ => ?_)
  have hiff : out.getD x default = true ↔ RF next (-1) 0 x := ⟨h.fr x, hback x⟩
  have h2 := reachN_iff next x
  rcases bool_cases (out.getD x default) with e | e
  · rw [e, h2.2 (hiff.1 e)]
  · rw [e]
    rcases bool_cases ((reachN next).getD x default) with e2 | e2
    · rw [hiff.2 (h2.1 e2)] at e; cases e
    · exact e2.symm
theorem BF.pop' {next : List (List Int)} {out : List Bool} {todo : List Int} (h : BF next out todo) (h0 : 0 < todo.length) : BI next (todo.getD 0 default).toNat (msr out (todo.drop 1)) 0 out (todo.drop 1) := by
  cases todo with
  | nil => simp at h0
  | cons t rest => exact h.pop
theorem msr_drop {out : List Bool} {todo : List Int} (h0 : 0 < todo.length) : msr out (todo.drop 1) + 1 = msr out todo := by
  cases todo with
  | nil => simp at h0
  | cons t rest => simp only [msr, List.drop_one, List.tail_cons, List.length_cons]; omega
theorem reach_none {next : List (List Int)} (h : next.length = 0) : List.replicate next.length false = reachN next :=
  ext_getD (by rw [reachN_length]; simp) (fun i hi => by rw [List.length_replicate] at hi; omega)
theorem BF.fin' {next : List (List Int)} {out : List Bool} {todo : List Int} (h : BF next out todo) (h0 : todo.length = 0) : out = reachN next := by
  have e : todo = [] := List.eq_nil_of_length_eq_zero h0
  subst e
  exact h.fin
theorem BI.len3 {next : List (List Int)} {c m i : Nat} {out : List Bool} {todo : List Int} (h : BI next c m i out todo) : todo.length ≤ m := by
  have := h.size
  unfold msr at this; omega
end Lg
end Go.Proofs.Ytpfhmodjjljpjaa

namespace Go.Proofs.Ytpfhmodjjljpjaa
open Go.RowKit
namespace Lg

/-! ### Tidied again -/
theorem ends_tidy {f : GFn} (h : VF f) {j : Nat} (hj : j < (headsL f).length) : endsB ((tidyG f).blocks.getD j default) (headsL f).length f.regs = true := by
  obtain ⟨p, hp, e⟩ := path_at h hj
  have hE := h.at (hp.g.lt _ (lastN_mem hp))
  rw [tidyG_at hj, e]
  unfold newBlock
  rw [lastOf_path hp]
  have hin : ∀ y, y ∈ follows (f.blocks.getD (lastN p) default) → withinB (begins (pathsL f) y) (headsL f).length = true := fun y hy => by
    obtain ⟨h1, h2, h3⟩ := last_head h hp hy
    obtain ⟨j2, hj2, _, hb⟩ := begins_of h h1 h3
    rw [h2] at hb
    rw [withinB_iff, hb]; omega
  unfold endsB
  simp only
  rcases hE.e with ⟨h1, h2, h3, h4⟩ | ⟨h1, h2, h3, h4⟩ | ⟨h1, h2, h3, h4⟩
  · rw [if_pos h1, if_neg (show ¬ _ = (3 : Int) by omega), if_neg (show ¬ _ = (2 : Int) by omega), h3, hin _ (by unfold follows; rw [if_pos h1]; simp)]; rfl
  · rw [if_neg (show ¬ _ = (1 : Int) by omega), if_pos h1, if_neg (show ¬ _ = (3 : Int) by omega), if_pos h1, hin _ (by unfold follows; rw [if_neg (by omega), if_pos h1]; simp), hin _ (by unfold follows; rw [if_neg (by omega), if_pos h1]; simp), withinB_iff.2 h4]; rfl
  · rw [if_neg (show ¬ _ = (1 : Int) by omega), if_neg (show ¬ _ = (2 : Int) by omega), if_pos h1, if_neg (show ¬ _ = (2 : Int) by omega), h1, h2]; rfl
theorem tidy_vf {f : GFn} (h : VF f) : VF (tidyG f) := by
  refine ⟨by rw [tidyG_length]; exact (heads_zero h).1, fun k hk => ?_⟩
  rw [tidyG_length] at hk ⊢
  exact ends_tidy h hk
theorem from_srcs {f : GFn} (h : VF f) {k : Nat} (hk : k < (headsL f).length) : (fromL (tidyG f)).getD k default = srcs (nextL (tidyG f)) k (headsL f).length := by
  rw [fromL_getD (tidy_vf h).inN (by rw [tidyG_length]; exact hk), tidyG_length]
  unfold srcs
  have hc : ∀ (l : List Nat), (∀ j ∈ l, j < (headsL f).length) → l.flatMap (fun i => if (reachL (tidyG f)).getD i default = true then List.replicate (((nextL (tidyG f)).getD i default).count (k : Int)) (i : Int) else []) = l.flatMap (fun j => List.replicate (((nextL (tidyG f)).getD j default).count (k : Int)) (j : Int)) := by
    intro l
    induction l with
    | nil => exact fun _ => rfl
    | cons x l ih =>
      intro hl
      rw [List.flatMap_cons, List.flatMap_cons, ih (fun j hj => hl j (List.mem_cons_of_mem _ hj)), if_pos ((reachL_iff _ _).2 (tidy_reached h (hl x (by simp))))]
  exact hc _ (fun j hj => by simpa using hj)
theorem tidy_by {f : GFn} (h : VF f) {k : Nat} (hk : k < (headsL f).length) : (byL (tidyG f)).getD k default = -1 := by
  rw [byL_getD _ (by rw [tidyG_length]; exact hk)]
  unfold takenAt
  refine if_neg (fun hc => ?_)
  obtain ⟨c1, c2, c3, c4, c5⟩ := hc
  rw [from_srcs h hk] at c3 c4 c5
  obtain ⟨j, j1, j2, j3⟩ := srcs_one c3
  rw [j2] at c4 c5
  have c5' : ((tidyG f).blocks.getD j default).fin = 1 := by rw [← blk_nat]; exact c5
  have c4' : ¬ (j : Int) = (k : Int) := c4
  exact (tidy_most h hk c1).2 j j2 (by omega) c5'
theorem tidy_isHead {f : GFn} (h : VF f) {k : Nat} (hk : k < (headsL f).length) : isHead (tidyG f) k = true :=
  isHead_iff.2 ⟨(reachL_iff _ _).2 (tidy_reached h hk), by rw [tidy_by h hk]; omega⟩
theorem tidy_heads {f : GFn} (h : VF f) : headsL (tidyG f) = List.range (headsL f).length := by
  unfold headsL
  rw [show (tidyG f).blocks.length = ((List.range f.blocks.length).filter (isHead f)).length from tidyG_length f]
  rw [List.filter_eq_self]
  exact fun k hk => tidy_isHead h (by simpa [headsL] using hk)
theorem tidy_path {f : GFn} (h : VF f) {k : Nat} (hk : k < (headsL f).length) : pathAt (tidyG f) k = [(k : Int)] := by
  have hv := tidy_vf h
  obtain ⟨p, hp⟩ := (path_of hv.inN (by rw [tidyG_length]; exact hk) (tidy_isHead h hk)).2
  rw [hp.e]
  have hl : p.length = 1 := by
    have h1 := List.length_pos_iff.2 hp.g.ne
    rcases Nat.lt_or_ge 1 p.length with h2 | h2
    · exfalso
      have ht := hp.g.link 0 h2
      have h3 := ht.kn
      rw [tidyG_length] at h3
      exact byL_neg ht.kn (by rw [tidy_by h h3]; omega) hv.inN _ ht
    · omega
  obtain ⟨x, hx⟩ := List.length_eq_one_iff.1 hl
  have h4 := hp.h
  rw [hx] at h4 ⊢
  have : x = k := h4
  rw [this]; rfl
theorem tidy_paths {f : GFn} (h : VF f) : pathsL (tidyG f) = (List.range (headsL f).length).map (fun k : Nat => [(k : Int)]) := by
  rw [pathsL_eq, tidy_heads h]
  exact List.map_congr_left (fun k hk => tidy_path h (by simpa using hk))
theorem tidy_begins {f : GFn} (h : VF f) {y : Int} (hy : 0 ≤ y ∧ y < ((headsL f).length : Int)) : begins (pathsL (tidyG f)) y = y := by
  have h1 := begins_head (tidy_vf h) (j := y.toNat) (by rw [tidy_heads h]; simp; omega)
  rw [tidy_heads h, range_getD (by omega)] at h1
  rw [show ((y.toNat : Nat) : Int) = y by omega] at h1
  exact h1
theorem tidy_twice {f : GFn} (h : VF f) : tidyG (tidyG f) = tidyG f := by
  have hb : (tidyG (tidyG f)).blocks = (tidyG f).blocks := by
    have hl : (tidyG (tidyG f)).blocks.length = (tidyG f).blocks.length := by rw [tidyG_length, tidy_heads h, tidyG_length]; simp
    refine ext_getD hl (fun j hj => ?_)
    rw [hl, tidyG_length] at hj
    rw [tidyG_at (by rw [tidy_heads h]; simpa using hj), tidy_paths h, getD_map _ _ (by simpa using hj), range_getD hj, ← tidy_paths h]
    have hE := (tidy_vf h).at (k := j) (by rw [tidyG_length]; exact hj)
    have hlast : blk (tidyG f) (lastOf [(j : Int)]) = (tidyG f).blocks.getD j default := by rw [lastOf_one, blk_nat]
    unfold newBlock
    rw [hlast]
    have hins : instrs (tidyG f) [(j : Int)] = ((tidyG f).blocks.getD j default).ins := by simp [instrs, -List.getD_eq_getElem?_getD]
    rw [hins]
    have hlen := tidyG_length f
    generalize (tidyG f).blocks.getD j default = b at hE ⊢
    have h1 : (if b.fin = 3 then 0 else begins (pathsL (tidyG f)) b.to) = b.to := by
      rcases hE.e with ⟨h1, h2, h3, h4⟩ | ⟨h1, h2, h3, h4⟩ | ⟨h1, h2, h3, h4⟩
      · rw [if_neg (by omega)]; exact tidy_begins h (by omega)
      · rw [if_neg (by omega)]; exact tidy_begins h (by omega)
      · rw [if_pos h1, h3]
    have h2 : (if b.fin = 2 then begins (pathsL (tidyG f)) b.els else 0) = b.els := by
      rcases hE.e with ⟨h1, h2, h3, h4⟩ | ⟨h1, h2, h3, h4⟩ | ⟨h1, h2, h3, h4⟩
      · rw [if_neg (by omega), h4]
      · rw [if_pos h1]; exact tidy_begins h (by omega)
      · rw [if_neg (by omega), h4]
    rw [h1, h2]
  have hr : (tidyG (tidyG f)).regs = (tidyG f).regs := rfl
  generalize tidyG (tidyG f) = a at hb hr
  generalize tidyG f = b at hb hr
  cases a; cases b
  simp_all

theorem twice_len {f : GFn} (h : VF f) : (pathsL (tidyG f)).length = (tidyG f).blocks.length := by rw [paths_length, tidy_heads h, tidyG_length]; simp
theorem twice_at {f : GFn} (h : VF f) {k : Nat} (hk : k < (pathsL (tidyG f)).length) : (pathsL (tidyG f)).getD k default = [(k : Int)] := by
  rw [twice_len h, tidyG_length] at hk
  rw [tidy_paths h, getD_map _ _ (by simpa using hk), range_getD hk]
theorem twice_reach {f : GFn} (h : VF f) {k : Nat} (hk : k < (pathsL (tidyG f)).length) : (reachN (nextL (tidyG f))).getD k default = true := by
  rw [twice_len h, tidyG_length] at hk
  exact (reachN_iff _ _).2 (tidy_reached h hk)
/-! Sizes -/
theorem nodup_sum (g : Nat → Nat) : ∀ (n : Nat) (l : List Nat), l.Nodup → (∀ x ∈ l, x < n) → (l.map g).sum ≤ ((List.range n).map g).sum
  | 0, l, _, h => by
    cases l with
    | nil => simp
    | cons x l => exact absurd (h x (by simp)) (by omega)
  | n + 1, l, hd, h => by
    have h1 := nodup_sum g n (l.erase n) (hd.erase n) (fun x hx => by
      have := h x (List.mem_of_mem_erase hx)
      have hne : x ≠ n := fun e => by subst e; exact (List.Nodup.not_mem_erase hd) hx
      omega)
    rw [List.range_succ, List.map_append, List.sum_append]
    simp only [List.map_cons, List.map_nil, List.sum_cons, List.sum_nil]
    by_cases hm : n ∈ l
    · have := ((List.perm_cons_erase hm).map g).sum_nat
      rw [this, List.map_cons, List.sum_cons]; omega
    · rw [List.erase_of_not_mem hm] at h1; omega
theorem szB_sum (f : GFn) : ∀ (i : Nat), i ≤ f.blocks.length → ((List.range i).map (fun x => (f.blocks.getD x default).ins.length)).sum ≤ szB f i
  | 0, _ => by simp
  | i + 1, h => by
    rw [szB_succ (f := f) (i := i) (by omega), List.range_succ, List.map_append, List.sum_append]
    have := szB_sum f i (by omega)
    simp only [List.map_cons, List.map_nil, List.sum_cons, List.sum_nil]
    omega
theorem instrs_sum (f : GFn) : ∀ (p : List Nat), (instrs f (ints p)).length = (p.map (fun x => (f.blocks.getD x default).ins.length)).sum
  | [] => rfl
  | x :: p => by
    have h1 := instrs_sum f p
    have h2 : (instrs f (ints (x :: p))).length = (f.blocks.getD x default).ins.length + (instrs f (ints p)).length := by simp [instrs, ints, -List.getD_eq_getElem?_getD]
    rw [h2, h1, List.map_cons, List.sum_cons]
theorem tidy_ins {f : GFn} (h : VF f) {c : Nat} (hc : szB f f.blocks.length ≤ c) : ∀ b ∈ (tidyG f).blocks, b.ins.length ≤ c := fun b hb => by
  obtain ⟨j, hj, rfl⟩ := mem_getD hb
  rw [tidyG_length] at hj
  obtain ⟨p, hp, e⟩ := path_at h hj
  rw [tidyG_at hj, e]
  show (instrs f (ints p)).length ≤ c
  rw [instrs_sum]
  exact Nat.le_trans (nodup_sum _ _ _ hp.g.nd hp.g.lt) (Nat.le_trans (szB_sum f _ (Nat.le_refl _)) hc)
theorem small_sz {p : GProg} {most : Int} (h : smallG p most = true) {c : Nat} (hc : most ≤ c) {i : Nat} (hi : i < p.funcs.length) : szB (p.funcs.getD i default) (p.funcs.getD i default).blocks.length ≤ c := by
  have h8 := szB_le_szP (Nat.le_refl _) i hi
  have h3 := (smallG_iff h).2.2.1
  omega
end Lg
end Go.Proofs.Ytpfhmodjjljpjaa

namespace Go.Proofs.Ytpfhmodjjljpjaa
open Go.RowKit
namespace Lg
set_option maxRecDepth 100000
set_option linter.unusedVariables false
set_option linter.unusedSimpArgs false



theorem body78 : (Try.prog.funcs[78]?).map (fun fn => (fn.name == "runtime.NumGoroutine" || fn.body.isNone)) = some false := by kernel_rfl
theorem without_spec (next : List (List Int)) (a : Int) (ha : a < 0) (hn : next.length ≤ 1000000) (hnl : ∀ l ∈ next, l.length ≤ 1000000) : Spec Try.prog 78 [.r 1, .v (.int .i64 a)] 2 [(1, .fz 1 (next.map eIs))] (.r 2) 3 [(2, .row 4 1 ((reachN next).map eB))] := by
  refine spec_of D (fn := Try.f78) rfl rfl (Nat.le_of_ble_eq_true rfl) ?_
  refine W_seq ?_
  refine W_seqK (b' := 18) rfl rfl ?_
  refine q1 4 2 1 rfl rfl (T_nils [(4, 1)] (T_assign rfl rfl) rfl (.inr ⟨rfl, rfl⟩) (.cons (.nil rfl) .nil) (lv' := .r 2) (upd' := [(2, .row 4 1 (List.map eB ([] : List (Bool))))]) (nn' := 1) rfl rfl) rfl ?_
  refine k_done rfl ?_
  refine thenK_n ?_
  refine W_seq ?_
  refine W_seqK (b' := 82) rfl rfl ?_
  refine q0 10 18 1 rfl rfl (T_move rfl rfl) rfl ?_
  refine q0 11 34 2 rfl rfl (T_len D rfl rfl rfl rfl rfl rfl) rfl ?_
  refine q1 12 50 3 rfl rfl (T_make D (zx := false) (enc := eB) rfl rfl rfl rfl rfl rfl rfl (.v rfl (.nil)) rfl (by (try simp only [ty4]); first | assumption | omega | (simp; omega)) (by (try simp only [ty4]); first | assumption | omega | (simp; omega))) rfl ?_
  refine q0 5 66 4 rfl rfl (T_assign rfl rfl) rfl ?_
  refine k_done rfl ?_
  refine thenK_n ?_
  refine W_seq ?_
  refine W_seq ?_
  refine W_seqK (b' := 130) rfl rfl ?_
  refine q0 13 82 1 rfl rfl (T_move rfl rfl) rfl ?_
  refine q0 14 98 2 rfl rfl (T_len D rfl rfl rfl rfl rfl rfl) rfl ?_
  refine q0 15 114 3 rfl rfl (T_cmp rfl rfl rfl rfl) rfl ?_
  refine k_done rfl ?_
  refine thenK_n ?_
  refine W_cond rfl (fun g1 => ?_) (fun g1 => ?_)
  · have h1 := c_eql_t g1
    refine W_seq ?_
    refine W_seqK (b' := 162) rfl rfl ?_
    refine q0 16 130 1 rfl rfl (T_move rfl rfl) rfl ?_
    refine q0 4 146 2 rfl rfl (T_assign rfl rfl) rfl ?_
    refine k_done rfl ?_
    refine thenK_n ?_
    refine W_ret ?_
    refine thenK_r ?_
    -- end 0
    exact .mk [(2, 50)] (.inr rfl) (.tmp rfl (.nil)) rfl (.rowE rfl (.nil) (by first | rfl | exact congrArg (List.map eB) (reach_none (by omega)))) rfl
  · have h1 := c_eql_f g1
    refine W_skip ?_
    refine thenK_n ?_
    refine W_seq ?_
    refine W_seqK (b' := 178) rfl rfl ?_
    refine q0 17 130 1 rfl rfl (T_move rfl rfl) rfl ?_
    first | refine q0 18 146 2 rfl rfl (T_indexAddr D rfl rfl rfl rfl rfl rfl rfl rfl (by first | assumption | omega | (simp; omega))) rfl ?_ | refine q0 18 146 2 rfl rfl (T_indexAddrZ D rfl rfl rfl rfl rfl rfl rfl rfl (by first | assumption | omega | (simp; omega)) (by first | assumption | omega | (simp; omega))) rfl ?_
    refine s1 162 3 rfl rfl (T_store_e D (z := _) rfl rfl rfl rfl (flat_v rfl) rfl rfl (by first | assumption | omega | (simp; omega)) (.v rfl (.nil)) rfl (Nat.le_of_ble_eq_true rfl) rfl) rfl ?_
    refine k_done rfl ?_
    refine thenK_n ?_
    refine W_seq ?_
    refine W_seqK (b' := 210) rfl rfl ?_
    refine q1 19 178 1 rfl rfl (T_bs D (ys := [_]) (enc := eI) (l := [_]) rfl rfl rfl rfl rfl rfl (.cons rfl (flat_v rfl) (.nil)) rfl rfl rfl rfl (.v rfl (.nil)) rfl rfl) rfl ?_
    refine q0 6 194 2 rfl rfl (T_assign rfl rfl) rfl ?_
    refine k_done rfl ?_
    refine thenK_n ?_
    refine W_seq ?_
    refine W_block ?_
    refine W_loop (ι := List Bool × List Int) 4 (fun x => ⟨[(0, .r 1), (1, .v (.int .i64 a)), (5, .r 2), (6, .r 3)], [(1, .fz 1 (next.map eIs)), (2, .row 4 1 (x.1.map eB)), (3, .row 3 1 (x.2.map eI))]⟩) (fun x => BF next x.1 x.2) (fun x => msr x.1 x.2) (((List.replicate next.length false).set 0 true, [0])) (by exact bf_start (by omega)) ?_ (fun x hJ => ?_)
    · exact ⟨[(2, 50), (3, 178)], .same rfl rfl (.eq rfl (.same rfl rfl (.same rfl rfl (.nil))) (by first | rfl | simp)), .fzE rfl (.rowE rfl (.rowE rfl (.nil) (by first | rfl | simp)) (by first | rfl | simp)) (by first | rfl | simp), rfl⟩
    refine W_seq ?_
    refine W_seq ?_
    refine W_seqK (b' := 52) rfl rfl ?_
    refine q0 20 4 1 rfl rfl (T_move rfl rfl) rfl ?_
    refine q0 21 20 2 rfl rfl (T_len D rfl rfl rfl rfl rfl rfl) rfl ?_
    refine q0 22 36 3 rfl rfl (T_cmp rfl rfl rfl rfl) rfl ?_
    refine k_done rfl ?_
    refine thenK_n ?_
    refine W_cond rfl (fun g2 => ?_) (fun g2 => ?_)
    · have h2 := c_gtr_t g2
      refine W_skip ?_
      refine thenK_n ?_
      refine W_block ?_
      refine W_seq ?_
      refine W_seqK (b' := 116) rfl rfl ?_
      refine q0 23 52 1 rfl rfl (T_move rfl rfl) rfl ?_
      first | refine q0 24 68 2 rfl rfl (T_indexAddr D rfl rfl rfl rfl rfl rfl rfl rfl (by first | assumption | omega | (simp; omega))) rfl ?_ | refine q0 24 68 2 rfl rfl (T_indexAddrZ D rfl rfl rfl rfl rfl rfl rfl rfl (by first | assumption | omega | (simp; omega)) (by first | assumption | omega | (simp; omega))) rfl ?_
      refine q0 25 84 3 rfl rfl (T_ldE D (lv := .v _) (nn := 0) (upd := []) rfl rfl rfl rfl rfl (by first | assumption | omega | (simp; omega)) rfl rfl rfl rfl) rfl ?_
      refine q0 7 100 4 rfl rfl (T_assign rfl rfl) rfl ?_
      refine k_done rfl ?_
      refine thenK_n ?_
      refine W_seq ?_
      refine W_seqK (b' := 164) rfl rfl ?_
      refine q0 26 116 1 rfl rfl (T_move rfl rfl) rfl ?_
      refine qn 27 132 2 rfl rfl (T_slO D (vl := some _) (vh := none) (vm := none) (l := 1) rfl rfl rfl rfl rfl rfl rfl rfl rfl rfl (by first | assumption | omega | (simp; omega)) (by first | assumption | omega | (simp; omega)) (slb_l (by first | assumption | omega | (simp; omega)))) rfl ?_
      refine q0 6 148 3 rfl rfl (T_assign rfl rfl) rfl ?_
      refine k_done rfl ?_
      refine thenK_n ?_
      refine W_seq ?_
      refine W_seqK (b' := 180) rfl rfl ?_
      refine q0 8 164 1 rfl rfl (T_assign rfl rfl) rfl ?_
      refine k_done rfl ?_
      refine thenK_n ?_
      refine W_block ?_
      have hx0 := hJ.tin (x.2.getD 0 default) (getD_mem (by omega))
      have hms := msr_drop (out := x.1) (todo := x.2) (by omega)
      have hjs := hJ.size
      have hcl := hnl (next.getD (x.2.getD 0 default).toNat default) (getD_mem (by omega))
      refine W_loop (ι := Nat × List Bool × List Int) 4 (fun y => ⟨[(0, .r 1), (1, .v (.int .i64 a)), (5, .r 2), (6, .r 3), (7, .v (.int .i64 (x.2.getD 0 default))), (8, .v (.int .i64 (y.1 : Int)))], [(1, .fz 1 (next.map eIs)), (2, .row 4 1 (y.2.1.map eB)), (3, .row 3 1 (y.2.2.map eI))]⟩) (fun y => BI next (x.2.getD 0 default).toNat (msr x.1 (x.2.drop 1)) y.1 y.2.1 y.2.2 ∧ y.1 ≤ (next.getD (x.2.getD 0 default).toNat default).length) (fun y => (next.getD (x.2.getD 0 default).toNat default).length - y.1) ((0, x.1, x.2.drop 1)) (by exact ⟨hJ.pop' (by omega), Nat.zero_le _⟩) ?_ (fun y hI => ?_)
      · exact ⟨[(2, 2), (3, 132)], .same rfl rfl (.eq rfl (.same rfl rfl (.same rfl rfl (.eq rfl (.eq rfl (.nil) (by first | rfl | (rw [sub_tail]; first | done | rfl))) (by first | rfl | (rw [sub_tail]; first | done | rfl))))) (by first | rfl | (rw [sub_tail]; first | done | rfl))), .fzE rfl (.rowE rfl (.rowE rfl (.nil) (by first | rfl | (rw [sub_tail]; first | done | rfl))) (by first | rfl | (rw [sub_tail]; first | done | rfl))) (by first | rfl | (rw [sub_tail]; first | done | rfl)), rfl⟩
      have hol := hI.1.len
      have htl := hI.1.len3
      refine W_seq ?_
      refine W_seq ?_
      refine W_seqK (b' := 196) rfl rfl ?_
      refine q0 28 4 1 rfl rfl (T_move rfl rfl) rfl ?_
      refine q0 29 20 2 rfl rfl (T_move rfl rfl) rfl ?_
      refine q0 30 36 3 rfl rfl (T_move rfl rfl) rfl ?_
      first | refine q0 31 52 4 rfl rfl (T_indexAddr D rfl rfl rfl rfl rfl rfl rfl rfl (by first | assumption | omega | (simp; omega))) rfl ?_ | refine q0 31 52 4 rfl rfl (T_indexAddrZ D rfl rfl rfl rfl rfl rfl rfl rfl (by first | assumption | omega | (simp; omega)) (by first | assumption | omega | (simp; omega))) rfl ?_
      refine q1 32 68 5 rfl rfl (T_ldE D (lv := .r 68) (nn := 1) (upd := [(68, .fz 1 _)]) rfl rfl rfl rfl rfl (by first | assumption | omega | (simp; omega)) rfl rfl rfl rfl) rfl ?_
      refine q0 33 84 6 rfl rfl (T_len D rfl rfl rfl rfl rfl rfl) rfl ?_
      refine q0 34 100 7 rfl rfl (T_cmp rfl rfl rfl rfl) rfl ?_
      refine q0 35 116 8 rfl rfl (T_move rfl rfl) rfl ?_
      refine k_split (d := 35) rfl (fun g3 => ?_) (fun g3 => ?_)
      · have h3 := c_lss_t g3
        refine k_op0 (d := 36) (b := 132) (j' := 9) rfl rfl rfl rfl (g_tt rfl rfl rfl g3) (T_move rfl rfl) rfl ?_
        refine k_op0 (d := 37) (b := 148) (j' := 10) rfl rfl rfl rfl (g_tt rfl rfl rfl g3) (T_move rfl rfl) rfl ?_
        refine k_op0 (d := 38) (b := 164) (j' := 11) rfl rfl rfl rfl (g_tt rfl rfl rfl g3) (T_cmp rfl rfl rfl rfl) rfl ?_
        refine q0 39 180 12 rfl rfl (T_pick_t rfl rfl rfl g3) rfl ?_
        refine k_done rfl ?_
        refine thenK_n ?_
        refine W_cond rfl (fun g4 => ?_) (fun g4 => ?_)
        · have h4 := c_neq_t g4
          refine W_skip ?_
          refine thenK_n ?_
          refine W_seq ?_
          refine W_block ?_
          refine W_seq ?_
          refine W_seqK (b' := 324) rfl rfl ?_
          refine q0 42 196 1 rfl rfl (T_move rfl rfl) rfl ?_
          refine q0 43 212 2 rfl rfl (T_move rfl rfl) rfl ?_
          first | refine q0 44 228 3 rfl rfl (T_indexAddr D rfl rfl rfl rfl rfl rfl rfl rfl (by first | assumption | omega | (simp; omega))) rfl ?_ | refine q0 44 228 3 rfl rfl (T_indexAddrZ D rfl rfl rfl rfl rfl rfl rfl rfl (by first | assumption | omega | (simp; omega)) (by first | assumption | omega | (simp; omega))) rfl ?_
          refine q1 45 244 4 rfl rfl (T_ldE D (lv := .r 244) (nn := 1) (upd := [(244, .fz 1 _)]) rfl rfl rfl rfl rfl (by first | assumption | omega | (simp; omega)) rfl rfl rfl rfl) rfl ?_
          refine q0 46 260 5 rfl rfl (T_move rfl rfl) rfl ?_
          first | refine q0 47 276 6 rfl rfl (T_indexAddr D rfl rfl rfl rfl rfl rfl rfl rfl (by first | assumption | omega | (simp; omega))) rfl ?_ | refine q0 47 276 6 rfl rfl (T_indexAddrZ D rfl rfl rfl rfl rfl rfl rfl rfl (by first | assumption | omega | (simp; omega)) (by first | assumption | omega | (simp; omega))) rfl ?_
          refine q0 48 292 7 rfl rfl (T_ldE D (lv := .v _) (nn := 0) (upd := []) rfl rfl rfl rfl rfl (by first | assumption | omega | (simp; omega)) rfl rfl rfl rfl) rfl ?_
          refine q0 9 308 8 rfl rfl (T_assign rfl rfl) rfl ?_
          refine k_done rfl ?_
          refine thenK_n ?_
          refine W_seq ?_
          refine W_seqK (b' := 564) rfl rfl ?_
          refine q0 49 324 1 rfl rfl (T_move rfl rfl) rfl ?_
          refine q0 50 340 2 rfl rfl (T_cmp rfl rfl rfl rfl) rfl ?_
          refine q0 51 356 3 rfl rfl (T_move rfl rfl) rfl ?_
          refine k_split (d := 51) rfl (fun g5 => ?_) (fun g5 => ?_)
          · have h5 := c_geq_t g5
            refine k_op0 (d := 52) (b := 372) (j' := 4) rfl rfl rfl rfl (g_tt rfl rfl rfl g5) (T_move rfl rfl) rfl ?_
            refine k_op0 (d := 53) (b := 388) (j' := 5) rfl rfl rfl rfl (g_tt rfl rfl rfl g5) (T_move rfl rfl) rfl ?_
            refine k_op0 (d := 54) (b := 404) (j' := 6) rfl rfl rfl rfl (g_tt rfl rfl rfl g5) (T_len D rfl rfl rfl rfl rfl rfl) rfl ?_
            refine k_op0 (d := 55) (b := 420) (j' := 7) rfl rfl rfl rfl (g_tt rfl rfl rfl g5) (T_cmp rfl rfl rfl rfl) rfl ?_
            refine q0 56 436 8 rfl rfl (T_pick_t rfl rfl rfl g5) rfl ?_
            refine q0 57 452 9 rfl rfl (T_move rfl rfl) rfl ?_
            refine k_split (d := 57) rfl (fun g6 => ?_) (fun g6 => ?_)
            · have h6 := c_lss_t g6
              refine k_op0 (d := 58) (b := 468) (j' := 10) rfl rfl rfl rfl (g_tt rfl rfl rfl g6) (T_move rfl rfl) rfl ?_
              refine k_op0 (d := 59) (b := 484) (j' := 11) rfl rfl rfl rfl (g_tt rfl rfl rfl g6) (T_move rfl rfl) rfl ?_
              first | refine k_op0 (d := 60) (b := 500) (j' := 12) rfl rfl rfl rfl (g_tt rfl rfl rfl g6) (T_indexAddr D rfl rfl rfl rfl rfl rfl rfl rfl (by first | assumption | omega | (simp; omega))) rfl ?_ | refine k_op0 (d := 60) (b := 500) (j' := 12) rfl rfl rfl rfl (g_tt rfl rfl rfl g6) (T_indexAddrZ D rfl rfl rfl rfl rfl rfl rfl rfl (by first | assumption | omega | (simp; omega)) (by first | assumption | omega | (simp; omega))) rfl ?_
              refine k_op0 (d := 61) (b := 516) (j' := 13) rfl rfl rfl rfl (g_tt rfl rfl rfl g6) (T_ldE D (lv := .v _) (nn := 0) (upd := []) rfl rfl rfl rfl rfl (by first | assumption | omega | (simp; omega)) rfl rfl rfl rfl) rfl ?_
              refine k_op0 (d := 62) (b := 532) (j' := 14) rfl rfl rfl rfl (g_tt rfl rfl rfl g6) (T_not rfl rfl) rfl ?_
              refine q0 63 548 15 rfl rfl (T_pick_t rfl rfl rfl g6) rfl ?_
              refine k_done rfl ?_
              refine thenK_n ?_
              refine W_cond rfl (fun g7 => ?_) (fun g7 => ?_)
              · have h7 := g7; (try simp only [cmpB, decide_eq_true_eq, decide_eq_false_iff_not, beq_iff_eq, beq_eq_false_iff_ne, bne_iff_ne, ne_eq, bne_eq_false_iff_eq, Bool.not_eq_true', Bool.not_eq_false', Int.not_lt, Int.not_le] at h7)
                refine W_seq ?_
                refine W_seqK (b' := 628) rfl rfl ?_
                refine q0 64 564 1 rfl rfl (T_move rfl rfl) rfl ?_
                refine q0 65 580 2 rfl rfl (T_move rfl rfl) rfl ?_
                first | refine q0 66 596 3 rfl rfl (T_indexAddr D rfl rfl rfl rfl rfl rfl rfl rfl (by first | assumption | omega | (simp; omega))) rfl ?_ | refine q0 66 596 3 rfl rfl (T_indexAddrZ D rfl rfl rfl rfl rfl rfl rfl rfl (by first | assumption | omega | (simp; omega)) (by first | assumption | omega | (simp; omega))) rfl ?_
                refine s1 612 4 rfl rfl (T_store_e D (z := _) rfl rfl rfl rfl (flat_v rfl) rfl rfl (by first | assumption | omega | (simp; omega)) (.v rfl (.nil)) rfl (Nat.le_of_ble_eq_true rfl) rfl) rfl ?_
                refine k_done rfl ?_
                refine thenK_n ?_
                refine W_seqK (b' := 708) rfl rfl ?_
                refine q0 67 628 1 rfl rfl (T_move rfl rfl) rfl ?_
                refine q0 68 644 2 rfl rfl (T_move rfl rfl) rfl ?_
                refine q1 69 660 3 rfl rfl (T_bs D (ys := [_]) (enc := eI) (l := [_]) rfl rfl rfl rfl rfl rfl (.cons rfl (flat_v rfl) (.nil)) rfl rfl rfl rfl (.v rfl (.nil)) rfl rfl) rfl ?_
                refine qn 70 676 4 rfl rfl (T_append D rfl rfl rfl rfl rfl rfl rfl rfl rfl rfl rfl rfl (by (try simp only [ty3]); first | assumption | omega | (simp; omega)) (by (try simp only [ty3]); first | assumption | omega | (simp; omega))) rfl ?_
                refine q0 6 692 5 rfl rfl (T_assign rfl rfl) rfl ?_
                refine k_done rfl ?_
                refine blockK_n ?_
                refine thenK_n ?_
                refine W_seqK (b' := 756) rfl rfl ?_
                refine q0 40 708 1 rfl rfl (T_move rfl rfl) rfl ?_
                refine q0 41 724 2 rfl rfl (T_add64 rfl rfl rfl (by first | assumption | omega | (simp; omega))) rfl ?_
                refine q0 8 740 3 rfl rfl (T_assign rfl rfl) rfl ?_
                refine k_done rfl ?_
                refine thenK_n ?_
                refine ⟨(y.1 + 1, y.2.1.set ((next.getD (x.2.getD 0 default).toNat default).getD y.1 default).toNat true, y.2.2 ++ [((next.getD (x.2.getD 0 default).toNat default).getD y.1 default)]), by (try dsimp only); exact ⟨hI.1.push (by omega) rfl (by omega) (by omega) (by assumption), by omega⟩, by (try dsimp only); omega, ?_⟩
                exact ⟨[(2, 2), (3, 676)], .same rfl rfl (.eq rfl (.same rfl rfl (.same rfl rfl (.eq rfl (.eq rfl (.nil) (by first | rfl | simp)) rfl))) rfl), .fzE rfl (.rowE rfl (.rowE rfl (.nil) (by first | rfl | simp)) (by first | rfl | simp)) rfl, rfl⟩
              · have h7 := g7; (try simp only [cmpB, decide_eq_true_eq, decide_eq_false_iff_not, beq_iff_eq, beq_eq_false_iff_ne, bne_iff_ne, ne_eq, bne_eq_false_iff_eq, Bool.not_eq_true', Bool.not_eq_false', Int.not_lt, Int.not_le] at h7)
                refine W_skip ?_
                refine blockK_n ?_
                refine thenK_n ?_
                refine W_seqK (b' := 612) rfl rfl ?_
                refine q0 40 564 1 rfl rfl (T_move rfl rfl) rfl ?_
                refine q0 41 580 2 rfl rfl (T_add64 rfl rfl rfl (by first | assumption | omega | (simp; omega))) rfl ?_
                refine q0 8 596 3 rfl rfl (T_assign rfl rfl) rfl ?_
                refine k_done rfl ?_
                refine thenK_n ?_
                refine ⟨(y.1 + 1, y.2.1, y.2.2), by (try dsimp only); exact ⟨hI.1.skip (fun a0 a1 => by first | (exfalso; omega) | assumption), by omega⟩, by (try dsimp only); omega, ?_⟩
                exact ⟨[(2, 2), (3, 3)], .same rfl rfl (.eq rfl (.same rfl rfl (.same rfl rfl (.eq rfl (.eq rfl (.nil) (by first | rfl | simp)) rfl))) rfl), .fzE rfl (.rowE rfl (.rowE rfl (.nil) (by first | rfl | simp)) (by first | rfl | simp)) rfl, rfl⟩
            · have h6 := c_lss_f g6
              refine k_no (d := 58) (j' := 10) rfl rfl rfl (g_tf rfl rfl rfl g6) ?_
              refine k_no (d := 59) (j' := 11) rfl rfl rfl (g_tf rfl rfl rfl g6) ?_
              refine k_no (d := 60) (j' := 12) rfl rfl rfl (g_tf rfl rfl rfl g6) ?_
              refine k_no (d := 61) (j' := 13) rfl rfl rfl (g_tf rfl rfl rfl g6) ?_
              refine k_no (d := 62) (j' := 14) rfl rfl rfl (g_tf rfl rfl rfl g6) ?_
              refine q0 63 548 15 rfl rfl (T_pick_f rfl rfl rfl g6) rfl ?_
              refine k_done rfl ?_
              refine thenK_n ?_
              refine W_cond rfl (fun g8 => ?_) (fun g8 => ?_)
              · exact absurd (g8.symm.trans rfl) (by decide)
              · skip
                refine W_skip ?_
                refine blockK_n ?_
                refine thenK_n ?_
                refine W_seqK (b' := 612) rfl rfl ?_
                refine q0 40 564 1 rfl rfl (T_move rfl rfl) rfl ?_
                refine q0 41 580 2 rfl rfl (T_add64 rfl rfl rfl (by first | assumption | omega | (simp; omega))) rfl ?_
                refine q0 8 596 3 rfl rfl (T_assign rfl rfl) rfl ?_
                refine k_done rfl ?_
                refine thenK_n ?_
                refine ⟨(y.1 + 1, y.2.1, y.2.2), by (try dsimp only); exact ⟨hI.1.skip (fun a0 a1 => by first | (exfalso; omega) | assumption), by omega⟩, by (try dsimp only); omega, ?_⟩
                exact ⟨[(2, 2), (3, 3)], .same rfl rfl (.eq rfl (.same rfl rfl (.same rfl rfl (.eq rfl (.eq rfl (.nil) (by first | rfl | simp)) rfl))) rfl), .fzE rfl (.rowE rfl (.rowE rfl (.nil) (by first | rfl | simp)) (by first | rfl | simp)) rfl, rfl⟩
          · have h5 := c_geq_f g5
            refine k_no (d := 52) (j' := 4) rfl rfl rfl (g_tf rfl rfl rfl g5) ?_
            refine k_no (d := 53) (j' := 5) rfl rfl rfl (g_tf rfl rfl rfl g5) ?_
            refine k_no (d := 54) (j' := 6) rfl rfl rfl (g_tf rfl rfl rfl g5) ?_
            refine k_no (d := 55) (j' := 7) rfl rfl rfl (g_tf rfl rfl rfl g5) ?_
            refine q0 56 436 8 rfl rfl (T_pick_f rfl rfl rfl g5) rfl ?_
            refine q0 57 452 9 rfl rfl (T_move rfl rfl) rfl ?_
            refine k_no (d := 58) (j' := 10) rfl rfl rfl (g_tf rfl rfl rfl rfl) ?_
            refine k_no (d := 59) (j' := 11) rfl rfl rfl (g_tf rfl rfl rfl rfl) ?_
            refine k_no (d := 60) (j' := 12) rfl rfl rfl (g_tf rfl rfl rfl rfl) ?_
            refine k_no (d := 61) (j' := 13) rfl rfl rfl (g_tf rfl rfl rfl rfl) ?_
            refine k_no (d := 62) (j' := 14) rfl rfl rfl (g_tf rfl rfl rfl rfl) ?_
            refine q0 63 548 15 rfl rfl (T_pick_f rfl rfl rfl rfl) rfl ?_
            refine k_done rfl ?_
            refine thenK_n ?_
            refine W_cond rfl (fun g9 => ?_) (fun g9 => ?_)
            · exact absurd (g9.symm.trans rfl) (by decide)
            · skip
              refine W_skip ?_
              refine blockK_n ?_
              refine thenK_n ?_
              refine W_seqK (b' := 612) rfl rfl ?_
              refine q0 40 564 1 rfl rfl (T_move rfl rfl) rfl ?_
              refine q0 41 580 2 rfl rfl (T_add64 rfl rfl rfl (by first | assumption | omega | (simp; omega))) rfl ?_
              refine q0 8 596 3 rfl rfl (T_assign rfl rfl) rfl ?_
              refine k_done rfl ?_
              refine thenK_n ?_
              refine ⟨(y.1 + 1, y.2.1, y.2.2), by (try dsimp only); exact ⟨hI.1.skip (fun a0 a1 => by first | (exfalso; omega) | assumption), by omega⟩, by (try dsimp only); omega, ?_⟩
              exact ⟨[(2, 2), (3, 3)], .same rfl rfl (.eq rfl (.same rfl rfl (.same rfl rfl (.eq rfl (.eq rfl (.nil) (by first | rfl | simp)) rfl))) rfl), .fzE rfl (.rowE rfl (.rowE rfl (.nil) (by first | rfl | simp)) (by first | rfl | simp)) rfl, rfl⟩
        · have h4 := c_neq_f g4
          refine W_exit ?_
          refine thenK_e ?_
          refine thenK_e ?_
          refine blockK_hit ?_
          refine blockK_n ?_
          refine thenK_n ?_
          refine ⟨(y.2.1, y.2.2), by (try dsimp only); first | (exfalso; omega) | (have q := hJ.size; exact hI.1.fin (by omega) (by omega)), by (try dsimp only); first | (exfalso; omega) | (have := hI.1.size; omega), ?_⟩
          exact ⟨[(2, 2), (3, 3)], .same rfl rfl (.eq rfl (.same rfl rfl (.same rfl rfl (.nil))) rfl), .fzE rfl (.rowE rfl (.rowE rfl (.nil) (by first | rfl | simp)) (by first | rfl | simp)) rfl, rfl⟩
      · have h3 := c_lss_f g3
        refine k_no (d := 36) (j' := 9) rfl rfl rfl (g_tf rfl rfl rfl g3) ?_
        refine k_no (d := 37) (j' := 10) rfl rfl rfl (g_tf rfl rfl rfl g3) ?_
        refine k_no (d := 38) (j' := 11) rfl rfl rfl (g_tf rfl rfl rfl g3) ?_
        refine q0 39 180 12 rfl rfl (T_pick_f rfl rfl rfl g3) rfl ?_
        refine k_done rfl ?_
        refine thenK_n ?_
        refine W_cond rfl (fun g10 => ?_) (fun g10 => ?_)
        · exact absurd (g10.symm.trans rfl) (by decide)
        · skip
          refine W_exit ?_
          refine thenK_e ?_
          refine thenK_e ?_
          refine blockK_hit ?_
          refine blockK_n ?_
          refine thenK_n ?_
          refine ⟨(y.2.1, y.2.2), by (try dsimp only); first | (exfalso; omega) | (have q := hJ.size; exact hI.1.fin (by omega) (by omega)), by (try dsimp only); first | (exfalso; omega) | (have := hI.1.size; omega), ?_⟩
          exact ⟨[(2, 2), (3, 3)], .same rfl rfl (.eq rfl (.same rfl rfl (.same rfl rfl (.nil))) rfl), .fzE rfl (.rowE rfl (.rowE rfl (.nil) (by first | rfl | simp)) (by first | rfl | simp)) rfl, rfl⟩
    · have h2 := c_gtr_f g2
      refine W_exit ?_
      refine thenK_e ?_
      refine thenK_e ?_
      refine blockK_hit ?_
      refine thenK_n ?_
      refine W_seq ?_
      refine W_seqK (b' := 84) rfl rfl ?_
      refine q0 71 52 1 rfl rfl (T_move rfl rfl) rfl ?_
      refine q0 4 68 2 rfl rfl (T_assign rfl rfl) rfl ?_
      refine k_done rfl ?_
      refine thenK_n ?_
      refine W_ret ?_
      -- end 1
      exact .mk [(2, 2)] (.inr rfl) (.tmp rfl (.nil)) rfl (.rowE rfl (.nil) (by first | rfl | exact congrArg (List.map eB) (hJ.fin' (by omega)))) rfl

theorem body37 : (Try.prog.funcs[37]?).map (fun fn => (fn.name == "runtime.NumGoroutine" || fn.body.isNone)) = some false := by kernel_rfl
theorem rreach_spec (next : List (List Int)) (hn : next.length ≤ 1000000) (hnl : ∀ l ∈ next, l.length ≤ 1000000) : Spec Try.prog 37 [.r 1] 2 [(1, .fz 1 (next.map eIs))] (.r 2) 3 [(2, .row 4 1 ((reachN next).map eB))] := by
  refine spec_of D (fn := Try.f37) rfl rfl (Nat.le_of_ble_eq_true rfl) ?_
  refine W_seq ?_
  refine W_seqK (b' := 18) rfl rfl ?_
  refine q1 2 2 1 rfl rfl (T_nils [(4, 1)] (T_assign rfl rfl) rfl (.inr ⟨rfl, rfl⟩) (.cons (.nil rfl) .nil) (lv' := .r 2) (upd' := [(2, .row 4 1 (List.map eB ([] : List (Bool))))]) (nn' := 1) rfl rfl) rfl ?_
  refine k_done rfl ?_
  refine thenK_n ?_
  refine W_seq ?_
  refine W_seqK (b' := 66) rfl rfl ?_
  refine q0 3 18 1 rfl rfl (T_move rfl rfl) rfl ?_
  refine q1 4 34 2 rfl rfl (T_callR (lvs := [_, _]) (L := [(1, 1)]) (keep := false) (without_spec next (-1) (by omega) hn hnl) body78 rfl rfl rfl rfl (.fz rfl (.nil)) rfl (.inl rfl) rfl) rfl ?_
  refine q0 2 50 3 rfl rfl (T_assign rfl rfl) rfl ?_
  refine k_done rfl ?_
  refine thenK_n ?_
  refine W_ret ?_
  -- end 0
  exact .mk [(2, 34)] (.inr rfl) (.tmp rfl (.nil)) rfl (.rowE rfl (.nil) (by first | rfl | simp)) rfl
end Lg
end Go.Proofs.Ytpfhmodjjljpjaa

namespace Go.Proofs.Ytpfhmodjjljpjaa
open Go.RowKit
namespace Lg
set_option maxRecDepth 100000
set_option linter.unusedVariables false
set_option linter.unusedSimpArgs false



theorem body38 : (Try.prog.funcs[38]?).map (fun fn => (fn.name == "runtime.NumGoroutine" || fn.body.isNone)) = some false := by kernel_rfl
theorem rnext_spec (f : GFn) (hf : f.blocks.length ≤ 1000000) : Spec Try.prog 38 [.agg [.v (.int .i64 f.regs), .r 1]] 2 [(1, .fz 5 (f.blocks.map eBlock))] (.r 2) 3 [(2, .row 52 1 ((f.blocks.map follows).map eIs))] := by
  refine spec_of D (fn := Try.f38) rfl rfl (Nat.le_of_ble_eq_true rfl) ?_
  refine W_seq ?_
  refine W_seqK (b' := 34) rfl rfl ?_
  refine q1 1 2 1 rfl rfl (T_box rfl rfl flat_agg) rfl ?_
  refine q1 2 18 2 rfl rfl (T_nils [(52, 1)] (T_assign rfl rfl) rfl (.inr ⟨rfl, rfl⟩) (.cons (.nil rfl) .nil) (lv' := .r 18) (upd' := [(18, .row 52 1 (List.map eIs ([] : List (List Int))))]) (nn' := 1) rfl rfl) rfl ?_
  refine k_done rfl ?_
  refine thenK_n ?_
  refine W_seq ?_
  refine W_seqK (b' := 114) rfl rfl ?_
  refine q0 6 34 1 rfl rfl (T_fa D (m := 1) rfl rfl rfl rfl rfl rfl) rfl ?_
  refine q0 7 50 2 rfl rfl (T_load_b D rfl rfl rfl rfl rfl rfl) rfl ?_
  refine q0 8 66 3 rfl rfl (T_len D rfl rfl rfl rfl rfl rfl) rfl ?_
  refine q1 9 82 4 rfl rfl (T_make D (zx := ([] : List Int)) (enc := eIs) rfl rfl rfl rfl rfl rfl rfl (.z (.nil)) rfl (by (try simp only [ty52]); first | assumption | omega | (simp; omega)) (by (try simp only [ty52]); first | assumption | omega | (simp; omega))) rfl ?_
  refine q0 3 98 5 rfl rfl (T_assign rfl rfl) rfl ?_
  refine k_done rfl ?_
  refine thenK_n ?_
  refine W_seq ?_
  refine W_seq ?_
  refine W_seqK (b' := 130) rfl rfl ?_
  refine q0 4 114 1 rfl rfl (T_assign rfl rfl) rfl ?_
  refine k_done rfl ?_
  refine thenK_n ?_
  refine W_block ?_
  refine W_loop (ι := Nat) 4 (fun j => ⟨[(1, .p 2 0), (3, .r 3), (4, .v (.int .i64 (j : Int)))], [(1, .fz 5 (f.blocks.map eBlock)), (2, .box 29 [.v (.int .i64 f.regs), .r 1]), (3, .row 52 1 (((f.blocks.take j).map follows ++ List.replicate (f.blocks.length - j) []).map eIs))]⟩) (fun j => j ≤ f.blocks.length) (fun j => f.blocks.length - j) (0) (by exact Nat.zero_le _) ?_ (fun j hJ => ?_)
  · exact ⟨[(2, 2), (3, 82)], .same rfl rfl (.same rfl rfl (.eq rfl (.nil) (by first | rfl | simp))), .fzE rfl (.box (by first | rfl | simp) (.rowE rfl (.nil) (by first | rfl | simp))) (by first | rfl | simp), rfl⟩
  refine W_seq ?_
  refine W_seq ?_
  refine W_seqK (b' := 84) rfl rfl ?_
  refine q0 10 4 1 rfl rfl (T_move rfl rfl) rfl ?_
  refine q0 11 20 2 rfl rfl (T_fa D (m := 1) rfl rfl rfl rfl rfl rfl) rfl ?_
  refine q0 12 36 3 rfl rfl (T_load_b D rfl rfl rfl rfl rfl rfl) rfl ?_
  refine q0 13 52 4 rfl rfl (T_len D rfl rfl rfl rfl rfl rfl) rfl ?_
  refine q0 14 68 5 rfl rfl (T_cmp rfl rfl rfl rfl) rfl ?_
  refine k_done rfl ?_
  refine thenK_n ?_
  refine W_cond rfl (fun g1 => ?_) (fun g1 => ?_)
  · have h1 := c_lss_t g1
    refine W_skip ?_
    refine thenK_n ?_
    refine W_seq ?_
    refine W_block ?_
    refine W_seq ?_
    refine W_seqK (b' := 196) rfl rfl ?_
    refine q0 17 84 1 rfl rfl (T_fa D (m := 1) rfl rfl rfl rfl rfl rfl) rfl ?_
    refine q0 18 100 2 rfl rfl (T_load_b D rfl rfl rfl rfl rfl rfl) rfl ?_
    refine q0 19 116 3 rfl rfl (T_move rfl rfl) rfl ?_
    first | refine q0 20 132 4 rfl rfl (T_indexAddr D rfl rfl rfl rfl rfl rfl rfl rfl (by first | assumption | omega | (simp; omega))) rfl ?_ | refine q0 20 132 4 rfl rfl (T_indexAddrZ D rfl rfl rfl rfl rfl rfl rfl rfl (by first | assumption | omega | (simp; omega)) (by first | assumption | omega | (simp; omega))) rfl ?_
    refine q1 21 148 5 rfl rfl (T_ldEA D (l := [.r 148, .v _, .v _, .v _, .v _]) (nn := 1) (upd := [(148, .fz 8 _)]) rfl rfl rfl rfl rfl (by first | assumption | omega | (simp; omega)) rfl rfl rfl rfl rfl) rfl ?_
    refine qn 5 164 6 rfl rfl (T_nilbox [(70, 8)] (T_alloc D rfl rfl rfl) rfl (.cons (.nil rfl) <| .cons (.same _) <| .cons (.same _) <| .cons (.same _) <| .cons (.same _) <| .nil) (upd' := [(164, .box 72 [.r 165, .v (.int .i64 0), .v (.int .i64 0), .v (.int .i64 0), .v (.int .i64 0)]), (165, .row 70 8 (List.map eTac ([] : List (GTac))))]) (nn' := 2) rfl rfl) rfl ?_
    refine s1 180 7 rfl rfl (T_stB D (cs' := [_, _, _, _, _]) rfl rfl rfl rfl flat_agg rfl rfl (Nat.le_of_ble_eq_true rfl) rfl) rfl ?_
    refine k_done rfl ?_
    refine thenK_n ?_
    refine W_seq ?_
    refine W_seq ?_
    refine W_seqK (b' := 244) rfl rfl ?_
    refine q0 22 196 1 rfl rfl (T_fa D (m := 1) rfl rfl rfl rfl rfl rfl) rfl ?_
    refine q0 23 212 2 rfl rfl (T_load_b D rfl rfl rfl rfl rfl rfl) rfl ?_
    refine q0 24 228 3 rfl rfl (T_cmp rfl rfl rfl rfl) rfl ?_
    refine k_done rfl ?_
    refine thenK_n ?_
    refine W_cond rfl (fun g2 => ?_) (fun g2 => ?_)
    · have h2 := c_eql_t g2
      refine W_seqK (b' := 356) rfl rfl ?_
      refine q0 25 244 1 rfl rfl (T_move rfl rfl) rfl ?_
      refine q0 26 260 2 rfl rfl (T_move rfl rfl) rfl ?_
      refine q0 27 276 3 rfl rfl (T_fa D (m := 3) rfl rfl rfl rfl rfl rfl) rfl ?_
      refine q0 28 292 4 rfl rfl (T_load_b D rfl rfl rfl rfl rfl rfl) rfl ?_
      refine q1 29 308 5 rfl rfl (T_bs D (ys := [_]) (enc := eI) (l := [_]) rfl rfl rfl rfl rfl rfl (.cons rfl (flat_v rfl) (.nil)) rfl rfl rfl rfl (.v rfl (.nil)) rfl rfl) rfl ?_
      first | refine q0 30 324 6 rfl rfl (T_indexAddr D rfl rfl rfl rfl rfl rfl rfl rfl (by first | assumption | omega | (simp; omega))) rfl ?_ | refine q0 30 324 6 rfl rfl (T_indexAddrZ D rfl rfl rfl rfl rfl rfl rfl rfl (by first | assumption | omega | (simp; omega)) (by first | assumption | omega | (simp; omega))) rfl ?_
      refine sn 340 7 rfl rfl (T_store_e D (z := _) rfl rfl rfl rfl (flat_sl rfl) rfl rfl (by first | assumption | omega | (simp; omega)) (.row rfl (.nil) rfl) rfl (Nat.le_of_ble_eq_true rfl) rfl) rfl ?_
      refine k_done rfl ?_
      refine thenK_n ?_
      refine W_seq ?_
      refine W_seqK (b' := 404) rfl rfl ?_
      refine q0 31 356 1 rfl rfl (T_fa D (m := 1) rfl rfl rfl rfl rfl rfl) rfl ?_
      refine q0 32 372 2 rfl rfl (T_load_b D rfl rfl rfl rfl rfl rfl) rfl ?_
      refine q0 33 388 3 rfl rfl (T_cmp rfl rfl rfl rfl) rfl ?_
      refine k_done rfl ?_
      refine thenK_n ?_
      refine W_cond rfl (fun g3 => ?_) (fun g3 => ?_)
      · have h3 := c_eql_t g3
        refine W_seqK (b' := 548) rfl rfl ?_
        refine q0 34 404 1 rfl rfl (T_move rfl rfl) rfl ?_
        refine q0 35 420 2 rfl rfl (T_move rfl rfl) rfl ?_
        refine q0 36 436 3 rfl rfl (T_fa D (m := 3) rfl rfl rfl rfl rfl rfl) rfl ?_
        refine q0 37 452 4 rfl rfl (T_load_b D rfl rfl rfl rfl rfl rfl) rfl ?_
        refine q0 38 468 5 rfl rfl (T_fa D (m := 4) rfl rfl rfl rfl rfl rfl) rfl ?_
        refine q0 39 484 6 rfl rfl (T_load_b D rfl rfl rfl rfl rfl rfl) rfl ?_
        refine q1 40 500 7 rfl rfl (T_bs D (ys := [_, _]) (enc := eI) (l := [_, _]) rfl rfl rfl rfl rfl rfl (.cons rfl (flat_v rfl) (.cons rfl (flat_v rfl) (.nil))) rfl rfl rfl rfl (.v rfl (.v rfl (.nil))) rfl rfl) rfl ?_
        first | refine q0 41 516 8 rfl rfl (T_indexAddr D rfl rfl rfl rfl rfl rfl rfl rfl (by first | assumption | omega | (simp; omega))) rfl ?_ | refine q0 41 516 8 rfl rfl (T_indexAddrZ D rfl rfl rfl rfl rfl rfl rfl rfl (by first | assumption | omega | (simp; omega)) (by first | assumption | omega | (simp; omega))) rfl ?_
        refine sn 532 9 rfl rfl (T_store_e D (z := _) rfl rfl rfl rfl (flat_sl rfl) rfl rfl (by first | assumption | omega | (simp; omega)) (.row rfl (.nil) rfl) rfl (Nat.le_of_ble_eq_true rfl) rfl) rfl ?_
        refine k_done rfl ?_
        refine blockK_n ?_
        refine thenK_n ?_
        refine W_seqK (b' := 596) rfl rfl ?_
        refine q0 15 548 1 rfl rfl (T_move rfl rfl) rfl ?_
        refine q0 16 564 2 rfl rfl (T_add64 rfl rfl rfl (by first | assumption | omega | (simp; omega))) rfl ?_
        refine q0 4 580 3 rfl rfl (T_assign rfl rfl) rfl ?_
        refine k_done rfl ?_
        refine thenK_n ?_
        refine ⟨j + 1, by (try dsimp only); omega, by (try dsimp only); omega, ?_⟩
        exact ⟨[(2, 2), (3, 3)], .same rfl rfl (.same rfl rfl (.eq rfl (.nil) (by first | rfl | (exfalso; omega) | exact congrArg _ (fill_step follows [] f.blocks j _ rfl (by omega) _ (by simp_all [follows])) | exact congrArg _ (fill_skip follows [] f.blocks j _ rfl (by omega) (by simp_all [follows]))))), .fzE rfl (.box (by first | rfl | (exfalso; omega) | exact congrArg _ (fill_step follows [] f.blocks j _ rfl (by omega) _ (by simp_all [follows])) | exact congrArg _ (fill_skip follows [] f.blocks j _ rfl (by omega) (by simp_all [follows]))) (.rowE rfl (.nil) (by first | rfl | (exfalso; omega) | exact congrArg _ (fill_step follows [] f.blocks j _ rfl (by omega) _ (by simp_all [follows])) | exact congrArg _ (fill_skip follows [] f.blocks j _ rfl (by omega) (by simp_all [follows]))))) rfl, rfl⟩
      · have h3 := c_eql_f g3
        refine W_skip ?_
        refine blockK_n ?_
        refine thenK_n ?_
        refine W_seqK (b' := 452) rfl rfl ?_
        refine q0 15 404 1 rfl rfl (T_move rfl rfl) rfl ?_
        refine q0 16 420 2 rfl rfl (T_add64 rfl rfl rfl (by first | assumption | omega | (simp; omega))) rfl ?_
        refine q0 4 436 3 rfl rfl (T_assign rfl rfl) rfl ?_
        refine k_done rfl ?_
        refine thenK_n ?_
        refine ⟨j + 1, by (try dsimp only); omega, by (try dsimp only); omega, ?_⟩
        exact ⟨[(2, 2), (3, 3)], .same rfl rfl (.same rfl rfl (.eq rfl (.nil) (by first | rfl | (exfalso; omega) | exact congrArg _ (fill_step follows [] f.blocks j _ rfl (by omega) _ (by simp_all [follows])) | exact congrArg _ (fill_skip follows [] f.blocks j _ rfl (by omega) (by simp_all [follows]))))), .fzE rfl (.box (by first | rfl | (exfalso; omega) | exact congrArg _ (fill_step follows [] f.blocks j _ rfl (by omega) _ (by simp_all [follows])) | exact congrArg _ (fill_skip follows [] f.blocks j _ rfl (by omega) (by simp_all [follows]))) (.rowE rfl (.nil) (by first | rfl | (exfalso; omega) | exact congrArg _ (fill_step follows [] f.blocks j _ rfl (by omega) _ (by simp_all [follows])) | exact congrArg _ (fill_skip follows [] f.blocks j _ rfl (by omega) (by simp_all [follows]))))) rfl, rfl⟩
    · have h2 := c_eql_f g2
      refine W_skip ?_
      refine thenK_n ?_
      refine W_seq ?_
      refine W_seqK (b' := 292) rfl rfl ?_
      refine q0 31 244 1 rfl rfl (T_fa D (m := 1) rfl rfl rfl rfl rfl rfl) rfl ?_
      refine q0 32 260 2 rfl rfl (T_load_b D rfl rfl rfl rfl rfl rfl) rfl ?_
      refine q0 33 276 3 rfl rfl (T_cmp rfl rfl rfl rfl) rfl ?_
      refine k_done rfl ?_
      refine thenK_n ?_
      refine W_cond rfl (fun g4 => ?_) (fun g4 => ?_)
      · have h4 := c_eql_t g4
        refine W_seqK (b' := 436) rfl rfl ?_
        refine q0 34 292 1 rfl rfl (T_move rfl rfl) rfl ?_
        refine q0 35 308 2 rfl rfl (T_move rfl rfl) rfl ?_
        refine q0 36 324 3 rfl rfl (T_fa D (m := 3) rfl rfl rfl rfl rfl rfl) rfl ?_
        refine q0 37 340 4 rfl rfl (T_load_b D rfl rfl rfl rfl rfl rfl) rfl ?_
        refine q0 38 356 5 rfl rfl (T_fa D (m := 4) rfl rfl rfl rfl rfl rfl) rfl ?_
        refine q0 39 372 6 rfl rfl (T_load_b D rfl rfl rfl rfl rfl rfl) rfl ?_
        refine q1 40 388 7 rfl rfl (T_bs D (ys := [_, _]) (enc := eI) (l := [_, _]) rfl rfl rfl rfl rfl rfl (.cons rfl (flat_v rfl) (.cons rfl (flat_v rfl) (.nil))) rfl rfl rfl rfl (.v rfl (.v rfl (.nil))) rfl rfl) rfl ?_
        first | refine q0 41 404 8 rfl rfl (T_indexAddr D rfl rfl rfl rfl rfl rfl rfl rfl (by first | assumption | omega | (simp; omega))) rfl ?_ | refine q0 41 404 8 rfl rfl (T_indexAddrZ D rfl rfl rfl rfl rfl rfl rfl rfl (by first | assumption | omega | (simp; omega)) (by first | assumption | omega | (simp; omega))) rfl ?_
        refine sn 420 9 rfl rfl (T_store_e D (z := _) rfl rfl rfl rfl (flat_sl rfl) rfl rfl (by first | assumption | omega | (simp; omega)) (.row rfl (.nil) rfl) rfl (Nat.le_of_ble_eq_true rfl) rfl) rfl ?_
        refine k_done rfl ?_
        refine blockK_n ?_
        refine thenK_n ?_
        refine W_seqK (b' := 484) rfl rfl ?_
        refine q0 15 436 1 rfl rfl (T_move rfl rfl) rfl ?_
        refine q0 16 452 2 rfl rfl (T_add64 rfl rfl rfl (by first | assumption | omega | (simp; omega))) rfl ?_
        refine q0 4 468 3 rfl rfl (T_assign rfl rfl) rfl ?_
        refine k_done rfl ?_
        refine thenK_n ?_
        refine ⟨j + 1, by (try dsimp only); omega, by (try dsimp only); omega, ?_⟩
        exact ⟨[(2, 2), (3, 3)], .same rfl rfl (.same rfl rfl (.eq rfl (.nil) (by first | rfl | (exfalso; omega) | exact congrArg _ (fill_step follows [] f.blocks j _ rfl (by omega) _ (by simp_all [follows])) | exact congrArg _ (fill_skip follows [] f.blocks j _ rfl (by omega) (by simp_all [follows]))))), .fzE rfl (.box (by first | rfl | (exfalso; omega) | exact congrArg _ (fill_step follows [] f.blocks j _ rfl (by omega) _ (by simp_all [follows])) | exact congrArg _ (fill_skip follows [] f.blocks j _ rfl (by omega) (by simp_all [follows]))) (.rowE rfl (.nil) (by first | rfl | (exfalso; omega) | exact congrArg _ (fill_step follows [] f.blocks j _ rfl (by omega) _ (by simp_all [follows])) | exact congrArg _ (fill_skip follows [] f.blocks j _ rfl (by omega) (by simp_all [follows]))))) rfl, rfl⟩
      · have h4 := c_eql_f g4
        refine W_skip ?_
        refine blockK_n ?_
        refine thenK_n ?_
        refine W_seqK (b' := 340) rfl rfl ?_
        refine q0 15 292 1 rfl rfl (T_move rfl rfl) rfl ?_
        refine q0 16 308 2 rfl rfl (T_add64 rfl rfl rfl (by first | assumption | omega | (simp; omega))) rfl ?_
        refine q0 4 324 3 rfl rfl (T_assign rfl rfl) rfl ?_
        refine k_done rfl ?_
        refine thenK_n ?_
        refine ⟨j + 1, by (try dsimp only); omega, by (try dsimp only); omega, ?_⟩
        exact ⟨[(2, 2), (3, 3)], .same rfl rfl (.same rfl rfl (.eq rfl (.nil) (by first | rfl | (exfalso; omega) | exact congrArg _ (fill_step follows [] f.blocks j _ rfl (by omega) _ (by simp_all [follows])) | exact congrArg _ (fill_skip follows [] f.blocks j _ rfl (by omega) (by simp_all [follows]))))), .fzE rfl (.box (by first | rfl | (exfalso; omega) | exact congrArg _ (fill_step follows [] f.blocks j _ rfl (by omega) _ (by simp_all [follows])) | exact congrArg _ (fill_skip follows [] f.blocks j _ rfl (by omega) (by simp_all [follows]))) (.rowE rfl (.nil) (by first | rfl | (exfalso; omega) | exact congrArg _ (fill_step follows [] f.blocks j _ rfl (by omega) _ (by simp_all [follows])) | exact congrArg _ (fill_skip follows [] f.blocks j _ rfl (by omega) (by simp_all [follows]))))) rfl, rfl⟩
  · have h1 := c_lss_f g1
    refine W_exit ?_
    refine thenK_e ?_
    refine thenK_e ?_
    refine blockK_hit ?_
    refine thenK_n ?_
    refine W_seq ?_
    refine W_seqK (b' := 116) rfl rfl ?_
    refine q0 42 84 1 rfl rfl (T_move rfl rfl) rfl ?_
    refine q0 2 100 2 rfl rfl (T_assign rfl rfl) rfl ?_
    refine k_done rfl ?_
    refine thenK_n ?_
    refine W_ret ?_
    -- end 0
    exact .mk [(2, 3)] (.inr rfl) (.tmp rfl (.nil)) rfl (.rowE rfl (.nil) (by first | rfl | (have : j = f.blocks.length := by omega); subst this; simp)) rfl
end Lg
end Go.Proofs.Ytpfhmodjjljpjaa

namespace Go.Proofs.Ytpfhmodjjljpjaa
end Go.Proofs.Ytpfhmodjjljpjaa

namespace Go.Proofs.Ytpfhmodjjljpjaa
open Go.RowKit
namespace Lg

/-! ### The reference's ways, counted -/
def srcR (next : List (List Int)) (reach : List Bool) (k : Int) (m : Nat) : List Int := (List.range m).flatMap (fun j => if reach.getD j default = true then List.replicate ((next.getD j default).count k) (j : Int) else [])
def srcRI (next : List (List Int)) (reach : List Bool) (k : Int) (j i : Nat) : List Int := srcR next reach k j ++ List.replicate (((next.getD j default).take i).count k) (j : Int)
theorem srcRI_zero (next : List (List Int)) (reach : List Bool) (k : Int) (j : Nat) : srcRI next reach k j 0 = srcR next reach k j := by simp [srcRI]
theorem srcR_succ {next : List (List Int)} {reach : List Bool} {k : Int} {j i : Nat} (h : reach.getD j default = true) (hi : (next.getD j default).length ≤ i) : srcR next reach k (j + 1) = srcRI next reach k j i := by
  unfold srcRI srcR
  rw [List.range_succ, List.flatMap_append, List.take_of_length_le hi]
  have : [j].flatMap (fun j => if reach.getD j default = true then List.replicate ((next.getD j default).count k) (j : Int) else []) = List.replicate ((next.getD j default).count k) (j : Int) := by
    rw [List.flatMap_cons, if_pos h]; simp
  rw [this]
theorem srcR_no {next : List (List Int)} {reach : List Bool} {k : Int} {j : Nat} (h : reach.getD j default = false) : srcR next reach k (j + 1) = srcR next reach k j := by
  unfold srcR
  rw [List.range_succ, List.flatMap_append]
  have : [j].flatMap (fun j => if reach.getD j default = true then List.replicate ((next.getD j default).count k) (j : Int) else []) = [] := by
    rw [List.flatMap_cons, if_neg (by rw [h]; decide)]; rfl
  rw [this, List.append_nil]
theorem srcRI_t {next : List (List Int)} {reach : List Bool} {k : Int} {j i : Nat} (hi : i < (next.getD j default).length) (h : (next.getD j default).getD i default = k) : srcRI next reach k j (i + 1) = srcRI next reach k j i ++ [(j : Int)] := by
  unfold srcRI
  rw [take_succ_getD hi, h, List.count_append, List.count_singleton_self, List.replicate_succ', List.append_assoc]
theorem srcRI_f {next : List (List Int)} {reach : List Bool} {k : Int} {j i : Nat} (hi : i < (next.getD j default).length) (h : ¬ (next.getD j default).getD i default = k) : srcRI next reach k j (i + 1) = srcRI next reach k j i := by
  unfold srcRI
  have h0 : [(next.getD j default).getD i default].count k = 0 := List.count_eq_zero.2 (fun hm => h (List.mem_singleton.1 hm).symm)
  rw [take_succ_getD hi, List.count_append, h0, Nat.add_zero]
theorem srcR_le {next : List (List Int)} (hn : ∀ l ∈ next, l.length ≤ 2) (reach : List Bool) (k : Int) : ∀ j, (srcR next reach k j).length ≤ 2 * j
  | 0 => by simp [srcR]
  | j + 1 => by
    have h1 := srcR_le hn reach k j
    rcases bool_cases (reach.getD j default) with h | h
    · rw [srcR_succ h (Nat.le_refl _)]
      unfold srcRI
      rw [List.length_append, List.length_replicate, List.take_of_length_le (Nat.le_refl _)]
      have h2 : (next.getD j default).count k ≤ (next.getD j default).length := List.count_le_length
      have h3 : (next.getD j default).length ≤ 2 := by
        by_cases hj : j < next.length
        · exact hn _ (getD_mem hj)
        · rw [List.getD_eq_getElem?_getD, List.getElem?_eq_none (by omega)]; exact Nat.zero_le _
      omega
    · rw [srcR_no h]; omega
theorem srcRI_le {next : List (List Int)} (hn : ∀ l ∈ next, l.length ≤ 2) (reach : List Bool) (k : Int) (j i : Nat) : (srcRI next reach k j i).length ≤ 2 * j + i := by
  have h1 := srcR_le hn reach k j
  have h2 : ((next.getD j default).take i).count k ≤ ((next.getD j default).take i).length := List.count_le_length
  unfold srcRI
  rw [List.length_append, List.length_replicate]
  rw [List.length_take] at h2; omega
theorem srcR_from {f : GFn} (h : VF f) {k : Nat} (hk : k < f.blocks.length) : srcR (nextL f) (reachL f) (k : Int) f.blocks.length = (fromL f).getD k default := (fromL_getD h.inN hk).symm
/-- Which block takes in k, as the reference reckons. -/
theorem taken_yes {f : GFn} (h : VF f) {k : Nat} (hk : k < f.blocks.length) {L : List Int} (hL : L = srcR (nextL f) (reachL f) (k : Int) f.blocks.length) (h0 : 0 < k) (hr : (reachL f).getD k default = true) (h1 : (L.length : Int) = 1) (h2 : ¬ lastS L = (k : Int)) (h3 : (f.blocks.getD (lastS L).toNat default).fin = 1) : lastS L = takenAt f (reachL f) (fromL f) k := by
  rw [srcR_from h hk] at hL
  unfold takenAt
  rw [← hL]
  obtain ⟨x, hx⟩ := List.length_eq_one_iff.1 (show L.length = 1 by omega)
  subst hx
  exact (if_pos ⟨h0, hr, rfl, h2, h3⟩).symm
theorem taken_no {f : GFn} (h : VF f) {k : Nat} (hk : k < f.blocks.length) {L : List Int} (hL : L = srcR (nextL f) (reachL f) (k : Int) f.blocks.length) (hn : ¬ (0 < k ∧ (reachL f).getD k default = true ∧ (L.length : Int) = 1 ∧ ¬ lastS L = (k : Int) ∧ (f.blocks.getD (lastS L).toNat default).fin = 1)) : -1 = takenAt f (reachL f) (fromL f) k := by
  rw [srcR_from h hk] at hL
  unfold takenAt
  rw [← hL]
  refine (if_neg (fun hc => ?_)).symm
  obtain ⟨c1, c2, c3, c4, c5⟩ := hc
  obtain ⟨x, hx⟩ := List.length_eq_one_iff.1 c3
  subst hx
  exact hn ⟨c1, c2, rfl, c4, c5⟩
theorem from_in {f : GFn} (h : VF f) {k : Nat} (hk : k < f.blocks.length) {L : List Int} (hL : L = srcR (nextL f) (reachL f) (k : Int) f.blocks.length) (h1 : (L.length : Int) = 1) : 0 ≤ lastS L ∧ lastS L < (f.blocks.length : Int) := by
  rw [srcR_from h hk] at hL
  obtain ⟨x, hx⟩ := List.length_eq_one_iff.1 (show L.length = 1 by omega)
  have hm : x ∈ (fromL f).getD k default := by rw [← hL, hx]; simp
  obtain ⟨i, h2, rfl, _⟩ := (mem_fromL h.inN hk).1 hm
  rw [hx]
  show 0 ≤ (i : Int) ∧ (i : Int) < _
  omega

/-! ### The reference's paths -/
def lastIx (v : Int) (l : List Int) : Nat → Int
  | 0 => -1
  | q + 1 => if l.getD q default = v then (q : Int) else lastIx v l q
theorem lastIx_cases (v : Int) (l : List Int) : ∀ q, (lastIx v l q = -1 ∧ ∀ i, i < q → ¬ l.getD i default = v) ∨ ∃ i, i < q ∧ lastIx v l q = (i : Int) ∧ l.getD i default = v
  | 0 => .inl ⟨rfl, fun i h => absurd h (Nat.not_lt_zero _)⟩
  | q + 1 => by
    unfold lastIx
    by_cases h : l.getD q default = v
    · exact .inr ⟨q, by omega, by rw [if_pos h], h⟩
    · rw [if_neg h]
      rcases lastIx_cases v l q with ⟨h1, h2⟩ | ⟨i, h1, h2, h3⟩
      · exact .inl ⟨h1, fun i hi => by
          rcases Nat.lt_or_ge i q with h4 | h4
          · exact h2 i h4
          · rw [show i = q by omega]; exact h⟩
      · exact .inr ⟨i, by omega, h2, h3⟩
theorem lastIx_fst {f : GFn} (h : VF f) {a : Int} (ha : 0 ≤ a) : lastIx a (byL f) f.blocks.length = fstIdx (fun y => y == a) (byL f) := by
  have ht := fst_takes h.inN a.toNat
  rw [show ((a.toNat : Nat) : Int) = a by omega] at ht
  rcases lastIx_cases a (byL f) f.blocks.length with ⟨h1, h2⟩ | ⟨i, h1, h2, h3⟩
  · rw [h1]
    exact (fstIdx_none (fun y : Int => y == a) _ (fun i hi => beq_eq_false_iff_ne.2 (h2 i (by rw [byL_length] at hi; exact hi)))).symm
  · rw [h2]
    have hti := (takes_iff h.inN h1 a ha).1 h3
    have hge : fstIdx (fun y => y == a) (byL f) ≥ 0 := by
      rcases Int.lt_or_le (fstIdx (fun y => y == a) (byL f)) 0 with hl | hl
      · exact absurd hti (ht.2 (by omega) i)
      · exact hl
    have := (ht.1 hge).uniq hti
    omega
/-- A path that grows: how far it may go, what it is, its last block (below 0: it has ended). -/
structure FW (f : GFn) (i : Nat) (x : Nat × List Int × Int) : Prop where
  go : 0 ≤ x.2.2 → follow (byL f) x.1 x.2.1 = some (pathAt f i) ∧ x.2.2 = lastOf x.2.1
  fin : x.2.2 < 0 → x.2.1 = pathAt f i
  ne : 1 ≤ x.2.1.length
  size : x.2.1.length + x.1 ≤ f.blocks.length + 2
def fwM (x : Nat × List Int × Int) : Nat := if 0 ≤ x.2.2 then x.1 + 1 else 0
theorem fw_start {f : GFn} (h : VF f) {i : Nat} (hi : i < f.blocks.length) (hh : isHead f i = true) : FW f i (f.blocks.length + 1, [(i : Int)], (i : Int)) :=
  ⟨fun _ => ⟨(path_of h.inN hi hh).1, rfl⟩, fun hn => absurd hn (by show ¬ (i : Int) < 0; omega), Nat.le_refl _, by show 1 + (f.blocks.length + 1) ≤ _; omega⟩
theorem fw_step {f : GFn} (h : VF f) {i : Nat} {x : Nat × List Int × Int} (hx : FW f i x) (h0 : 0 ≤ x.2.2) {to : Int} (ht : to = lastIx x.2.2 (byL f) f.blocks.length) (hg : to ≥ 0) : FW f i (x.1 - 1, x.2.1 ++ [to], to) ∧ fwM (x.1 - 1, x.2.1 ++ [to], to) < fwM x := by
  obtain ⟨m, p, a⟩ := x
  obtain ⟨h1, h2⟩ := hx.go h0
  simp only at h1 h2 ht h0
  rw [lastIx_fst h h0, h2] at ht
  cases m with
  | zero => rw [follow] at h1; cases h1
  | succ m =>
    rw [follow, if_pos (by rw [← ht]; exact hg), ← ht] at h1
    have hs := hx.size
    have hn := hx.ne
    simp only at hs hn
    refine ⟨⟨fun _ => ⟨h1, ?_⟩, fun hn => absurd hn (by show ¬ to < 0; omega), by simp, by simp; omega⟩, ?_⟩
    · show to = lastOf (p ++ [to])
      rw [lastOf_append _ _ (by simp), lastOf_one]
    · unfold fwM
      rw [if_pos (by show 0 ≤ to; omega), if_pos h0]
      show m + 1 - 1 + 1 < m + 1 + 1
      omega
theorem fw_end {f : GFn} (h : VF f) {i : Nat} {x : Nat × List Int × Int} (hx : FW f i x) (h0 : 0 ≤ x.2.2) {to : Int} (ht : to = lastIx x.2.2 (byL f) f.blocks.length) (hg : to < 0) : FW f i (0, x.2.1, to) ∧ fwM (0, x.2.1, to) < fwM x := by
  obtain ⟨m, p, a⟩ := x
  obtain ⟨h1, h2⟩ := hx.go h0
  simp only at h1 h2 ht h0
  rw [lastIx_fst h h0, h2] at ht
  have hs := hx.size
  have hn := hx.ne
  simp only at hs hn
  cases m with
  | zero => rw [follow] at h1; cases h1
  | succ m =>
    rw [follow, if_neg (by rw [← ht]; omega)] at h1
    refine ⟨⟨fun hh => absurd hh (by show ¬ 0 ≤ to; omega), fun _ => Option.some.inj h1, hn, by show p.length + 0 ≤ _; omega⟩, ?_⟩
    unfold fwM
    rw [if_neg (by show ¬ 0 ≤ to; omega), if_pos h0]
    omega

/-! ### The reference's tidied function -/
def headB (ps : List (List Int)) (old : Int) : Int := fstIdx (fun p : List Int => decide (0 < p.length) && (p.getD 0 default == old)) ps
theorem findIdx_congr {α : Type} {q r : α → Bool} : ∀ (l : List α), (∀ x ∈ l, q x = r x) → l.findIdx? q = l.findIdx? r
  | [], _ => rfl
  | x :: l, h => by
    rw [List.findIdx?_cons, List.findIdx?_cons, h x (by simp), findIdx_congr l (fun y hy => h y (List.mem_cons_of_mem _ hy))]
theorem headB_eq {ps : List (List Int)} (h : ∀ p ∈ ps, 1 ≤ p.length) (old : Int) : headB ps old = begins ps old := by
  unfold headB begins fstIdx
  rw [findIdx_congr ps (fun p hp => by rw [decide_eq_true (show 0 < p.length from h p hp), Bool.true_and])]
/-- What is put together of a path's blocks. -/
def rF (g : GBlock → Int) (f : GFn) (p : List Int) (i : Nat) : Int := if i = 0 then 0 else g (blk f (p.getD (i - 1) default))
theorem rF_all (g : GBlock → Int) {f : GFn} {p : List Int} (h : 1 ≤ p.length) : rF g f p p.length = g (blk f (lastOf p)) := by
  unfold rF lastOf
  rw [if_neg (by omega), show ((p.length : Int) - 1).toNat = p.length - 1 by omega]
theorem notHead_of {f : GFn} {i : Nat} (h : (reachL f).getD i default = false ∨ 0 ≤ (byL f).getD i default) : isHead f i = false := by
  unfold isHead
  rcases h with h | h
  · rw [h]; rfl
  · rw [decide_eq_false (by omega), Bool.and_false]
theorem rIns (f : GFn) (p : List Int) (i : Nat) (h : i < p.length) : ([] ++ instrs f (p.take i)) ++ (f.blocks.getD (p.getD i default).toNat default).ins = instrs f (p.take (i + 1)) := by
  rw [instrs_take f p i h, List.nil_append]
theorem last_ends {f : GFn} (h : VF f) {p : List Int} (h1 : 1 ≤ p.length) (h2 : ∀ x ∈ p, 0 ≤ x ∧ x < (f.blocks.length : Int)) : Ends f (blk f (lastOf p)) := by
  have h3 := last_in h1 h2
  exact h.at (k := (lastOf p).toNat) (by omega)
theorem rAcc_new {f : GFn} {p : List Int} {i : Nat} {P : List (List Int)} {to els : Int} (hE : Ends f (blk f (lastOf p))) (hP : ∀ q ∈ P, 1 ≤ q.length) (h1 : 1 ≤ p.length) (e : i = p.length)
    (hto : to = if rF GBlock.fin f p i = 1 ∨ rF GBlock.fin f p i = 2 then headB P (rF GBlock.to f p i) else rF GBlock.to f p i) (hels : els = if rF GBlock.fin f p i = 2 then headB P (rF GBlock.els f p i) else rF GBlock.els f p i) :
    (⟨instrs f (p.take i), rF GBlock.fin f p i, rF GBlock.v f p i, to, els⟩ : GBlock) = newBlock f P p := by
  subst e
  simp only [rF_all _ h1] at hto hels ⊢
  rw [headB_eq hP] at hto hels
  rw [List.take_of_length_le (Nat.le_refl _)]
  refine newBlock_eq rfl rfl rfl ?_ ?_
  · rw [hto]
    rcases hE.e with ⟨h3, h4⟩ | ⟨h3, h4⟩ | ⟨h3, h4⟩
    · rw [if_pos (.inl h3), if_neg (by omega)]
    · rw [if_pos (.inr h3), if_neg (by omega)]
    · rw [if_neg (by omega), if_pos h3]; exact h4.2.1
  · rw [hels]
    rcases hE.e with ⟨h3, h4⟩ | ⟨h3, h4⟩ | ⟨h3, h4⟩
    · rw [if_neg (by omega), if_neg (by omega)]; exact h4.2.2
    · rw [if_pos h3, if_pos h3]
    · rw [if_neg (by omega), if_neg (by omega)]; exact h4.2.2
theorem tidy_chk {f : GFn} {c : Nat} (h : SmallF f c) (hc : c ≤ 1000) (hd : szB f f.blocks.length ≤ 150) : ChkOk f (tidyG f) (pathsL f) := by
  have h40 := h.len
  have hhl := heads_le f
  have hp : ∀ p ∈ pathsL f, p.length ≤ 40 := fun p hp => by have := path_in h.vf.inN hp; omega
  refine ⟨by rw [paths_length]; omega, fun p h => by have := hp p h; omega, fun b hb => by have := tidy_ins h.vf hd b hb; omega, fun p h1 j => ?_⟩
  exact take_len (c := 0) (h.ins1000 hc) (by have := hp p h1; omega) j
end Lg
end Go.Proofs.Ytpfhmodjjljpjaa

namespace Go.Proofs.Ytpfhmodjjljpjaa
open Go.RowKit
namespace Lg
set_option maxRecDepth 100000
set_option linter.unusedVariables false
set_option linter.unusedSimpArgs false



theorem body115 : (Try.prog.funcs[115]?).map (fun fn => (fn.name == "runtime.NumGoroutine" || fn.body.isNone)) = some false := by kernel_rfl
theorem in_spec (f : GFn) (reach : List Bool) (k : Int) (hb : f.blocks.length ≤ 1000000) (hr : reach.length = f.blocks.length) : Spec Try.prog 115 [.agg [.v (.int .i64 f.regs), .r 1], .r 2, .v (.int .i64 k)] 3 [(1, .fz 5 (f.blocks.map eBlock)), (2, .fz 1 (reach.map eB))] (.tup [.v (.int .i64 ((srcR (nextL f) reach k f.blocks.length).length : Int)), .v (.int .i64 (lastS (srcR (nextL f) reach k f.blocks.length)))]) 3 [] := by
  have hfl := follows_le f
  have hnl := nextL_length f
  refine spec_of D (fn := Try.f115) rfl rfl (Nat.le_of_ble_eq_true rfl) ?_
  refine W_seq ?_
  refine W_seqK (b' := 51) rfl rfl ?_
  refine q1 3 3 1 rfl rfl (T_box rfl rfl flat_agg) rfl ?_
  refine q0 6 19 2 rfl rfl (T_assign rfl rfl) rfl ?_
  refine q0 7 35 3 rfl rfl (T_assign rfl rfl) rfl ?_
  refine k_done rfl ?_
  refine thenK_n ?_
  refine W_seq ?_
  refine W_seqK (b' := 99) rfl rfl ?_
  refine q0 13 51 1 rfl rfl (T_load_bA D (l := [_, _]) rfl rfl rfl rfl rfl rfl rfl) rfl ?_
  refine q1 14 67 2 rfl rfl (T_call (lvs := [_]) (L := [(1, 1)]) (lv := .r 67) (upd := [(67, .row 52 1 _)]) (nn := 1) false (rnext_spec f hb) body38 rfl rfl rfl rfl (.fz rfl (.nil)) rfl (.inl rfl) rfl rfl rfl) rfl ?_
  refine q0 8 83 3 rfl rfl (T_assign rfl rfl) rfl ?_
  refine k_done rfl ?_
  refine thenK_n ?_
  refine W_seq ?_
  refine W_seqK (b' := 115) rfl rfl ?_
  refine q0 9 99 1 rfl rfl (T_assign rfl rfl) rfl ?_
  refine k_done rfl ?_
  refine thenK_n ?_
  refine W_seq ?_
  refine W_seqK (b' := 131) rfl rfl ?_
  refine q0 10 115 1 rfl rfl (T_assign rfl rfl) rfl ?_
  refine k_done rfl ?_
  refine thenK_n ?_
  refine W_seq ?_
  refine W_seq ?_
  refine W_seqK (b' := 147) rfl rfl ?_
  refine q0 11 131 1 rfl rfl (T_assign rfl rfl) rfl ?_
  refine k_done rfl ?_
  refine thenK_n ?_
  refine W_block ?_
  refine W_loop (ι := Nat) 4 (fun j => ⟨[(1, .r 2), (2, .v (.int .i64 k)), (8, .r 3), (9, .v (.int .i64 ((srcR (nextL f) reach k j).length : Int))), (10, .v (.int .i64 (lastS (srcR (nextL f) reach k j)))), (11, .v (.int .i64 (j : Int)))], [(1, .fz 5 (f.blocks.map eBlock)), (2, .fz 1 (reach.map eB)), (3, .row 52 1 ((nextL f).map eIs))]⟩) (fun j => j ≤ f.blocks.length) (fun j => f.blocks.length - j) (0) (by exact Nat.zero_le _) ?_ (fun j hJ => ?_)
  · exact ⟨[(3, 67)], .same rfl rfl (.eq rfl (.same rfl rfl (.eq rfl (.eq rfl (.eq rfl (.nil) (by first | rfl | simp [srcR, lastS])) (by first | rfl | simp [srcR, lastS])) (by first | rfl | simp [srcR, lastS]))) (by first | rfl | simp [srcR, lastS])), .fzE rfl (.fzE rfl (.rowE rfl (.nil) (by first | rfl | simp [srcR, lastS])) (by first | rfl | simp [srcR, lastS])) (by first | rfl | simp [srcR, lastS]), rfl⟩
  have hsl := srcR_le hfl reach k j
  refine W_seq ?_
  refine W_seq ?_
  refine W_seqK (b' := 68) rfl rfl ?_
  refine q0 15 4 1 rfl rfl (T_move rfl rfl) rfl ?_
  refine q0 16 20 2 rfl rfl (T_move rfl rfl) rfl ?_
  refine q0 17 36 3 rfl rfl (T_len D rfl rfl rfl rfl rfl rfl) rfl ?_
  refine q0 18 52 4 rfl rfl (T_cmp rfl rfl rfl rfl) rfl ?_
  refine k_done rfl ?_
  refine thenK_n ?_
  refine W_cond rfl (fun g1 => ?_) (fun g1 => ?_)
  · have h1 := c_lss_t g1
    refine W_skip ?_
    refine thenK_n ?_
    refine W_seq ?_
    refine W_block ?_
    refine W_seq ?_
    refine W_seqK (b' := 84) rfl rfl ?_
    refine q0 12 68 1 rfl rfl (T_assign rfl rfl) rfl ?_
    refine k_done rfl ?_
    refine thenK_n ?_
    refine W_block ?_
    have hnj := hfl ((nextL f).getD j default) (getD_mem (by omega))
    refine W_loop (ι := Nat) 4 (fun i => ⟨[(1, .r 2), (2, .v (.int .i64 k)), (8, .r 3), (9, .v (.int .i64 ((srcRI (nextL f) reach k j i).length : Int))), (10, .v (.int .i64 (lastS (srcRI (nextL f) reach k j i)))), (11, .v (.int .i64 (j : Int))), (12, .v (.int .i64 (i : Int)))], [(1, .fz 5 (f.blocks.map eBlock)), (2, .fz 1 (reach.map eB)), (3, .row 52 1 ((nextL f).map eIs))]⟩) (fun i => i ≤ ((nextL f).getD j default).length ∧ (reach.getD j default = false → i = 0)) (fun i => ((nextL f).getD j default).length - i) (0) (by exact ⟨Nat.zero_le _, fun _ => rfl⟩) ?_ (fun i hI => ?_)
    · exact ⟨[(3, 3)], .same rfl rfl (.eq rfl (.same rfl rfl (.eq rfl (.eq rfl (.eq rfl (.eq rfl (.nil) (by first | rfl | (rw [srcRI_zero]; first | done | rfl))) (by first | rfl | (rw [srcRI_zero]; first | done | rfl))) (by first | rfl | (rw [srcRI_zero]; first | done | rfl))) (by first | rfl | (rw [srcRI_zero]; first | done | rfl)))) (by first | rfl | (rw [srcRI_zero]; first | done | rfl))), .fzE rfl (.fzE rfl (.rowE rfl (.nil) (by first | rfl | (rw [srcRI_zero]; first | done | rfl))) (by first | rfl | (rw [srcRI_zero]; first | done | rfl))) (by first | rfl | (rw [srcRI_zero]; first | done | rfl)), rfl⟩
    have hsi := srcRI_le hfl reach k j i
    refine W_seq ?_
    refine W_seq ?_
    refine W_seqK (b' := 212) rfl rfl ?_
    refine q0 21 4 1 rfl rfl (T_move rfl rfl) rfl ?_
    refine q0 22 20 2 rfl rfl (T_move rfl rfl) rfl ?_
    refine q0 23 36 3 rfl rfl (T_move rfl rfl) rfl ?_
    first | refine q0 24 52 4 rfl rfl (T_indexAddr D rfl rfl rfl rfl rfl rfl rfl rfl (by first | assumption | omega | (simp; omega))) rfl ?_ | refine q0 24 52 4 rfl rfl (T_indexAddrZ D rfl rfl rfl rfl rfl rfl rfl rfl (by first | assumption | omega | (simp; omega)) (by first | assumption | omega | (simp; omega))) rfl ?_
    refine q1 25 68 5 rfl rfl (T_ldE D (lv := .r 68) (nn := 1) (upd := [(68, .fz 1 _)]) rfl rfl rfl rfl rfl (by first | assumption | omega | (simp; omega)) rfl rfl rfl rfl) rfl ?_
    refine q0 26 84 6 rfl rfl (T_len D rfl rfl rfl rfl rfl rfl) rfl ?_
    refine q0 27 100 7 rfl rfl (T_cmp rfl rfl rfl rfl) rfl ?_
    refine q0 28 116 8 rfl rfl (T_move rfl rfl) rfl ?_
    refine k_split (d := 28) rfl (fun g2 => ?_) (fun g2 => ?_)
    · have h2 := c_lss_t g2
      refine k_op0 (d := 29) (b := 132) (j' := 9) rfl rfl rfl rfl (g_tt rfl rfl rfl g2) (T_move rfl rfl) rfl ?_
      refine k_op0 (d := 30) (b := 148) (j' := 10) rfl rfl rfl rfl (g_tt rfl rfl rfl g2) (T_move rfl rfl) rfl ?_
      first | refine k_op0 (d := 31) (b := 164) (j' := 11) rfl rfl rfl rfl (g_tt rfl rfl rfl g2) (T_indexAddr D rfl rfl rfl rfl rfl rfl rfl rfl (by first | assumption | omega | (simp; omega))) rfl ?_ | refine k_op0 (d := 31) (b := 164) (j' := 11) rfl rfl rfl rfl (g_tt rfl rfl rfl g2) (T_indexAddrZ D rfl rfl rfl rfl rfl rfl rfl rfl (by first | assumption | omega | (simp; omega)) (by first | assumption | omega | (simp; omega))) rfl ?_
      refine k_op0 (d := 32) (b := 180) (j' := 12) rfl rfl rfl rfl (g_tt rfl rfl rfl g2) (T_ldE D (lv := .v _) (nn := 0) (upd := []) rfl rfl rfl rfl rfl (by first | assumption | omega | (simp; omega)) rfl rfl rfl rfl) rfl ?_
      refine q0 33 196 13 rfl rfl (T_pick_t rfl rfl rfl g2) rfl ?_
      refine k_done rfl ?_
      refine thenK_n ?_
      refine W_cond rfl (fun g3 => ?_) (fun g3 => ?_)
      · have h3 := g3; (try simp only [cmpB, decide_eq_true_eq, decide_eq_false_iff_not, beq_iff_eq, beq_eq_false_iff_ne, bne_iff_ne, ne_eq, bne_eq_false_iff_eq, Bool.not_eq_true', Bool.not_eq_false', Int.not_lt, Int.not_le] at h3)
        refine W_skip ?_
        refine thenK_n ?_
        refine W_seq ?_
        refine W_block ?_
        refine W_seq ?_
        refine W_seqK (b' := 356) rfl rfl ?_
        refine q0 36 212 1 rfl rfl (T_move rfl rfl) rfl ?_
        refine q0 37 228 2 rfl rfl (T_move rfl rfl) rfl ?_
        first | refine q0 38 244 3 rfl rfl (T_indexAddr D rfl rfl rfl rfl rfl rfl rfl rfl (by first | assumption | omega | (simp; omega))) rfl ?_ | refine q0 38 244 3 rfl rfl (T_indexAddrZ D rfl rfl rfl rfl rfl rfl rfl rfl (by first | assumption | omega | (simp; omega)) (by first | assumption | omega | (simp; omega))) rfl ?_
        refine q1 39 260 4 rfl rfl (T_ldE D (lv := .r 260) (nn := 1) (upd := [(260, .fz 1 _)]) rfl rfl rfl rfl rfl (by first | assumption | omega | (simp; omega)) rfl rfl rfl rfl) rfl ?_
        refine q0 40 276 5 rfl rfl (T_move rfl rfl) rfl ?_
        first | refine q0 41 292 6 rfl rfl (T_indexAddr D rfl rfl rfl rfl rfl rfl rfl rfl (by first | assumption | omega | (simp; omega))) rfl ?_ | refine q0 41 292 6 rfl rfl (T_indexAddrZ D rfl rfl rfl rfl rfl rfl rfl rfl (by first | assumption | omega | (simp; omega)) (by first | assumption | omega | (simp; omega))) rfl ?_
        refine q0 42 308 7 rfl rfl (T_ldE D (lv := .v _) (nn := 0) (upd := []) rfl rfl rfl rfl rfl (by first | assumption | omega | (simp; omega)) rfl rfl rfl rfl) rfl ?_
        refine q0 43 324 8 rfl rfl (T_move rfl rfl) rfl ?_
        refine q0 44 340 9 rfl rfl (T_cmp rfl rfl rfl rfl) rfl ?_
        refine k_done rfl ?_
        refine thenK_n ?_
        refine W_cond rfl (fun g4 => ?_) (fun g4 => ?_)
        · have h4 := c_eql_t g4
          refine W_seq ?_
          refine W_seqK (b' := 404) rfl rfl ?_
          refine q0 45 356 1 rfl rfl (T_move rfl rfl) rfl ?_
          refine q0 46 372 2 rfl rfl (T_add64 rfl rfl rfl (by first | assumption | omega | (simp; omega))) rfl ?_
          refine q0 9 388 3 rfl rfl (T_assign rfl rfl) rfl ?_
          refine k_done rfl ?_
          refine thenK_n ?_
          refine W_seqK (b' := 436) rfl rfl ?_
          refine q0 47 404 1 rfl rfl (T_move rfl rfl) rfl ?_
          refine q0 10 420 2 rfl rfl (T_assign rfl rfl) rfl ?_
          refine k_done rfl ?_
          refine blockK_n ?_
          refine thenK_n ?_
          refine W_seqK (b' := 484) rfl rfl ?_
          refine q0 34 436 1 rfl rfl (T_move rfl rfl) rfl ?_
          refine q0 35 452 2 rfl rfl (T_add64 rfl rfl rfl (by first | assumption | omega | (simp; omega))) rfl ?_
          refine q0 12 468 3 rfl rfl (T_assign rfl rfl) rfl ?_
          refine k_done rfl ?_
          refine thenK_n ?_
          refine ⟨i + 1, by (try dsimp only); exact ⟨by omega, fun q => absurd (q.symm.trans (by assumption : _ = true)) (by decide)⟩, by (try dsimp only); omega, ?_⟩
          exact ⟨[(3, 3)], .same rfl rfl (.eq rfl (.same rfl rfl (.eq rfl (.eq rfl (.eq rfl (.eq rfl (.nil) (by first | rfl | (rw [srcRI_t (by omega) (by assumption)]; first | done | rfl | simp [lastS_snoc]) | (rw [srcRI_f (by omega) (by assumption)]; first | done | rfl))) rfl) (by first | rfl | (rw [srcRI_t (by omega) (by assumption)]; first | done | rfl | simp [lastS_snoc]) | (rw [srcRI_f (by omega) (by assumption)]; first | done | rfl))) (by first | rfl | (rw [srcRI_t (by omega) (by assumption)]; first | done | rfl | simp [lastS_snoc]) | (rw [srcRI_f (by omega) (by assumption)]; first | done | rfl)))) rfl), .fzE rfl (.fzE rfl (.rowE rfl (.nil) (by first | rfl | (rw [srcRI_t (by omega) (by assumption)]; first | done | rfl | simp [lastS_snoc]) | (rw [srcRI_f (by omega) (by assumption)]; first | done | rfl))) rfl) rfl, rfl⟩
        · have h4 := c_eql_f g4
          refine W_skip ?_
          refine blockK_n ?_
          refine thenK_n ?_
          refine W_seqK (b' := 404) rfl rfl ?_
          refine q0 34 356 1 rfl rfl (T_move rfl rfl) rfl ?_
          refine q0 35 372 2 rfl rfl (T_add64 rfl rfl rfl (by first | assumption | omega | (simp; omega))) rfl ?_
          refine q0 12 388 3 rfl rfl (T_assign rfl rfl) rfl ?_
          refine k_done rfl ?_
          refine thenK_n ?_
          refine ⟨i + 1, by (try dsimp only); exact ⟨by omega, fun q => absurd (q.symm.trans (by assumption : _ = true)) (by decide)⟩, by (try dsimp only); omega, ?_⟩
          exact ⟨[(3, 3)], .same rfl rfl (.eq rfl (.same rfl rfl (.eq rfl (.eq rfl (.eq rfl (.eq rfl (.nil) (by first | rfl | (rw [srcRI_t (by omega) (by assumption)]; first | done | rfl | simp [lastS_snoc]) | (rw [srcRI_f (by omega) (by assumption)]; first | done | rfl))) rfl) (by first | rfl | (rw [srcRI_t (by omega) (by assumption)]; first | done | rfl | simp [lastS_snoc]) | (rw [srcRI_f (by omega) (by assumption)]; first | done | rfl))) (by first | rfl | (rw [srcRI_t (by omega) (by assumption)]; first | done | rfl | simp [lastS_snoc]) | (rw [srcRI_f (by omega) (by assumption)]; first | done | rfl)))) rfl), .fzE rfl (.fzE rfl (.rowE rfl (.nil) (by first | rfl | (rw [srcRI_t (by omega) (by assumption)]; first | done | rfl | simp [lastS_snoc]) | (rw [srcRI_f (by omega) (by assumption)]; first | done | rfl))) rfl) rfl, rfl⟩
      · have h3 := g3; (try simp only [cmpB, decide_eq_true_eq, decide_eq_false_iff_not, beq_iff_eq, beq_eq_false_iff_ne, bne_iff_ne, ne_eq, bne_eq_false_iff_eq, Bool.not_eq_true', Bool.not_eq_false', Int.not_lt, Int.not_le] at h3)
        refine W_exit ?_
        refine thenK_e ?_
        refine thenK_e ?_
        refine blockK_hit ?_
        refine blockK_n ?_
        refine thenK_n ?_
        refine W_seqK (b' := 260) rfl rfl ?_
        refine q0 19 212 1 rfl rfl (T_move rfl rfl) rfl ?_
        refine q0 20 228 2 rfl rfl (T_add64 rfl rfl rfl (by first | assumption | omega | (simp; omega))) rfl ?_
        refine q0 11 244 3 rfl rfl (T_assign rfl rfl) rfl ?_
        refine k_done rfl ?_
        refine thenK_n ?_
        refine ⟨j + 1, by (try dsimp only); omega, by (try dsimp only); omega, ?_⟩
        exact ⟨[(3, 3)], .same rfl rfl (.eq rfl (.same rfl rfl (.eq rfl (.eq rfl (.eq rfl (.nil) (by first | rfl | (rw [srcR_succ (i := i) (by assumption) (by omega)]; first | done | rfl) | (rw [srcR_no (by assumption)]; have hi0 : i = 0 := (by first | omega | exact hI.2 (by assumption)); rw [hi0, srcRI_zero]; first | done | rfl) | (refine Or.elim (bool_cases (reach.getD j default)) (fun q => ?_) (fun q => ?_) <;> first | (rw [srcR_succ (i := i) q (by omega)]; first | done | rfl) | (rw [srcR_no q, hI.2 q, srcRI_zero]; first | done | rfl)))) (by first | rfl | (rw [srcR_succ (i := i) (by assumption) (by omega)]; first | done | rfl) | (rw [srcR_no (by assumption)]; have hi0 : i = 0 := (by first | omega | exact hI.2 (by assumption)); rw [hi0, srcRI_zero]; first | done | rfl) | (refine Or.elim (bool_cases (reach.getD j default)) (fun q => ?_) (fun q => ?_) <;> first | (rw [srcR_succ (i := i) q (by omega)]; first | done | rfl) | (rw [srcR_no q, hI.2 q, srcRI_zero]; first | done | rfl)))) (by first | rfl | (rw [srcR_succ (i := i) (by assumption) (by omega)]; first | done | rfl) | (rw [srcR_no (by assumption)]; have hi0 : i = 0 := (by first | omega | exact hI.2 (by assumption)); rw [hi0, srcRI_zero]; first | done | rfl) | (refine Or.elim (bool_cases (reach.getD j default)) (fun q => ?_) (fun q => ?_) <;> first | (rw [srcR_succ (i := i) q (by omega)]; first | done | rfl) | (rw [srcR_no q, hI.2 q, srcRI_zero]; first | done | rfl))))) rfl), .fzE rfl (.fzE rfl (.rowE rfl (.nil) (by first | rfl | (rw [srcR_succ (i := i) (by assumption) (by omega)]; first | done | rfl) | (rw [srcR_no (by assumption)]; have hi0 : i = 0 := (by first | omega | exact hI.2 (by assumption)); rw [hi0, srcRI_zero]; first | done | rfl) | (refine Or.elim (bool_cases (reach.getD j default)) (fun q => ?_) (fun q => ?_) <;> first | (rw [srcR_succ (i := i) q (by omega)]; first | done | rfl) | (rw [srcR_no q, hI.2 q, srcRI_zero]; first | done | rfl)))) rfl) rfl, rfl⟩
    · have h2 := c_lss_f g2
      refine k_no (d := 29) (j' := 9) rfl rfl rfl (g_tf rfl rfl rfl g2) ?_
      refine k_no (d := 30) (j' := 10) rfl rfl rfl (g_tf rfl rfl rfl g2) ?_
      refine k_no (d := 31) (j' := 11) rfl rfl rfl (g_tf rfl rfl rfl g2) ?_
      refine k_no (d := 32) (j' := 12) rfl rfl rfl (g_tf rfl rfl rfl g2) ?_
      refine q0 33 196 13 rfl rfl (T_pick_f rfl rfl rfl g2) rfl ?_
      refine k_done rfl ?_
      refine thenK_n ?_
      refine W_cond rfl (fun g5 => ?_) (fun g5 => ?_)
      · exact absurd (g5.symm.trans rfl) (by decide)
      · skip
        refine W_exit ?_
        refine thenK_e ?_
        refine thenK_e ?_
        refine blockK_hit ?_
        refine blockK_n ?_
        refine thenK_n ?_
        refine W_seqK (b' := 260) rfl rfl ?_
        refine q0 19 212 1 rfl rfl (T_move rfl rfl) rfl ?_
        refine q0 20 228 2 rfl rfl (T_add64 rfl rfl rfl (by first | assumption | omega | (simp; omega))) rfl ?_
        refine q0 11 244 3 rfl rfl (T_assign rfl rfl) rfl ?_
        refine k_done rfl ?_
        refine thenK_n ?_
        refine ⟨j + 1, by (try dsimp only); omega, by (try dsimp only); omega, ?_⟩
        exact ⟨[(3, 3)], .same rfl rfl (.eq rfl (.same rfl rfl (.eq rfl (.eq rfl (.eq rfl (.nil) (by first | rfl | (rw [srcR_succ (i := i) (by assumption) (by omega)]; first | done | rfl) | (rw [srcR_no (by assumption)]; have hi0 : i = 0 := (by first | omega | exact hI.2 (by assumption)); rw [hi0, srcRI_zero]; first | done | rfl) | (refine Or.elim (bool_cases (reach.getD j default)) (fun q => ?_) (fun q => ?_) <;> first | (rw [srcR_succ (i := i) q (by omega)]; first | done | rfl) | (rw [srcR_no q, hI.2 q, srcRI_zero]; first | done | rfl)))) (by first | rfl | (rw [srcR_succ (i := i) (by assumption) (by omega)]; first | done | rfl) | (rw [srcR_no (by assumption)]; have hi0 : i = 0 := (by first | omega | exact hI.2 (by assumption)); rw [hi0, srcRI_zero]; first | done | rfl) | (refine Or.elim (bool_cases (reach.getD j default)) (fun q => ?_) (fun q => ?_) <;> first | (rw [srcR_succ (i := i) q (by omega)]; first | done | rfl) | (rw [srcR_no q, hI.2 q, srcRI_zero]; first | done | rfl)))) (by first | rfl | (rw [srcR_succ (i := i) (by assumption) (by omega)]; first | done | rfl) | (rw [srcR_no (by assumption)]; have hi0 : i = 0 := (by first | omega | exact hI.2 (by assumption)); rw [hi0, srcRI_zero]; first | done | rfl) | (refine Or.elim (bool_cases (reach.getD j default)) (fun q => ?_) (fun q => ?_) <;> first | (rw [srcR_succ (i := i) q (by omega)]; first | done | rfl) | (rw [srcR_no q, hI.2 q, srcRI_zero]; first | done | rfl))))) rfl), .fzE rfl (.fzE rfl (.rowE rfl (.nil) (by first | rfl | (rw [srcR_succ (i := i) (by assumption) (by omega)]; first | done | rfl) | (rw [srcR_no (by assumption)]; have hi0 : i = 0 := (by first | omega | exact hI.2 (by assumption)); rw [hi0, srcRI_zero]; first | done | rfl) | (refine Or.elim (bool_cases (reach.getD j default)) (fun q => ?_) (fun q => ?_) <;> first | (rw [srcR_succ (i := i) q (by omega)]; first | done | rfl) | (rw [srcR_no q, hI.2 q, srcRI_zero]; first | done | rfl)))) rfl) rfl, rfl⟩
  · have h1 := c_lss_f g1
    refine W_exit ?_
    refine thenK_e ?_
    refine thenK_e ?_
    refine blockK_hit ?_
    refine thenK_n ?_
    refine W_seq ?_
    refine W_seqK (b' := 132) rfl rfl ?_
    refine q0 48 68 1 rfl rfl (T_move rfl rfl) rfl ?_
    refine q0 49 84 2 rfl rfl (T_move rfl rfl) rfl ?_
    refine q0 6 100 3 rfl rfl (T_assign rfl rfl) rfl ?_
    refine q0 7 116 4 rfl rfl (T_assign rfl rfl) rfl ?_
    refine k_done rfl ?_
    refine thenK_n ?_
    refine W_ret ?_
    -- end 0
    exact .mk [] (.inr rfl) (.tmp rfl (.tmp rfl (.nil))) (by first | rfl | (have e : j = f.blocks.length := (by omega); rw [e]; first | done | rfl)) (.nil) rfl

theorem body72 : (Try.prog.funcs[72]?).map (fun fn => (fn.name == "runtime.NumGoroutine" || fn.body.isNone)) = some false := by kernel_rfl
theorem rhead_spec (ps : List (List Int)) (old : Int) (hl : ps.length ≤ 1000000000) : Spec Try.prog 72 [.r 1, .v (.int .i64 old)] 2 [(1, .fz 1 (ps.map eIs))] (.v (.int .i64 (headB ps old))) 2 [] := by
  refine spec_of D (fn := Try.f72) rfl rfl (Nat.le_of_ble_eq_true rfl) ?_
  refine W_seq ?_
  refine W_seqK (b' := 18) rfl rfl ?_
  refine q0 4 2 1 rfl rfl (T_assign rfl rfl) rfl ?_
  refine k_done rfl ?_
  refine thenK_n ?_
  refine W_seq ?_
  refine W_seq ?_
  refine W_seqK (b' := 34) rfl rfl ?_
  refine q0 5 18 1 rfl rfl (T_assign rfl rfl) rfl ?_
  refine k_done rfl ?_
  refine thenK_n ?_
  refine W_block ?_
  refine W_loop (ι := Nat) 2 (fun j => ⟨[(0, .r 1), (1, .v (.int .i64 old)), (5, .v (.int .i64 (j : Int)))], [(1, .fz 1 (ps.map eIs))]⟩) (fun j => j ≤ ps.length ∧ ∀ i, i < j → (decide (0 < (ps.getD i default).length) && ((ps.getD i default).getD 0 default == old)) = false) (fun j => ps.length - j) (0) (by exact ⟨Nat.zero_le _, fun i h => absurd h (Nat.not_lt_zero _)⟩) ?_ (fun j hJ => ?_)
  · exact ⟨[], .same rfl rfl (.eq rfl (.eq rfl (.nil) (by first | rfl | simp)) (by first | rfl | simp)), .fzE rfl (.nil) (by first | rfl | simp), rfl⟩
  refine W_seq ?_
  refine W_seq ?_
  refine W_seqK (b' := 66) rfl rfl ?_
  refine q0 6 2 1 rfl rfl (T_move rfl rfl) rfl ?_
  refine q0 7 18 2 rfl rfl (T_move rfl rfl) rfl ?_
  refine q0 8 34 3 rfl rfl (T_len D rfl rfl rfl rfl rfl rfl) rfl ?_
  refine q0 9 50 4 rfl rfl (T_cmp rfl rfl rfl rfl) rfl ?_
  refine k_done rfl ?_
  refine thenK_n ?_
  refine W_cond rfl (fun g1 => ?_) (fun g1 => ?_)
  · have h1 := c_lss_t g1
    refine W_skip ?_
    refine thenK_n ?_
    refine W_seq ?_
    refine W_block ?_
    refine W_seq ?_
    refine W_seqK (b' := 322) rfl rfl ?_
    refine q0 12 66 1 rfl rfl (T_move rfl rfl) rfl ?_
    refine q0 13 82 2 rfl rfl (T_move rfl rfl) rfl ?_
    first | refine q0 14 98 3 rfl rfl (T_indexAddr D rfl rfl rfl rfl rfl rfl rfl rfl (by first | assumption | omega | (simp; omega))) rfl ?_ | refine q0 14 98 3 rfl rfl (T_indexAddrZ D rfl rfl rfl rfl rfl rfl rfl rfl (by first | assumption | omega | (simp; omega)) (by first | assumption | omega | (simp; omega))) rfl ?_
    refine q1 15 114 4 rfl rfl (T_ldE D (lv := .r 114) (nn := 1) (upd := [(114, .fz 1 _)]) rfl rfl rfl rfl rfl (by first | assumption | omega | (simp; omega)) rfl rfl rfl rfl) rfl ?_
    refine q0 16 130 5 rfl rfl (T_len D rfl rfl rfl rfl rfl rfl) rfl ?_
    refine q0 17 146 6 rfl rfl (T_cmp rfl rfl rfl rfl) rfl ?_
    refine q0 18 162 7 rfl rfl (T_move rfl rfl) rfl ?_
    refine k_split (d := 18) rfl (fun g2 => ?_) (fun g2 => ?_)
    · have h2 := c_gtr_t g2
      refine k_op0 (d := 19) (b := 178) (j' := 8) rfl rfl rfl rfl (g_tt rfl rfl rfl g2) (T_move rfl rfl) rfl ?_
      refine k_op0 (d := 20) (b := 194) (j' := 9) rfl rfl rfl rfl (g_tt rfl rfl rfl g2) (T_move rfl rfl) rfl ?_
      first | refine k_op0 (d := 21) (b := 210) (j' := 10) rfl rfl rfl rfl (g_tt rfl rfl rfl g2) (T_indexAddr D rfl rfl rfl rfl rfl rfl rfl rfl (by first | assumption | omega | (simp; omega))) rfl ?_ | refine k_op0 (d := 21) (b := 210) (j' := 10) rfl rfl rfl rfl (g_tt rfl rfl rfl g2) (T_indexAddrZ D rfl rfl rfl rfl rfl rfl rfl rfl (by first | assumption | omega | (simp; omega)) (by first | assumption | omega | (simp; omega))) rfl ?_
      refine k_op1 (d := 22) (b := 226) (j' := 11) rfl rfl rfl rfl (g_tt rfl rfl rfl g2) (T_ldE D (lv := .r 226) (nn := 1) (upd := [(226, .fz 1 _)]) rfl rfl rfl rfl rfl (by first | assumption | omega | (simp; omega)) rfl rfl rfl rfl) rfl ?_
      first | refine k_op0 (d := 23) (b := 242) (j' := 12) rfl rfl rfl rfl (g_tt rfl rfl rfl g2) (T_indexAddr D rfl rfl rfl rfl rfl rfl rfl rfl (by first | assumption | omega | (simp; omega))) rfl ?_ | refine k_op0 (d := 23) (b := 242) (j' := 12) rfl rfl rfl rfl (g_tt rfl rfl rfl g2) (T_indexAddrZ D rfl rfl rfl rfl rfl rfl rfl rfl (by first | assumption | omega | (simp; omega)) (by first | assumption | omega | (simp; omega))) rfl ?_
      refine k_op0 (d := 24) (b := 258) (j' := 13) rfl rfl rfl rfl (g_tt rfl rfl rfl g2) (T_ldE D (lv := .v _) (nn := 0) (upd := []) rfl rfl rfl rfl rfl (by first | assumption | omega | (simp; omega)) rfl rfl rfl rfl) rfl ?_
      refine k_op0 (d := 25) (b := 274) (j' := 14) rfl rfl rfl rfl (g_tt rfl rfl rfl g2) (T_move rfl rfl) rfl ?_
      refine k_op0 (d := 26) (b := 290) (j' := 15) rfl rfl rfl rfl (g_tt rfl rfl rfl g2) (T_cmp rfl rfl rfl rfl) rfl ?_
      refine q0 27 306 16 rfl rfl (T_pick_t rfl rfl rfl g2) rfl ?_
      refine k_done rfl ?_
      refine thenK_n ?_
      refine W_cond rfl (fun g3 => ?_) (fun g3 => ?_)
      · have h3 := c_eql_t g3
        refine W_seq ?_
        refine W_seqK (b' := 354) rfl rfl ?_
        refine q0 28 322 1 rfl rfl (T_move rfl rfl) rfl ?_
        refine q0 4 338 2 rfl rfl (T_assign rfl rfl) rfl ?_
        refine k_done rfl ?_
        refine thenK_n ?_
        refine W_ret ?_
        refine blockK_r ?_
        refine thenK_r ?_
        refine thenK_r ?_
        refine blockK_r ?_
        refine thenK_r ?_
        -- end 0
        exact .mk [] (.inr rfl) (.tmp rfl (.nil)) (by first | rfl | (simp only [resLV, LV.ren, LV.v.injEq, Value.int.injEq, true_and]; exact (fstIdx_hit (fun p : List Int => decide (0 < p.length) && (p.getD 0 default == old)) _ (by omega) (by rw [decide_eq_true (by omega), beq_iff_eq.2 (by assumption)]; rfl) (fun i hi => hJ.2 i hi)).symm)) (.nil) rfl
      · have h3 := c_eql_f g3
        refine W_skip ?_
        refine blockK_n ?_
        refine thenK_n ?_
        refine W_seqK (b' := 370) rfl rfl ?_
        refine q0 10 322 1 rfl rfl (T_move rfl rfl) rfl ?_
        refine q0 11 338 2 rfl rfl (T_add64 rfl rfl rfl (by first | assumption | omega | (simp; omega))) rfl ?_
        refine q0 5 354 3 rfl rfl (T_assign rfl rfl) rfl ?_
        refine k_done rfl ?_
        refine thenK_n ?_
        refine ⟨j + 1, by (try dsimp only); exact ⟨by omega, fun i hi => by rcases Nat.lt_or_ge i j with h | h; exact hJ.2 i h; rw [show i = j by omega]; first | (rw [decide_eq_false (by omega)]; rfl) | (rw [beq_eq_false_iff_ne.2 (by assumption), Bool.and_false])⟩, by (try dsimp only); omega, ?_⟩
        exact ⟨[], .same rfl rfl (.eq rfl (.eq rfl (.nil) (by first | rfl | simp)) rfl), .fzE rfl (.nil) rfl, rfl⟩
    · have h2 := c_gtr_f g2
      refine k_no (d := 19) (j' := 8) rfl rfl rfl (g_tf rfl rfl rfl g2) ?_
      refine k_no (d := 20) (j' := 9) rfl rfl rfl (g_tf rfl rfl rfl g2) ?_
      refine k_no (d := 21) (j' := 10) rfl rfl rfl (g_tf rfl rfl rfl g2) ?_
      refine k_no (d := 22) (j' := 11) rfl rfl rfl (g_tf rfl rfl rfl g2) ?_
      refine k_no (d := 23) (j' := 12) rfl rfl rfl (g_tf rfl rfl rfl g2) ?_
      refine k_no (d := 24) (j' := 13) rfl rfl rfl (g_tf rfl rfl rfl g2) ?_
      refine k_no (d := 25) (j' := 14) rfl rfl rfl (g_tf rfl rfl rfl g2) ?_
      refine k_no (d := 26) (j' := 15) rfl rfl rfl (g_tf rfl rfl rfl g2) ?_
      refine q0 27 306 16 rfl rfl (T_pick_f rfl rfl rfl g2) rfl ?_
      refine k_done rfl ?_
      refine thenK_n ?_
      refine W_cond rfl (fun g4 => ?_) (fun g4 => ?_)
      · exact absurd (g4.symm.trans rfl) (by decide)
      · skip
        refine W_skip ?_
        refine blockK_n ?_
        refine thenK_n ?_
        refine W_seqK (b' := 370) rfl rfl ?_
        refine q0 10 322 1 rfl rfl (T_move rfl rfl) rfl ?_
        refine q0 11 338 2 rfl rfl (T_add64 rfl rfl rfl (by first | assumption | omega | (simp; omega))) rfl ?_
        refine q0 5 354 3 rfl rfl (T_assign rfl rfl) rfl ?_
        refine k_done rfl ?_
        refine thenK_n ?_
        refine ⟨j + 1, by (try dsimp only); exact ⟨by omega, fun i hi => by rcases Nat.lt_or_ge i j with h | h; exact hJ.2 i h; rw [show i = j by omega]; first | (rw [decide_eq_false (by omega)]; rfl) | (rw [beq_eq_false_iff_ne.2 (by assumption), Bool.and_false])⟩, by (try dsimp only); omega, ?_⟩
        exact ⟨[], .same rfl rfl (.eq rfl (.eq rfl (.nil) (by first | rfl | simp)) rfl), .fzE rfl (.nil) rfl, rfl⟩
  · have h1 := c_lss_f g1
    refine W_exit ?_
    refine thenK_e ?_
    refine thenK_e ?_
    refine blockK_hit ?_
    refine thenK_n ?_
    refine W_seq ?_
    refine W_seqK (b' := 82) rfl rfl ?_
    refine q0 4 66 1 rfl rfl (T_assign rfl rfl) rfl ?_
    refine k_done rfl ?_
    refine thenK_n ?_
    refine W_ret ?_
    -- end 1
    exact .mk [] (.inr rfl) (.tmp rfl (.nil)) (by first | rfl | (simp only [resLV, LV.ren, LV.v.injEq, Value.int.injEq, true_and]; exact (fstIdx_none (fun p : List Int => decide (0 < p.length) && (p.getD 0 default == old)) _ (fun i hi => hJ.2 i (by omega))).symm)) (.nil) rfl

theorem body71 : (Try.prog.funcs[71]?).map (fun fn => (fn.name == "runtime.NumGoroutine" || fn.body.isNone)) = some false := by kernel_rfl
theorem rpaths_spec (f : GFn) (hb : f.blocks.length ≤ 900000) (hv : VF f) : Spec Try.prog 71 [.agg [.v (.int .i64 f.regs), .r 1]] 2 [(1, .fz 5 (f.blocks.map eBlock))] (.r 2) 3 [(2, .row 52 1 ((pathsL f).map eIs))] := by
  have hfl := follows_le f
  have hnl := nextL_length f
  have hrl := reachL_length f
  have hbl := byL_length f
  refine spec_of D (fn := Try.f71) rfl rfl (Nat.le_of_ble_eq_true rfl) ?_
  refine W_seq ?_
  refine W_seqK (b' := 34) rfl rfl ?_
  refine q1 1 2 1 rfl rfl (T_box rfl rfl flat_agg) rfl ?_
  refine q1 2 18 2 rfl rfl (T_nils [(52, 1)] (T_assign rfl rfl) rfl (.inr ⟨rfl, rfl⟩) (.cons (.nil rfl) .nil) (lv' := .r 18) (upd' := [(18, .row 52 1 (List.map eIs ([] : List (List Int))))]) (nn' := 1) rfl rfl) rfl ?_
  refine k_done rfl ?_
  refine thenK_n ?_
  refine W_seq ?_
  refine W_seqK (b' := 98) rfl rfl ?_
  refine q0 14 34 1 rfl rfl (T_load_bA D (l := [_, _]) rfl rfl rfl rfl rfl rfl rfl) rfl ?_
  refine q1 15 50 2 rfl rfl (T_call (lvs := [_]) (L := [(1, 1)]) (lv := .r 50) (upd := [(50, .row 52 1 _)]) (nn := 1) false (rnext_spec f (by omega)) body38 rfl rfl rfl rfl (.fz rfl (.nil)) rfl (.inl rfl) rfl rfl rfl) rfl ?_
  refine q1 16 66 3 rfl rfl (T_callR (lvs := [_]) (L := [(1, 50)]) (keep := true) (rreach_spec (nextL f) (by omega) (fun l h => by have := hfl l h; omega)) body37 rfl rfl rfl rfl (.lend rfl (.nil)) rfl (.inr (flat_eB _)) rfl) rfl ?_
  refine q0 3 82 4 rfl rfl (T_assign rfl rfl) rfl ?_
  refine k_done rfl ?_
  refine thenK_n ?_
  refine W_seq ?_
  refine W_seqK (b' := 178) rfl rfl ?_
  refine q0 17 98 1 rfl rfl (T_fa D (m := 1) rfl rfl rfl rfl rfl rfl) rfl ?_
  refine q0 18 114 2 rfl rfl (T_load_b D rfl rfl rfl rfl rfl rfl) rfl ?_
  refine q0 19 130 3 rfl rfl (T_len D rfl rfl rfl rfl rfl rfl) rfl ?_
  refine q1 20 146 4 rfl rfl (T_make D (zx := (0 : Int)) (enc := eI) rfl rfl rfl rfl rfl rfl rfl (.v rfl (.nil)) rfl (by (try simp only [ty3]); first | assumption | omega | (have q1 := from_in hv (k := j) (by omega) (L := (srcR (nextL f) (reachL f) (j : Int) f.blocks.length)) rfl (by omega); omega) | (simp only [List.length_append, List.length_map, List.length_take, List.length_range, List.length_replicate, List.length_set]; omega) | (simp; omega)) (by (try simp only [ty3]); first | assumption | omega | (have q1 := from_in hv (k := j) (by omega) (L := (srcR (nextL f) (reachL f) (j : Int) f.blocks.length)) rfl (by omega); omega) | (simp only [List.length_append, List.length_map, List.length_take, List.length_range, List.length_replicate, List.length_set]; omega) | (simp; omega))) rfl ?_
  refine q0 4 162 5 rfl rfl (T_assign rfl rfl) rfl ?_
  refine k_done rfl ?_
  refine thenK_n ?_
  refine W_seq ?_
  refine W_seq ?_
  refine W_seqK (b' := 194) rfl rfl ?_
  refine q0 5 178 1 rfl rfl (T_assign rfl rfl) rfl ?_
  refine k_done rfl ?_
  refine thenK_n ?_
  refine W_block ?_
  refine W_loop (ι := Nat) 5 (fun j => ⟨[(1, .p 2 0), (3, .r 3), (4, .r 4), (5, .v (.int .i64 (j : Int)))], [(1, .fz 5 (f.blocks.map eBlock)), (2, .box 29 [.v (.int .i64 f.regs), .r 1]), (3, .fz 1 ((reachL f).map eB)), (4, .row 3 1 ((((List.range f.blocks.length).take j).map (takenAt f (reachL f) (fromL f)) ++ List.replicate (f.blocks.length - j) 0).map eI))]⟩) (fun j => j ≤ f.blocks.length) (fun j => f.blocks.length - j) (0) (by exact Nat.zero_le _) ?_ (fun j hJ => ?_)
  · exact ⟨[(2, 2), (3, 66), (4, 146)], .same rfl rfl (.same rfl rfl (.same rfl rfl (.eq rfl (.nil) (by first | rfl | simp)))), .fzE rfl (.box (by first | rfl | simp) (.lendE rfl (.rowE rfl (.nil) (by first | rfl | simp)) (by first | rfl | simp))) (by first | rfl | simp), rfl⟩
  refine W_seq ?_
  refine W_seq ?_
  refine W_seqK (b' := 85) rfl rfl ?_
  refine q0 21 5 1 rfl rfl (T_move rfl rfl) rfl ?_
  refine q0 22 21 2 rfl rfl (T_fa D (m := 1) rfl rfl rfl rfl rfl rfl) rfl ?_
  refine q0 23 37 3 rfl rfl (T_load_b D rfl rfl rfl rfl rfl rfl) rfl ?_
  refine q0 24 53 4 rfl rfl (T_len D rfl rfl rfl rfl rfl rfl) rfl ?_
  refine q0 25 69 5 rfl rfl (T_cmp rfl rfl rfl rfl) rfl ?_
  refine k_done rfl ?_
  refine thenK_n ?_
  refine W_cond rfl (fun g1 => ?_) (fun g1 => ?_)
  · have h1 := c_lss_t g1
    refine W_skip ?_
    refine thenK_n ?_
    refine W_seq ?_
    refine W_block ?_
    refine W_seq ?_
    refine W_seqK (b' := 229) rfl rfl ?_
    refine q0 29 85 1 rfl rfl (T_load_bA D (l := [_, _]) rfl rfl rfl rfl rfl rfl rfl) rfl ?_
    refine q0 30 101 2 rfl rfl (T_move rfl rfl) rfl ?_
    refine q0 31 117 3 rfl rfl (T_move rfl rfl) rfl ?_
    refine qn 32 133 4 rfl rfl (T_call (lvs := [_, _, _]) (L := [(1, 1), (2, 3)]) (lv := .tup [.v _, .v _]) (upd := []) (nn := 0) false (in_spec f (reachL f) (j : Int) (by omega) hrl) body115 rfl rfl rfl rfl (.fz rfl (.fz rfl (.nil))) rfl (.inl rfl) rfl rfl rfl) rfl ?_
    refine q0 28 149 5 rfl rfl (T_move rfl rfl) rfl ?_
    refine q0 33 165 6 rfl rfl (T_extract rfl rfl rfl) rfl ?_
    refine q0 34 181 7 rfl rfl (T_extract rfl rfl rfl) rfl ?_
    refine q0 6 197 8 rfl rfl (T_assign rfl rfl) rfl ?_
    refine q0 7 213 9 rfl rfl (T_assign rfl rfl) rfl ?_
    refine k_done rfl ?_
    refine thenK_n ?_
    refine W_seq ?_
    refine W_seqK (b' := 293) rfl rfl ?_
    refine q0 35 229 1 rfl rfl (T_move rfl rfl) rfl ?_
    refine q0 36 245 2 rfl rfl (T_move rfl rfl) rfl ?_
    first | refine q0 37 261 3 rfl rfl (T_indexAddr D rfl rfl rfl rfl rfl rfl rfl rfl (by first | assumption | omega | (have q1 := from_in hv (k := j) (by omega) (L := (srcR (nextL f) (reachL f) (j : Int) f.blocks.length)) rfl (by omega); omega) | (simp only [List.length_append, List.length_map, List.length_take, List.length_range, List.length_replicate, List.length_set]; omega) | (simp; omega))) rfl ?_ | refine q0 37 261 3 rfl rfl (T_indexAddrZ D rfl rfl rfl rfl rfl rfl rfl rfl (by first | assumption | omega | (have q1 := from_in hv (k := j) (by omega) (L := (srcR (nextL f) (reachL f) (j : Int) f.blocks.length)) rfl (by omega); omega) | (simp only [List.length_append, List.length_map, List.length_take, List.length_range, List.length_replicate, List.length_set]; omega) | (simp; omega)) (by first | assumption | omega | (have q1 := from_in hv (k := j) (by omega) (L := (srcR (nextL f) (reachL f) (j : Int) f.blocks.length)) rfl (by omega); omega) | (simp only [List.length_append, List.length_map, List.length_take, List.length_range, List.length_replicate, List.length_set]; omega) | (simp; omega))) rfl ?_
    refine s1 277 4 rfl rfl (T_store_e D (z := _) rfl rfl rfl rfl (flat_v rfl) rfl rfl (by first | assumption | omega | (have q1 := from_in hv (k := j) (by omega) (L := (srcR (nextL f) (reachL f) (j : Int) f.blocks.length)) rfl (by omega); omega) | (simp only [List.length_append, List.length_map, List.length_take, List.length_range, List.length_replicate, List.length_set]; omega) | (simp; omega)) (.v rfl (.nil)) rfl (Nat.le_of_ble_eq_true rfl) rfl) rfl ?_
    refine k_done rfl ?_
    refine thenK_n ?_
    refine W_seq ?_
    refine W_seqK (b' := 709) rfl rfl ?_
    refine q0 38 293 1 rfl rfl (T_move rfl rfl) rfl ?_
    refine q0 39 309 2 rfl rfl (T_cmp rfl rfl rfl rfl) rfl ?_
    refine q0 40 325 3 rfl rfl (T_move rfl rfl) rfl ?_
    refine k_split (d := 40) rfl (fun g2 => ?_) (fun g2 => ?_)
    · have h2 := c_gtr_t g2
      refine k_op0 (d := 41) (b := 341) (j' := 4) rfl rfl rfl rfl (g_tt rfl rfl rfl g2) (T_move rfl rfl) rfl ?_
      refine k_op0 (d := 42) (b := 357) (j' := 5) rfl rfl rfl rfl (g_tt rfl rfl rfl g2) (T_move rfl rfl) rfl ?_
      first | refine k_op0 (d := 43) (b := 373) (j' := 6) rfl rfl rfl rfl (g_tt rfl rfl rfl g2) (T_indexAddr D rfl rfl rfl rfl rfl rfl rfl rfl (by first | assumption | omega | (have q1 := from_in hv (k := j) (by omega) (L := (srcR (nextL f) (reachL f) (j : Int) f.blocks.length)) rfl (by omega); omega) | (simp only [List.length_append, List.length_map, List.length_take, List.length_range, List.length_replicate, List.length_set]; omega) | (simp; omega))) rfl ?_ | refine k_op0 (d := 43) (b := 373) (j' := 6) rfl rfl rfl rfl (g_tt rfl rfl rfl g2) (T_indexAddrZ D rfl rfl rfl rfl rfl rfl rfl rfl (by first | assumption | omega | (have q1 := from_in hv (k := j) (by omega) (L := (srcR (nextL f) (reachL f) (j : Int) f.blocks.length)) rfl (by omega); omega) | (simp only [List.length_append, List.length_map, List.length_take, List.length_range, List.length_replicate, List.length_set]; omega) | (simp; omega)) (by first | assumption | omega | (have q1 := from_in hv (k := j) (by omega) (L := (srcR (nextL f) (reachL f) (j : Int) f.blocks.length)) rfl (by omega); omega) | (simp only [List.length_append, List.length_map, List.length_take, List.length_range, List.length_replicate, List.length_set]; omega) | (simp; omega))) rfl ?_
      refine k_op0 (d := 44) (b := 389) (j' := 7) rfl rfl rfl rfl (g_tt rfl rfl rfl g2) (T_ldE D (lv := .v _) (nn := 0) (upd := []) rfl rfl rfl rfl rfl (by first | assumption | omega | (have q1 := from_in hv (k := j) (by omega) (L := (srcR (nextL f) (reachL f) (j : Int) f.blocks.length)) rfl (by omega); omega) | (simp only [List.length_append, List.length_map, List.length_take, List.length_range, List.length_replicate, List.length_set]; omega) | (simp; omega)) rfl rfl rfl rfl) rfl ?_
      refine q0 45 405 8 rfl rfl (T_pick_t rfl rfl rfl g2) rfl ?_
      refine q0 46 421 9 rfl rfl (T_move rfl rfl) rfl ?_
      refine k_split (d := 46) rfl (fun g3 => ?_) (fun g3 => ?_)
      · have h3 := g3; (try simp only [cmpB, decide_eq_true_eq, decide_eq_false_iff_not, beq_iff_eq, beq_eq_false_iff_ne, bne_iff_ne, ne_eq, bne_eq_false_iff_eq, Bool.not_eq_true', Bool.not_eq_false', Int.not_lt, Int.not_le] at h3)
        refine k_op0 (d := 47) (b := 437) (j' := 10) rfl rfl rfl rfl (g_tt rfl rfl rfl g3) (T_move rfl rfl) rfl ?_
        refine k_op0 (d := 48) (b := 453) (j' := 11) rfl rfl rfl rfl (g_tt rfl rfl rfl g3) (T_cmp rfl rfl rfl rfl) rfl ?_
        refine q0 49 469 12 rfl rfl (T_pick_t rfl rfl rfl g3) rfl ?_
        refine q0 50 485 13 rfl rfl (T_move rfl rfl) rfl ?_
        refine k_split (d := 50) rfl (fun g4 => ?_) (fun g4 => ?_)
        · have h4 := c_eql_t g4
          refine k_op0 (d := 51) (b := 501) (j' := 14) rfl rfl rfl rfl (g_tt rfl rfl rfl g4) (T_move rfl rfl) rfl ?_
          refine k_op0 (d := 52) (b := 517) (j' := 15) rfl rfl rfl rfl (g_tt rfl rfl rfl g4) (T_move rfl rfl) rfl ?_
          refine k_op0 (d := 53) (b := 533) (j' := 16) rfl rfl rfl rfl (g_tt rfl rfl rfl g4) (T_cmp rfl rfl rfl rfl) rfl ?_
          refine q0 54 549 17 rfl rfl (T_pick_t rfl rfl rfl g4) rfl ?_
          refine q0 55 565 18 rfl rfl (T_move rfl rfl) rfl ?_
          refine k_split (d := 55) rfl (fun g5 => ?_) (fun g5 => ?_)
          · have h5 := c_neq_t g5
            refine k_op0 (d := 56) (b := 581) (j' := 19) rfl rfl rfl rfl (g_tt rfl rfl rfl g5) (T_fa D (m := 1) rfl rfl rfl rfl rfl rfl) rfl ?_
            refine k_op0 (d := 57) (b := 597) (j' := 20) rfl rfl rfl rfl (g_tt rfl rfl rfl g5) (T_load_b D rfl rfl rfl rfl rfl rfl) rfl ?_
            refine k_op0 (d := 58) (b := 613) (j' := 21) rfl rfl rfl rfl (g_tt rfl rfl rfl g5) (T_move rfl rfl) rfl ?_
            first | refine k_op0 (d := 59) (b := 629) (j' := 22) rfl rfl rfl rfl (g_tt rfl rfl rfl g5) (T_indexAddr D rfl rfl rfl rfl rfl rfl rfl rfl (by first | assumption | omega | (have q1 := from_in hv (k := j) (by omega) (L := (srcR (nextL f) (reachL f) (j : Int) f.blocks.length)) rfl (by omega); omega) | (simp only [List.length_append, List.length_map, List.length_take, List.length_range, List.length_replicate, List.length_set]; omega) | (simp; omega))) rfl ?_ | refine k_op0 (d := 59) (b := 629) (j' := 22) rfl rfl rfl rfl (g_tt rfl rfl rfl g5) (T_indexAddrZ D rfl rfl rfl rfl rfl rfl rfl rfl (by first | assumption | omega | (have q1 := from_in hv (k := j) (by omega) (L := (srcR (nextL f) (reachL f) (j : Int) f.blocks.length)) rfl (by omega); omega) | (simp only [List.length_append, List.length_map, List.length_take, List.length_range, List.length_replicate, List.length_set]; omega) | (simp; omega)) (by first | assumption | omega | (have q1 := from_in hv (k := j) (by omega) (L := (srcR (nextL f) (reachL f) (j : Int) f.blocks.length)) rfl (by omega); omega) | (simp only [List.length_append, List.length_map, List.length_take, List.length_range, List.length_replicate, List.length_set]; omega) | (simp; omega))) rfl ?_
            refine k_op0 (d := 60) (b := 645) (j' := 23) rfl rfl rfl rfl (g_tt rfl rfl rfl g5) (T_fae D (m := 1) rfl rfl rfl rfl rfl rfl) rfl ?_
            refine k_op0 (d := 61) (b := 661) (j' := 24) rfl rfl rfl rfl (g_tt rfl rfl rfl g5) (T_ldE D (lv := .v _) (nn := 0) (upd := []) rfl rfl rfl rfl rfl (by first | assumption | omega | (have q1 := from_in hv (k := j) (by omega) (L := (srcR (nextL f) (reachL f) (j : Int) f.blocks.length)) rfl (by omega); omega) | (simp only [List.length_append, List.length_map, List.length_take, List.length_range, List.length_replicate, List.length_set]; omega) | (simp; omega)) rfl rfl rfl rfl) rfl ?_
            refine k_op0 (d := 62) (b := 677) (j' := 25) rfl rfl rfl rfl (g_tt rfl rfl rfl g5) (T_cmp rfl rfl rfl rfl) rfl ?_
            refine q0 63 693 26 rfl rfl (T_pick_t rfl rfl rfl g5) rfl ?_
            refine k_done rfl ?_
            refine thenK_n ?_
            refine W_cond rfl (fun g6 => ?_) (fun g6 => ?_)
            · have h6 := c_eql_t g6
              refine W_seqK (b' := 789) rfl rfl ?_
              refine q0 64 709 1 rfl rfl (T_move rfl rfl) rfl ?_
              refine q0 65 725 2 rfl rfl (T_move rfl rfl) rfl ?_
              refine q0 66 741 3 rfl rfl (T_move rfl rfl) rfl ?_
              first | refine q0 67 757 4 rfl rfl (T_indexAddr D rfl rfl rfl rfl rfl rfl rfl rfl (by first | assumption | omega | (have q1 := from_in hv (k := j) (by omega) (L := (srcR (nextL f) (reachL f) (j : Int) f.blocks.length)) rfl (by omega); omega) | (simp only [List.length_append, List.length_map, List.length_take, List.length_range, List.length_replicate, List.length_set]; omega) | (simp; omega))) rfl ?_ | refine q0 67 757 4 rfl rfl (T_indexAddrZ D rfl rfl rfl rfl rfl rfl rfl rfl (by first | assumption | omega | (have q1 := from_in hv (k := j) (by omega) (L := (srcR (nextL f) (reachL f) (j : Int) f.blocks.length)) rfl (by omega); omega) | (simp only [List.length_append, List.length_map, List.length_take, List.length_range, List.length_replicate, List.length_set]; omega) | (simp; omega)) (by first | assumption | omega | (have q1 := from_in hv (k := j) (by omega) (L := (srcR (nextL f) (reachL f) (j : Int) f.blocks.length)) rfl (by omega); omega) | (simp only [List.length_append, List.length_map, List.length_take, List.length_range, List.length_replicate, List.length_set]; omega) | (simp; omega))) rfl ?_
              refine s1 773 5 rfl rfl (T_store_e D (z := _) rfl rfl rfl rfl (flat_v rfl) rfl rfl (by first | assumption | omega | (have q1 := from_in hv (k := j) (by omega) (L := (srcR (nextL f) (reachL f) (j : Int) f.blocks.length)) rfl (by omega); omega) | (simp only [List.length_append, List.length_map, List.length_take, List.length_range, List.length_replicate, List.length_set]; omega) | (simp; omega)) (.v rfl (.nil)) rfl (Nat.le_of_ble_eq_true rfl) rfl) rfl ?_
              refine k_done rfl ?_
              refine blockK_n ?_
              refine thenK_n ?_
              refine W_seqK (b' := 837) rfl rfl ?_
              refine q0 26 789 1 rfl rfl (T_move rfl rfl) rfl ?_
              refine q0 27 805 2 rfl rfl (T_add64 rfl rfl rfl (by first | assumption | omega | (have q1 := from_in hv (k := j) (by omega) (L := (srcR (nextL f) (reachL f) (j : Int) f.blocks.length)) rfl (by omega); omega) | (simp only [List.length_append, List.length_map, List.length_take, List.length_range, List.length_replicate, List.length_set]; omega) | (simp; omega))) rfl ?_
              refine q0 5 821 3 rfl rfl (T_assign rfl rfl) rfl ?_
              refine k_done rfl ?_
              refine thenK_n ?_
              refine ⟨j + 1, by (try dsimp only); omega, by (try dsimp only); omega, ?_⟩
              exact ⟨[(2, 2), (3, 3), (4, 4)], .same rfl rfl (.same rfl rfl (.same rfl rfl (.eq rfl (.nil) (by first | rfl | ((try simp only [List.set_set]); exact congrArg (List.map eI) (row_step (F := takenAt f (reachL f) (fromL f)) (n := f.blocks.length) (j := j) (by omega) (taken_yes hv (by omega) (L := (srcR (nextL f) (reachL f) (j : Int) f.blocks.length)) rfl (by omega) (by assumption) (by omega) (by omega) (by assumption)))) | ((try simp only [List.set_set]); exact congrArg (List.map eI) (row_step (F := takenAt f (reachL f) (fromL f)) (n := f.blocks.length) (j := j) (by omega) (taken_no hv (by omega) (L := (srcR (nextL f) (reachL f) (j : Int) f.blocks.length)) rfl (by rintro ⟨a1, a2, a3, a4, a5⟩; first | omega | exact absurd (a2.symm.trans (by assumption : _ = false)) (by decide) | exact absurd a5 (by assumption))))))))), .fzE rfl (.box (by first | rfl | ((try simp only [List.set_set]); exact congrArg (List.map eI) (row_step (F := takenAt f (reachL f) (fromL f)) (n := f.blocks.length) (j := j) (by omega) (taken_yes hv (by omega) (L := (srcR (nextL f) (reachL f) (j : Int) f.blocks.length)) rfl (by omega) (by assumption) (by omega) (by omega) (by assumption)))) | ((try simp only [List.set_set]); exact congrArg (List.map eI) (row_step (F := takenAt f (reachL f) (fromL f)) (n := f.blocks.length) (j := j) (by omega) (taken_no hv (by omega) (L := (srcR (nextL f) (reachL f) (j : Int) f.blocks.length)) rfl (by rintro ⟨a1, a2, a3, a4, a5⟩; first | omega | exact absurd (a2.symm.trans (by assumption : _ = false)) (by decide) | exact absurd a5 (by assumption)))))) (.fzE rfl (.rowE rfl (.nil) (by first | rfl | ((try simp only [List.set_set]); exact congrArg (List.map eI) (row_step (F := takenAt f (reachL f) (fromL f)) (n := f.blocks.length) (j := j) (by omega) (taken_yes hv (by omega) (L := (srcR (nextL f) (reachL f) (j : Int) f.blocks.length)) rfl (by omega) (by assumption) (by omega) (by omega) (by assumption)))) | ((try simp only [List.set_set]); exact congrArg (List.map eI) (row_step (F := takenAt f (reachL f) (fromL f)) (n := f.blocks.length) (j := j) (by omega) (taken_no hv (by omega) (L := (srcR (nextL f) (reachL f) (j : Int) f.blocks.length)) rfl (by rintro ⟨a1, a2, a3, a4, a5⟩; first | omega | exact absurd (a2.symm.trans (by assumption : _ = false)) (by decide) | exact absurd a5 (by assumption))))))) rfl)) rfl, rfl⟩
            · have h6 := c_eql_f g6
              refine W_skip ?_
              refine blockK_n ?_
              refine thenK_n ?_
              refine W_seqK (b' := 757) rfl rfl ?_
              refine q0 26 709 1 rfl rfl (T_move rfl rfl) rfl ?_
              refine q0 27 725 2 rfl rfl (T_add64 rfl rfl rfl (by first | assumption | omega | (have q1 := from_in hv (k := j) (by omega) (L := (srcR (nextL f) (reachL f) (j : Int) f.blocks.length)) rfl (by omega); omega) | (simp only [List.length_append, List.length_map, List.length_take, List.length_range, List.length_replicate, List.length_set]; omega) | (simp; omega))) rfl ?_
              refine q0 5 741 3 rfl rfl (T_assign rfl rfl) rfl ?_
              refine k_done rfl ?_
              refine thenK_n ?_
              refine ⟨j + 1, by (try dsimp only); omega, by (try dsimp only); omega, ?_⟩
              exact ⟨[(2, 2), (3, 3), (4, 4)], .same rfl rfl (.same rfl rfl (.same rfl rfl (.eq rfl (.nil) (by first | rfl | ((try simp only [List.set_set]); exact congrArg (List.map eI) (row_step (F := takenAt f (reachL f) (fromL f)) (n := f.blocks.length) (j := j) (by omega) (taken_yes hv (by omega) (L := (srcR (nextL f) (reachL f) (j : Int) f.blocks.length)) rfl (by omega) (by assumption) (by omega) (by omega) (by assumption)))) | ((try simp only [List.set_set]); exact congrArg (List.map eI) (row_step (F := takenAt f (reachL f) (fromL f)) (n := f.blocks.length) (j := j) (by omega) (taken_no hv (by omega) (L := (srcR (nextL f) (reachL f) (j : Int) f.blocks.length)) rfl (by rintro ⟨a1, a2, a3, a4, a5⟩; first | omega | exact absurd (a2.symm.trans (by assumption : _ = false)) (by decide) | exact absurd a5 (by assumption))))))))), .fzE rfl (.box (by first | rfl | ((try simp only [List.set_set]); exact congrArg (List.map eI) (row_step (F := takenAt f (reachL f) (fromL f)) (n := f.blocks.length) (j := j) (by omega) (taken_yes hv (by omega) (L := (srcR (nextL f) (reachL f) (j : Int) f.blocks.length)) rfl (by omega) (by assumption) (by omega) (by omega) (by assumption)))) | ((try simp only [List.set_set]); exact congrArg (List.map eI) (row_step (F := takenAt f (reachL f) (fromL f)) (n := f.blocks.length) (j := j) (by omega) (taken_no hv (by omega) (L := (srcR (nextL f) (reachL f) (j : Int) f.blocks.length)) rfl (by rintro ⟨a1, a2, a3, a4, a5⟩; first | omega | exact absurd (a2.symm.trans (by assumption : _ = false)) (by decide) | exact absurd a5 (by assumption)))))) (.fzE rfl (.rowE rfl (.nil) (by first | rfl | ((try simp only [List.set_set]); exact congrArg (List.map eI) (row_step (F := takenAt f (reachL f) (fromL f)) (n := f.blocks.length) (j := j) (by omega) (taken_yes hv (by omega) (L := (srcR (nextL f) (reachL f) (j : Int) f.blocks.length)) rfl (by omega) (by assumption) (by omega) (by omega) (by assumption)))) | ((try simp only [List.set_set]); exact congrArg (List.map eI) (row_step (F := takenAt f (reachL f) (fromL f)) (n := f.blocks.length) (j := j) (by omega) (taken_no hv (by omega) (L := (srcR (nextL f) (reachL f) (j : Int) f.blocks.length)) rfl (by rintro ⟨a1, a2, a3, a4, a5⟩; first | omega | exact absurd (a2.symm.trans (by assumption : _ = false)) (by decide) | exact absurd a5 (by assumption))))))) rfl)) rfl, rfl⟩
          · have h5 := c_neq_f g5
            refine k_no (d := 56) (j' := 19) rfl rfl rfl (g_tf rfl rfl rfl g5) ?_
            refine k_no (d := 57) (j' := 20) rfl rfl rfl (g_tf rfl rfl rfl g5) ?_
            refine k_no (d := 58) (j' := 21) rfl rfl rfl (g_tf rfl rfl rfl g5) ?_
            refine k_no (d := 59) (j' := 22) rfl rfl rfl (g_tf rfl rfl rfl g5) ?_
            refine k_no (d := 60) (j' := 23) rfl rfl rfl (g_tf rfl rfl rfl g5) ?_
            refine k_no (d := 61) (j' := 24) rfl rfl rfl (g_tf rfl rfl rfl g5) ?_
            refine k_no (d := 62) (j' := 25) rfl rfl rfl (g_tf rfl rfl rfl g5) ?_
            refine q0 63 693 26 rfl rfl (T_pick_f rfl rfl rfl g5) rfl ?_
            refine k_done rfl ?_
            refine thenK_n ?_
            refine W_cond rfl (fun g7 => ?_) (fun g7 => ?_)
            · exact absurd (g7.symm.trans rfl) (by decide)
            · skip
              refine W_skip ?_
              refine blockK_n ?_
              refine thenK_n ?_
              refine W_seqK (b' := 757) rfl rfl ?_
              refine q0 26 709 1 rfl rfl (T_move rfl rfl) rfl ?_
              refine q0 27 725 2 rfl rfl (T_add64 rfl rfl rfl (by first | assumption | omega | (have q1 := from_in hv (k := j) (by omega) (L := (srcR (nextL f) (reachL f) (j : Int) f.blocks.length)) rfl (by omega); omega) | (simp only [List.length_append, List.length_map, List.length_take, List.length_range, List.length_replicate, List.length_set]; omega) | (simp; omega))) rfl ?_
              refine q0 5 741 3 rfl rfl (T_assign rfl rfl) rfl ?_
              refine k_done rfl ?_
              refine thenK_n ?_
              refine ⟨j + 1, by (try dsimp only); omega, by (try dsimp only); omega, ?_⟩
              exact ⟨[(2, 2), (3, 3), (4, 4)], .same rfl rfl (.same rfl rfl (.same rfl rfl (.eq rfl (.nil) (by first | rfl | ((try simp only [List.set_set]); exact congrArg (List.map eI) (row_step (F := takenAt f (reachL f) (fromL f)) (n := f.blocks.length) (j := j) (by omega) (taken_yes hv (by omega) (L := (srcR (nextL f) (reachL f) (j : Int) f.blocks.length)) rfl (by omega) (by assumption) (by omega) (by omega) (by assumption)))) | ((try simp only [List.set_set]); exact congrArg (List.map eI) (row_step (F := takenAt f (reachL f) (fromL f)) (n := f.blocks.length) (j := j) (by omega) (taken_no hv (by omega) (L := (srcR (nextL f) (reachL f) (j : Int) f.blocks.length)) rfl (by rintro ⟨a1, a2, a3, a4, a5⟩; first | omega | exact absurd (a2.symm.trans (by assumption : _ = false)) (by decide) | exact absurd a5 (by assumption))))))))), .fzE rfl (.box (by first | rfl | ((try simp only [List.set_set]); exact congrArg (List.map eI) (row_step (F := takenAt f (reachL f) (fromL f)) (n := f.blocks.length) (j := j) (by omega) (taken_yes hv (by omega) (L := (srcR (nextL f) (reachL f) (j : Int) f.blocks.length)) rfl (by omega) (by assumption) (by omega) (by omega) (by assumption)))) | ((try simp only [List.set_set]); exact congrArg (List.map eI) (row_step (F := takenAt f (reachL f) (fromL f)) (n := f.blocks.length) (j := j) (by omega) (taken_no hv (by omega) (L := (srcR (nextL f) (reachL f) (j : Int) f.blocks.length)) rfl (by rintro ⟨a1, a2, a3, a4, a5⟩; first | omega | exact absurd (a2.symm.trans (by assumption : _ = false)) (by decide) | exact absurd a5 (by assumption)))))) (.fzE rfl (.rowE rfl (.nil) (by first | rfl | ((try simp only [List.set_set]); exact congrArg (List.map eI) (row_step (F := takenAt f (reachL f) (fromL f)) (n := f.blocks.length) (j := j) (by omega) (taken_yes hv (by omega) (L := (srcR (nextL f) (reachL f) (j : Int) f.blocks.length)) rfl (by omega) (by assumption) (by omega) (by omega) (by assumption)))) | ((try simp only [List.set_set]); exact congrArg (List.map eI) (row_step (F := takenAt f (reachL f) (fromL f)) (n := f.blocks.length) (j := j) (by omega) (taken_no hv (by omega) (L := (srcR (nextL f) (reachL f) (j : Int) f.blocks.length)) rfl (by rintro ⟨a1, a2, a3, a4, a5⟩; first | omega | exact absurd (a2.symm.trans (by assumption : _ = false)) (by decide) | exact absurd a5 (by assumption))))))) rfl)) rfl, rfl⟩
        · have h4 := c_eql_f g4
          refine k_no (d := 51) (j' := 14) rfl rfl rfl (g_tf rfl rfl rfl g4) ?_
          refine k_no (d := 52) (j' := 15) rfl rfl rfl (g_tf rfl rfl rfl g4) ?_
          refine k_no (d := 53) (j' := 16) rfl rfl rfl (g_tf rfl rfl rfl g4) ?_
          refine q0 54 549 17 rfl rfl (T_pick_f rfl rfl rfl g4) rfl ?_
          refine q0 55 565 18 rfl rfl (T_move rfl rfl) rfl ?_
          refine k_no (d := 56) (j' := 19) rfl rfl rfl (g_tf rfl rfl rfl rfl) ?_
          refine k_no (d := 57) (j' := 20) rfl rfl rfl (g_tf rfl rfl rfl rfl) ?_
          refine k_no (d := 58) (j' := 21) rfl rfl rfl (g_tf rfl rfl rfl rfl) ?_
          refine k_no (d := 59) (j' := 22) rfl rfl rfl (g_tf rfl rfl rfl rfl) ?_
          refine k_no (d := 60) (j' := 23) rfl rfl rfl (g_tf rfl rfl rfl rfl) ?_
          refine k_no (d := 61) (j' := 24) rfl rfl rfl (g_tf rfl rfl rfl rfl) ?_
          refine k_no (d := 62) (j' := 25) rfl rfl rfl (g_tf rfl rfl rfl rfl) ?_
          refine q0 63 693 26 rfl rfl (T_pick_f rfl rfl rfl rfl) rfl ?_
          refine k_done rfl ?_
          refine thenK_n ?_
          refine W_cond rfl (fun g8 => ?_) (fun g8 => ?_)
          · exact absurd (g8.symm.trans rfl) (by decide)
          · skip
            refine W_skip ?_
            refine blockK_n ?_
            refine thenK_n ?_
            refine W_seqK (b' := 757) rfl rfl ?_
            refine q0 26 709 1 rfl rfl (T_move rfl rfl) rfl ?_
            refine q0 27 725 2 rfl rfl (T_add64 rfl rfl rfl (by first | assumption | omega | (have q1 := from_in hv (k := j) (by omega) (L := (srcR (nextL f) (reachL f) (j : Int) f.blocks.length)) rfl (by omega); omega) | (simp only [List.length_append, List.length_map, List.length_take, List.length_range, List.length_replicate, List.length_set]; omega) | (simp; omega))) rfl ?_
            refine q0 5 741 3 rfl rfl (T_assign rfl rfl) rfl ?_
            refine k_done rfl ?_
            refine thenK_n ?_
            refine ⟨j + 1, by (try dsimp only); omega, by (try dsimp only); omega, ?_⟩
            exact ⟨[(2, 2), (3, 3), (4, 4)], .same rfl rfl (.same rfl rfl (.same rfl rfl (.eq rfl (.nil) (by first | rfl | ((try simp only [List.set_set]); exact congrArg (List.map eI) (row_step (F := takenAt f (reachL f) (fromL f)) (n := f.blocks.length) (j := j) (by omega) (taken_yes hv (by omega) (L := (srcR (nextL f) (reachL f) (j : Int) f.blocks.length)) rfl (by omega) (by assumption) (by omega) (by omega) (by assumption)))) | ((try simp only [List.set_set]); exact congrArg (List.map eI) (row_step (F := takenAt f (reachL f) (fromL f)) (n := f.blocks.length) (j := j) (by omega) (taken_no hv (by omega) (L := (srcR (nextL f) (reachL f) (j : Int) f.blocks.length)) rfl (by rintro ⟨a1, a2, a3, a4, a5⟩; first | omega | exact absurd (a2.symm.trans (by assumption : _ = false)) (by decide) | exact absurd a5 (by assumption))))))))), .fzE rfl (.box (by first | rfl | ((try simp only [List.set_set]); exact congrArg (List.map eI) (row_step (F := takenAt f (reachL f) (fromL f)) (n := f.blocks.length) (j := j) (by omega) (taken_yes hv (by omega) (L := (srcR (nextL f) (reachL f) (j : Int) f.blocks.length)) rfl (by omega) (by assumption) (by omega) (by omega) (by assumption)))) | ((try simp only [List.set_set]); exact congrArg (List.map eI) (row_step (F := takenAt f (reachL f) (fromL f)) (n := f.blocks.length) (j := j) (by omega) (taken_no hv (by omega) (L := (srcR (nextL f) (reachL f) (j : Int) f.blocks.length)) rfl (by rintro ⟨a1, a2, a3, a4, a5⟩; first | omega | exact absurd (a2.symm.trans (by assumption : _ = false)) (by decide) | exact absurd a5 (by assumption)))))) (.fzE rfl (.rowE rfl (.nil) (by first | rfl | ((try simp only [List.set_set]); exact congrArg (List.map eI) (row_step (F := takenAt f (reachL f) (fromL f)) (n := f.blocks.length) (j := j) (by omega) (taken_yes hv (by omega) (L := (srcR (nextL f) (reachL f) (j : Int) f.blocks.length)) rfl (by omega) (by assumption) (by omega) (by omega) (by assumption)))) | ((try simp only [List.set_set]); exact congrArg (List.map eI) (row_step (F := takenAt f (reachL f) (fromL f)) (n := f.blocks.length) (j := j) (by omega) (taken_no hv (by omega) (L := (srcR (nextL f) (reachL f) (j : Int) f.blocks.length)) rfl (by rintro ⟨a1, a2, a3, a4, a5⟩; first | omega | exact absurd (a2.symm.trans (by assumption : _ = false)) (by decide) | exact absurd a5 (by assumption))))))) rfl)) rfl, rfl⟩
      · have h3 := g3; (try simp only [cmpB, decide_eq_true_eq, decide_eq_false_iff_not, beq_iff_eq, beq_eq_false_iff_ne, bne_iff_ne, ne_eq, bne_eq_false_iff_eq, Bool.not_eq_true', Bool.not_eq_false', Int.not_lt, Int.not_le] at h3)
        refine k_no (d := 47) (j' := 10) rfl rfl rfl (g_tf rfl rfl rfl g3) ?_
        refine k_no (d := 48) (j' := 11) rfl rfl rfl (g_tf rfl rfl rfl g3) ?_
        refine q0 49 469 12 rfl rfl (T_pick_f rfl rfl rfl g3) rfl ?_
        refine q0 50 485 13 rfl rfl (T_move rfl rfl) rfl ?_
        refine k_no (d := 51) (j' := 14) rfl rfl rfl (g_tf rfl rfl rfl rfl) ?_
        refine k_no (d := 52) (j' := 15) rfl rfl rfl (g_tf rfl rfl rfl rfl) ?_
        refine k_no (d := 53) (j' := 16) rfl rfl rfl (g_tf rfl rfl rfl rfl) ?_
        refine q0 54 549 17 rfl rfl (T_pick_f rfl rfl rfl rfl) rfl ?_
        refine q0 55 565 18 rfl rfl (T_move rfl rfl) rfl ?_
        refine k_no (d := 56) (j' := 19) rfl rfl rfl (g_tf rfl rfl rfl rfl) ?_
        refine k_no (d := 57) (j' := 20) rfl rfl rfl (g_tf rfl rfl rfl rfl) ?_
        refine k_no (d := 58) (j' := 21) rfl rfl rfl (g_tf rfl rfl rfl rfl) ?_
        refine k_no (d := 59) (j' := 22) rfl rfl rfl (g_tf rfl rfl rfl rfl) ?_
        refine k_no (d := 60) (j' := 23) rfl rfl rfl (g_tf rfl rfl rfl rfl) ?_
        refine k_no (d := 61) (j' := 24) rfl rfl rfl (g_tf rfl rfl rfl rfl) ?_
        refine k_no (d := 62) (j' := 25) rfl rfl rfl (g_tf rfl rfl rfl rfl) ?_
        refine q0 63 693 26 rfl rfl (T_pick_f rfl rfl rfl rfl) rfl ?_
        refine k_done rfl ?_
        refine thenK_n ?_
        refine W_cond rfl (fun g9 => ?_) (fun g9 => ?_)
        · exact absurd (g9.symm.trans rfl) (by decide)
        · skip
          refine W_skip ?_
          refine blockK_n ?_
          refine thenK_n ?_
          refine W_seqK (b' := 757) rfl rfl ?_
          refine q0 26 709 1 rfl rfl (T_move rfl rfl) rfl ?_
          refine q0 27 725 2 rfl rfl (T_add64 rfl rfl rfl (by first | assumption | omega | (have q1 := from_in hv (k := j) (by omega) (L := (srcR (nextL f) (reachL f) (j : Int) f.blocks.length)) rfl (by omega); omega) | (simp only [List.length_append, List.length_map, List.length_take, List.length_range, List.length_replicate, List.length_set]; omega) | (simp; omega))) rfl ?_
          refine q0 5 741 3 rfl rfl (T_assign rfl rfl) rfl ?_
          refine k_done rfl ?_
          refine thenK_n ?_
          refine ⟨j + 1, by (try dsimp only); omega, by (try dsimp only); omega, ?_⟩
          exact ⟨[(2, 2), (3, 3), (4, 4)], .same rfl rfl (.same rfl rfl (.same rfl rfl (.eq rfl (.nil) (by first | rfl | ((try simp only [List.set_set]); exact congrArg (List.map eI) (row_step (F := takenAt f (reachL f) (fromL f)) (n := f.blocks.length) (j := j) (by omega) (taken_yes hv (by omega) (L := (srcR (nextL f) (reachL f) (j : Int) f.blocks.length)) rfl (by omega) (by assumption) (by omega) (by omega) (by assumption)))) | ((try simp only [List.set_set]); exact congrArg (List.map eI) (row_step (F := takenAt f (reachL f) (fromL f)) (n := f.blocks.length) (j := j) (by omega) (taken_no hv (by omega) (L := (srcR (nextL f) (reachL f) (j : Int) f.blocks.length)) rfl (by rintro ⟨a1, a2, a3, a4, a5⟩; first | omega | exact absurd (a2.symm.trans (by assumption : _ = false)) (by decide) | exact absurd a5 (by assumption))))))))), .fzE rfl (.box (by first | rfl | ((try simp only [List.set_set]); exact congrArg (List.map eI) (row_step (F := takenAt f (reachL f) (fromL f)) (n := f.blocks.length) (j := j) (by omega) (taken_yes hv (by omega) (L := (srcR (nextL f) (reachL f) (j : Int) f.blocks.length)) rfl (by omega) (by assumption) (by omega) (by omega) (by assumption)))) | ((try simp only [List.set_set]); exact congrArg (List.map eI) (row_step (F := takenAt f (reachL f) (fromL f)) (n := f.blocks.length) (j := j) (by omega) (taken_no hv (by omega) (L := (srcR (nextL f) (reachL f) (j : Int) f.blocks.length)) rfl (by rintro ⟨a1, a2, a3, a4, a5⟩; first | omega | exact absurd (a2.symm.trans (by assumption : _ = false)) (by decide) | exact absurd a5 (by assumption)))))) (.fzE rfl (.rowE rfl (.nil) (by first | rfl | ((try simp only [List.set_set]); exact congrArg (List.map eI) (row_step (F := takenAt f (reachL f) (fromL f)) (n := f.blocks.length) (j := j) (by omega) (taken_yes hv (by omega) (L := (srcR (nextL f) (reachL f) (j : Int) f.blocks.length)) rfl (by omega) (by assumption) (by omega) (by omega) (by assumption)))) | ((try simp only [List.set_set]); exact congrArg (List.map eI) (row_step (F := takenAt f (reachL f) (fromL f)) (n := f.blocks.length) (j := j) (by omega) (taken_no hv (by omega) (L := (srcR (nextL f) (reachL f) (j : Int) f.blocks.length)) rfl (by rintro ⟨a1, a2, a3, a4, a5⟩; first | omega | exact absurd (a2.symm.trans (by assumption : _ = false)) (by decide) | exact absurd a5 (by assumption))))))) rfl)) rfl, rfl⟩
    · have h2 := c_gtr_f g2
      refine k_no (d := 41) (j' := 4) rfl rfl rfl (g_tf rfl rfl rfl g2) ?_
      refine k_no (d := 42) (j' := 5) rfl rfl rfl (g_tf rfl rfl rfl g2) ?_
      refine k_no (d := 43) (j' := 6) rfl rfl rfl (g_tf rfl rfl rfl g2) ?_
      refine k_no (d := 44) (j' := 7) rfl rfl rfl (g_tf rfl rfl rfl g2) ?_
      refine q0 45 405 8 rfl rfl (T_pick_f rfl rfl rfl g2) rfl ?_
      refine q0 46 421 9 rfl rfl (T_move rfl rfl) rfl ?_
      refine k_no (d := 47) (j' := 10) rfl rfl rfl (g_tf rfl rfl rfl rfl) ?_
      refine k_no (d := 48) (j' := 11) rfl rfl rfl (g_tf rfl rfl rfl rfl) ?_
      refine q0 49 469 12 rfl rfl (T_pick_f rfl rfl rfl rfl) rfl ?_
      refine q0 50 485 13 rfl rfl (T_move rfl rfl) rfl ?_
      refine k_no (d := 51) (j' := 14) rfl rfl rfl (g_tf rfl rfl rfl rfl) ?_
      refine k_no (d := 52) (j' := 15) rfl rfl rfl (g_tf rfl rfl rfl rfl) ?_
      refine k_no (d := 53) (j' := 16) rfl rfl rfl (g_tf rfl rfl rfl rfl) ?_
      refine q0 54 549 17 rfl rfl (T_pick_f rfl rfl rfl rfl) rfl ?_
      refine q0 55 565 18 rfl rfl (T_move rfl rfl) rfl ?_
      refine k_no (d := 56) (j' := 19) rfl rfl rfl (g_tf rfl rfl rfl rfl) ?_
      refine k_no (d := 57) (j' := 20) rfl rfl rfl (g_tf rfl rfl rfl rfl) ?_
      refine k_no (d := 58) (j' := 21) rfl rfl rfl (g_tf rfl rfl rfl rfl) ?_
      refine k_no (d := 59) (j' := 22) rfl rfl rfl (g_tf rfl rfl rfl rfl) ?_
      refine k_no (d := 60) (j' := 23) rfl rfl rfl (g_tf rfl rfl rfl rfl) ?_
      refine k_no (d := 61) (j' := 24) rfl rfl rfl (g_tf rfl rfl rfl rfl) ?_
      refine k_no (d := 62) (j' := 25) rfl rfl rfl (g_tf rfl rfl rfl rfl) ?_
      refine q0 63 693 26 rfl rfl (T_pick_f rfl rfl rfl rfl) rfl ?_
      refine k_done rfl ?_
      refine thenK_n ?_
      refine W_cond rfl (fun g10 => ?_) (fun g10 => ?_)
      · exact absurd (g10.symm.trans rfl) (by decide)
      · skip
        refine W_skip ?_
        refine blockK_n ?_
        refine thenK_n ?_
        refine W_seqK (b' := 757) rfl rfl ?_
        refine q0 26 709 1 rfl rfl (T_move rfl rfl) rfl ?_
        refine q0 27 725 2 rfl rfl (T_add64 rfl rfl rfl (by first | assumption | omega | (have q1 := from_in hv (k := j) (by omega) (L := (srcR (nextL f) (reachL f) (j : Int) f.blocks.length)) rfl (by omega); omega) | (simp only [List.length_append, List.length_map, List.length_take, List.length_range, List.length_replicate, List.length_set]; omega) | (simp; omega))) rfl ?_
        refine q0 5 741 3 rfl rfl (T_assign rfl rfl) rfl ?_
        refine k_done rfl ?_
        refine thenK_n ?_
        refine ⟨j + 1, by (try dsimp only); omega, by (try dsimp only); omega, ?_⟩
        exact ⟨[(2, 2), (3, 3), (4, 4)], .same rfl rfl (.same rfl rfl (.same rfl rfl (.eq rfl (.nil) (by first | rfl | ((try simp only [List.set_set]); exact congrArg (List.map eI) (row_step (F := takenAt f (reachL f) (fromL f)) (n := f.blocks.length) (j := j) (by omega) (taken_yes hv (by omega) (L := (srcR (nextL f) (reachL f) (j : Int) f.blocks.length)) rfl (by omega) (by assumption) (by omega) (by omega) (by assumption)))) | ((try simp only [List.set_set]); exact congrArg (List.map eI) (row_step (F := takenAt f (reachL f) (fromL f)) (n := f.blocks.length) (j := j) (by omega) (taken_no hv (by omega) (L := (srcR (nextL f) (reachL f) (j : Int) f.blocks.length)) rfl (by rintro ⟨a1, a2, a3, a4, a5⟩; first | omega | exact absurd (a2.symm.trans (by assumption : _ = false)) (by decide) | exact absurd a5 (by assumption))))))))), .fzE rfl (.box (by first | rfl | ((try simp only [List.set_set]); exact congrArg (List.map eI) (row_step (F := takenAt f (reachL f) (fromL f)) (n := f.blocks.length) (j := j) (by omega) (taken_yes hv (by omega) (L := (srcR (nextL f) (reachL f) (j : Int) f.blocks.length)) rfl (by omega) (by assumption) (by omega) (by omega) (by assumption)))) | ((try simp only [List.set_set]); exact congrArg (List.map eI) (row_step (F := takenAt f (reachL f) (fromL f)) (n := f.blocks.length) (j := j) (by omega) (taken_no hv (by omega) (L := (srcR (nextL f) (reachL f) (j : Int) f.blocks.length)) rfl (by rintro ⟨a1, a2, a3, a4, a5⟩; first | omega | exact absurd (a2.symm.trans (by assumption : _ = false)) (by decide) | exact absurd a5 (by assumption)))))) (.fzE rfl (.rowE rfl (.nil) (by first | rfl | ((try simp only [List.set_set]); exact congrArg (List.map eI) (row_step (F := takenAt f (reachL f) (fromL f)) (n := f.blocks.length) (j := j) (by omega) (taken_yes hv (by omega) (L := (srcR (nextL f) (reachL f) (j : Int) f.blocks.length)) rfl (by omega) (by assumption) (by omega) (by omega) (by assumption)))) | ((try simp only [List.set_set]); exact congrArg (List.map eI) (row_step (F := takenAt f (reachL f) (fromL f)) (n := f.blocks.length) (j := j) (by omega) (taken_no hv (by omega) (L := (srcR (nextL f) (reachL f) (j : Int) f.blocks.length)) rfl (by rintro ⟨a1, a2, a3, a4, a5⟩; first | omega | exact absurd (a2.symm.trans (by assumption : _ = false)) (by decide) | exact absurd a5 (by assumption))))))) rfl)) rfl, rfl⟩
  · have h1 := c_lss_f g1
    refine W_exit ?_
    refine thenK_e ?_
    refine thenK_e ?_
    refine blockK_hit ?_
    refine thenK_n ?_
    refine W_seq ?_
    refine W_seqK (b' := 101) rfl rfl ?_
    refine q1 8 85 1 rfl rfl (T_nils [(52, 1)] (T_assign rfl rfl) rfl (.inr ⟨rfl, rfl⟩) (.cons (.nil rfl) .nil) (lv' := .r 85) (upd' := [(85, .row 52 1 (List.map eIs ([] : List (List Int))))]) (nn' := 1) rfl rfl) rfl ?_
    refine k_done rfl ?_
    refine thenK_n ?_
    refine W_seq ?_
    refine W_seq ?_
    refine W_seqK (b' := 117) rfl rfl ?_
    refine q0 9 101 1 rfl rfl (T_assign rfl rfl) rfl ?_
    refine k_done rfl ?_
    refine thenK_n ?_
    refine W_block ?_
    refine W_loop (ι := Nat) 6 (fun i => ⟨[(1, .p 2 0), (3, .r 3), (4, .r 4), (8, .r 5), (9, .v (.int .i64 (i : Int)))], [(1, .fz 5 (f.blocks.map eBlock)), (2, .box 29 [.v (.int .i64 f.regs), .r 1]), (3, .fz 1 ((reachL f).map eB)), (4, .fz 1 ((byL f).map eI)), (5, .row 52 1 ((pathsTo f i).map eIs))]⟩) (fun i => i ≤ f.blocks.length) (fun i => f.blocks.length - i) (0) (by exact Nat.zero_le _) ?_ (fun i hJ2 => ?_)
    · exact ⟨[(2, 2), (3, 3), (4, 4), (5, 85)], .same rfl rfl (.same rfl rfl (.same rfl rfl (.same rfl rfl (.eq rfl (.nil) (by first | rfl | (have e : j = f.blocks.length := (by omega); subst e; rw [List.take_of_length_le (by simp)]; simp [byL])))))), .fzE rfl (.box (by first | rfl | (have e : j = f.blocks.length := (by omega); subst e; rw [List.take_of_length_le (by simp)]; simp [byL])) (.fzE rfl (.lendE rfl (.rowE rfl (.nil) (by first | rfl | (have e : j = f.blocks.length := (by omega); subst e; rw [List.take_of_length_le (by simp)]; simp [byL]))) (by first | rfl | (have e : j = f.blocks.length := (by omega); subst e; rw [List.take_of_length_le (by simp)]; simp [byL]))) (by first | rfl | (have e : j = f.blocks.length := (by omega); subst e; rw [List.take_of_length_le (by simp)]; simp [byL])))) (by first | rfl | (have e : j = f.blocks.length := (by omega); subst e; rw [List.take_of_length_le (by simp)]; simp [byL])), rfl⟩
    have hpl := pathsTo_le f i
    refine W_seq ?_
    refine W_seq ?_
    refine W_seqK (b' := 86) rfl rfl ?_
    refine q0 68 6 1 rfl rfl (T_move rfl rfl) rfl ?_
    refine q0 69 22 2 rfl rfl (T_fa D (m := 1) rfl rfl rfl rfl rfl rfl) rfl ?_
    refine q0 70 38 3 rfl rfl (T_load_b D rfl rfl rfl rfl rfl rfl) rfl ?_
    refine q0 71 54 4 rfl rfl (T_len D rfl rfl rfl rfl rfl rfl) rfl ?_
    refine q0 72 70 5 rfl rfl (T_cmp rfl rfl rfl rfl) rfl ?_
    refine k_done rfl ?_
    refine thenK_n ?_
    refine W_cond rfl (fun g11 => ?_) (fun g11 => ?_)
    · have h11 := c_lss_t g11
      refine W_skip ?_
      refine thenK_n ?_
      refine W_seq ?_
      refine W_block ?_
      refine W_seq ?_
      refine W_seq ?_
      refine W_seqK (b' := 278) rfl rfl ?_
      refine q0 75 86 1 rfl rfl (T_move rfl rfl) rfl ?_
      refine q0 76 102 2 rfl rfl (T_move rfl rfl) rfl ?_
      first | refine q0 77 118 3 rfl rfl (T_indexAddr D rfl rfl rfl rfl rfl rfl rfl rfl (by first | assumption | omega | (have q1 := from_in hv (k := j) (by omega) (L := (srcR (nextL f) (reachL f) (j : Int) f.blocks.length)) rfl (by omega); omega) | (simp only [List.length_append, List.length_map, List.length_take, List.length_range, List.length_replicate, List.length_set]; omega) | (simp; omega))) rfl ?_ | refine q0 77 118 3 rfl rfl (T_indexAddrZ D rfl rfl rfl rfl rfl rfl rfl rfl (by first | assumption | omega | (have q1 := from_in hv (k := j) (by omega) (L := (srcR (nextL f) (reachL f) (j : Int) f.blocks.length)) rfl (by omega); omega) | (simp only [List.length_append, List.length_map, List.length_take, List.length_range, List.length_replicate, List.length_set]; omega) | (simp; omega)) (by first | assumption | omega | (have q1 := from_in hv (k := j) (by omega) (L := (srcR (nextL f) (reachL f) (j : Int) f.blocks.length)) rfl (by omega); omega) | (simp only [List.length_append, List.length_map, List.length_take, List.length_range, List.length_replicate, List.length_set]; omega) | (simp; omega))) rfl ?_
      refine q0 78 134 4 rfl rfl (T_ldE D (lv := .v _) (nn := 0) (upd := []) rfl rfl rfl rfl rfl (by first | assumption | omega | (have q1 := from_in hv (k := j) (by omega) (L := (srcR (nextL f) (reachL f) (j : Int) f.blocks.length)) rfl (by omega); omega) | (simp only [List.length_append, List.length_map, List.length_take, List.length_range, List.length_replicate, List.length_set]; omega) | (simp; omega)) rfl rfl rfl rfl) rfl ?_
      refine q0 79 150 5 rfl rfl (T_not rfl rfl) rfl ?_
      refine q0 80 166 6 rfl rfl (T_move rfl rfl) rfl ?_
      refine k_split (d := 80) rfl (fun g12 => ?_) (fun g12 => ?_)
      · have h12 := g12; (try simp only [cmpB, decide_eq_true_eq, decide_eq_false_iff_not, beq_iff_eq, beq_eq_false_iff_ne, bne_iff_ne, ne_eq, bne_eq_false_iff_eq, Bool.not_eq_true', Bool.not_eq_false', Int.not_lt, Int.not_le] at h12)
        refine k_no (d := 81) (j' := 7) rfl rfl rfl (g_ft rfl rfl rfl g12) ?_
        refine k_no (d := 82) (j' := 8) rfl rfl rfl (g_ft rfl rfl rfl g12) ?_
        refine k_no (d := 83) (j' := 9) rfl rfl rfl (g_ft rfl rfl rfl g12) ?_
        refine k_no (d := 84) (j' := 10) rfl rfl rfl (g_ft rfl rfl rfl g12) ?_
        refine k_no (d := 85) (j' := 11) rfl rfl rfl (g_ft rfl rfl rfl g12) ?_
        refine q0 86 262 12 rfl rfl (T_pick_t rfl rfl rfl g12) rfl ?_
        refine k_done rfl ?_
        refine thenK_n ?_
        refine W_cond rfl (fun g13 => ?_) (fun g13 => ?_)
        · skip
          refine W_exit ?_
          refine thenK_e ?_
          refine blockK_hit ?_
          refine thenK_n ?_
          refine W_seqK (b' := 326) rfl rfl ?_
          refine q0 73 278 1 rfl rfl (T_move rfl rfl) rfl ?_
          refine q0 74 294 2 rfl rfl (T_add64 rfl rfl rfl (by first | assumption | omega | (have q1 := from_in hv (k := j) (by omega) (L := (srcR (nextL f) (reachL f) (j : Int) f.blocks.length)) rfl (by omega); omega) | (simp only [List.length_append, List.length_map, List.length_take, List.length_range, List.length_replicate, List.length_set]; omega) | (simp; omega))) rfl ?_
          refine q0 9 310 3 rfl rfl (T_assign rfl rfl) rfl ?_
          refine k_done rfl ?_
          refine thenK_n ?_
          refine ⟨i + 1, by (try dsimp only); omega, by (try dsimp only); omega, ?_⟩
          exact ⟨[(2, 2), (3, 3), (4, 4), (5, 5)], .same rfl rfl (.same rfl rfl (.same rfl rfl (.same rfl rfl (.eq rfl (.nil) (by first | rfl | (rw [pathsTo_t (isHead_of (by assumption) (by assumption)), hx.fin (by omega)]; first | done | rfl) | (rw [pathsTo_f (notHead_of (by first | exact .inl (by assumption) | exact .inr (by omega)))]; first | done | rfl)))))), .fzE rfl (.box (by first | rfl | (rw [pathsTo_t (isHead_of (by assumption) (by assumption)), hx.fin (by omega)]; first | done | rfl) | (rw [pathsTo_f (notHead_of (by first | exact .inl (by assumption) | exact .inr (by omega)))]; first | done | rfl)) (.fzE rfl (.fzE rfl (.rowE rfl (.nil) (by first | rfl | (rw [pathsTo_t (isHead_of (by assumption) (by assumption)), hx.fin (by omega)]; first | done | rfl) | (rw [pathsTo_f (notHead_of (by first | exact .inl (by assumption) | exact .inr (by omega)))]; first | done | rfl))) rfl) rfl)) rfl, rfl⟩
        · exact absurd (g13.symm.trans rfl) (by decide)
      · have h12 := g12; (try simp only [cmpB, decide_eq_true_eq, decide_eq_false_iff_not, beq_iff_eq, beq_eq_false_iff_ne, bne_iff_ne, ne_eq, bne_eq_false_iff_eq, Bool.not_eq_true', Bool.not_eq_false', Int.not_lt, Int.not_le] at h12)
        refine k_op0 (d := 81) (b := 182) (j' := 7) rfl rfl rfl rfl (g_ff rfl rfl rfl g12) (T_move rfl rfl) rfl ?_
        refine k_op0 (d := 82) (b := 198) (j' := 8) rfl rfl rfl rfl (g_ff rfl rfl rfl g12) (T_move rfl rfl) rfl ?_
        first | refine k_op0 (d := 83) (b := 214) (j' := 9) rfl rfl rfl rfl (g_ff rfl rfl rfl g12) (T_indexAddr D rfl rfl rfl rfl rfl rfl rfl rfl (by first | assumption | omega | (have q1 := from_in hv (k := j) (by omega) (L := (srcR (nextL f) (reachL f) (j : Int) f.blocks.length)) rfl (by omega); omega) | (simp only [List.length_append, List.length_map, List.length_take, List.length_range, List.length_replicate, List.length_set]; omega) | (simp; omega))) rfl ?_ | refine k_op0 (d := 83) (b := 214) (j' := 9) rfl rfl rfl rfl (g_ff rfl rfl rfl g12) (T_indexAddrZ D rfl rfl rfl rfl rfl rfl rfl rfl (by first | assumption | omega | (have q1 := from_in hv (k := j) (by omega) (L := (srcR (nextL f) (reachL f) (j : Int) f.blocks.length)) rfl (by omega); omega) | (simp only [List.length_append, List.length_map, List.length_take, List.length_range, List.length_replicate, List.length_set]; omega) | (simp; omega)) (by first | assumption | omega | (have q1 := from_in hv (k := j) (by omega) (L := (srcR (nextL f) (reachL f) (j : Int) f.blocks.length)) rfl (by omega); omega) | (simp only [List.length_append, List.length_map, List.length_take, List.length_range, List.length_replicate, List.length_set]; omega) | (simp; omega))) rfl ?_
        refine k_op0 (d := 84) (b := 230) (j' := 10) rfl rfl rfl rfl (g_ff rfl rfl rfl g12) (T_ldE D (lv := .v _) (nn := 0) (upd := []) rfl rfl rfl rfl rfl (by first | assumption | omega | (have q1 := from_in hv (k := j) (by omega) (L := (srcR (nextL f) (reachL f) (j : Int) f.blocks.length)) rfl (by omega); omega) | (simp only [List.length_append, List.length_map, List.length_take, List.length_range, List.length_replicate, List.length_set]; omega) | (simp; omega)) rfl rfl rfl rfl) rfl ?_
        refine k_op0 (d := 85) (b := 246) (j' := 11) rfl rfl rfl rfl (g_ff rfl rfl rfl g12) (T_cmp rfl rfl rfl rfl) rfl ?_
        refine q0 86 262 12 rfl rfl (T_pick_f rfl rfl rfl g12) rfl ?_
        refine k_done rfl ?_
        refine thenK_n ?_
        refine W_cond rfl (fun g14 => ?_) (fun g14 => ?_)
        · have h14 := c_geq_t g14
          refine W_exit ?_
          refine thenK_e ?_
          refine blockK_hit ?_
          refine thenK_n ?_
          refine W_seqK (b' := 326) rfl rfl ?_
          refine q0 73 278 1 rfl rfl (T_move rfl rfl) rfl ?_
          refine q0 74 294 2 rfl rfl (T_add64 rfl rfl rfl (by first | assumption | omega | (have q1 := from_in hv (k := j) (by omega) (L := (srcR (nextL f) (reachL f) (j : Int) f.blocks.length)) rfl (by omega); omega) | (simp only [List.length_append, List.length_map, List.length_take, List.length_range, List.length_replicate, List.length_set]; omega) | (simp; omega))) rfl ?_
          refine q0 9 310 3 rfl rfl (T_assign rfl rfl) rfl ?_
          refine k_done rfl ?_
          refine thenK_n ?_
          refine ⟨i + 1, by (try dsimp only); omega, by (try dsimp only); omega, ?_⟩
          exact ⟨[(2, 2), (3, 3), (4, 4), (5, 5)], .same rfl rfl (.same rfl rfl (.same rfl rfl (.same rfl rfl (.eq rfl (.nil) (by first | rfl | (rw [pathsTo_t (isHead_of (by assumption) (by assumption)), hx.fin (by omega)]; first | done | rfl) | (rw [pathsTo_f (notHead_of (by first | exact .inl (by assumption) | exact .inr (by omega)))]; first | done | rfl)))))), .fzE rfl (.box (by first | rfl | (rw [pathsTo_t (isHead_of (by assumption) (by assumption)), hx.fin (by omega)]; first | done | rfl) | (rw [pathsTo_f (notHead_of (by first | exact .inl (by assumption) | exact .inr (by omega)))]; first | done | rfl)) (.fzE rfl (.fzE rfl (.rowE rfl (.nil) (by first | rfl | (rw [pathsTo_t (isHead_of (by assumption) (by assumption)), hx.fin (by omega)]; first | done | rfl) | (rw [pathsTo_f (notHead_of (by first | exact .inl (by assumption) | exact .inr (by omega)))]; first | done | rfl))) rfl) rfl)) rfl, rfl⟩
        · have h14 := c_geq_f g14
          refine W_skip ?_
          refine thenK_n ?_
          refine W_seq ?_
          refine W_seqK (b' := 326) rfl rfl ?_
          refine q0 87 278 1 rfl rfl (T_move rfl rfl) rfl ?_
          refine q1 88 294 2 rfl rfl (T_bs D (ys := [_]) (enc := eI) (l := [_]) rfl rfl rfl rfl rfl rfl (.cons rfl (flat_v rfl) (.nil)) rfl rfl rfl rfl (.v rfl (.nil)) rfl rfl) rfl ?_
          refine q0 10 310 3 rfl rfl (T_assign rfl rfl) rfl ?_
          refine k_done rfl ?_
          refine thenK_n ?_
          refine W_seq ?_
          refine W_seqK (b' := 358) rfl rfl ?_
          refine q0 89 326 1 rfl rfl (T_move rfl rfl) rfl ?_
          refine q0 11 342 2 rfl rfl (T_assign rfl rfl) rfl ?_
          refine k_done rfl ?_
          refine thenK_n ?_
          refine W_seq ?_
          refine W_block ?_
          refine W_loop (ι := Nat × List Int × Int) 7 (fun x => ⟨[(1, .p 2 0), (3, .r 3), (4, .r 4), (8, .r 5), (9, .v (.int .i64 (i : Int))), (10, .r 6), (11, .v (.int .i64 x.2.2))], [(1, .fz 5 (f.blocks.map eBlock)), (2, .box 29 [.v (.int .i64 f.regs), .r 1]), (3, .fz 1 ((reachL f).map eB)), (4, .fz 1 ((byL f).map eI)), (5, .row 52 1 ((pathsTo f i).map eIs)), (6, .row 3 1 (x.2.1.map eI))]⟩) (fun x => FW f i x) (fun x => fwM x) ((f.blocks.length + 1, [(i : Int)], (i : Int))) (by exact fw_start hv (by omega) (isHead_of (by assumption) (by omega))) ?_ (fun x hx => ?_)
          · exact ⟨[(2, 2), (3, 3), (4, 4), (5, 5), (6, 294)], .same rfl rfl (.same rfl rfl (.same rfl rfl (.same rfl rfl (.eq rfl (.same rfl rfl (.eq rfl (.nil) (by first | rfl | simp))) (by first | rfl | simp))))), .fzE rfl (.box (by first | rfl | simp) (.fzE rfl (.fzE rfl (.rowE rfl (.rowE rfl (.nil) (by first | rfl | simp)) (by first | rfl | simp)) (by first | rfl | simp)) (by first | rfl | simp))) (by first | rfl | simp), rfl⟩
          have hxs := hx.size
          have hxn := hx.ne
          refine W_seq ?_
          refine W_seq ?_
          refine W_seqK (b' := 39) rfl rfl ?_
          refine q0 90 7 1 rfl rfl (T_move rfl rfl) rfl ?_
          refine q0 91 23 2 rfl rfl (T_cmp rfl rfl rfl rfl) rfl ?_
          refine k_done rfl ?_
          refine thenK_n ?_
          refine W_cond rfl (fun g15 => ?_) (fun g15 => ?_)
          · have h15 := c_geq_t g15
            refine W_skip ?_
            refine thenK_n ?_
            refine W_block ?_
            refine W_seq ?_
            refine W_seqK (b' := 55) rfl rfl ?_
            refine q0 12 39 1 rfl rfl (T_assign rfl rfl) rfl ?_
            refine k_done rfl ?_
            refine thenK_n ?_
            refine W_seq ?_
            refine W_seq ?_
            refine W_seqK (b' := 71) rfl rfl ?_
            refine q0 13 55 1 rfl rfl (T_assign rfl rfl) rfl ?_
            refine k_done rfl ?_
            refine thenK_n ?_
            refine W_block ?_
            refine W_loop (ι := Nat) 7 (fun q => ⟨[(1, .p 2 0), (3, .r 3), (4, .r 4), (8, .r 5), (9, .v (.int .i64 (i : Int))), (10, .r 6), (11, .v (.int .i64 x.2.2)), (12, .v (.int .i64 (lastIx x.2.2 (byL f) q))), (13, .v (.int .i64 (q : Int)))], [(1, .fz 5 (f.blocks.map eBlock)), (2, .box 29 [.v (.int .i64 f.regs), .r 1]), (3, .fz 1 ((reachL f).map eB)), (4, .fz 1 ((byL f).map eI)), (5, .row 52 1 ((pathsTo f i).map eIs)), (6, .row 3 1 (x.2.1.map eI))]⟩) (fun q => q ≤ f.blocks.length) (fun q => f.blocks.length - q) (0) (by exact Nat.zero_le _) ?_ (fun q hq => ?_)
            · exact ⟨[(2, 2), (3, 3), (4, 4), (5, 5), (6, 6)], .same rfl rfl (.same rfl rfl (.same rfl rfl (.same rfl rfl (.eq rfl (.same rfl rfl (.eq rfl (.eq rfl (.eq rfl (.nil) (by first | rfl | simp)) (by first | rfl | simp)) (by first | rfl | simp))) (by first | rfl | simp))))), .fzE rfl (.box (by first | rfl | simp) (.fzE rfl (.fzE rfl (.rowE rfl (.rowE rfl (.nil) (by first | rfl | simp)) (by first | rfl | simp)) (by first | rfl | simp)) (by first | rfl | simp))) (by first | rfl | simp), rfl⟩
            refine W_seq ?_
            refine W_seq ?_
            refine W_seqK (b' := 71) rfl rfl ?_
            refine q0 92 7 1 rfl rfl (T_move rfl rfl) rfl ?_
            refine q0 93 23 2 rfl rfl (T_move rfl rfl) rfl ?_
            refine q0 94 39 3 rfl rfl (T_len D rfl rfl rfl rfl rfl rfl) rfl ?_
            refine q0 95 55 4 rfl rfl (T_cmp rfl rfl rfl rfl) rfl ?_
            refine k_done rfl ?_
            refine thenK_n ?_
            refine W_cond rfl (fun g16 => ?_) (fun g16 => ?_)
            · have h16 := c_lss_t g16
              refine W_skip ?_
              refine thenK_n ?_
              refine W_seq ?_
              refine W_block ?_
              refine W_seq ?_
              refine W_seqK (b' := 167) rfl rfl ?_
              refine q0 98 71 1 rfl rfl (T_move rfl rfl) rfl ?_
              refine q0 99 87 2 rfl rfl (T_move rfl rfl) rfl ?_
              first | refine q0 100 103 3 rfl rfl (T_indexAddr D rfl rfl rfl rfl rfl rfl rfl rfl (by first | assumption | omega | (have q1 := from_in hv (k := j) (by omega) (L := (srcR (nextL f) (reachL f) (j : Int) f.blocks.length)) rfl (by omega); omega) | (simp only [List.length_append, List.length_map, List.length_take, List.length_range, List.length_replicate, List.length_set]; omega) | (simp; omega))) rfl ?_ | refine q0 100 103 3 rfl rfl (T_indexAddrZ D rfl rfl rfl rfl rfl rfl rfl rfl (by first | assumption | omega | (have q1 := from_in hv (k := j) (by omega) (L := (srcR (nextL f) (reachL f) (j : Int) f.blocks.length)) rfl (by omega); omega) | (simp only [List.length_append, List.length_map, List.length_take, List.length_range, List.length_replicate, List.length_set]; omega) | (simp; omega)) (by first | assumption | omega | (have q1 := from_in hv (k := j) (by omega) (L := (srcR (nextL f) (reachL f) (j : Int) f.blocks.length)) rfl (by omega); omega) | (simp only [List.length_append, List.length_map, List.length_take, List.length_range, List.length_replicate, List.length_set]; omega) | (simp; omega))) rfl ?_
              refine q0 101 119 4 rfl rfl (T_ldE D (lv := .v _) (nn := 0) (upd := []) rfl rfl rfl rfl rfl (by first | assumption | omega | (have q1 := from_in hv (k := j) (by omega) (L := (srcR (nextL f) (reachL f) (j : Int) f.blocks.length)) rfl (by omega); omega) | (simp only [List.length_append, List.length_map, List.length_take, List.length_range, List.length_replicate, List.length_set]; omega) | (simp; omega)) rfl rfl rfl rfl) rfl ?_
              refine q0 102 135 5 rfl rfl (T_move rfl rfl) rfl ?_
              refine q0 103 151 6 rfl rfl (T_cmp rfl rfl rfl rfl) rfl ?_
              refine k_done rfl ?_
              refine thenK_n ?_
              refine W_cond rfl (fun g17 => ?_) (fun g17 => ?_)
              · have h17 := c_eql_t g17
                refine W_seqK (b' := 199) rfl rfl ?_
                refine q0 104 167 1 rfl rfl (T_move rfl rfl) rfl ?_
                refine q0 12 183 2 rfl rfl (T_assign rfl rfl) rfl ?_
                refine k_done rfl ?_
                refine blockK_n ?_
                refine thenK_n ?_
                refine W_seqK (b' := 247) rfl rfl ?_
                refine q0 96 199 1 rfl rfl (T_move rfl rfl) rfl ?_
                refine q0 97 215 2 rfl rfl (T_add64 rfl rfl rfl (by first | assumption | omega | (have q1 := from_in hv (k := j) (by omega) (L := (srcR (nextL f) (reachL f) (j : Int) f.blocks.length)) rfl (by omega); omega) | (simp only [List.length_append, List.length_map, List.length_take, List.length_range, List.length_replicate, List.length_set]; omega) | (simp; omega))) rfl ?_
                refine q0 13 231 3 rfl rfl (T_assign rfl rfl) rfl ?_
                refine k_done rfl ?_
                refine thenK_n ?_
                refine ⟨q + 1, by (try dsimp only); omega, by (try dsimp only); omega, ?_⟩
                exact ⟨[(2, 2), (3, 3), (4, 4), (5, 5), (6, 6)], .same rfl rfl (.same rfl rfl (.same rfl rfl (.same rfl rfl (.eq rfl (.same rfl rfl (.eq rfl (.eq rfl (.eq rfl (.nil) (by first | rfl | (rw [lastIx, if_pos (by assumption)]; first | done | rfl) | (rw [lastIx, if_neg (by assumption)]; first | done | rfl))) (by first | rfl | (rw [lastIx, if_pos (by assumption)]; first | done | rfl) | (rw [lastIx, if_neg (by assumption)]; first | done | rfl))) rfl)) rfl)))), .fzE rfl (.box (by first | rfl | (rw [lastIx, if_pos (by assumption)]; first | done | rfl) | (rw [lastIx, if_neg (by assumption)]; first | done | rfl)) (.fzE rfl (.fzE rfl (.rowE rfl (.rowE rfl (.nil) (by first | rfl | (rw [lastIx, if_pos (by assumption)]; first | done | rfl) | (rw [lastIx, if_neg (by assumption)]; first | done | rfl))) (by first | rfl | (rw [lastIx, if_pos (by assumption)]; first | done | rfl) | (rw [lastIx, if_neg (by assumption)]; first | done | rfl))) rfl) rfl)) rfl, rfl⟩
              · have h17 := c_eql_f g17
                refine W_skip ?_
                refine blockK_n ?_
                refine thenK_n ?_
                refine W_seqK (b' := 215) rfl rfl ?_
                refine q0 96 167 1 rfl rfl (T_move rfl rfl) rfl ?_
                refine q0 97 183 2 rfl rfl (T_add64 rfl rfl rfl (by first | assumption | omega | (have q1 := from_in hv (k := j) (by omega) (L := (srcR (nextL f) (reachL f) (j : Int) f.blocks.length)) rfl (by omega); omega) | (simp only [List.length_append, List.length_map, List.length_take, List.length_range, List.length_replicate, List.length_set]; omega) | (simp; omega))) rfl ?_
                refine q0 13 199 3 rfl rfl (T_assign rfl rfl) rfl ?_
                refine k_done rfl ?_
                refine thenK_n ?_
                refine ⟨q + 1, by (try dsimp only); omega, by (try dsimp only); omega, ?_⟩
                exact ⟨[(2, 2), (3, 3), (4, 4), (5, 5), (6, 6)], .same rfl rfl (.same rfl rfl (.same rfl rfl (.same rfl rfl (.eq rfl (.same rfl rfl (.eq rfl (.eq rfl (.eq rfl (.nil) (by first | rfl | (rw [lastIx, if_pos (by assumption)]; first | done | rfl) | (rw [lastIx, if_neg (by assumption)]; first | done | rfl))) (by first | rfl | (rw [lastIx, if_pos (by assumption)]; first | done | rfl) | (rw [lastIx, if_neg (by assumption)]; first | done | rfl))) rfl)) rfl)))), .fzE rfl (.box (by first | rfl | (rw [lastIx, if_pos (by assumption)]; first | done | rfl) | (rw [lastIx, if_neg (by assumption)]; first | done | rfl)) (.fzE rfl (.fzE rfl (.rowE rfl (.rowE rfl (.nil) (by first | rfl | (rw [lastIx, if_pos (by assumption)]; first | done | rfl) | (rw [lastIx, if_neg (by assumption)]; first | done | rfl))) (by first | rfl | (rw [lastIx, if_pos (by assumption)]; first | done | rfl) | (rw [lastIx, if_neg (by assumption)]; first | done | rfl))) rfl) rfl)) rfl, rfl⟩
            · have h16 := c_lss_f g16
              refine W_exit ?_
              refine thenK_e ?_
              refine thenK_e ?_
              refine blockK_hit ?_
              refine thenK_n ?_
              refine W_seq ?_
              refine W_seq ?_
              refine W_seqK (b' := 103) rfl rfl ?_
              refine q0 105 71 1 rfl rfl (T_move rfl rfl) rfl ?_
              refine q0 106 87 2 rfl rfl (T_cmp rfl rfl rfl rfl) rfl ?_
              refine k_done rfl ?_
              refine thenK_n ?_
              refine W_cond rfl (fun g18 => ?_) (fun g18 => ?_)
              · have h18 := c_geq_t g18
                refine W_seqK (b' := 183) rfl rfl ?_
                refine q0 107 103 1 rfl rfl (T_move rfl rfl) rfl ?_
                refine q0 108 119 2 rfl rfl (T_move rfl rfl) rfl ?_
                refine q1 109 135 3 rfl rfl (T_bs D (ys := [_]) (enc := eI) (l := [_]) rfl rfl rfl rfl rfl rfl (.cons rfl (flat_v rfl) (.nil)) rfl rfl rfl rfl (.v rfl (.nil)) rfl rfl) rfl ?_
                refine qn 110 151 4 rfl rfl (T_append D rfl rfl rfl rfl rfl rfl rfl rfl rfl rfl rfl rfl (by (try simp only [ty3]); first | assumption | omega | (have q1 := from_in hv (k := j) (by omega) (L := (srcR (nextL f) (reachL f) (j : Int) f.blocks.length)) rfl (by omega); omega) | (simp only [List.length_append, List.length_map, List.length_take, List.length_range, List.length_replicate, List.length_set]; omega) | (simp; omega)) (by (try simp only [ty3]); first | assumption | omega | (have q1 := from_in hv (k := j) (by omega) (L := (srcR (nextL f) (reachL f) (j : Int) f.blocks.length)) rfl (by omega); omega) | (simp only [List.length_append, List.length_map, List.length_take, List.length_range, List.length_replicate, List.length_set]; omega) | (simp; omega))) rfl ?_
                refine q0 10 167 5 rfl rfl (T_assign rfl rfl) rfl ?_
                refine k_done rfl ?_
                refine thenK_n ?_
                refine W_seqK (b' := 215) rfl rfl ?_
                refine q0 111 183 1 rfl rfl (T_move rfl rfl) rfl ?_
                refine q0 11 199 2 rfl rfl (T_assign rfl rfl) rfl ?_
                refine k_done rfl ?_
                refine blockK_n ?_
                refine thenK_n ?_
                have eq : q = f.blocks.length := by omega
                refine ⟨(x.1 - 1, x.2.1 ++ [lastIx x.2.2 (byL f) q], lastIx x.2.2 (byL f) q), by (try dsimp only); exact (fw_step hv hx (by omega) (by rw [eq]) (by omega)).1, by (try dsimp only); first | exact (fw_step hv hx (by omega) (by rw [eq]) (by omega)).2 | exact (fw_end hv hx (by omega) (by rw [eq]) (by omega)).2, ?_⟩
                exact ⟨[(2, 2), (3, 3), (4, 4), (5, 5), (6, 151)], .same rfl rfl (.same rfl rfl (.same rfl rfl (.same rfl rfl (.eq rfl (.same rfl rfl (.eq rfl (.nil) (by first | rfl | simp))) rfl)))), .fzE rfl (.box (by first | rfl | simp) (.fzE rfl (.fzE rfl (.rowE rfl (.rowE rfl (.nil) (by first | rfl | simp)) (by first | rfl | simp)) rfl) rfl)) rfl, rfl⟩
              · have h18 := c_geq_f g18
                refine W_skip ?_
                refine thenK_n ?_
                refine W_seqK (b' := 135) rfl rfl ?_
                refine q0 111 103 1 rfl rfl (T_move rfl rfl) rfl ?_
                refine q0 11 119 2 rfl rfl (T_assign rfl rfl) rfl ?_
                refine k_done rfl ?_
                refine blockK_n ?_
                refine thenK_n ?_
                have eq : q = f.blocks.length := by omega
                refine ⟨(0, x.2.1, lastIx x.2.2 (byL f) q), by (try dsimp only); exact (fw_end hv hx (by omega) (by rw [eq]) (by omega)).1, by (try dsimp only); first | exact (fw_step hv hx (by omega) (by rw [eq]) (by omega)).2 | exact (fw_end hv hx (by omega) (by rw [eq]) (by omega)).2, ?_⟩
                exact ⟨[(2, 2), (3, 3), (4, 4), (5, 5), (6, 6)], .same rfl rfl (.same rfl rfl (.same rfl rfl (.same rfl rfl (.eq rfl (.same rfl rfl (.eq rfl (.nil) (by first | rfl | simp))) rfl)))), .fzE rfl (.box (by first | rfl | simp) (.fzE rfl (.fzE rfl (.rowE rfl (.rowE rfl (.nil) (by first | rfl | simp)) (by first | rfl | simp)) rfl) rfl)) rfl, rfl⟩
          · have h15 := c_geq_f g15
            refine W_exit ?_
            refine thenK_e ?_
            refine thenK_e ?_
            refine blockK_hit ?_
            refine thenK_n ?_
            refine W_seqK (b' := 119) rfl rfl ?_
            refine q0 112 39 1 rfl rfl (T_move rfl rfl) rfl ?_
            refine q0 113 55 2 rfl rfl (T_move rfl rfl) rfl ?_
            refine qn 114 71 3 rfl rfl (T_bs D (ys := [_]) (enc := eIs) (l := [_]) rfl rfl rfl rfl rfl rfl (.cons rfl (flat_sl rfl) (.nil)) rfl rfl rfl rfl (.row rfl (.nil) rfl) rfl rfl) rfl ?_
            refine qn 115 87 4 rfl rfl (T_append D rfl rfl rfl rfl rfl rfl rfl rfl rfl rfl rfl rfl (by (try simp only [ty52]); first | assumption | omega | (have q1 := from_in hv (k := j) (by omega) (L := (srcR (nextL f) (reachL f) (j : Int) f.blocks.length)) rfl (by omega); omega) | (simp only [List.length_append, List.length_map, List.length_take, List.length_range, List.length_replicate, List.length_set]; omega) | (simp; omega)) (by (try simp only [ty52]); first | assumption | omega | (have q1 := from_in hv (k := j) (by omega) (L := (srcR (nextL f) (reachL f) (j : Int) f.blocks.length)) rfl (by omega); omega) | (simp only [List.length_append, List.length_map, List.length_take, List.length_range, List.length_replicate, List.length_set]; omega) | (simp; omega))) rfl ?_
            refine q0 8 103 5 rfl rfl (T_assign rfl rfl) rfl ?_
            refine k_done rfl ?_
            refine blockK_n ?_
            refine thenK_n ?_
            refine W_seqK (b' := 167) rfl rfl ?_
            refine q0 73 119 1 rfl rfl (T_move rfl rfl) rfl ?_
            refine q0 74 135 2 rfl rfl (T_add64 rfl rfl rfl (by first | assumption | omega | (have q1 := from_in hv (k := j) (by omega) (L := (srcR (nextL f) (reachL f) (j : Int) f.blocks.length)) rfl (by omega); omega) | (simp only [List.length_append, List.length_map, List.length_take, List.length_range, List.length_replicate, List.length_set]; omega) | (simp; omega))) rfl ?_
            refine q0 9 151 3 rfl rfl (T_assign rfl rfl) rfl ?_
            refine k_done rfl ?_
            refine thenK_n ?_
            refine ⟨i + 1, by (try dsimp only); omega, by (try dsimp only); omega, ?_⟩
            exact ⟨[(2, 2), (3, 3), (4, 4), (5, 87)], .same rfl rfl (.same rfl rfl (.same rfl rfl (.same rfl rfl (.eq rfl (.nil) (by first | rfl | (rw [pathsTo_t (isHead_of (by assumption) (by assumption)), hx.fin (by omega)]; first | done | rfl) | (rw [pathsTo_f (notHead_of (by first | exact .inl (by assumption) | exact .inr (by omega)))]; first | done | rfl)))))), .fzE rfl (.box (by first | rfl | (rw [pathsTo_t (isHead_of (by assumption) (by assumption)), hx.fin (by omega)]; first | done | rfl) | (rw [pathsTo_f (notHead_of (by first | exact .inl (by assumption) | exact .inr (by omega)))]; first | done | rfl)) (.fzE rfl (.fzE rfl (.rowE rfl (.nil) (by first | rfl | (rw [pathsTo_t (isHead_of (by assumption) (by assumption)), hx.fin (by omega)]; first | done | rfl) | (rw [pathsTo_f (notHead_of (by first | exact .inl (by assumption) | exact .inr (by omega)))]; first | done | rfl))) rfl) rfl)) rfl, rfl⟩
    · have h11 := c_lss_f g11
      refine W_exit ?_
      refine thenK_e ?_
      refine thenK_e ?_
      refine blockK_hit ?_
      refine thenK_n ?_
      refine W_seq ?_
      refine W_seqK (b' := 118) rfl rfl ?_
      refine q0 116 86 1 rfl rfl (T_move rfl rfl) rfl ?_
      refine q0 2 102 2 rfl rfl (T_assign rfl rfl) rfl ?_
      refine k_done rfl ?_
      refine thenK_n ?_
      refine W_ret ?_
      -- end 0
      exact .mk [(2, 5)] (.inr rfl) (.tmp rfl (.nil)) rfl (.rowE rfl (.nil) (by first | rfl | (have e : i = f.blocks.length := (by omega); rw [e]; first | done | rfl))) rfl
end Lg
end Go.Proofs.Ytpfhmodjjljpjaa

namespace Go.Proofs.Ytpfhmodjjljpjaa
open Go.RowKit
namespace Lg
set_option maxRecDepth 100000
set_option linter.unusedVariables false
set_option linter.unusedSimpArgs false



theorem body27 : (Try.prog.funcs[27]?).map (fun fn => (fn.name == "runtime.NumGoroutine" || fn.body.isNone)) = some false := by kernel_rfl
theorem rof_spec (f : GFn) (hb : f.blocks.length ≤ 900000) (hv : VF f) (hc : ∀ b ∈ f.blocks, b.ins.length ≤ 1000) : Spec Try.prog 27 [.agg [.v (.int .i64 f.regs), .r 1]] 2 [(1, .fz 5 (f.blocks.map eBlock))] (.tup [.agg [.v (.int .i64 f.regs), .r 2], .r 3]) 4 [(2, .row 72 5 ((tidyG f).blocks.map eBlock)), (3, .row 52 1 ((pathsL f).map eIs))] := by
  have hpi : ∀ p ∈ pathsL f, 1 ≤ p.length ∧ p.length ≤ f.blocks.length ∧ ∀ x ∈ p, 0 ≤ x ∧ x < (f.blocks.length : Int) := fun p h => path_in hv.inN h
  have hpl : (pathsL f).length ≤ f.blocks.length := pathsTo_le f _
  refine spec_of D (fn := Try.f27) rfl rfl (Nat.le_of_ble_eq_true rfl) ?_
  refine W_seq ?_
  refine W_seqK (b' := 50) rfl rfl ?_
  refine q1 1 2 1 rfl rfl (T_box rfl rfl flat_agg) rfl ?_
  refine qn 2 18 2 rfl rfl (T_nilbox [(72, 5)] (T_alloc D rfl rfl rfl) rfl (.cons (.same _) <| .cons (.nil rfl) <| .nil) (upd' := [(18, .box 29 [.v (.int .i64 0), .r 19]), (19, .row 72 5 (List.map eBlock ([] : List (GBlock))))]) (nn' := 2) rfl rfl) rfl ?_
  refine q1 3 34 3 rfl rfl (T_nils [(52, 1)] (T_assign rfl rfl) rfl (.inr ⟨rfl, rfl⟩) (.cons (.nil rfl) .nil) (lv' := .r 34) (upd' := [(34, .row 52 1 (List.map eIs ([] : List (List Int))))]) (nn' := 1) rfl rfl) rfl ?_
  refine k_done rfl ?_
  refine thenK_n ?_
  refine W_seq ?_
  refine W_seqK (b' := 98) rfl rfl ?_
  refine q0 10 50 1 rfl rfl (T_load_bA D (l := [_, _]) rfl rfl rfl rfl rfl rfl rfl) rfl ?_
  refine q1 11 66 2 rfl rfl (T_callR (lvs := [_]) (L := [(1, 1)]) (keep := false) (rpaths_spec f hb hv) body71 rfl rfl rfl rfl (.fz rfl (.nil)) rfl (.inl rfl) rfl) rfl ?_
  refine q0 4 82 3 rfl rfl (T_assign rfl rfl) rfl ?_
  refine k_done rfl ?_
  refine thenK_n ?_
  refine W_seq ?_
  refine W_seqK (b' := 178) rfl rfl ?_
  refine q0 12 98 1 rfl rfl (T_fa D (m := 0) rfl rfl rfl rfl rfl rfl) rfl ?_
  refine q0 13 114 2 rfl rfl (T_load_b D rfl rfl rfl rfl rfl rfl) rfl ?_
  refine q1 14 130 3 rfl rfl (T_nils [(72, 5)] (T_build D (l := [_, _]) rfl rfl rfl rfl (.cons rfl (flat_v rfl) (.nil)) rfl rfl) rfl (.inl ⟨rfl, rfl⟩) (.cons (.same _) <| .cons (.nil rfl) <| .nil) (lv' := .agg [_, .r 130]) (upd' := [(130, .row 72 5 (List.map eBlock ([] : List (GBlock))))]) (nn' := 1) rfl rfl) rfl ?_
  refine qn 5 146 4 rfl rfl (T_nilbox [(72, 5)] (T_alloc D rfl rfl rfl) rfl (.cons (.same _) <| .cons (.nil rfl) <| .nil) (upd' := [(146, .box 29 [.v (.int .i64 0), .r 147]), (147, .row 72 5 (List.map eBlock ([] : List (GBlock))))]) (nn' := 2) rfl rfl) rfl ?_
  refine s1 162 5 rfl rfl (T_stB D (cs' := [_, _]) rfl rfl rfl rfl flat_agg rfl rfl (Nat.le_of_ble_eq_true rfl) rfl) rfl ?_
  refine k_done rfl ?_
  refine thenK_n ?_
  refine W_seq ?_
  refine W_seq ?_
  refine W_seqK (b' := 194) rfl rfl ?_
  refine q0 6 178 1 rfl rfl (T_assign rfl rfl) rfl ?_
  refine k_done rfl ?_
  refine thenK_n ?_
  refine W_block ?_
  refine W_loop (ι := Nat) 8 (fun j => ⟨[(1, .p 2 0), (2, .p 3 0), (4, .r 5), (5, .p 6 0), (6, .v (.int .i64 (j : Int)))], [(1, .fz 5 (f.blocks.map eBlock)), (2, .box 29 [.v (.int .i64 f.regs), .r 1]), (3, .box 29 [.v (.int .i64 0), .r 4]), (4, .row 72 5 (([] : List GBlock).map eBlock)), (5, .row 52 1 ((pathsL f).map eIs)), (6, .box 29 [.v (.int .i64 f.regs), .r 7]), (7, .row 72 5 ((((pathsL f).take j).map (newBlock f (pathsL f))).map eBlock))]⟩) (fun j => j ≤ (pathsL f).length) (fun j => (pathsL f).length - j) (0) (by exact Nat.zero_le _) ?_ (fun j hJ => ?_)
  · exact ⟨[(2, 2), (3, 18), (4, 19), (5, 66), (6, 146), (7, 130)], .same rfl rfl (.same rfl rfl (.same rfl rfl (.same rfl rfl (.eq rfl (.nil) (by first | rfl | simp))))), .fzE rfl (.box (by first | rfl | simp) (.box (by first | rfl | simp) (.rowE rfl (.rowE rfl (.box (by first | rfl | simp) (.rowE rfl (.nil) (by first | rfl | simp))) (by first | rfl | simp)) (by first | rfl | simp)))) (by first | rfl | simp), rfl⟩
  refine W_seq ?_
  refine W_seq ?_
  refine W_seqK (b' := 72) rfl rfl ?_
  refine q0 15 8 1 rfl rfl (T_move rfl rfl) rfl ?_
  refine q0 16 24 2 rfl rfl (T_move rfl rfl) rfl ?_
  refine q0 17 40 3 rfl rfl (T_len D rfl rfl rfl rfl rfl rfl) rfl ?_
  refine q0 18 56 4 rfl rfl (T_cmp rfl rfl rfl rfl) rfl ?_
  refine k_done rfl ?_
  refine thenK_n ?_
  refine W_cond rfl (fun g1 => ?_) (fun g1 => ?_)
  · have h1 := c_lss_t g1
    refine W_skip ?_
    refine thenK_n ?_
    refine W_seq ?_
    refine W_block ?_
    refine W_seq ?_
    refine W_seqK (b' := 88) rfl rfl ?_
    refine qn 7 72 1 rfl rfl (T_nilbox [(70, 8)] (T_alloc D rfl rfl rfl) rfl (.cons (.nil rfl) <| .cons (.same _) <| .cons (.same _) <| .cons (.same _) <| .cons (.same _) <| .nil) (upd' := [(72, .box 72 [.r 73, .v (.int .i64 0), .v (.int .i64 0), .v (.int .i64 0), .v (.int .i64 0)]), (73, .row 70 8 (List.map eTac ([] : List (GTac))))]) (nn' := 2) rfl rfl) rfl ?_
    refine k_done rfl ?_
    refine thenK_n ?_
    refine W_seq ?_
    refine W_seq ?_
    refine W_seqK (b' := 104) rfl rfl ?_
    refine q0 8 88 1 rfl rfl (T_assign rfl rfl) rfl ?_
    refine k_done rfl ?_
    refine thenK_n ?_
    refine W_block ?_
    have hjp := hpi ((pathsL f).getD j default) (getD_mem (by omega))
    refine W_loop (ι := Nat) 10 (fun i => ⟨[(1, .p 2 0), (2, .p 3 0), (4, .r 5), (5, .p 6 0), (6, .v (.int .i64 (j : Int))), (7, .p 8 0), (8, .v (.int .i64 (i : Int)))], [(1, .fz 5 (f.blocks.map eBlock)), (2, .box 29 [.v (.int .i64 f.regs), .r 1]), (3, .box 29 [.v (.int .i64 0), .r 4]), (4, .row 72 5 (([] : List GBlock).map eBlock)), (5, .row 52 1 ((pathsL f).map eIs)), (6, .box 29 [.v (.int .i64 f.regs), .r 7]), (7, .row 72 5 ((((pathsL f).take j).map (newBlock f (pathsL f))).map eBlock)), (8, .box 72 [.r 9, .v (.int .i64 (rF GBlock.fin f ((pathsL f).getD j default) i)), .v (.int .i64 (rF GBlock.v f ((pathsL f).getD j default) i)), .v (.int .i64 (rF GBlock.to f ((pathsL f).getD j default) i)), .v (.int .i64 (rF GBlock.els f ((pathsL f).getD j default) i))]), (9, .row 70 8 ((instrs f (((pathsL f).getD j default).take i)).map eTac))]⟩) (fun i => i ≤ ((pathsL f).getD j default).length) (fun i => ((pathsL f).getD j default).length - i) (0) (by exact Nat.zero_le _) ?_ (fun i hI => ?_)
    · exact ⟨[(2, 2), (3, 3), (4, 4), (5, 5), (6, 6), (7, 7), (8, 72), (9, 73)], .same rfl rfl (.same rfl rfl (.same rfl rfl (.same rfl rfl (.eq rfl (.same rfl rfl (.eq rfl (.nil) (by first | rfl | simp))) (by first | rfl | simp))))), .fzE rfl (.box (by first | rfl | simp) (.box (by first | rfl | simp) (.rowE rfl (.rowE rfl (.box (by first | rfl | simp) (.rowE rfl (.box (by first | rfl | simp) (.rowE rfl (.nil) (by first | rfl | simp))) (by first | rfl | simp))) (by first | rfl | simp)) (by first | rfl | simp)))) (by first | rfl | simp), rfl⟩
    have hpx := fun h : i < ((pathsL f).getD j default).length => hjp.2.2 _ (getD_mem h)
    have hil : (instrs f (((pathsL f).getD j default).take i)).length ≤ 1000000000 := instrs_small hb hc hjp.2.1 i
    have hbi := fun h : i < ((pathsL f).getD j default).length => hc (f.blocks.getD (((pathsL f).getD j default).getD i default).toNat default) (getD_mem (by have := hpx h; omega))
    refine W_seq ?_
    refine W_seq ?_
    refine W_seqK (b' := 122) rfl rfl ?_
    refine q0 21 10 1 rfl rfl (T_move rfl rfl) rfl ?_
    refine q0 22 26 2 rfl rfl (T_move rfl rfl) rfl ?_
    refine q0 23 42 3 rfl rfl (T_move rfl rfl) rfl ?_
    first | refine q0 24 58 4 rfl rfl (T_indexAddr D rfl rfl rfl rfl rfl rfl rfl rfl (by first | assumption | omega | (have q := hpx (by omega); omega) | (have q := hpx (by omega); have q2 := hbi (by omega); simp only [List.length_append, List.length_nil]; omega) | (simp; omega))) rfl ?_ | refine q0 24 58 4 rfl rfl (T_indexAddrZ D rfl rfl rfl rfl rfl rfl rfl rfl (by first | assumption | omega | (have q := hpx (by omega); omega) | (have q := hpx (by omega); have q2 := hbi (by omega); simp only [List.length_append, List.length_nil]; omega) | (simp; omega)) (by first | assumption | omega | (have q := hpx (by omega); omega) | (have q := hpx (by omega); have q2 := hbi (by omega); simp only [List.length_append, List.length_nil]; omega) | (simp; omega))) rfl ?_
    refine q1 25 74 5 rfl rfl (T_ldE D (lv := .r 74) (nn := 1) (upd := [(74, .fz 1 _)]) rfl rfl rfl rfl rfl (by first | assumption | omega | (have q := hpx (by omega); omega) | (have q := hpx (by omega); have q2 := hbi (by omega); simp only [List.length_append, List.length_nil]; omega) | (simp; omega)) rfl rfl rfl rfl) rfl ?_
    refine q0 26 90 6 rfl rfl (T_len D rfl rfl rfl rfl rfl rfl) rfl ?_
    refine q0 27 106 7 rfl rfl (T_cmp rfl rfl rfl rfl) rfl ?_
    refine k_done rfl ?_
    refine thenK_n ?_
    refine W_cond rfl (fun g2 => ?_) (fun g2 => ?_)
    · have h2 := c_lss_t g2
      refine W_skip ?_
      refine thenK_n ?_
      refine W_seq ?_
      refine W_block ?_
      refine W_seq ?_
      refine W_anyK (b' := 330) rfl rfl rfl ?_
      refine q0 30 122 1 rfl rfl (T_fa D (m := 1) rfl rfl rfl rfl rfl rfl) rfl ?_
      refine q0 31 138 2 rfl rfl (T_load_b D rfl rfl rfl rfl rfl rfl) rfl ?_
      refine q0 32 154 3 rfl rfl (T_move rfl rfl) rfl ?_
      refine q0 33 170 4 rfl rfl (T_move rfl rfl) rfl ?_
      first | refine q0 34 186 5 rfl rfl (T_indexAddr D rfl rfl rfl rfl rfl rfl rfl rfl (by first | assumption | omega | (have q := hpx (by omega); omega) | (have q := hpx (by omega); have q2 := hbi (by omega); simp only [List.length_append, List.length_nil]; omega) | (simp; omega))) rfl ?_ | refine q0 34 186 5 rfl rfl (T_indexAddrZ D rfl rfl rfl rfl rfl rfl rfl rfl (by first | assumption | omega | (have q := hpx (by omega); omega) | (have q := hpx (by omega); have q2 := hbi (by omega); simp only [List.length_append, List.length_nil]; omega) | (simp; omega)) (by first | assumption | omega | (have q := hpx (by omega); omega) | (have q := hpx (by omega); have q2 := hbi (by omega); simp only [List.length_append, List.length_nil]; omega) | (simp; omega))) rfl ?_
      refine q1 35 202 6 rfl rfl (T_ldE D (lv := .r 202) (nn := 1) (upd := [(202, .fz 1 _)]) rfl rfl rfl rfl rfl (by first | assumption | omega | (have q := hpx (by omega); omega) | (have q := hpx (by omega); have q2 := hbi (by omega); simp only [List.length_append, List.length_nil]; omega) | (simp; omega)) rfl rfl rfl rfl) rfl ?_
      refine q0 36 218 7 rfl rfl (T_move rfl rfl) rfl ?_
      first | refine q0 37 234 8 rfl rfl (T_indexAddr D rfl rfl rfl rfl rfl rfl rfl rfl (by first | assumption | omega | (have q := hpx (by omega); omega) | (have q := hpx (by omega); have q2 := hbi (by omega); simp only [List.length_append, List.length_nil]; omega) | (simp; omega))) rfl ?_ | refine q0 37 234 8 rfl rfl (T_indexAddrZ D rfl rfl rfl rfl rfl rfl rfl rfl (by first | assumption | omega | (have q := hpx (by omega); omega) | (have q := hpx (by omega); have q2 := hbi (by omega); simp only [List.length_append, List.length_nil]; omega) | (simp; omega)) (by first | assumption | omega | (have q := hpx (by omega); omega) | (have q := hpx (by omega); have q2 := hbi (by omega); simp only [List.length_append, List.length_nil]; omega) | (simp; omega))) rfl ?_
      refine q0 38 250 9 rfl rfl (T_ldE D (lv := .v _) (nn := 0) (upd := []) rfl rfl rfl rfl rfl (by first | assumption | omega | (have q := hpx (by omega); omega) | (have q := hpx (by omega); have q2 := hbi (by omega); simp only [List.length_append, List.length_nil]; omega) | (simp; omega)) rfl rfl rfl rfl) rfl ?_
      first | refine q0 39 266 10 rfl rfl (T_indexAddr D rfl rfl rfl rfl rfl rfl rfl rfl (by first | assumption | omega | (have q := hpx (by omega); omega) | (have q := hpx (by omega); have q2 := hbi (by omega); simp only [List.length_append, List.length_nil]; omega) | (simp; omega))) rfl ?_ | refine q0 39 266 10 rfl rfl (T_indexAddrZ D rfl rfl rfl rfl rfl rfl rfl rfl (by first | assumption | omega | (have q := hpx (by omega); omega) | (have q := hpx (by omega); have q2 := hbi (by omega); simp only [List.length_append, List.length_nil]; omega) | (simp; omega)) (by first | assumption | omega | (have q := hpx (by omega); omega) | (have q := hpx (by omega); have q2 := hbi (by omega); simp only [List.length_append, List.length_nil]; omega) | (simp; omega))) rfl ?_
      refine q1 40 282 11 rfl rfl (T_ldEA D (l := [.r 282, .v _, .v _, .v _, .v _]) (nn := 1) (upd := [(282, .fz 8 _)]) rfl rfl rfl rfl rfl (by first | assumption | omega | (have q := hpx (by omega); omega) | (have q := hpx (by omega); have q2 := hbi (by omega); simp only [List.length_append, List.length_nil]; omega) | (simp; omega)) rfl rfl rfl rfl rfl) rfl ?_
      refine qn 9 298 12 rfl rfl (T_nilbox [(70, 8)] (T_alloc D rfl rfl rfl) rfl (.cons (.nil rfl) <| .cons (.same _) <| .cons (.same _) <| .cons (.same _) <| .cons (.same _) <| .nil) (upd' := [(298, .box 72 [.r 299, .v (.int .i64 0), .v (.int .i64 0), .v (.int .i64 0), .v (.int .i64 0)]), (299, .row 70 8 (List.map eTac ([] : List (GTac))))]) (nn' := 2) rfl rfl) rfl ?_
      refine s1 314 13 rfl rfl (T_stB D (cs' := [_, _, _, _, _]) rfl rfl rfl rfl flat_agg rfl rfl (Nat.le_of_ble_eq_true rfl) rfl) rfl ?_
      refine k_done rfl ?_
      refine ⟨rfl, ?_⟩
      refine thenK_n ?_
      refine W_seq ?_
      refine W_anyK (b' := 474) rfl rfl rfl ?_
      refine q1 41 330 1 rfl rfl (T_bs D (ys := []) (enc := eTac) (l := []) rfl rfl rfl rfl rfl rfl (.nil) rfl rfl rfl rfl (.nil) rfl rfl) rfl ?_
      refine q0 42 346 2 rfl rfl (T_fa D (m := 0) rfl rfl rfl rfl rfl rfl) rfl ?_
      refine q0 43 362 3 rfl rfl (T_load_b D rfl rfl rfl rfl rfl rfl) rfl ?_
      refine qn 44 378 4 rfl rfl (T_append D rfl rfl rfl rfl rfl rfl rfl rfl rfl rfl rfl rfl (by (try simp only [ty70]); first | assumption | omega | (have q := hpx (by omega); omega) | (have q := hpx (by omega); have q2 := hbi (by omega); simp only [List.length_append, List.length_nil]; omega) | (simp; omega)) (by (try simp only [ty70]); first | assumption | omega | (have q := hpx (by omega); omega) | (have q := hpx (by omega); have q2 := hbi (by omega); simp only [List.length_append, List.length_nil]; omega) | (simp; omega))) rfl ?_
      refine q0 45 394 5 rfl rfl (T_fa D (m := 0) rfl rfl rfl rfl rfl rfl) rfl ?_
      refine q0 46 410 6 rfl rfl (T_load_b D rfl rfl rfl rfl rfl rfl) rfl ?_
      refine qn 47 426 7 rfl rfl (T_append D rfl rfl rfl rfl rfl rfl rfl rfl rfl rfl rfl rfl (by (try simp only [ty70]); first | assumption | omega | (have q := hpx (by omega); omega) | (have q := hpx (by omega); have q2 := hbi (by omega); simp only [List.length_append, List.length_nil]; omega) | (simp; omega)) (by (try simp only [ty70]); first | assumption | omega | (have q := hpx (by omega); omega) | (have q := hpx (by omega); have q2 := hbi (by omega); simp only [List.length_append, List.length_nil]; omega) | (simp; omega))) rfl ?_
      refine q0 48 442 8 rfl rfl (T_fa D (m := 0) rfl rfl rfl rfl rfl rfl) rfl ?_
      refine s1 458 9 rfl rfl (T_stB D (cs' := [_, _, _, _, _]) rfl rfl rfl rfl (flat_sl rfl) rfl rfl (Nat.le_of_ble_eq_true rfl) rfl) rfl ?_
      refine k_done rfl ?_
      refine ⟨rfl, ?_⟩
      refine thenK_n ?_
      refine W_seq ?_
      refine W_seqK (b' := 538) rfl rfl ?_
      refine q0 49 474 1 rfl rfl (T_fa D (m := 1) rfl rfl rfl rfl rfl rfl) rfl ?_
      refine q0 50 490 2 rfl rfl (T_load_b D rfl rfl rfl rfl rfl rfl) rfl ?_
      refine q0 51 506 3 rfl rfl (T_fa D (m := 1) rfl rfl rfl rfl rfl rfl) rfl ?_
      refine s1 522 4 rfl rfl (T_stB D (cs' := [_, _, _, _, _]) rfl rfl rfl rfl (flat_v rfl) rfl rfl (Nat.le_of_ble_eq_true rfl) rfl) rfl ?_
      refine k_done rfl ?_
      refine thenK_n ?_
      refine W_seq ?_
      refine W_seqK (b' := 602) rfl rfl ?_
      refine q0 52 538 1 rfl rfl (T_fa D (m := 2) rfl rfl rfl rfl rfl rfl) rfl ?_
      refine q0 53 554 2 rfl rfl (T_load_b D rfl rfl rfl rfl rfl rfl) rfl ?_
      refine q0 54 570 3 rfl rfl (T_fa D (m := 2) rfl rfl rfl rfl rfl rfl) rfl ?_
      refine s1 586 4 rfl rfl (T_stB D (cs' := [_, _, _, _, _]) rfl rfl rfl rfl (flat_v rfl) rfl rfl (Nat.le_of_ble_eq_true rfl) rfl) rfl ?_
      refine k_done rfl ?_
      refine thenK_n ?_
      refine W_seq ?_
      refine W_seqK (b' := 666) rfl rfl ?_
      refine q0 55 602 1 rfl rfl (T_fa D (m := 3) rfl rfl rfl rfl rfl rfl) rfl ?_
      refine q0 56 618 2 rfl rfl (T_load_b D rfl rfl rfl rfl rfl rfl) rfl ?_
      refine q0 57 634 3 rfl rfl (T_fa D (m := 3) rfl rfl rfl rfl rfl rfl) rfl ?_
      refine s1 650 4 rfl rfl (T_stB D (cs' := [_, _, _, _, _]) rfl rfl rfl rfl (flat_v rfl) rfl rfl (Nat.le_of_ble_eq_true rfl) rfl) rfl ?_
      refine k_done rfl ?_
      refine thenK_n ?_
      refine W_seqK (b' := 730) rfl rfl ?_
      refine q0 58 666 1 rfl rfl (T_fa D (m := 4) rfl rfl rfl rfl rfl rfl) rfl ?_
      refine q0 59 682 2 rfl rfl (T_load_b D rfl rfl rfl rfl rfl rfl) rfl ?_
      refine q0 60 698 3 rfl rfl (T_fa D (m := 4) rfl rfl rfl rfl rfl rfl) rfl ?_
      refine s1 714 4 rfl rfl (T_stB D (cs' := [_, _, _, _, _]) rfl rfl rfl rfl (flat_v rfl) rfl rfl (Nat.le_of_ble_eq_true rfl) rfl) rfl ?_
      refine k_done rfl ?_
      refine blockK_n ?_
      refine thenK_n ?_
      refine W_seqK (b' := 778) rfl rfl ?_
      refine q0 28 730 1 rfl rfl (T_move rfl rfl) rfl ?_
      refine q0 29 746 2 rfl rfl (T_add64 rfl rfl rfl (by first | assumption | omega | (have q := hpx (by omega); omega) | (have q := hpx (by omega); have q2 := hbi (by omega); simp only [List.length_append, List.length_nil]; omega) | (simp; omega))) rfl ?_
      refine q0 8 762 3 rfl rfl (T_assign rfl rfl) rfl ?_
      refine k_done rfl ?_
      refine thenK_n ?_
      refine ⟨i + 1, by (try dsimp only); omega, by (try dsimp only); omega, ?_⟩
      exact ⟨[(2, 2), (3, 3), (4, 4), (5, 5), (6, 6), (7, 7), (8, 8), (9, 426)], .same rfl rfl (.same rfl rfl (.same rfl rfl (.same rfl rfl (.eq rfl (.same rfl rfl (.eq rfl (.nil) (by first | rfl | exact congrArg (List.map eTac) (rIns f ((pathsL f).getD j default) i (by omega))))) rfl)))), .fzE rfl (.box (by first | rfl | exact congrArg (List.map eTac) (rIns f ((pathsL f).getD j default) i (by omega))) (.box (by first | rfl | exact congrArg (List.map eTac) (rIns f ((pathsL f).getD j default) i (by omega))) (.rowE rfl (.rowE rfl (.box (by first | rfl | exact congrArg (List.map eTac) (rIns f ((pathsL f).getD j default) i (by omega))) (.rowE rfl (.box (by first | rfl | exact congrArg (List.map eTac) (rIns f ((pathsL f).getD j default) i (by omega))) (.rowE rfl (.nil) (by first | rfl | exact congrArg (List.map eTac) (rIns f ((pathsL f).getD j default) i (by omega))))) (by first | rfl | exact congrArg (List.map eTac) (rIns f ((pathsL f).getD j default) i (by omega))))) (by first | rfl | exact congrArg (List.map eTac) (rIns f ((pathsL f).getD j default) i (by omega)))) (by first | rfl | exact congrArg (List.map eTac) (rIns f ((pathsL f).getD j default) i (by omega)))))) rfl, rfl⟩
    · have h2 := c_lss_f g2
      refine W_exit ?_
      refine thenK_e ?_
      refine thenK_e ?_
      refine blockK_hit ?_
      refine thenK_n ?_
      refine W_seq ?_
      refine W_seq ?_
      refine W_seqK (b' := 250) rfl rfl ?_
      refine q0 61 122 1 rfl rfl (T_fa D (m := 1) rfl rfl rfl rfl rfl rfl) rfl ?_
      refine q0 62 138 2 rfl rfl (T_load_b D rfl rfl rfl rfl rfl rfl) rfl ?_
      refine q0 63 154 3 rfl rfl (T_cmp rfl rfl rfl rfl) rfl ?_
      refine q0 64 170 4 rfl rfl (T_move rfl rfl) rfl ?_
      refine k_split (d := 64) rfl (fun g3 => ?_) (fun g3 => ?_)
      · have h3 := c_eql_t g3
        refine k_no (d := 65) (j' := 5) rfl rfl rfl (g_ft rfl rfl rfl g3) ?_
        refine k_no (d := 66) (j' := 6) rfl rfl rfl (g_ft rfl rfl rfl g3) ?_
        refine k_no (d := 67) (j' := 7) rfl rfl rfl (g_ft rfl rfl rfl g3) ?_
        refine q0 68 234 8 rfl rfl (T_pick_t rfl rfl rfl g3) rfl ?_
        refine k_done rfl ?_
        refine thenK_n ?_
        refine W_cond rfl (fun g4 => ?_) (fun g4 => ?_)
        · skip
          refine W_seqK (b' := 346) rfl rfl ?_
          refine q0 69 250 1 rfl rfl (T_move rfl rfl) rfl ?_
          refine q0 70 266 2 rfl rfl (T_fa D (m := 3) rfl rfl rfl rfl rfl rfl) rfl ?_
          refine q0 71 282 3 rfl rfl (T_load_b D rfl rfl rfl rfl rfl rfl) rfl ?_
          refine q0 72 298 4 rfl rfl (T_callV (lvs := [_, _]) (L := [(1, 5)]) (rhead_spec (pathsL f) _ (by omega)) body72 rfl rfl rfl rfl (.lend rfl (.nil)) rfl) rfl ?_
          refine q0 73 314 5 rfl rfl (T_fa D (m := 3) rfl rfl rfl rfl rfl rfl) rfl ?_
          refine s1 330 6 rfl rfl (T_stB D (cs' := [_, _, _, _, _]) rfl rfl rfl rfl (flat_v rfl) rfl rfl (Nat.le_of_ble_eq_true rfl) rfl) rfl ?_
          refine k_done rfl ?_
          refine thenK_n ?_
          refine W_seq ?_
          refine W_seq ?_
          refine W_seqK (b' := 394) rfl rfl ?_
          refine q0 74 346 1 rfl rfl (T_fa D (m := 1) rfl rfl rfl rfl rfl rfl) rfl ?_
          refine q0 75 362 2 rfl rfl (T_load_b D rfl rfl rfl rfl rfl rfl) rfl ?_
          refine q0 76 378 3 rfl rfl (T_cmp rfl rfl rfl rfl) rfl ?_
          refine k_done rfl ?_
          refine thenK_n ?_
          refine W_cond rfl (fun g5 => ?_) (fun g5 => ?_)
          · have h5 := c_eql_t g5
            refine W_seqK (b' := 490) rfl rfl ?_
            refine q0 77 394 1 rfl rfl (T_move rfl rfl) rfl ?_
            refine q0 78 410 2 rfl rfl (T_fa D (m := 4) rfl rfl rfl rfl rfl rfl) rfl ?_
            refine q0 79 426 3 rfl rfl (T_load_b D rfl rfl rfl rfl rfl rfl) rfl ?_
            refine q0 80 442 4 rfl rfl (T_callV (lvs := [_, _]) (L := [(1, 5)]) (rhead_spec (pathsL f) _ (by omega)) body72 rfl rfl rfl rfl (.lend rfl (.nil)) rfl) rfl ?_
            refine q0 81 458 5 rfl rfl (T_fa D (m := 4) rfl rfl rfl rfl rfl rfl) rfl ?_
            refine s1 474 6 rfl rfl (T_stB D (cs' := [_, _, _, _, _]) rfl rfl rfl rfl (flat_v rfl) rfl rfl (Nat.le_of_ble_eq_true rfl) rfl) rfl ?_
            refine k_done rfl ?_
            refine thenK_n ?_
            refine W_seqK (b' := 602) rfl rfl ?_
            refine q0 82 490 1 rfl rfl (T_fa D (m := 1) rfl rfl rfl rfl rfl rfl) rfl ?_
            refine q0 83 506 2 rfl rfl (T_load_b D rfl rfl rfl rfl rfl rfl) rfl ?_
            refine q0 84 522 3 rfl rfl (T_load_bA D (l := [_, _, _, _, _]) rfl rfl rfl rfl rfl rfl rfl) rfl ?_
            refine qn 85 538 4 rfl rfl (T_bs D (ys := [⟨_, _, _, _, _⟩]) (enc := eBlock) (l := [_, _, _, _, _]) rfl rfl rfl rfl rfl rfl (.cons rfl flat_agg (.nil)) rfl rfl rfl rfl (.row rfl (.v rfl (.v rfl (.v rfl (.v rfl (.nil))))) (by rfl)) rfl rfl) rfl ?_
            refine qn 86 554 5 rfl rfl (T_append D rfl rfl rfl rfl rfl rfl rfl rfl rfl rfl rfl rfl (by (try simp only [ty72]); first | assumption | omega | (have q := hpx (by omega); omega) | (have q := hpx (by omega); have q2 := hbi (by omega); simp only [List.length_append, List.length_nil]; omega) | (simp; omega)) (by (try simp only [ty72]); first | assumption | omega | (have q := hpx (by omega); omega) | (have q := hpx (by omega); have q2 := hbi (by omega); simp only [List.length_append, List.length_nil]; omega) | (simp; omega))) rfl ?_
            refine q0 87 570 6 rfl rfl (T_fa D (m := 1) rfl rfl rfl rfl rfl rfl) rfl ?_
            refine s1 586 7 rfl rfl (T_stB D (cs' := [_, _]) rfl rfl rfl rfl (flat_sl rfl) rfl rfl (Nat.le_of_ble_eq_true rfl) rfl) rfl ?_
            refine k_done rfl ?_
            refine blockK_n ?_
            refine thenK_n ?_
            refine W_seqK (b' := 650) rfl rfl ?_
            refine q0 19 602 1 rfl rfl (T_move rfl rfl) rfl ?_
            refine q0 20 618 2 rfl rfl (T_add64 rfl rfl rfl (by first | assumption | omega | (have q := hpx (by omega); omega) | (have q := hpx (by omega); have q2 := hbi (by omega); simp only [List.length_append, List.length_nil]; omega) | (simp; omega))) rfl ?_
            refine q0 6 634 3 rfl rfl (T_assign rfl rfl) rfl ?_
            refine k_done rfl ?_
            refine thenK_n ?_
            refine ⟨j + 1, by (try dsimp only); omega, by (try dsimp only); omega, ?_⟩
            exact ⟨[(2, 2), (3, 3), (4, 4), (5, 5), (6, 6), (7, 554)], .same rfl rfl (.same rfl rfl (.same rfl rfl (.same rfl rfl (.eq rfl (.nil) (by first | rfl | (exfalso; omega) | (refine tidy_step (by omega) (rAcc_new (i := i) (last_ends hv hjp.1 hjp.2.2) (fun q hq => (hpi q hq).1) hjp.1 (by omega) ?_ ?_) <;> (first | exact (if_pos (by omega)).symm | exact (if_neg (by omega)).symm))))))), .fzE rfl (.box (by first | rfl | (exfalso; omega) | (refine tidy_step (by omega) (rAcc_new (i := i) (last_ends hv hjp.1 hjp.2.2) (fun q hq => (hpi q hq).1) hjp.1 (by omega) ?_ ?_) <;> (first | exact (if_pos (by omega)).symm | exact (if_neg (by omega)).symm))) (.box (by first | rfl | (exfalso; omega) | (refine tidy_step (by omega) (rAcc_new (i := i) (last_ends hv hjp.1 hjp.2.2) (fun q hq => (hpi q hq).1) hjp.1 (by omega) ?_ ?_) <;> (first | exact (if_pos (by omega)).symm | exact (if_neg (by omega)).symm))) (.rowE rfl (.rowE rfl (.box (by first | rfl | (exfalso; omega) | (refine tidy_step (by omega) (rAcc_new (i := i) (last_ends hv hjp.1 hjp.2.2) (fun q hq => (hpi q hq).1) hjp.1 (by omega) ?_ ?_) <;> (first | exact (if_pos (by omega)).symm | exact (if_neg (by omega)).symm))) (.rowE rfl (.nil) (by first | rfl | (exfalso; omega) | (refine tidy_step (by omega) (rAcc_new (i := i) (last_ends hv hjp.1 hjp.2.2) (fun q hq => (hpi q hq).1) hjp.1 (by omega) ?_ ?_) <;> (first | exact (if_pos (by omega)).symm | exact (if_neg (by omega)).symm))))) (by first | rfl | (exfalso; omega) | (refine tidy_step (by omega) (rAcc_new (i := i) (last_ends hv hjp.1 hjp.2.2) (fun q hq => (hpi q hq).1) hjp.1 (by omega) ?_ ?_) <;> (first | exact (if_pos (by omega)).symm | exact (if_neg (by omega)).symm)))) (by first | rfl | (exfalso; omega) | (refine tidy_step (by omega) (rAcc_new (i := i) (last_ends hv hjp.1 hjp.2.2) (fun q hq => (hpi q hq).1) hjp.1 (by omega) ?_ ?_) <;> (first | exact (if_pos (by omega)).symm | exact (if_neg (by omega)).symm)))))) rfl, rfl⟩
          · have h5 := c_eql_f g5
            refine W_skip ?_
            refine thenK_n ?_
            refine W_seqK (b' := 506) rfl rfl ?_
            refine q0 82 394 1 rfl rfl (T_fa D (m := 1) rfl rfl rfl rfl rfl rfl) rfl ?_
            refine q0 83 410 2 rfl rfl (T_load_b D rfl rfl rfl rfl rfl rfl) rfl ?_
            refine q0 84 426 3 rfl rfl (T_load_bA D (l := [_, _, _, _, _]) rfl rfl rfl rfl rfl rfl rfl) rfl ?_
            refine qn 85 442 4 rfl rfl (T_bs D (ys := [⟨_, _, _, _, _⟩]) (enc := eBlock) (l := [_, _, _, _, _]) rfl rfl rfl rfl rfl rfl (.cons rfl flat_agg (.nil)) rfl rfl rfl rfl (.row rfl (.v rfl (.v rfl (.v rfl (.v rfl (.nil))))) (by rfl)) rfl rfl) rfl ?_
            refine qn 86 458 5 rfl rfl (T_append D rfl rfl rfl rfl rfl rfl rfl rfl rfl rfl rfl rfl (by (try simp only [ty72]); first | assumption | omega | (have q := hpx (by omega); omega) | (have q := hpx (by omega); have q2 := hbi (by omega); simp only [List.length_append, List.length_nil]; omega) | (simp; omega)) (by (try simp only [ty72]); first | assumption | omega | (have q := hpx (by omega); omega) | (have q := hpx (by omega); have q2 := hbi (by omega); simp only [List.length_append, List.length_nil]; omega) | (simp; omega))) rfl ?_
            refine q0 87 474 6 rfl rfl (T_fa D (m := 1) rfl rfl rfl rfl rfl rfl) rfl ?_
            refine s1 490 7 rfl rfl (T_stB D (cs' := [_, _]) rfl rfl rfl rfl (flat_sl rfl) rfl rfl (Nat.le_of_ble_eq_true rfl) rfl) rfl ?_
            refine k_done rfl ?_
            refine blockK_n ?_
            refine thenK_n ?_
            refine W_seqK (b' := 554) rfl rfl ?_
            refine q0 19 506 1 rfl rfl (T_move rfl rfl) rfl ?_
            refine q0 20 522 2 rfl rfl (T_add64 rfl rfl rfl (by first | assumption | omega | (have q := hpx (by omega); omega) | (have q := hpx (by omega); have q2 := hbi (by omega); simp only [List.length_append, List.length_nil]; omega) | (simp; omega))) rfl ?_
            refine q0 6 538 3 rfl rfl (T_assign rfl rfl) rfl ?_
            refine k_done rfl ?_
            refine thenK_n ?_
            refine ⟨j + 1, by (try dsimp only); omega, by (try dsimp only); omega, ?_⟩
            exact ⟨[(2, 2), (3, 3), (4, 4), (5, 5), (6, 6), (7, 458)], .same rfl rfl (.same rfl rfl (.same rfl rfl (.same rfl rfl (.eq rfl (.nil) (by first | rfl | (exfalso; omega) | (refine tidy_step (by omega) (rAcc_new (i := i) (last_ends hv hjp.1 hjp.2.2) (fun q hq => (hpi q hq).1) hjp.1 (by omega) ?_ ?_) <;> (first | exact (if_pos (by omega)).symm | exact (if_neg (by omega)).symm))))))), .fzE rfl (.box (by first | rfl | (exfalso; omega) | (refine tidy_step (by omega) (rAcc_new (i := i) (last_ends hv hjp.1 hjp.2.2) (fun q hq => (hpi q hq).1) hjp.1 (by omega) ?_ ?_) <;> (first | exact (if_pos (by omega)).symm | exact (if_neg (by omega)).symm))) (.box (by first | rfl | (exfalso; omega) | (refine tidy_step (by omega) (rAcc_new (i := i) (last_ends hv hjp.1 hjp.2.2) (fun q hq => (hpi q hq).1) hjp.1 (by omega) ?_ ?_) <;> (first | exact (if_pos (by omega)).symm | exact (if_neg (by omega)).symm))) (.rowE rfl (.rowE rfl (.box (by first | rfl | (exfalso; omega) | (refine tidy_step (by omega) (rAcc_new (i := i) (last_ends hv hjp.1 hjp.2.2) (fun q hq => (hpi q hq).1) hjp.1 (by omega) ?_ ?_) <;> (first | exact (if_pos (by omega)).symm | exact (if_neg (by omega)).symm))) (.rowE rfl (.nil) (by first | rfl | (exfalso; omega) | (refine tidy_step (by omega) (rAcc_new (i := i) (last_ends hv hjp.1 hjp.2.2) (fun q hq => (hpi q hq).1) hjp.1 (by omega) ?_ ?_) <;> (first | exact (if_pos (by omega)).symm | exact (if_neg (by omega)).symm))))) (by first | rfl | (exfalso; omega) | (refine tidy_step (by omega) (rAcc_new (i := i) (last_ends hv hjp.1 hjp.2.2) (fun q hq => (hpi q hq).1) hjp.1 (by omega) ?_ ?_) <;> (first | exact (if_pos (by omega)).symm | exact (if_neg (by omega)).symm)))) (by first | rfl | (exfalso; omega) | (refine tidy_step (by omega) (rAcc_new (i := i) (last_ends hv hjp.1 hjp.2.2) (fun q hq => (hpi q hq).1) hjp.1 (by omega) ?_ ?_) <;> (first | exact (if_pos (by omega)).symm | exact (if_neg (by omega)).symm)))))) rfl, rfl⟩
        · exact absurd (g4.symm.trans rfl) (by decide)
      · have h3 := c_eql_f g3
        refine k_op0 (d := 65) (b := 186) (j' := 5) rfl rfl rfl rfl (g_ff rfl rfl rfl g3) (T_fa D (m := 1) rfl rfl rfl rfl rfl rfl) rfl ?_
        refine k_op0 (d := 66) (b := 202) (j' := 6) rfl rfl rfl rfl (g_ff rfl rfl rfl g3) (T_load_b D rfl rfl rfl rfl rfl rfl) rfl ?_
        refine k_op0 (d := 67) (b := 218) (j' := 7) rfl rfl rfl rfl (g_ff rfl rfl rfl g3) (T_cmp rfl rfl rfl rfl) rfl ?_
        refine q0 68 234 8 rfl rfl (T_pick_f rfl rfl rfl g3) rfl ?_
        refine k_done rfl ?_
        refine thenK_n ?_
        refine W_cond rfl (fun g6 => ?_) (fun g6 => ?_)
        · have h6 := c_eql_t g6
          refine W_seqK (b' := 346) rfl rfl ?_
          refine q0 69 250 1 rfl rfl (T_move rfl rfl) rfl ?_
          refine q0 70 266 2 rfl rfl (T_fa D (m := 3) rfl rfl rfl rfl rfl rfl) rfl ?_
          refine q0 71 282 3 rfl rfl (T_load_b D rfl rfl rfl rfl rfl rfl) rfl ?_
          refine q0 72 298 4 rfl rfl (T_callV (lvs := [_, _]) (L := [(1, 5)]) (rhead_spec (pathsL f) _ (by omega)) body72 rfl rfl rfl rfl (.lend rfl (.nil)) rfl) rfl ?_
          refine q0 73 314 5 rfl rfl (T_fa D (m := 3) rfl rfl rfl rfl rfl rfl) rfl ?_
          refine s1 330 6 rfl rfl (T_stB D (cs' := [_, _, _, _, _]) rfl rfl rfl rfl (flat_v rfl) rfl rfl (Nat.le_of_ble_eq_true rfl) rfl) rfl ?_
          refine k_done rfl ?_
          refine thenK_n ?_
          refine W_seq ?_
          refine W_seq ?_
          refine W_seqK (b' := 394) rfl rfl ?_
          refine q0 74 346 1 rfl rfl (T_fa D (m := 1) rfl rfl rfl rfl rfl rfl) rfl ?_
          refine q0 75 362 2 rfl rfl (T_load_b D rfl rfl rfl rfl rfl rfl) rfl ?_
          refine q0 76 378 3 rfl rfl (T_cmp rfl rfl rfl rfl) rfl ?_
          refine k_done rfl ?_
          refine thenK_n ?_
          refine W_cond rfl (fun g7 => ?_) (fun g7 => ?_)
          · have h7 := c_eql_t g7
            refine W_seqK (b' := 490) rfl rfl ?_
            refine q0 77 394 1 rfl rfl (T_move rfl rfl) rfl ?_
            refine q0 78 410 2 rfl rfl (T_fa D (m := 4) rfl rfl rfl rfl rfl rfl) rfl ?_
            refine q0 79 426 3 rfl rfl (T_load_b D rfl rfl rfl rfl rfl rfl) rfl ?_
            refine q0 80 442 4 rfl rfl (T_callV (lvs := [_, _]) (L := [(1, 5)]) (rhead_spec (pathsL f) _ (by omega)) body72 rfl rfl rfl rfl (.lend rfl (.nil)) rfl) rfl ?_
            refine q0 81 458 5 rfl rfl (T_fa D (m := 4) rfl rfl rfl rfl rfl rfl) rfl ?_
            refine s1 474 6 rfl rfl (T_stB D (cs' := [_, _, _, _, _]) rfl rfl rfl rfl (flat_v rfl) rfl rfl (Nat.le_of_ble_eq_true rfl) rfl) rfl ?_
            refine k_done rfl ?_
            refine thenK_n ?_
            refine W_seqK (b' := 602) rfl rfl ?_
            refine q0 82 490 1 rfl rfl (T_fa D (m := 1) rfl rfl rfl rfl rfl rfl) rfl ?_
            refine q0 83 506 2 rfl rfl (T_load_b D rfl rfl rfl rfl rfl rfl) rfl ?_
            refine q0 84 522 3 rfl rfl (T_load_bA D (l := [_, _, _, _, _]) rfl rfl rfl rfl rfl rfl rfl) rfl ?_
            refine qn 85 538 4 rfl rfl (T_bs D (ys := [⟨_, _, _, _, _⟩]) (enc := eBlock) (l := [_, _, _, _, _]) rfl rfl rfl rfl rfl rfl (.cons rfl flat_agg (.nil)) rfl rfl rfl rfl (.row rfl (.v rfl (.v rfl (.v rfl (.v rfl (.nil))))) (by rfl)) rfl rfl) rfl ?_
            refine qn 86 554 5 rfl rfl (T_append D rfl rfl rfl rfl rfl rfl rfl rfl rfl rfl rfl rfl (by (try simp only [ty72]); first | assumption | omega | (have q := hpx (by omega); omega) | (have q := hpx (by omega); have q2 := hbi (by omega); simp only [List.length_append, List.length_nil]; omega) | (simp; omega)) (by (try simp only [ty72]); first | assumption | omega | (have q := hpx (by omega); omega) | (have q := hpx (by omega); have q2 := hbi (by omega); simp only [List.length_append, List.length_nil]; omega) | (simp; omega))) rfl ?_
            refine q0 87 570 6 rfl rfl (T_fa D (m := 1) rfl rfl rfl rfl rfl rfl) rfl ?_
            refine s1 586 7 rfl rfl (T_stB D (cs' := [_, _]) rfl rfl rfl rfl (flat_sl rfl) rfl rfl (Nat.le_of_ble_eq_true rfl) rfl) rfl ?_
            refine k_done rfl ?_
            refine blockK_n ?_
            refine thenK_n ?_
            refine W_seqK (b' := 650) rfl rfl ?_
            refine q0 19 602 1 rfl rfl (T_move rfl rfl) rfl ?_
            refine q0 20 618 2 rfl rfl (T_add64 rfl rfl rfl (by first | assumption | omega | (have q := hpx (by omega); omega) | (have q := hpx (by omega); have q2 := hbi (by omega); simp only [List.length_append, List.length_nil]; omega) | (simp; omega))) rfl ?_
            refine q0 6 634 3 rfl rfl (T_assign rfl rfl) rfl ?_
            refine k_done rfl ?_
            refine thenK_n ?_
            refine ⟨j + 1, by (try dsimp only); omega, by (try dsimp only); omega, ?_⟩
            exact ⟨[(2, 2), (3, 3), (4, 4), (5, 5), (6, 6), (7, 554)], .same rfl rfl (.same rfl rfl (.same rfl rfl (.same rfl rfl (.eq rfl (.nil) (by first | rfl | (exfalso; omega) | (refine tidy_step (by omega) (rAcc_new (i := i) (last_ends hv hjp.1 hjp.2.2) (fun q hq => (hpi q hq).1) hjp.1 (by omega) ?_ ?_) <;> (first | exact (if_pos (by omega)).symm | exact (if_neg (by omega)).symm))))))), .fzE rfl (.box (by first | rfl | (exfalso; omega) | (refine tidy_step (by omega) (rAcc_new (i := i) (last_ends hv hjp.1 hjp.2.2) (fun q hq => (hpi q hq).1) hjp.1 (by omega) ?_ ?_) <;> (first | exact (if_pos (by omega)).symm | exact (if_neg (by omega)).symm))) (.box (by first | rfl | (exfalso; omega) | (refine tidy_step (by omega) (rAcc_new (i := i) (last_ends hv hjp.1 hjp.2.2) (fun q hq => (hpi q hq).1) hjp.1 (by omega) ?_ ?_) <;> (first | exact (if_pos (by omega)).symm | exact (if_neg (by omega)).symm))) (.rowE rfl (.rowE rfl (.box (by first | rfl | (exfalso; omega) | (refine tidy_step (by omega) (rAcc_new (i := i) (last_ends hv hjp.1 hjp.2.2) (fun q hq => (hpi q hq).1) hjp.1 (by omega) ?_ ?_) <;> (first | exact (if_pos (by omega)).symm | exact (if_neg (by omega)).symm))) (.rowE rfl (.nil) (by first | rfl | (exfalso; omega) | (refine tidy_step (by omega) (rAcc_new (i := i) (last_ends hv hjp.1 hjp.2.2) (fun q hq => (hpi q hq).1) hjp.1 (by omega) ?_ ?_) <;> (first | exact (if_pos (by omega)).symm | exact (if_neg (by omega)).symm))))) (by first | rfl | (exfalso; omega) | (refine tidy_step (by omega) (rAcc_new (i := i) (last_ends hv hjp.1 hjp.2.2) (fun q hq => (hpi q hq).1) hjp.1 (by omega) ?_ ?_) <;> (first | exact (if_pos (by omega)).symm | exact (if_neg (by omega)).symm)))) (by first | rfl | (exfalso; omega) | (refine tidy_step (by omega) (rAcc_new (i := i) (last_ends hv hjp.1 hjp.2.2) (fun q hq => (hpi q hq).1) hjp.1 (by omega) ?_ ?_) <;> (first | exact (if_pos (by omega)).symm | exact (if_neg (by omega)).symm)))))) rfl, rfl⟩
          · have h7 := c_eql_f g7
            refine W_skip ?_
            refine thenK_n ?_
            refine W_seqK (b' := 506) rfl rfl ?_
            refine q0 82 394 1 rfl rfl (T_fa D (m := 1) rfl rfl rfl rfl rfl rfl) rfl ?_
            refine q0 83 410 2 rfl rfl (T_load_b D rfl rfl rfl rfl rfl rfl) rfl ?_
            refine q0 84 426 3 rfl rfl (T_load_bA D (l := [_, _, _, _, _]) rfl rfl rfl rfl rfl rfl rfl) rfl ?_
            refine qn 85 442 4 rfl rfl (T_bs D (ys := [⟨_, _, _, _, _⟩]) (enc := eBlock) (l := [_, _, _, _, _]) rfl rfl rfl rfl rfl rfl (.cons rfl flat_agg (.nil)) rfl rfl rfl rfl (.row rfl (.v rfl (.v rfl (.v rfl (.v rfl (.nil))))) (by rfl)) rfl rfl) rfl ?_
            refine qn 86 458 5 rfl rfl (T_append D rfl rfl rfl rfl rfl rfl rfl rfl rfl rfl rfl rfl (by (try simp only [ty72]); first | assumption | omega | (have q := hpx (by omega); omega) | (have q := hpx (by omega); have q2 := hbi (by omega); simp only [List.length_append, List.length_nil]; omega) | (simp; omega)) (by (try simp only [ty72]); first | assumption | omega | (have q := hpx (by omega); omega) | (have q := hpx (by omega); have q2 := hbi (by omega); simp only [List.length_append, List.length_nil]; omega) | (simp; omega))) rfl ?_
            refine q0 87 474 6 rfl rfl (T_fa D (m := 1) rfl rfl rfl rfl rfl rfl) rfl ?_
            refine s1 490 7 rfl rfl (T_stB D (cs' := [_, _]) rfl rfl rfl rfl (flat_sl rfl) rfl rfl (Nat.le_of_ble_eq_true rfl) rfl) rfl ?_
            refine k_done rfl ?_
            refine blockK_n ?_
            refine thenK_n ?_
            refine W_seqK (b' := 554) rfl rfl ?_
            refine q0 19 506 1 rfl rfl (T_move rfl rfl) rfl ?_
            refine q0 20 522 2 rfl rfl (T_add64 rfl rfl rfl (by first | assumption | omega | (have q := hpx (by omega); omega) | (have q := hpx (by omega); have q2 := hbi (by omega); simp only [List.length_append, List.length_nil]; omega) | (simp; omega))) rfl ?_
            refine q0 6 538 3 rfl rfl (T_assign rfl rfl) rfl ?_
            refine k_done rfl ?_
            refine thenK_n ?_
            refine ⟨j + 1, by (try dsimp only); omega, by (try dsimp only); omega, ?_⟩
            exact ⟨[(2, 2), (3, 3), (4, 4), (5, 5), (6, 6), (7, 458)], .same rfl rfl (.same rfl rfl (.same rfl rfl (.same rfl rfl (.eq rfl (.nil) (by first | rfl | (exfalso; omega) | (refine tidy_step (by omega) (rAcc_new (i := i) (last_ends hv hjp.1 hjp.2.2) (fun q hq => (hpi q hq).1) hjp.1 (by omega) ?_ ?_) <;> (first | exact (if_pos (by omega)).symm | exact (if_neg (by omega)).symm))))))), .fzE rfl (.box (by first | rfl | (exfalso; omega) | (refine tidy_step (by omega) (rAcc_new (i := i) (last_ends hv hjp.1 hjp.2.2) (fun q hq => (hpi q hq).1) hjp.1 (by omega) ?_ ?_) <;> (first | exact (if_pos (by omega)).symm | exact (if_neg (by omega)).symm))) (.box (by first | rfl | (exfalso; omega) | (refine tidy_step (by omega) (rAcc_new (i := i) (last_ends hv hjp.1 hjp.2.2) (fun q hq => (hpi q hq).1) hjp.1 (by omega) ?_ ?_) <;> (first | exact (if_pos (by omega)).symm | exact (if_neg (by omega)).symm))) (.rowE rfl (.rowE rfl (.box (by first | rfl | (exfalso; omega) | (refine tidy_step (by omega) (rAcc_new (i := i) (last_ends hv hjp.1 hjp.2.2) (fun q hq => (hpi q hq).1) hjp.1 (by omega) ?_ ?_) <;> (first | exact (if_pos (by omega)).symm | exact (if_neg (by omega)).symm))) (.rowE rfl (.nil) (by first | rfl | (exfalso; omega) | (refine tidy_step (by omega) (rAcc_new (i := i) (last_ends hv hjp.1 hjp.2.2) (fun q hq => (hpi q hq).1) hjp.1 (by omega) ?_ ?_) <;> (first | exact (if_pos (by omega)).symm | exact (if_neg (by omega)).symm))))) (by first | rfl | (exfalso; omega) | (refine tidy_step (by omega) (rAcc_new (i := i) (last_ends hv hjp.1 hjp.2.2) (fun q hq => (hpi q hq).1) hjp.1 (by omega) ?_ ?_) <;> (first | exact (if_pos (by omega)).symm | exact (if_neg (by omega)).symm)))) (by first | rfl | (exfalso; omega) | (refine tidy_step (by omega) (rAcc_new (i := i) (last_ends hv hjp.1 hjp.2.2) (fun q hq => (hpi q hq).1) hjp.1 (by omega) ?_ ?_) <;> (first | exact (if_pos (by omega)).symm | exact (if_neg (by omega)).symm)))))) rfl, rfl⟩
        · have h6 := c_eql_f g6
          refine W_skip ?_
          refine thenK_n ?_
          refine W_seq ?_
          refine W_seq ?_
          refine W_seqK (b' := 298) rfl rfl ?_
          refine q0 74 250 1 rfl rfl (T_fa D (m := 1) rfl rfl rfl rfl rfl rfl) rfl ?_
          refine q0 75 266 2 rfl rfl (T_load_b D rfl rfl rfl rfl rfl rfl) rfl ?_
          refine q0 76 282 3 rfl rfl (T_cmp rfl rfl rfl rfl) rfl ?_
          refine k_done rfl ?_
          refine thenK_n ?_
          refine W_cond rfl (fun g8 => ?_) (fun g8 => ?_)
          · have h8 := c_eql_t g8
            refine W_seqK (b' := 394) rfl rfl ?_
            refine q0 77 298 1 rfl rfl (T_move rfl rfl) rfl ?_
            refine q0 78 314 2 rfl rfl (T_fa D (m := 4) rfl rfl rfl rfl rfl rfl) rfl ?_
            refine q0 79 330 3 rfl rfl (T_load_b D rfl rfl rfl rfl rfl rfl) rfl ?_
            refine q0 80 346 4 rfl rfl (T_callV (lvs := [_, _]) (L := [(1, 5)]) (rhead_spec (pathsL f) _ (by omega)) body72 rfl rfl rfl rfl (.lend rfl (.nil)) rfl) rfl ?_
            refine q0 81 362 5 rfl rfl (T_fa D (m := 4) rfl rfl rfl rfl rfl rfl) rfl ?_
            refine s1 378 6 rfl rfl (T_stB D (cs' := [_, _, _, _, _]) rfl rfl rfl rfl (flat_v rfl) rfl rfl (Nat.le_of_ble_eq_true rfl) rfl) rfl ?_
            refine k_done rfl ?_
            refine thenK_n ?_
            refine W_seqK (b' := 506) rfl rfl ?_
            refine q0 82 394 1 rfl rfl (T_fa D (m := 1) rfl rfl rfl rfl rfl rfl) rfl ?_
            refine q0 83 410 2 rfl rfl (T_load_b D rfl rfl rfl rfl rfl rfl) rfl ?_
            refine q0 84 426 3 rfl rfl (T_load_bA D (l := [_, _, _, _, _]) rfl rfl rfl rfl rfl rfl rfl) rfl ?_
            refine qn 85 442 4 rfl rfl (T_bs D (ys := [⟨_, _, _, _, _⟩]) (enc := eBlock) (l := [_, _, _, _, _]) rfl rfl rfl rfl rfl rfl (.cons rfl flat_agg (.nil)) rfl rfl rfl rfl (.row rfl (.v rfl (.v rfl (.v rfl (.v rfl (.nil))))) (by rfl)) rfl rfl) rfl ?_
            refine qn 86 458 5 rfl rfl (T_append D rfl rfl rfl rfl rfl rfl rfl rfl rfl rfl rfl rfl (by (try simp only [ty72]); first | assumption | omega | (have q := hpx (by omega); omega) | (have q := hpx (by omega); have q2 := hbi (by omega); simp only [List.length_append, List.length_nil]; omega) | (simp; omega)) (by (try simp only [ty72]); first | assumption | omega | (have q := hpx (by omega); omega) | (have q := hpx (by omega); have q2 := hbi (by omega); simp only [List.length_append, List.length_nil]; omega) | (simp; omega))) rfl ?_
            refine q0 87 474 6 rfl rfl (T_fa D (m := 1) rfl rfl rfl rfl rfl rfl) rfl ?_
            refine s1 490 7 rfl rfl (T_stB D (cs' := [_, _]) rfl rfl rfl rfl (flat_sl rfl) rfl rfl (Nat.le_of_ble_eq_true rfl) rfl) rfl ?_
            refine k_done rfl ?_
            refine blockK_n ?_
            refine thenK_n ?_
            refine W_seqK (b' := 554) rfl rfl ?_
            refine q0 19 506 1 rfl rfl (T_move rfl rfl) rfl ?_
            refine q0 20 522 2 rfl rfl (T_add64 rfl rfl rfl (by first | assumption | omega | (have q := hpx (by omega); omega) | (have q := hpx (by omega); have q2 := hbi (by omega); simp only [List.length_append, List.length_nil]; omega) | (simp; omega))) rfl ?_
            refine q0 6 538 3 rfl rfl (T_assign rfl rfl) rfl ?_
            refine k_done rfl ?_
            refine thenK_n ?_
            refine ⟨j + 1, by (try dsimp only); omega, by (try dsimp only); omega, ?_⟩
            exact ⟨[(2, 2), (3, 3), (4, 4), (5, 5), (6, 6), (7, 458)], .same rfl rfl (.same rfl rfl (.same rfl rfl (.same rfl rfl (.eq rfl (.nil) (by first | rfl | (exfalso; omega) | (refine tidy_step (by omega) (rAcc_new (i := i) (last_ends hv hjp.1 hjp.2.2) (fun q hq => (hpi q hq).1) hjp.1 (by omega) ?_ ?_) <;> (first | exact (if_pos (by omega)).symm | exact (if_neg (by omega)).symm))))))), .fzE rfl (.box (by first | rfl | (exfalso; omega) | (refine tidy_step (by omega) (rAcc_new (i := i) (last_ends hv hjp.1 hjp.2.2) (fun q hq => (hpi q hq).1) hjp.1 (by omega) ?_ ?_) <;> (first | exact (if_pos (by omega)).symm | exact (if_neg (by omega)).symm))) (.box (by first | rfl | (exfalso; omega) | (refine tidy_step (by omega) (rAcc_new (i := i) (last_ends hv hjp.1 hjp.2.2) (fun q hq => (hpi q hq).1) hjp.1 (by omega) ?_ ?_) <;> (first | exact (if_pos (by omega)).symm | exact (if_neg (by omega)).symm))) (.rowE rfl (.rowE rfl (.box (by first | rfl | (exfalso; omega) | (refine tidy_step (by omega) (rAcc_new (i := i) (last_ends hv hjp.1 hjp.2.2) (fun q hq => (hpi q hq).1) hjp.1 (by omega) ?_ ?_) <;> (first | exact (if_pos (by omega)).symm | exact (if_neg (by omega)).symm))) (.rowE rfl (.nil) (by first | rfl | (exfalso; omega) | (refine tidy_step (by omega) (rAcc_new (i := i) (last_ends hv hjp.1 hjp.2.2) (fun q hq => (hpi q hq).1) hjp.1 (by omega) ?_ ?_) <;> (first | exact (if_pos (by omega)).symm | exact (if_neg (by omega)).symm))))) (by first | rfl | (exfalso; omega) | (refine tidy_step (by omega) (rAcc_new (i := i) (last_ends hv hjp.1 hjp.2.2) (fun q hq => (hpi q hq).1) hjp.1 (by omega) ?_ ?_) <;> (first | exact (if_pos (by omega)).symm | exact (if_neg (by omega)).symm)))) (by first | rfl | (exfalso; omega) | (refine tidy_step (by omega) (rAcc_new (i := i) (last_ends hv hjp.1 hjp.2.2) (fun q hq => (hpi q hq).1) hjp.1 (by omega) ?_ ?_) <;> (first | exact (if_pos (by omega)).symm | exact (if_neg (by omega)).symm)))))) rfl, rfl⟩
          · have h8 := c_eql_f g8
            refine W_skip ?_
            refine thenK_n ?_
            refine W_seqK (b' := 410) rfl rfl ?_
            refine q0 82 298 1 rfl rfl (T_fa D (m := 1) rfl rfl rfl rfl rfl rfl) rfl ?_
            refine q0 83 314 2 rfl rfl (T_load_b D rfl rfl rfl rfl rfl rfl) rfl ?_
            refine q0 84 330 3 rfl rfl (T_load_bA D (l := [_, _, _, _, _]) rfl rfl rfl rfl rfl rfl rfl) rfl ?_
            refine qn 85 346 4 rfl rfl (T_bs D (ys := [⟨_, _, _, _, _⟩]) (enc := eBlock) (l := [_, _, _, _, _]) rfl rfl rfl rfl rfl rfl (.cons rfl flat_agg (.nil)) rfl rfl rfl rfl (.row rfl (.v rfl (.v rfl (.v rfl (.v rfl (.nil))))) (by rfl)) rfl rfl) rfl ?_
            refine qn 86 362 5 rfl rfl (T_append D rfl rfl rfl rfl rfl rfl rfl rfl rfl rfl rfl rfl (by (try simp only [ty72]); first | assumption | omega | (have q := hpx (by omega); omega) | (have q := hpx (by omega); have q2 := hbi (by omega); simp only [List.length_append, List.length_nil]; omega) | (simp; omega)) (by (try simp only [ty72]); first | assumption | omega | (have q := hpx (by omega); omega) | (have q := hpx (by omega); have q2 := hbi (by omega); simp only [List.length_append, List.length_nil]; omega) | (simp; omega))) rfl ?_
            refine q0 87 378 6 rfl rfl (T_fa D (m := 1) rfl rfl rfl rfl rfl rfl) rfl ?_
            refine s1 394 7 rfl rfl (T_stB D (cs' := [_, _]) rfl rfl rfl rfl (flat_sl rfl) rfl rfl (Nat.le_of_ble_eq_true rfl) rfl) rfl ?_
            refine k_done rfl ?_
            refine blockK_n ?_
            refine thenK_n ?_
            refine W_seqK (b' := 458) rfl rfl ?_
            refine q0 19 410 1 rfl rfl (T_move rfl rfl) rfl ?_
            refine q0 20 426 2 rfl rfl (T_add64 rfl rfl rfl (by first | assumption | omega | (have q := hpx (by omega); omega) | (have q := hpx (by omega); have q2 := hbi (by omega); simp only [List.length_append, List.length_nil]; omega) | (simp; omega))) rfl ?_
            refine q0 6 442 3 rfl rfl (T_assign rfl rfl) rfl ?_
            refine k_done rfl ?_
            refine thenK_n ?_
            refine ⟨j + 1, by (try dsimp only); omega, by (try dsimp only); omega, ?_⟩
            exact ⟨[(2, 2), (3, 3), (4, 4), (5, 5), (6, 6), (7, 362)], .same rfl rfl (.same rfl rfl (.same rfl rfl (.same rfl rfl (.eq rfl (.nil) (by first | rfl | (exfalso; omega) | (refine tidy_step (by omega) (rAcc_new (i := i) (last_ends hv hjp.1 hjp.2.2) (fun q hq => (hpi q hq).1) hjp.1 (by omega) ?_ ?_) <;> (first | exact (if_pos (by omega)).symm | exact (if_neg (by omega)).symm))))))), .fzE rfl (.box (by first | rfl | (exfalso; omega) | (refine tidy_step (by omega) (rAcc_new (i := i) (last_ends hv hjp.1 hjp.2.2) (fun q hq => (hpi q hq).1) hjp.1 (by omega) ?_ ?_) <;> (first | exact (if_pos (by omega)).symm | exact (if_neg (by omega)).symm))) (.box (by first | rfl | (exfalso; omega) | (refine tidy_step (by omega) (rAcc_new (i := i) (last_ends hv hjp.1 hjp.2.2) (fun q hq => (hpi q hq).1) hjp.1 (by omega) ?_ ?_) <;> (first | exact (if_pos (by omega)).symm | exact (if_neg (by omega)).symm))) (.rowE rfl (.rowE rfl (.box (by first | rfl | (exfalso; omega) | (refine tidy_step (by omega) (rAcc_new (i := i) (last_ends hv hjp.1 hjp.2.2) (fun q hq => (hpi q hq).1) hjp.1 (by omega) ?_ ?_) <;> (first | exact (if_pos (by omega)).symm | exact (if_neg (by omega)).symm))) (.rowE rfl (.nil) (by first | rfl | (exfalso; omega) | (refine tidy_step (by omega) (rAcc_new (i := i) (last_ends hv hjp.1 hjp.2.2) (fun q hq => (hpi q hq).1) hjp.1 (by omega) ?_ ?_) <;> (first | exact (if_pos (by omega)).symm | exact (if_neg (by omega)).symm))))) (by first | rfl | (exfalso; omega) | (refine tidy_step (by omega) (rAcc_new (i := i) (last_ends hv hjp.1 hjp.2.2) (fun q hq => (hpi q hq).1) hjp.1 (by omega) ?_ ?_) <;> (first | exact (if_pos (by omega)).symm | exact (if_neg (by omega)).symm)))) (by first | rfl | (exfalso; omega) | (refine tidy_step (by omega) (rAcc_new (i := i) (last_ends hv hjp.1 hjp.2.2) (fun q hq => (hpi q hq).1) hjp.1 (by omega) ?_ ?_) <;> (first | exact (if_pos (by omega)).symm | exact (if_neg (by omega)).symm)))))) rfl, rfl⟩
  · have h1 := c_lss_f g1
    refine W_exit ?_
    refine thenK_e ?_
    refine thenK_e ?_
    refine blockK_hit ?_
    refine thenK_n ?_
    refine W_seq ?_
    refine W_seqK (b' := 136) rfl rfl ?_
    refine q0 88 72 1 rfl rfl (T_load_bA D (l := [_, _]) rfl rfl rfl rfl rfl rfl rfl) rfl ?_
    refine q0 89 88 2 rfl rfl (T_move rfl rfl) rfl ?_
    refine s1 104 3 rfl rfl (T_stB D (cs' := [_, _]) rfl rfl rfl rfl flat_agg rfl rfl (Nat.le_of_ble_eq_true rfl) rfl) rfl ?_
    refine q0 3 120 4 rfl rfl (T_assign rfl rfl) rfl ?_
    refine k_done rfl ?_
    refine thenK_n ?_
    refine W_ret ?_
    -- end 0
    exact .mk [(2, 7), (3, 5)] (.inr rfl) (.cellA rfl rfl rfl rfl rfl (.tmp rfl (.nil))) (by first | rfl | (have e : j = (pathsL f).length := (by omega); rw [e, List.take_of_length_le (Nat.le_refl _)]; first | done | rfl)) (.rowE rfl (.rowE rfl (.nil) (by first | rfl | (have e : j = (pathsL f).length := (by omega); rw [e, List.take_of_length_le (Nat.le_refl _)]; first | done | rfl))) (by first | rfl | (have e : j = (pathsL f).length := (by omega); rw [e, List.take_of_length_le (Nat.le_refl _)]; first | done | rfl))) rfl
end Lg
end Go.Proofs.Ytpfhmodjjljpjaa

namespace Go.Proofs.Ytpfhmodjjljpjaa
open Go.RowKit
namespace Lg
set_option maxRecDepth 100000
set_option linter.unusedVariables false
set_option linter.unusedSimpArgs false



theorem body29 : (Try.prog.funcs[29]?).map (fun fn => (fn.name == "runtime.NumGoroutine" || fn.body.isNone)) = some false := by kernel_rfl
theorem same_ps_spec (a b : List (List Int)) (ha : a.length ≤ 1000000000) (hl : ∀ p ∈ a, p.length ≤ 1000000) : Spec Try.prog 29 [.r 1, .r 2] 3 [(1, .fz 1 (a.map eIs)), (2, .fz 1 (b.map eIs))] (.v (.bool (decide (a = b)))) 3 [] := by
  refine spec_of D (fn := Try.f29) rfl rfl (Nat.le_of_ble_eq_true rfl) ?_
  refine W_seq ?_
  refine W_seqK (b' := 19) rfl rfl ?_
  refine q0 4 3 1 rfl rfl (T_assign rfl rfl) rfl ?_
  refine k_done rfl ?_
  refine thenK_n ?_
  refine W_seq ?_
  refine W_seq ?_
  refine W_seqK (b' := 99) rfl rfl ?_
  refine q0 6 19 1 rfl rfl (T_move rfl rfl) rfl ?_
  refine q0 7 35 2 rfl rfl (T_len D rfl rfl rfl rfl rfl rfl) rfl ?_
  refine q0 8 51 3 rfl rfl (T_move rfl rfl) rfl ?_
  refine q0 9 67 4 rfl rfl (T_len D rfl rfl rfl rfl rfl rfl) rfl ?_
  refine q0 10 83 5 rfl rfl (T_cmp rfl rfl rfl rfl) rfl ?_
  refine k_done rfl ?_
  refine thenK_n ?_
  refine W_cond rfl (fun g1 => ?_) (fun g1 => ?_)
  · have h1 := c_neq_t g1
    refine W_seq ?_
    refine W_seqK (b' := 115) rfl rfl ?_
    refine q0 4 99 1 rfl rfl (T_assign rfl rfl) rfl ?_
    refine k_done rfl ?_
    refine thenK_n ?_
    refine W_ret ?_
    refine thenK_r ?_
    -- end 0
    exact .mk [] (.inr rfl) (.tmp rfl (.nil)) (by simp only [Value.bool.injEq, LV.v.injEq, resLV, LV.ren]; exact (decide_eq_false (ne_of_len (by omega))).symm) (.nil) rfl
  · have h1 := c_neq_f g1
    refine W_skip ?_
    refine thenK_n ?_
    refine W_seq ?_
    refine W_seq ?_
    refine W_seqK (b' := 115) rfl rfl ?_
    refine q0 5 99 1 rfl rfl (T_assign rfl rfl) rfl ?_
    refine k_done rfl ?_
    refine thenK_n ?_
    refine W_block ?_
    refine W_loop (ι := Nat) 3 (fun j => ⟨[(0, .r 1), (1, .r 2), (5, .v (.int .i64 (j : Int)))], [(1, .fz 1 (a.map eIs)), (2, .fz 1 (b.map eIs))]⟩) (fun j => j ≤ a.length ∧ ∀ i, i < j → a.getD i default = b.getD i default) (fun j => a.length - j) (0) (by exact ⟨Nat.zero_le _, fun i h => absurd h (Nat.not_lt_zero _)⟩) ?_ (fun j hJ => ?_)
    · exact ⟨[], .same rfl rfl (.same rfl rfl (.eq rfl (.nil) (by first | rfl | simp))), .fzE rfl (.fzE rfl (.nil) (by first | rfl | simp)) (by first | rfl | simp), rfl⟩
    refine W_seq ?_
    refine W_seq ?_
    refine W_seqK (b' := 67) rfl rfl ?_
    refine q0 11 3 1 rfl rfl (T_move rfl rfl) rfl ?_
    refine q0 12 19 2 rfl rfl (T_move rfl rfl) rfl ?_
    refine q0 13 35 3 rfl rfl (T_len D rfl rfl rfl rfl rfl rfl) rfl ?_
    refine q0 14 51 4 rfl rfl (T_cmp rfl rfl rfl rfl) rfl ?_
    refine k_done rfl ?_
    refine thenK_n ?_
    refine W_cond rfl (fun g2 => ?_) (fun g2 => ?_)
    · have h2 := c_lss_t g2
      refine W_skip ?_
      refine thenK_n ?_
      refine W_seq ?_
      refine W_block ?_
      refine W_seq ?_
      refine W_anyK (b' := 227) rfl rfl rfl ?_
      refine q0 17 67 1 rfl rfl (T_move rfl rfl) rfl ?_
      refine q0 18 83 2 rfl rfl (T_move rfl rfl) rfl ?_
      first | refine q0 19 99 3 rfl rfl (T_indexAddr D rfl rfl rfl rfl rfl rfl rfl rfl (by first | assumption | omega | (simp; omega))) rfl ?_ | refine q0 19 99 3 rfl rfl (T_indexAddrZ D rfl rfl rfl rfl rfl rfl rfl rfl (by first | assumption | omega | (simp; omega)) (by first | assumption | omega | (simp; omega))) rfl ?_
      refine q1 20 115 4 rfl rfl (T_ldE D (lv := .r 115) (nn := 1) (upd := [(115, .fz 1 _)]) rfl rfl rfl rfl rfl (by first | assumption | omega | (simp; omega)) rfl rfl rfl rfl) rfl ?_
      refine q0 21 131 5 rfl rfl (T_move rfl rfl) rfl ?_
      refine q0 22 147 6 rfl rfl (T_move rfl rfl) rfl ?_
      first | refine q0 23 163 7 rfl rfl (T_indexAddr D rfl rfl rfl rfl rfl rfl rfl rfl (by first | assumption | omega | (simp; omega))) rfl ?_ | refine q0 23 163 7 rfl rfl (T_indexAddrZ D rfl rfl rfl rfl rfl rfl rfl rfl (by first | assumption | omega | (simp; omega)) (by first | assumption | omega | (simp; omega))) rfl ?_
      refine q1 24 179 8 rfl rfl (T_ldE D (lv := .r 179) (nn := 1) (upd := [(179, .fz 1 _)]) rfl rfl rfl rfl rfl (by first | assumption | omega | (simp; omega)) rfl rfl rfl rfl) rfl ?_
      refine q0 25 195 9 rfl rfl (T_callV (lvs := [_, _]) (L := [(1, 115), (2, 179)]) (list_spec (a.getD j default) (b.getD j default) (hl _ (getD_mem (by omega)))) body39 rfl rfl rfl rfl (.fz rfl (.fz rfl (.nil))) rfl) rfl ?_
      refine q0 26 211 10 rfl rfl (T_not rfl rfl) rfl ?_
      refine k_done rfl ?_
      refine ⟨rfl, ?_⟩
      refine thenK_n ?_
      refine W_cond rfl (fun g3 => ?_) (fun g3 => ?_)
      · have h3 := g3; (try simp only [cmpB, decide_eq_true_eq, decide_eq_false_iff_not, beq_iff_eq, beq_eq_false_iff_ne, bne_iff_ne, ne_eq, bne_eq_false_iff_eq, Bool.not_eq_true', Bool.not_eq_false', Int.not_lt, Int.not_le] at h3)
        refine W_seq ?_
        refine W_seqK (b' := 243) rfl rfl ?_
        refine q0 4 227 1 rfl rfl (T_assign rfl rfl) rfl ?_
        refine k_done rfl ?_
        refine thenK_n ?_
        refine W_ret ?_
        refine blockK_r ?_
        refine thenK_r ?_
        refine thenK_r ?_
        refine blockK_r ?_
        refine thenK_r ?_
        -- end 1
        exact .mk [] (.inr rfl) (.tmp rfl (.nil)) (by simp only [Value.bool.injEq, LV.v.injEq, resLV, LV.ren]; exact (decide_eq_false (ne_of_getD (i := j) (by assumption))).symm) (.nil) rfl
      · have h3 := g3; (try simp only [cmpB, decide_eq_true_eq, decide_eq_false_iff_not, beq_iff_eq, beq_eq_false_iff_ne, bne_iff_ne, ne_eq, bne_eq_false_iff_eq, Bool.not_eq_true', Bool.not_eq_false', Int.not_lt, Int.not_le] at h3)
        refine W_skip ?_
        refine blockK_n ?_
        refine thenK_n ?_
        refine W_seqK (b' := 275) rfl rfl ?_
        refine q0 15 227 1 rfl rfl (T_move rfl rfl) rfl ?_
        refine q0 16 243 2 rfl rfl (T_add64 rfl rfl rfl (by first | assumption | omega | (simp; omega))) rfl ?_
        refine q0 5 259 3 rfl rfl (T_assign rfl rfl) rfl ?_
        refine k_done rfl ?_
        refine thenK_n ?_
        refine ⟨j + 1, by (try dsimp only); exact ⟨by omega, fun i hi => by rcases Nat.lt_or_ge i j with h | h; exact hJ.2 i h; rw [show i = j by omega]; assumption⟩, by (try dsimp only); omega, ?_⟩
        exact ⟨[], .same rfl rfl (.same rfl rfl (.eq rfl (.nil) (by first | rfl | simp))), .fzE rfl (.fzE rfl (.nil) rfl) rfl, rfl⟩
    · have h2 := c_lss_f g2
      refine W_exit ?_
      refine thenK_e ?_
      refine thenK_e ?_
      refine blockK_hit ?_
      refine thenK_n ?_
      refine W_seq ?_
      refine W_seqK (b' := 83) rfl rfl ?_
      refine q0 4 67 1 rfl rfl (T_assign rfl rfl) rfl ?_
      refine k_done rfl ?_
      refine thenK_n ?_
      refine W_ret ?_
      -- end 2
      exact .mk [] (.inr rfl) (.tmp rfl (.nil)) (by simp only [Value.bool.injEq, LV.v.injEq, resLV, LV.ren]; exact (decide_eq_true (ext_getD (by omega) (fun i hi => hJ.2 i (by omega)))).symm) (.nil) rfl
end Lg
end Go.Proofs.Ytpfhmodjjljpjaa
