import Derived.Test.YtpfhmodjjljpjaaTidyChain6
namespace Go.Proofs.Ytpfhmodjjljpjaa
open Go.RowKit
namespace Lg

/-! ### Fields of a block, as cells -/
theorem eBlock_fin (b : GBlock) (v : Int) : eBlock { b with fin := v } = splice (eBlock b) 1 [.v (.int .i64 v)] := rfl
theorem eBlock_to (b : GBlock) (v : Int) : eBlock { b with to := v } = splice (eBlock b) 3 [.v (.int .i64 v)] := rfl
/-! ### A chain of blocks -/

def eU8 (x : Int) : List Cell := [.v (.int .u8 x)]
/-- The places whose key is k, in order, counted from 1 on. -/
def ordAt (keys : List Int) (k i : Nat) : List Int := ((List.range i).filter (fun j => keys.getD j default == (k : Int))).map (fun j : Nat => ((j + 1 : Nat) : Int))
def ordTo (keys : List Int) (k : Nat) : List Int := (List.range k).flatMap (fun q => ordAt keys q keys.length)
def ordI (keys : List Int) (k i : Nat) : List Int := ordTo keys k ++ ordAt keys k i
def cPath (keys : List Int) : List Int := 0 :: ordTo keys 256
def cTac (x : Int) : GTac := ⟨1, 0, 0, 0, 0, 0, 0, x⟩
def cBlk (p : List Int) (i : Nat) : GBlock := if i + 1 < p.length then ⟨[cTac (p.getD i default)], 1, 0, p.getD (i + 1) default, 0⟩ else ⟨[cTac (p.getD i default)], 3, 0, 0, 0⟩
def bsTo (p : List Int) (i : Nat) : List GBlock := (List.range i).foldl (fun bs j => bs.set (p.getD j default).toNat (cBlk p j)) (List.replicate p.length ⟨[], 0, 0, 0, 0⟩)
def cFn (p : List Int) : GFn := ⟨1, bsTo p p.length⟩

theorem ordI_zero (keys : List Int) (k : Nat) : ordI keys k 0 = ordTo keys k := by simp [ordI, ordAt]
theorem ordTo_succ (keys : List Int) (k : Nat) : ordTo keys (k + 1) = ordI keys k keys.length := by
  simp [ordI, ordTo, List.range_succ]
theorem ordI_t {keys : List Int} {k i : Nat} (h : keys.getD i default = (k : Int)) : ordI keys k (i + 1) = ordI keys k i ++ [((i + 1 : Nat) : Int)] := by
  have e : ordAt keys k (i + 1) = ordAt keys k i ++ [((i + 1 : Nat) : Int)] := by
    unfold ordAt
    rw [List.range_succ, List.filter_append, List.filter_cons_of_pos (by rw [h]; exact beq_self_eq_true _)]
    simp
  unfold ordI
  rw [e, List.append_assoc]
theorem ordI_f {keys : List Int} {k i : Nat} (h : ¬ keys.getD i default = (k : Int)) : ordI keys k (i + 1) = ordI keys k i := by
  have e : ordAt keys k (i + 1) = ordAt keys k i := by
    unfold ordAt
    rw [List.range_succ, List.filter_append, List.filter_cons_of_neg (by simpa using h)]
    simp
  unfold ordI
  rw [e]
theorem ordAt_le (keys : List Int) (k i : Nat) : (ordAt keys k i).length ≤ i := by
  unfold ordAt
  rw [List.length_map]
  exact Nat.le_trans (List.length_filter_le _ _) (by simp)
theorem ordTo_le (keys : List Int) : ∀ k, (ordTo keys k).length ≤ k * keys.length
  | 0 => by simp [ordTo]
  | k + 1 => by
    have h1 := ordTo_le keys k
    have h2 := ordAt_le keys k keys.length
    rw [ordTo_succ, ordI, List.length_append, Nat.succ_mul]; omega
theorem mem_ordAt {keys : List Int} {k i : Nat} {x : Int} : x ∈ ordAt keys k i ↔ ∃ j, j < i ∧ keys.getD j default = (k : Int) ∧ x = ((j + 1 : Nat) : Int) := by
  unfold ordAt
  rw [List.mem_map]
  constructor
  · rintro ⟨j, h1, h2⟩
    obtain ⟨h3, h4⟩ := List.mem_filter.1 h1
    exact ⟨j, by simpa using h3, by simpa using h4, h2.symm⟩
  · rintro ⟨j, h1, h2, h3⟩
    exact ⟨j, List.mem_filter.2 ⟨by simpa using h1, by rw [h2]; exact beq_self_eq_true _⟩, h3.symm⟩
theorem mem_ordTo {keys : List Int} {k : Nat} {x : Int} : x ∈ ordTo keys k ↔ ∃ q, q < k ∧ ∃ j, j < keys.length ∧ keys.getD j default = (q : Int) ∧ x = ((j + 1 : Nat) : Int) := by
  unfold ordTo
  rw [List.mem_flatMap]
  constructor
  · rintro ⟨q, h1, h2⟩
    exact ⟨q, by simpa using h1, mem_ordAt.1 h2⟩
  · rintro ⟨q, h1, h2⟩
    exact ⟨q, by simpa using h1, mem_ordAt.2 h2⟩
theorem nodup_map {α β : Type} {g : α → β} (hg : ∀ a b, g a = g b → a = b) {l : List α} (h : l.Nodup) : (l.map g).Nodup := by
  rw [List.nodup_iff_pairwise_ne, List.pairwise_map]
  exact (List.nodup_iff_pairwise_ne.1 h).imp (fun {a b} hne e => hne (hg a b e))
theorem ordAt_nodup (keys : List Int) (k i : Nat) : (ordAt keys k i).Nodup := by
  unfold ordAt
  exact nodup_map (fun a b h => by omega) (List.nodup_range.sublist List.filter_sublist)
theorem ordTo_nodup (keys : List Int) : ∀ k, (ordTo keys k).Nodup
  | 0 => by simp [ordTo]
  | k + 1 => by
    rw [ordTo_succ, ordI, List.nodup_append]
    refine ⟨ordTo_nodup keys k, ordAt_nodup keys k _, fun x hx y hy e => ?_⟩
    subst e
    obtain ⟨q, hq, j, h1, h2, h3⟩ := mem_ordTo.1 hx
    obtain ⟨j', h1', h2', h3'⟩ := mem_ordAt.1 hy
    have : j = j' := by omega
    subst this
    omega

/-- A path that goes through all numbers from 0 on once. -/
structure Perm0 (p : List Int) : Prop where
  pos : 0 < p.length
  hd : p.getD 0 default = 0
  nd : p.Nodup
  inn : ∀ x ∈ p, 0 ≤ x ∧ x < (p.length : Int)
  all : ∀ k, k < p.length → ((k : Nat) : Int) ∈ p
theorem nodup_int_length : ∀ (n : Nat) (l : List Int), l.Nodup → (∀ x ∈ l, 0 ≤ x ∧ x < (n : Int)) → l.length ≤ n := fun n l hd h => by
  have h1 : (l.map Int.toNat).Nodup := by
    rw [List.nodup_iff_pairwise_ne, List.pairwise_map]
    exact (List.nodup_iff_pairwise_ne.1 hd).imp_of_mem (fun {a b} ha hb hne e => hne (by have := h a ha; have := h b hb; omega))
  have := nodup_length n (l.map Int.toNat) h1 (fun x hx => by
    obtain ⟨y, hy, rfl⟩ := List.mem_map.1 hx
    have := h y hy; omega)
  simpa using this
theorem nodup_sub_length : ∀ (l m : List Int), l.Nodup → (∀ x ∈ l, x ∈ m) → l.length ≤ m.length
  | [], _, _, _ => Nat.zero_le _
  | x :: l, m, hd, h => by
    rw [List.nodup_cons] at hd
    have hx := h x (by simp)
    have h1 := nodup_sub_length l (m.erase x) hd.2 (fun y hy => (List.mem_erase_of_ne (fun e : y = x => hd.1 (by rw [← e]; exact hy))).2 (h y (List.mem_cons_of_mem _ hy)))
    rw [List.length_erase_of_mem hx] at h1
    have := List.length_pos_of_mem hx
    rw [List.length_cons]; omega
theorem cPath_perm {keys : List Int} (hk : ∀ x ∈ keys, 0 ≤ x ∧ x < 256) : Perm0 (cPath keys) := by
  have hmem : ∀ j, j < keys.length → ((j + 1 : Nat) : Int) ∈ ordTo keys 256 := fun j hj => by
    have h1 := hk _ (getD_mem hj)
    exact mem_ordTo.2 ⟨(keys.getD j default).toNat, by omega, j, hj, by omega, rfl⟩
  have hin : ∀ x ∈ ordTo keys 256, 1 ≤ x ∧ x ≤ (keys.length : Int) := fun x hx => by
    obtain ⟨q, _, j, h1, _, h3⟩ := mem_ordTo.1 hx
    omega
  have hnd : (cPath keys).Nodup := by
    unfold cPath
    rw [List.nodup_cons]
    exact ⟨fun h => by have := hin 0 h; omega, ordTo_nodup keys 256⟩
  have hle : (cPath keys).length ≤ keys.length + 1 := nodup_int_length _ _ hnd (fun x hx => by
    rcases List.mem_cons.1 hx with h | h
    · omega
    · have := hin x h; omega)
  have hge : keys.length ≤ (ordTo keys 256).length := by
    have h1 : (((List.range keys.length).map (fun j : Nat => ((j + 1 : Nat) : Int)))).Nodup := nodup_map (fun a b h => by omega) List.nodup_range
    have h2 := nodup_sub_length _ _ h1 (fun x hx => by
      obtain ⟨j, hj, rfl⟩ := List.mem_map.1 hx
      exact hmem j (by simpa using hj))
    simpa using h2
  have hlen : (cPath keys).length = keys.length + 1 := by
    have : (cPath keys).length = (ordTo keys 256).length + 1 := rfl
    omega
  refine ⟨by rw [hlen]; omega, rfl, hnd, fun x hx => ?_, fun k hk' => ?_⟩
  · rw [hlen]
    rcases List.mem_cons.1 hx with h | h
    · omega
    · have := hin x h; omega
  · rw [hlen] at hk'
    cases k with
    | zero => exact List.mem_cons_self
    | succ k => exact List.mem_cons_of_mem _ (hmem k (by omega))
theorem set_getD {α : Type} [Inhabited α] {l : List α} {p i : Nat} {x : α} : (l.set p x).getD i default = if i = p ∧ p < l.length then x else l.getD i default := by
  rw [List.getD_eq_getElem?_getD, List.getElem?_set]
  by_cases h : p = i
  · subst h
    by_cases hl : p < l.length
    · simp [hl]
    · simp [hl]
  · rw [if_neg h, if_neg (fun hk => h hk.1.symm), List.getD_eq_getElem?_getD]
theorem bsTo_succ (p : List Int) (i : Nat) : bsTo p (i + 1) = (bsTo p i).set (p.getD i default).toNat (cBlk p i) := by
  simp [bsTo, List.range_succ]
theorem bsTo_length (p : List Int) : ∀ i, (bsTo p i).length = p.length
  | 0 => by simp [bsTo]
  | i + 1 => by rw [bsTo_succ, List.length_set, bsTo_length p i]
theorem nodup_getD_int {p : List Int} (h : p.Nodup) {i j : Nat} (hi : i < p.length) (hj : j < p.length) (e : p.getD i default = p.getD j default) : i = j := by
  rw [List.getD_eq_getElem?_getD, List.getD_eq_getElem?_getD, List.getElem?_eq_getElem hi, List.getElem?_eq_getElem hj] at e
  exact (List.getElem_inj h).1 e
theorem bsTo_getD {p : List Int} (hp : Perm0 p) : ∀ (i : Nat), i ≤ p.length → ∀ j, j < i → (bsTo p i).getD (p.getD j default).toNat default = cBlk p j
  | 0, _, j, hj => absurd hj (Nat.not_lt_zero _)
  | i + 1, hi, j, hj => by
    have h1 := hp.inn _ (getD_mem (show i < p.length by omega))
    have h2 := hp.inn _ (getD_mem (show j < p.length by omega))
    rw [bsTo_succ, set_getD, bsTo_length]
    rcases Nat.lt_or_ge j i with h | h
    · rw [if_neg (fun hk => by
        have := nodup_getD_int hp.nd (i := j) (j := i) (by omega) (by omega) (by omega)
        omega)]
      exact bsTo_getD hp i (by omega) j h
    · have : j = i := by omega
      subst this
      rw [if_pos ⟨rfl, by omega⟩]
theorem cFn_length (p : List Int) : (cFn p).blocks.length = p.length := bsTo_length p _
theorem cFn_at {p : List Int} (hp : Perm0 p) {j : Nat} (hj : j < p.length) : (cFn p).blocks.getD (p.getD j default).toNat default = cBlk p j := bsTo_getD hp p.length (Nat.le_refl _) j hj
theorem cFn_each {p : List Int} (hp : Perm0 p) {k : Nat} (hk : k < p.length) : ∃ j, j < p.length ∧ (p.getD j default).toNat = k ∧ (cFn p).blocks.getD k default = cBlk p j := by
  obtain ⟨j, hj, e⟩ := mem_getD (hp.all k hk)
  exact ⟨j, hj, by omega, by rw [← cFn_at hp hj, e]; rfl⟩
theorem cFn_vf {p : List Int} (hp : Perm0 p) : VF (cFn p) := by
  refine ⟨by rw [cFn_length]; exact hp.pos, fun k hk => ?_⟩
  rw [cFn_length] at hk ⊢
  obtain ⟨j, hj, _, e⟩ := cFn_each hp hk
  rw [e]
  unfold cBlk
  split
  · rename_i h
    have h1 := hp.inn _ (getD_mem h)
    show (withinB (p.getD (j + 1) default) p.length && (0 == 0) && (0 == 0)) = true
    rw [withinB_iff.2 h1]; rfl
  · rfl
def natP (p : List Int) : List Nat := p.map Int.toNat
theorem natP_length (p : List Int) : (natP p).length = p.length := by simp [natP]
theorem natP_getD (p : List Int) (i : Nat) : (natP p).getD i default = (p.getD i default).toNat := by
  unfold natP
  rw [List.getD_eq_getElem?_getD, List.getElem?_map, List.getD_eq_getElem?_getD]
  cases p[i]? <;> rfl
theorem ints_natP {p : List Int} (hp : ∀ x ∈ p, 0 ≤ x) : ints (natP p) = p := by
  unfold ints natP
  rw [List.map_map]
  conv => rhs; rw [← List.map_id p]
  exact List.map_congr_left (fun x hx => by have := hp x hx; simp; omega)
theorem cFol {p : List Int} (hp : Perm0 p) {j : Nat} (hj : j < p.length) : follows ((cFn p).blocks.getD (p.getD j default).toNat default) = if j + 1 < p.length then [p.getD (j + 1) default] else [] := by
  rw [cFn_at hp hj]
  unfold cBlk
  split <;> rfl
theorem cReach {p : List Int} (hp : Perm0 p) : ∀ (j : Nat), j < p.length → (reachL (cFn p)).getD (p.getD j default).toNat default = true
  | 0, h => by
    rw [hp.hd]
    exact (isHead_iff.1 (zero_head (cFn_vf hp))).1
  | j + 1, h => by
    have h1 := cReach hp j (by omega)
    have h2 := hp.inn _ (getD_mem (show j < p.length by omega))
    exact (reach_step (cFn_vf hp) (by rw [cFn_length]; omega) h1 (y := p.getD (j + 1) default) (by rw [cFol hp (by omega), if_pos h]; simp)).2.2
theorem cTakes {p : List Int} (hp : Perm0 p) {j : Nat} (hj : j + 1 < p.length) : Takes (cFn p) (p.getD j default).toNat (p.getD (j + 1) default).toNat := by
  have hv := cFn_vf hp
  have h1 := hp.inn _ (getD_mem (show j < p.length by omega))
  have h2 := hp.inn _ (getD_mem hj)
  have hl : (cFn p).blocks.length = p.length := cFn_length p
  have hne : (p.getD j default).toNat ≠ (p.getD (j + 1) default).toNat := fun e => by
    have := nodup_getD_int hp.nd (i := j) (j := j + 1) (by omega) hj (by omega)
    omega
  have h0 : 0 < (p.getD (j + 1) default).toNat := by
    rcases Nat.eq_zero_or_pos (p.getD (j + 1) default).toNat with h | h
    · have := nodup_getD_int hp.nd (i := j + 1) (j := 0) hj hp.pos (by rw [hp.hd]; omega)
      omega
    · exact h
  have hb : (cFn p).blocks.getD (p.getD j default).toNat default = ⟨[cTac (p.getD j default)], 1, 0, p.getD (j + 1) default, 0⟩ := by
    rw [cFn_at hp (by omega)]; unfold cBlk; rw [if_pos hj]
  refine ⟨h0, by rw [hl]; omega, by rw [hl]; omega, cReach hp j (by omega), cReach hp (j + 1) hj, ?_, hne, by rw [hb], by rw [hb]; show p.getD (j + 1) default = _; omega⟩
  rw [fromL_getD hv.inN (by rw [hl]; omega)]
  refine flatMap_one (l := (p.getD j default).toNat) _ (by rw [hl]; omega) ?_ (fun x hx hxn => ?_)
  · rw [if_pos (cReach hp j (by omega)), nextL_getD, cFol hp (by omega), if_pos hj]
    have e : (((p.getD (j + 1) default).toNat : Nat) : Int) = p.getD (j + 1) default := by omega
    rw [e, List.count_singleton_self]
    simp
  · rw [hl] at hx
    obtain ⟨i, hi, ei, _⟩ := cFn_each hp hx
    split
    · rw [nextL_getD, ← ei, cFol hp hi]
      split
      · rename_i hi1
        have hnm : ¬ (((p.getD (j + 1) default).toNat : Nat) : Int) ∈ [p.getD (i + 1) default] := fun hm => by
          have h3 := List.mem_singleton.1 hm
          have := nodup_getD_int hp.nd (i := i + 1) (j := j + 1) hi1 hj (by omega)
          have : i = j := by omega
          subst this
          exact hxn ei.symm
        rw [List.count_eq_zero.2 hnm]; rfl
      · rfl
    · rfl
theorem lastN_natP {p : List Int} (h : 0 < p.length) : lastN (natP p) = (p.getD (p.length - 1) default).toNat := by
  unfold lastN; rw [natP_length, natP_getD]
theorem cLast {p : List Int} (hp : Perm0 p) (k : Nat) : ¬ Takes (cFn p) (lastN (natP p)) k := fun ht => by
  have h1 := ht.fin
  have h0 := hp.pos
  rw [lastN_natP h0, cFn_at hp (by omega)] at h1
  unfold cBlk at h1
  rw [if_neg (by omega)] at h1
  have h2 : (3 : Int) = 1 := h1
  omega
theorem grown_eq {f : GFn} {p q : List Nat} (hp : p ≠ []) (hq : q ≠ []) (h0 : p.getD 0 default = q.getD 0 default) (lp : ∀ i, i + 1 < p.length → Takes f (p.getD i default) (p.getD (i + 1) default)) (lq : ∀ i, i + 1 < q.length → Takes f (q.getD i default) (q.getD (i + 1) default))
    (ep : ∀ k, ¬ Takes f (lastN p) k) (eq : ∀ k, ¬ Takes f (lastN q) k) : p = q := by
  have hpl := List.length_pos_iff.2 hp
  have hql := List.length_pos_iff.2 hq
  have key : ∀ i, i < p.length → i < q.length → p.getD i default = q.getD i default := by
    intro i
    induction i with
    | zero => exact fun _ _ => h0
    | succ i ih =>
      intro h1 h2
      have h3 := lp i h1
      have h4 := lq i h2
      rw [ih (by omega) (by omega)] at h3
      exact h3.uniq h4
  have hlen : p.length = q.length := by
    rcases Nat.lt_trichotomy p.length q.length with h | h | h
    · exfalso
      have h1 := key (p.length - 1) (by omega) (by omega)
      have h2 := lq (p.length - 1) (by omega)
      rw [← h1] at h2
      exact ep _ h2
    · exact h
    · exfalso
      have h1 := key (q.length - 1) (by omega) (by omega)
      have h2 := lp (q.length - 1) (by omega)
      rw [h1] at h2
      exact eq _ h2
  exact ext_getD hlen (fun i hi => key i hi (by omega))
theorem cHeads {p : List Int} (hp : Perm0 p) : headsL (cFn p) = [0] := by
  have hv := cFn_vf hp
  have hall : ∀ x ∈ headsL (cFn p), x = 0 := fun x hx => by
    obtain ⟨h1, h2⟩ := heads_lt hx
    rw [cFn_length] at h1
    obtain ⟨j, hj, e, _⟩ := cFn_each hp h1
    cases j with
    | zero => rw [hp.hd] at e; exact e.symm
    | succ j =>
      exfalso
      have ht := cTakes hp hj
      rw [e] at ht
      exact byL_neg ht.kn (isHead_iff.1 h2).2 hv.inN _ ht
  have hz := heads_zero hv
  match h : headsL (cFn p), hz with
  | [], hz => simp at hz
  | [x], hz => rw [hall x (by rw [h]; simp)]
  | x :: y :: l, _ =>
    exfalso
    have h1 := hall x (by rw [h]; simp)
    have h2 := hall y (by rw [h]; simp)
    have h3 := heads_nodup (cFn p)
    rw [h, h1, h2] at h3
    simp at h3
theorem cPaths {p : List Int} (hp : Perm0 p) : pathsL (cFn p) = [p] := by
  have hv := cFn_vf hp
  have hm := heads_lt (x := 0) (f := cFn p) (by rw [cHeads hp]; simp)
  obtain ⟨q, hq⟩ := (path_of hv.inN hm.1 hm.2).2
  have hnp : natP p ≠ [] := fun e => by have := hp.pos; rw [← natP_length, e] at this; simp at this
  have e : q = natP p := grown_eq hq.g.ne hnp (by rw [hq.h, natP_getD, hp.hd]; rfl) hq.g.link (fun i hi => by
    rw [natP_length] at hi
    rw [natP_getD, natP_getD]
    exact cTakes hp hi) hq.last (cLast hp)
  rw [pathsL_eq, cHeads hp, List.map_cons, List.map_nil, hq.e, e, ints_natP (fun x hx => (hp.inn x hx).1)]
theorem cInstrs {p : List Int} (hp : Perm0 p) : instrs (cFn p) p = p.map cTac := by
  have h : ∀ x ∈ p, ((cFn p).blocks.getD x.toNat default).ins = [cTac x] := fun x hx => by
    obtain ⟨j, hj, rfl⟩ := mem_getD hx
    rw [cFn_at hp hj]
    unfold cBlk
    split <;> rfl
  unfold instrs
  rw [List.map_congr_left h]
  have : ∀ l : List Int, (l.map fun x => [cTac x]).flatten = l.map cTac := fun l => by
    induction l with
    | nil => rfl
    | cons x l ih => rw [List.map_cons, List.flatten_cons, ih]; rfl
  exact this p
theorem cTidy {p : List Int} (hp : Perm0 p) : tidyG (cFn p) = ⟨1, [⟨p.map cTac, 3, 0, 0, 0⟩]⟩ := by
  have h0 := hp.pos
  have hne : p ≠ [] := List.length_pos_iff.1 h0
  have hl : blk (cFn p) (lastOf p) = ⟨[cTac (p.getD (p.length - 1) default)], 3, 0, 0, 0⟩ := by
    unfold blk lastOf
    rw [show ((p.length : Int) - 1).toNat = p.length - 1 by omega, cFn_at hp (by omega)]
    unfold cBlk
    rw [if_neg (by omega)]
  unfold tidyG
  rw [cPaths hp]
  show (⟨1, [newBlock (cFn p) [p] p]⟩ : GFn) = _
  unfold newBlock
  rw [hl, cInstrs hp]
  rfl
theorem gs_self {α : Type} [Inhabited α] {l : List α} {p : Nat} {b : α} (h : p < l.length) : (l.set p b).getD p default = b := by
  rw [set_getD, if_pos ⟨rfl, h⟩]
theorem wrap_u32 {n : Int} (h : 0 ≤ n ∧ n < 4294967296) : IntKind.wrap .u32 n = n := by
  show n % 4294967296 = n
  omega
theorem ordI_le {keys : List Int} {k i : Nat} (hk : k ≤ 256) (hl : (keys.length : Int) ≤ 19) (hi : i ≤ keys.length) : (ordI keys k i).length ≤ 5000 := by
  have h1 := ordTo_le keys k
  have h2 := ordAt_le keys k i
  have h3 : k * keys.length ≤ 256 * 19 := Nat.mul_le_mul hk (by omega)
  unfold ordI
  rw [List.length_append]; omega
theorem cPath_le {keys : List Int} (hk : ∀ x ∈ keys, 0 ≤ x ∧ x < 256) (hl : (keys.length : Int) ≤ 19) : (cPath keys).length ≤ 5000 := by
  have h1 := ordI_le (keys := keys) (k := 256) (i := 0) (Nat.le_refl _) hl (Nat.zero_le _)
  rw [ordI_zero] at h1
  have h2 := ordTo_le keys 256
  have h3 : 256 * keys.length ≤ 256 * 19 := Nat.mul_le_mul (Nat.le_refl _) (by omega)
  show (ordTo keys 256).length + 1 ≤ 5000
  omega
theorem cBlk_ins (p : List Int) (i : Nat) : (cBlk p i).ins.length = 1 := by
  unfold cBlk; split <;> rfl
theorem cFn_ins {p : List Int} (hp : Perm0 p) : ∀ b ∈ (cFn p).blocks, b.ins.length ≤ 1000 := fun b hb => by
  obtain ⟨k, hk, rfl⟩ := mem_getD hb
  rw [cFn_length] at hk
  obtain ⟨j, _, _, e⟩ := cFn_each hp hk
  rw [e, cBlk_ins]; omega
structure CMain (keys : List Int) (i : Nat) : Prop where
  hb : (⟨1, bsTo (cPath keys) i⟩ : GFn).blocks.length ≤ 900000
  hi : InN ⟨1, bsTo (cPath keys) i⟩
  hc : ∀ b ∈ (⟨1, bsTo (cPath keys) i⟩ : GFn).blocks, b.ins.length ≤ 1000
  paths : pathsL ⟨1, bsTo (cPath keys) i⟩ = [cPath keys]
  tidy : tidyG ⟨1, bsTo (cPath keys) i⟩ = ⟨1, [⟨((cPath keys).take i).map cTac, 3, 0, 0, 0⟩]⟩
theorem cMain {keys : List Int} {i : Nat} (hk : ∀ x ∈ keys, 0 ≤ x ∧ x < 256) (hl : (keys.length : Int) ≤ 19) (e : i = (cPath keys).length) : CMain keys i := by
  subst e
  have hP := cPath_perm hk
  refine ⟨?_, (cFn_vf hP).inN, cFn_ins hP, cPaths hP, ?_⟩
  · show (bsTo _ _).length ≤ 900000
    rw [bsTo_length]; have := cPath_le hk hl; omega
  · rw [List.take_of_length_le (Nat.le_refl _)]; exact cTidy hP
theorem CMain.l1 {keys : List Int} {i : Nat} (h : CMain keys i) : (pathsL ⟨1, bsTo (cPath keys) i⟩).length ≤ 1000000000 := by rw [h.paths]; simp
theorem CMain.l2 {keys : List Int} {i : Nat} (h : CMain keys i) (hl : (cPath keys).length ≤ 5000) : ∀ p ∈ pathsL ⟨1, bsTo (cPath keys) i⟩, p.length ≤ 1000000 := fun p hp => by
  rw [h.paths] at hp
  rw [List.mem_singleton.1 hp]; omega
theorem CMain.l3 {keys : List Int} {i : Nat} (h : CMain keys i) : (tidyG ⟨1, bsTo (cPath keys) i⟩).blocks.length ≤ 1000000000 := by rw [h.tidy]; simp
theorem CMain.l4 {keys : List Int} {i : Nat} (h : CMain keys i) (hl : (cPath keys).length ≤ 5000) : ∀ b ∈ (tidyG ⟨1, bsTo (cPath keys) i⟩).blocks, b.ins.length ≤ 1000000000 := fun b hb => by
  rw [h.tidy] at hb
  have : b = _ := List.mem_singleton.1 hb
  rw [this]
  show (((cPath keys).take i).map cTac).length ≤ _
  rw [List.length_map, List.length_take]; omega
theorem map_take_c {α β : Type} [Inhabited α] (g : α → β) (l : List α) {j : Nat} (h : j < l.length) : (l.take (j + 1)).map g = (l.take j).map g ++ [g (l.getD j default)] := by
  rw [take_succ_getD h]; simp
end Lg
end Go.Proofs.Ytpfhmodjjljpjaa

namespace Go.Proofs.Ytpfhmodjjljpjaa
open Go.RowKit
namespace Lg
set_option maxRecDepth 100000
set_option linter.unusedVariables false
set_option linter.unusedSimpArgs false



theorem body29 : (Try.prog.funcs[29]?).map (fun fn => (fn.name == "runtime.NumGoroutine" || fn.body.isNone)) = some false := by kernel_rfl
theorem same_ps_spec (a b : List (List Int)) (ha : a.length ≤ 1000000000) (hl : ∀ p ∈ a, p.length ≤ 1000000) : Spec Try.prog 29 [.r 1, .r 2] 3 [(1, .fz 1 (a.map eIs)), (2, .fz 1 (b.map eIs))] (.v (.bool (decide (a = b)))) 3 [] := by
  refine spec_of D (fn := Try.f29) rfl rfl (Nat.le_of_ble_eq_true rfl) ?_
  refine W_seq ?_
  refine W_seqK (b' := 19) rfl rfl ?_
  refine k_op0 (d := 4) (b := 3) (j' := 1) rfl rfl rfl rfl (.plain rfl) (T_assign rfl rfl) rfl ?_
  refine k_done rfl ?_
  refine thenK_n ?_
  refine W_seq ?_
  refine W_seq ?_
  refine W_seqK (b' := 99) rfl rfl ?_
  refine k_op0 (d := 6) (b := 19) (j' := 1) rfl rfl rfl rfl (.plain rfl) (T_move rfl rfl) rfl ?_
  refine k_op0 (d := 7) (b := 35) (j' := 2) rfl rfl rfl rfl (.plain rfl) (T_len D rfl rfl rfl rfl rfl rfl) rfl ?_
  refine k_op0 (d := 8) (b := 51) (j' := 3) rfl rfl rfl rfl (.plain rfl) (T_move rfl rfl) rfl ?_
  refine k_op0 (d := 9) (b := 67) (j' := 4) rfl rfl rfl rfl (.plain rfl) (T_len D rfl rfl rfl rfl rfl rfl) rfl ?_
  refine k_op0 (d := 10) (b := 83) (j' := 5) rfl rfl rfl rfl (.plain rfl) (T_cmp rfl rfl rfl rfl) rfl ?_
  refine k_done rfl ?_
  refine thenK_n ?_
  refine W_cond rfl (fun g1 => ?_) (fun g1 => ?_)
  · have h1 := g1; (try simp only [cmpB, decide_eq_true_eq, decide_eq_false_iff_not, beq_iff_eq, beq_eq_false_iff_ne, bne_iff_ne, ne_eq, bne_eq_false_iff_eq, Bool.not_eq_true', Bool.not_eq_false', Int.not_lt, Int.not_le] at h1)
    refine W_seq ?_
    refine W_seqK (b' := 115) rfl rfl ?_
    refine k_op0 (d := 4) (b := 99) (j' := 1) rfl rfl rfl rfl (.plain rfl) (T_assign rfl rfl) rfl ?_
    refine k_done rfl ?_
    refine thenK_n ?_
    refine W_ret ?_
    refine thenK_r ?_
    -- end 0
    exact .mk [] (.inr rfl) (.tmp rfl (.nil)) (by simp only [Value.bool.injEq, LV.v.injEq, resLV, LV.ren]; exact (decide_eq_false (ne_of_len (by omega))).symm) (.nil) rfl
  · have h1 := g1; (try simp only [cmpB, decide_eq_true_eq, decide_eq_false_iff_not, beq_iff_eq, beq_eq_false_iff_ne, bne_iff_ne, ne_eq, bne_eq_false_iff_eq, Bool.not_eq_true', Bool.not_eq_false', Int.not_lt, Int.not_le] at h1)
    refine W_skip ?_
    refine thenK_n ?_
    refine W_seq ?_
    refine W_seq ?_
    refine W_seqK (b' := 115) rfl rfl ?_
    refine k_op0 (d := 5) (b := 99) (j' := 1) rfl rfl rfl rfl (.plain rfl) (T_assign rfl rfl) rfl ?_
    refine k_done rfl ?_
    refine thenK_n ?_
    refine W_block ?_
    refine W_loop (ι := Nat) 3 (fun j => ⟨[(0, .r 1), (1, .r 2), (5, .v (.int .i64 (j : Int)))], [(1, .fz 1 (a.map eIs)), (2, .fz 1 (b.map eIs))]⟩) (fun j => j ≤ a.length ∧ ∀ i, i < j → a.getD i default = b.getD i default) (fun j => a.length - j) (0) (by exact ⟨Nat.zero_le _, fun i h => absurd h (Nat.not_lt_zero _)⟩) ?_ (fun j hJ => ?_)
    · exact ⟨[], .same rfl rfl (.same rfl rfl (.eq rfl (.nil) (by first | rfl | simp))), .fzE rfl (.fzE rfl (.nil) (by first | rfl | simp)) (by first | rfl | simp), rfl⟩
    refine W_seq ?_
    refine W_seq ?_
    refine W_seqK (b' := 67) rfl rfl ?_
    refine k_op0 (d := 11) (b := 3) (j' := 1) rfl rfl rfl rfl (.plain rfl) (T_move rfl rfl) rfl ?_
    refine k_op0 (d := 12) (b := 19) (j' := 2) rfl rfl rfl rfl (.plain rfl) (T_move rfl rfl) rfl ?_
    refine k_op0 (d := 13) (b := 35) (j' := 3) rfl rfl rfl rfl (.plain rfl) (T_len D rfl rfl rfl rfl rfl rfl) rfl ?_
    refine k_op0 (d := 14) (b := 51) (j' := 4) rfl rfl rfl rfl (.plain rfl) (T_cmp rfl rfl rfl rfl) rfl ?_
    refine k_done rfl ?_
    refine thenK_n ?_
    refine W_cond rfl (fun g2 => ?_) (fun g2 => ?_)
    · have h2 := g2; (try simp only [cmpB, decide_eq_true_eq, decide_eq_false_iff_not, beq_iff_eq, beq_eq_false_iff_ne, bne_iff_ne, ne_eq, bne_eq_false_iff_eq, Bool.not_eq_true', Bool.not_eq_false', Int.not_lt, Int.not_le] at h2)
      refine W_skip ?_
      refine thenK_n ?_
      refine W_seq ?_
      refine W_block ?_
      refine W_seq ?_
      refine W_anyK (b' := 227) rfl rfl rfl ?_
      refine k_op0 (d := 17) (b := 67) (j' := 1) rfl rfl rfl rfl (.plain rfl) (T_move rfl rfl) rfl ?_
      refine k_op0 (d := 18) (b := 83) (j' := 2) rfl rfl rfl rfl (.plain rfl) (T_move rfl rfl) rfl ?_
      first | refine k_op0 (d := 19) (b := 99) (j' := 3) rfl rfl rfl rfl (.plain rfl) (T_indexAddr D rfl rfl rfl rfl rfl rfl rfl rfl (by first | assumption | omega | (simp; omega))) rfl ?_ | refine k_op0 (d := 19) (b := 99) (j' := 3) rfl rfl rfl rfl (.plain rfl) (T_indexAddrZ D rfl rfl rfl rfl rfl rfl rfl rfl (by first | assumption | omega | (simp; omega)) (by first | assumption | omega | (simp; omega))) rfl ?_
      refine k_op1 (d := 20) (b := 115) (j' := 4) rfl rfl rfl rfl (.plain rfl) (T_ldE D (lv := .r 115) (nn := 1) (upd := [(115, .fz 1 _)]) rfl rfl rfl rfl rfl (by first | assumption | omega | (simp; omega)) rfl rfl rfl rfl) rfl ?_
      refine k_op0 (d := 21) (b := 131) (j' := 5) rfl rfl rfl rfl (.plain rfl) (T_move rfl rfl) rfl ?_
      refine k_op0 (d := 22) (b := 147) (j' := 6) rfl rfl rfl rfl (.plain rfl) (T_move rfl rfl) rfl ?_
      first | refine k_op0 (d := 23) (b := 163) (j' := 7) rfl rfl rfl rfl (.plain rfl) (T_indexAddr D rfl rfl rfl rfl rfl rfl rfl rfl (by first | assumption | omega | (simp; omega))) rfl ?_ | refine k_op0 (d := 23) (b := 163) (j' := 7) rfl rfl rfl rfl (.plain rfl) (T_indexAddrZ D rfl rfl rfl rfl rfl rfl rfl rfl (by first | assumption | omega | (simp; omega)) (by first | assumption | omega | (simp; omega))) rfl ?_
      refine k_op1 (d := 24) (b := 179) (j' := 8) rfl rfl rfl rfl (.plain rfl) (T_ldE D (lv := .r 179) (nn := 1) (upd := [(179, .fz 1 _)]) rfl rfl rfl rfl rfl (by first | assumption | omega | (simp; omega)) rfl rfl rfl rfl) rfl ?_
      refine k_op0 (d := 25) (b := 195) (j' := 9) rfl rfl rfl rfl (.plain rfl) (T_callV (lvs := [_, _]) (L := [(1, 115), (2, 179)]) (list_spec (a.getD j default) (b.getD j default) (hl _ (getD_mem (by omega)))) body39 rfl rfl rfl rfl (.fz rfl (.fz rfl (.nil))) rfl) rfl ?_
      refine k_op0 (d := 26) (b := 211) (j' := 10) rfl rfl rfl rfl (.plain rfl) (T_not rfl rfl) rfl ?_
      refine k_done rfl ?_
      refine ⟨rfl, ?_⟩
      refine thenK_n ?_
      refine W_cond rfl (fun g3 => ?_) (fun g3 => ?_)
      · have h3 := g3; (try simp only [cmpB, decide_eq_true_eq, decide_eq_false_iff_not, beq_iff_eq, beq_eq_false_iff_ne, bne_iff_ne, ne_eq, bne_eq_false_iff_eq, Bool.not_eq_true', Bool.not_eq_false', Int.not_lt, Int.not_le] at h3)
        refine W_seq ?_
        refine W_seqK (b' := 243) rfl rfl ?_
        refine k_op0 (d := 4) (b := 227) (j' := 1) rfl rfl rfl rfl (.plain rfl) (T_assign rfl rfl) rfl ?_
        refine k_done rfl ?_
        refine thenK_n ?_
        refine W_ret ?_
        refine blockK_r ?_
        refine thenK_r ?_
        refine thenK_r ?_
        refine blockK_r ?_
        refine thenK_r ?_
        -- end 1
        exact .mk [] (.inr rfl) (.tmp rfl (.nil)) (by simp only [Value.bool.injEq, LV.v.injEq, resLV, LV.ren]; exact (decide_eq_false (ne_of_getD (i := j) (by assumption))).symm) (.nil) rfl
      · have h3 := g3; (try simp only [cmpB, decide_eq_true_eq, decide_eq_false_iff_not, beq_iff_eq, beq_eq_false_iff_ne, bne_iff_ne, ne_eq, bne_eq_false_iff_eq, Bool.not_eq_true', Bool.not_eq_false', Int.not_lt, Int.not_le] at h3)
        refine W_skip ?_
        refine blockK_n ?_
        refine thenK_n ?_
        refine W_seqK (b' := 275) rfl rfl ?_
        refine k_op0 (d := 15) (b := 227) (j' := 1) rfl rfl rfl rfl (.plain rfl) (T_move rfl rfl) rfl ?_
        refine k_op0 (d := 16) (b := 243) (j' := 2) rfl rfl rfl rfl (.plain rfl) (T_add64 rfl rfl rfl (by first | assumption | omega | (simp; omega))) rfl ?_
        refine k_op0 (d := 5) (b := 259) (j' := 3) rfl rfl rfl rfl (.plain rfl) (T_assign rfl rfl) rfl ?_
        refine k_done rfl ?_
        refine thenK_n ?_
        refine ⟨j + 1, by (try dsimp only); exact ⟨by omega, fun i hi => by rcases Nat.lt_or_ge i j with h | h; exact hJ.2 i h; rw [show i = j by omega]; assumption⟩, by (try dsimp only); omega, ?_⟩
        exact ⟨[], .same rfl rfl (.same rfl rfl (.eq rfl (.nil) (by first | rfl | simp))), .fzE rfl (.fzE rfl (.nil) (by first | rfl | simp)) (by first | rfl | simp), rfl⟩
    · have h2 := g2; (try simp only [cmpB, decide_eq_true_eq, decide_eq_false_iff_not, beq_iff_eq, beq_eq_false_iff_ne, bne_iff_ne, ne_eq, bne_eq_false_iff_eq, Bool.not_eq_true', Bool.not_eq_false', Int.not_lt, Int.not_le] at h2)
      refine W_exit ?_
      refine thenK_e ?_
      refine thenK_e ?_
      refine blockK_hit ?_
      refine thenK_n ?_
      refine W_seq ?_
      refine W_seqK (b' := 83) rfl rfl ?_
      refine k_op0 (d := 4) (b := 67) (j' := 1) rfl rfl rfl rfl (.plain rfl) (T_assign rfl rfl) rfl ?_
      refine k_done rfl ?_
      refine thenK_n ?_
      refine W_ret ?_
      -- end 2
      exact .mk [] (.inr rfl) (.tmp rfl (.nil)) (by simp only [Value.bool.injEq, LV.v.injEq, resLV, LV.ren]; exact (decide_eq_true (ext_getD (by omega) (fun i hi => hJ.2 i (by omega)))).symm) (.nil) rfl

theorem body9 : (Try.prog.funcs[9]?).map (fun fn => (fn.name == "runtime.NumGoroutine" || fn.body.isNone)) = some false := by kernel_rfl
theorem law9 (keys : List Int) (hk : ∀ x ∈ keys, 0 ≤ x ∧ x < 256) (hl : keys.length ≤ 140737488351232) : Spec Try.prog 9 [.r 1] 2 [(1, .fz 1 (keys.map eU8))] (.v (.bool true)) 2 [] := by
  refine spec_of D (fn := Try.f9) rfl rfl (Nat.le_of_ble_eq_true rfl) ?_
  refine W_seq ?_
  refine W_seqK (b' := 18) rfl rfl ?_
  refine k_op0 (d := 2) (b := 2) (j' := 1) rfl rfl rfl rfl (.plain rfl) (T_assign rfl rfl) rfl ?_
  refine k_done rfl ?_
  refine thenK_n ?_
  refine W_seq ?_
  refine W_seq ?_
  refine W_seqK (b' := 50) rfl rfl ?_
  refine k_op0 (d := 13) (b := 18) (j' := 1) rfl rfl rfl rfl (.plain rfl) (T_callV (lvs := []) (L := []) (awake_spec) body24 rfl rfl rfl rfl (.nil) rfl) rfl ?_
  refine k_op0 (d := 14) (b := 34) (j' := 2) rfl rfl rfl rfl (.plain rfl) (T_not rfl rfl) rfl ?_
  refine k_done rfl ?_
  refine thenK_n ?_
  refine W_cond rfl (fun g1 => ?_) (fun g1 => ?_)
  · have h1 := g1; (try simp only [cmpB, decide_eq_true_eq, decide_eq_false_iff_not, beq_iff_eq, beq_eq_false_iff_ne, bne_iff_ne, ne_eq, bne_eq_false_iff_eq, Bool.not_eq_true', Bool.not_eq_false', Int.not_lt, Int.not_le] at h1)
    refine W_seq ?_
    refine W_seqK (b' := 66) rfl rfl ?_
    refine k_op0 (d := 2) (b := 50) (j' := 1) rfl rfl rfl rfl (.plain rfl) (T_assign rfl rfl) rfl ?_
    refine k_done rfl ?_
    refine thenK_n ?_
    refine W_ret ?_
    refine thenK_r ?_
    -- end 0
    exact .mk [] (.inr rfl) (.tmp rfl (.nil)) (by first | rfl | exact absurd g1 (by decide) | (simp only [resLV, LV.ren, LV.v.injEq, Value.bool.injEq]; exact decide_eq_true (cMain hk (by omega) (by omega : i = (cPath keys).length)).tidy) | (exact absurd (cMain hk (by omega) (by omega : i = (cPath keys).length)).paths (by assumption))) (.nil) rfl
  · have h1 := g1; (try simp only [cmpB, decide_eq_true_eq, decide_eq_false_iff_not, beq_iff_eq, beq_eq_false_iff_ne, bne_iff_ne, ne_eq, bne_eq_false_iff_eq, Bool.not_eq_true', Bool.not_eq_false', Int.not_lt, Int.not_le] at h1)
    refine W_skip ?_
    refine thenK_n ?_
    refine W_seq ?_
    refine W_seq ?_
    refine W_seqK (b' := 98) rfl rfl ?_
    refine k_op0 (d := 15) (b := 50) (j' := 1) rfl rfl rfl rfl (.plain rfl) (T_move rfl rfl) rfl ?_
    refine k_op0 (d := 16) (b := 66) (j' := 2) rfl rfl rfl rfl (.plain rfl) (T_len D rfl rfl rfl rfl rfl rfl) rfl ?_
    refine k_op0 (d := 17) (b := 82) (j' := 3) rfl rfl rfl rfl (.plain rfl) (T_cmp rfl rfl rfl rfl) rfl ?_
    refine k_done rfl ?_
    refine thenK_n ?_
    refine W_cond rfl (fun g2 => ?_) (fun g2 => ?_)
    · have h2 := g2; (try simp only [cmpB, decide_eq_true_eq, decide_eq_false_iff_not, beq_iff_eq, beq_eq_false_iff_ne, bne_iff_ne, ne_eq, bne_eq_false_iff_eq, Bool.not_eq_true', Bool.not_eq_false', Int.not_lt, Int.not_le] at h2)
      refine W_seq ?_
      refine W_seqK (b' := 114) rfl rfl ?_
      refine k_op0 (d := 2) (b := 98) (j' := 1) rfl rfl rfl rfl (.plain rfl) (T_assign rfl rfl) rfl ?_
      refine k_done rfl ?_
      refine thenK_n ?_
      refine W_ret ?_
      refine thenK_r ?_
      -- end 1
      exact .mk [] (.inr rfl) (.tmp rfl (.nil)) (by first | rfl | exact absurd g1 (by decide) | (simp only [resLV, LV.ren, LV.v.injEq, Value.bool.injEq]; exact decide_eq_true (cMain hk (by omega) (by omega : i = (cPath keys).length)).tidy) | (exact absurd (cMain hk (by omega) (by omega : i = (cPath keys).length)).paths (by assumption))) (.nil) rfl
    · have h2 := g2; (try simp only [cmpB, decide_eq_true_eq, decide_eq_false_iff_not, beq_iff_eq, beq_eq_false_iff_ne, bne_iff_ne, ne_eq, bne_eq_false_iff_eq, Bool.not_eq_true', Bool.not_eq_false', Int.not_lt, Int.not_le] at h2)
      refine W_skip ?_
      refine thenK_n ?_
      refine W_seq ?_
      refine W_seqK (b' := 114) rfl rfl ?_
      refine k_op1 (d := 3) (b := 98) (j' := 1) rfl rfl rfl rfl (.plain rfl) (T_nils [(3, 1)] (T_assign rfl rfl) rfl (.inr ⟨rfl, rfl⟩) (.cons (.nil rfl) .nil) (lv' := .r 98) (upd' := [(98, .row 3 1 (List.map eI ([] : List (Int))))]) (nn' := 1) rfl rfl) rfl ?_
      refine k_done rfl ?_
      refine thenK_n ?_
      refine W_seq ?_
      refine W_seq ?_
      refine W_seqK (b' := 130) rfl rfl ?_
      refine k_op0 (d := 4) (b := 114) (j' := 1) rfl rfl rfl rfl (.plain rfl) (T_assign rfl rfl) rfl ?_
      refine k_done rfl ?_
      refine thenK_n ?_
      refine W_block ?_
      refine W_loop (ι := Nat) 3 (fun k => ⟨[(0, .r 1), (3, .r 2), (4, .v (.int .i64 (k : Int)))], [(1, .fz 1 (keys.map eU8)), (2, .row 3 1 ((ordTo keys k).map eI))]⟩) (fun k => k ≤ 256) (fun k => 256 - k) (0) (by exact Nat.zero_le _) ?_ (fun k hJ => ?_)
      · exact ⟨[(2, 98)], .same rfl rfl (.same rfl rfl (.eq rfl (.nil) (by first | rfl | simp))), .fzE rfl (.rowE rfl (.nil) (by first | rfl | simp)) (by first | rfl | simp), rfl⟩
      have hot : (ordTo keys k).length ≤ 5000 := by have q := ordI_le (keys := keys) (k := k) (i := 0) hJ (by omega) (Nat.zero_le _); rwa [ordI_zero] at q
      refine W_seq ?_
      refine W_seq ?_
      refine W_seqK (b' := 35) rfl rfl ?_
      refine k_op0 (d := 18) (b := 3) (j' := 1) rfl rfl rfl rfl (.plain rfl) (T_move rfl rfl) rfl ?_
      refine k_op0 (d := 19) (b := 19) (j' := 2) rfl rfl rfl rfl (.plain rfl) (T_cmp rfl rfl rfl rfl) rfl ?_
      refine k_done rfl ?_
      refine thenK_n ?_
      refine W_cond rfl (fun g3 => ?_) (fun g3 => ?_)
      · have h3 := g3; (try simp only [cmpB, decide_eq_true_eq, decide_eq_false_iff_not, beq_iff_eq, beq_eq_false_iff_ne, bne_iff_ne, ne_eq, bne_eq_false_iff_eq, Bool.not_eq_true', Bool.not_eq_false', Int.not_lt, Int.not_le] at h3)
        refine W_skip ?_
        refine thenK_n ?_
        refine W_seq ?_
        refine W_block ?_
        refine W_seq ?_
        refine W_seqK (b' := 51) rfl rfl ?_
        refine k_op0 (d := 5) (b := 35) (j' := 1) rfl rfl rfl rfl (.plain rfl) (T_assign rfl rfl) rfl ?_
        refine k_done rfl ?_
        refine thenK_n ?_
        refine W_block ?_
        refine W_loop (ι := Nat) 3 (fun i => ⟨[(0, .r 1), (3, .r 2), (4, .v (.int .i64 (k : Int))), (5, .v (.int .i64 (i : Int)))], [(1, .fz 1 (keys.map eU8)), (2, .row 3 1 ((ordI keys k i).map eI))]⟩) (fun i => i ≤ keys.length) (fun i => keys.length - i) (0) (by exact Nat.zero_le _) ?_ (fun i hI => ?_)
        · exact ⟨[(2, 2)], .same rfl rfl (.same rfl rfl (.eq rfl (.eq rfl (.nil) (by first | rfl | (rw [ordI_zero]; first | done | rfl))) (by first | rfl | (rw [ordI_zero]; first | done | rfl)))), .fzE rfl (.rowE rfl (.nil) (by first | rfl | (rw [ordI_zero]; first | done | rfl))) (by first | rfl | (rw [ordI_zero]; first | done | rfl)), rfl⟩
        have hoi := ordI_le (keys := keys) (k := k) (i := i) hJ (by omega) hI
        refine W_seq ?_
        refine W_seq ?_
        refine W_seqK (b' := 67) rfl rfl ?_
        refine k_op0 (d := 22) (b := 3) (j' := 1) rfl rfl rfl rfl (.plain rfl) (T_move rfl rfl) rfl ?_
        refine k_op0 (d := 23) (b := 19) (j' := 2) rfl rfl rfl rfl (.plain rfl) (T_move rfl rfl) rfl ?_
        refine k_op0 (d := 24) (b := 35) (j' := 3) rfl rfl rfl rfl (.plain rfl) (T_len D rfl rfl rfl rfl rfl rfl) rfl ?_
        refine k_op0 (d := 25) (b := 51) (j' := 4) rfl rfl rfl rfl (.plain rfl) (T_cmp rfl rfl rfl rfl) rfl ?_
        refine k_done rfl ?_
        refine thenK_n ?_
        refine W_cond rfl (fun g4 => ?_) (fun g4 => ?_)
        · have h4 := g4; (try simp only [cmpB, decide_eq_true_eq, decide_eq_false_iff_not, beq_iff_eq, beq_eq_false_iff_ne, bne_iff_ne, ne_eq, bne_eq_false_iff_eq, Bool.not_eq_true', Bool.not_eq_false', Int.not_lt, Int.not_le] at h4)
          refine W_skip ?_
          refine thenK_n ?_
          refine W_seq ?_
          refine W_block ?_
          refine W_seq ?_
          refine W_seqK (b' := 179) rfl rfl ?_
          refine k_op0 (d := 28) (b := 67) (j' := 1) rfl rfl rfl rfl (.plain rfl) (T_move rfl rfl) rfl ?_
          refine k_op0 (d := 29) (b := 83) (j' := 2) rfl rfl rfl rfl (.plain rfl) (T_move rfl rfl) rfl ?_
          first | refine k_op0 (d := 30) (b := 99) (j' := 3) rfl rfl rfl rfl (.plain rfl) (T_indexAddr D rfl rfl rfl rfl rfl rfl rfl rfl (by first | assumption | omega | (have q := hk _ (getD_mem (i := i) (by omega)); omega) | (have q := hpi (by omega); omega) | (have q := hpi (by omega); simp only [List.length_set]; omega) | (have q := hpj (by omega); omega) | (have e : ((i : Int) + 1).toNat = i + 1 := (by omega); rw [e]; have q := hpj (by omega); omega) | (simp; omega))) rfl ?_ | refine k_op0 (d := 30) (b := 99) (j' := 3) rfl rfl rfl rfl (.plain rfl) (T_indexAddrZ D rfl rfl rfl rfl rfl rfl rfl rfl (by first | assumption | omega | (have q := hk _ (getD_mem (i := i) (by omega)); omega) | (have q := hpi (by omega); omega) | (have q := hpi (by omega); simp only [List.length_set]; omega) | (have q := hpj (by omega); omega) | (have e : ((i : Int) + 1).toNat = i + 1 := (by omega); rw [e]; have q := hpj (by omega); omega) | (simp; omega)) (by first | assumption | omega | (have q := hk _ (getD_mem (i := i) (by omega)); omega) | (have q := hpi (by omega); omega) | (have q := hpi (by omega); simp only [List.length_set]; omega) | (have q := hpj (by omega); omega) | (have e : ((i : Int) + 1).toNat = i + 1 := (by omega); rw [e]; have q := hpj (by omega); omega) | (simp; omega))) rfl ?_
          refine k_op0 (d := 31) (b := 115) (j' := 4) rfl rfl rfl rfl (.plain rfl) (T_ldE D (lv := .v _) (nn := 0) (upd := []) rfl rfl rfl rfl rfl (by first | assumption | omega | (have q := hk _ (getD_mem (i := i) (by omega)); omega) | (have q := hpi (by omega); omega) | (have q := hpi (by omega); simp only [List.length_set]; omega) | (have q := hpj (by omega); omega) | (have e : ((i : Int) + 1).toNat = i + 1 := (by omega); rw [e]; have q := hpj (by omega); omega) | (simp; omega)) rfl rfl rfl rfl) rfl ?_
          refine k_op0 (d := 32) (b := 131) (j' := 5) rfl rfl rfl rfl (.plain rfl) (T_conv64 rfl rfl (by rw [Try.underlying5]; rfl) (by first | assumption | omega | (have q := hk _ (getD_mem (i := i) (by omega)); omega) | (have q := hpi (by omega); omega) | (have q := hpi (by omega); simp only [List.length_set]; omega) | (have q := hpj (by omega); omega) | (have e : ((i : Int) + 1).toNat = i + 1 := (by omega); rw [e]; have q := hpj (by omega); omega) | (simp; omega))) rfl ?_
          refine k_op0 (d := 33) (b := 147) (j' := 6) rfl rfl rfl rfl (.plain rfl) (T_move rfl rfl) rfl ?_
          refine k_op0 (d := 34) (b := 163) (j' := 7) rfl rfl rfl rfl (.plain rfl) (T_cmp rfl rfl rfl rfl) rfl ?_
          refine k_done rfl ?_
          refine thenK_n ?_
          refine W_cond rfl (fun g5 => ?_) (fun g5 => ?_)
          · have h5 := g5; (try simp only [cmpB, decide_eq_true_eq, decide_eq_false_iff_not, beq_iff_eq, beq_eq_false_iff_ne, bne_iff_ne, ne_eq, bne_eq_false_iff_eq, Bool.not_eq_true', Bool.not_eq_false', Int.not_lt, Int.not_le] at h5)
            refine W_seqK (b' := 275) rfl rfl ?_
            refine k_op0 (d := 35) (b := 179) (j' := 1) rfl rfl rfl rfl (.plain rfl) (T_move rfl rfl) rfl ?_
            refine k_op0 (d := 36) (b := 195) (j' := 2) rfl rfl rfl rfl (.plain rfl) (T_move rfl rfl) rfl ?_
            refine k_op0 (d := 37) (b := 211) (j' := 3) rfl rfl rfl rfl (.plain rfl) (T_add64 rfl rfl rfl (by first | assumption | omega | (have q := hk _ (getD_mem (i := i) (by omega)); omega) | (have q := hpi (by omega); omega) | (have q := hpi (by omega); simp only [List.length_set]; omega) | (have q := hpj (by omega); omega) | (have e : ((i : Int) + 1).toNat = i + 1 := (by omega); rw [e]; have q := hpj (by omega); omega) | (simp; omega))) rfl ?_
            refine k_op1 (d := 38) (b := 227) (j' := 4) rfl rfl rfl rfl (.plain rfl) (T_bs D (ys := [_]) (enc := eI) (l := [_]) rfl rfl rfl rfl rfl rfl (.cons rfl (flat_v rfl) (.nil)) rfl rfl rfl rfl (.v rfl (.nil)) rfl rfl) rfl ?_
            refine k_opn (d := 39) (b := 243) (j' := 5) rfl rfl rfl rfl (.plain rfl) (T_append D rfl rfl rfl rfl rfl rfl rfl rfl rfl rfl rfl rfl (by (try simp only [ty3]); first | assumption | omega | (have q := hk _ (getD_mem (i := i) (by omega)); omega) | (have q := hpi (by omega); omega) | (have q := hpi (by omega); simp only [List.length_set]; omega) | (have q := hpj (by omega); omega) | (have e : ((i : Int) + 1).toNat = i + 1 := (by omega); rw [e]; have q := hpj (by omega); omega) | (simp; omega)) (by (try simp only [ty3]); first | assumption | omega | (have q := hk _ (getD_mem (i := i) (by omega)); omega) | (have q := hpi (by omega); omega) | (have q := hpi (by omega); simp only [List.length_set]; omega) | (have q := hpj (by omega); omega) | (have e : ((i : Int) + 1).toNat = i + 1 := (by omega); rw [e]; have q := hpj (by omega); omega) | (simp; omega))) rfl ?_
            refine k_op0 (d := 3) (b := 259) (j' := 6) rfl rfl rfl rfl (.plain rfl) (T_assign rfl rfl) rfl ?_
            refine k_done rfl ?_
            refine blockK_n ?_
            refine thenK_n ?_
            refine W_seqK (b' := 323) rfl rfl ?_
            refine k_op0 (d := 26) (b := 275) (j' := 1) rfl rfl rfl rfl (.plain rfl) (T_move rfl rfl) rfl ?_
            refine k_op0 (d := 27) (b := 291) (j' := 2) rfl rfl rfl rfl (.plain rfl) (T_add64 rfl rfl rfl (by first | assumption | omega | (have q := hk _ (getD_mem (i := i) (by omega)); omega) | (have q := hpi (by omega); omega) | (have q := hpi (by omega); simp only [List.length_set]; omega) | (have q := hpj (by omega); omega) | (have e : ((i : Int) + 1).toNat = i + 1 := (by omega); rw [e]; have q := hpj (by omega); omega) | (simp; omega))) rfl ?_
            refine k_op0 (d := 5) (b := 307) (j' := 3) rfl rfl rfl rfl (.plain rfl) (T_assign rfl rfl) rfl ?_
            refine k_done rfl ?_
            refine thenK_n ?_
            refine ⟨i + 1, by (try dsimp only); omega, by (try dsimp only); omega, ?_⟩
            exact ⟨[(2, 243)], .same rfl rfl (.same rfl rfl (.eq rfl (.eq rfl (.nil) (by first | rfl | (rw [ordI_t (by omega)]; first | done | rfl) | (rw [ordI_f (by omega)]; first | done | rfl))) (by first | rfl | (rw [ordI_t (by omega)]; first | done | rfl) | (rw [ordI_f (by omega)]; first | done | rfl)))), .fzE rfl (.rowE rfl (.nil) (by first | rfl | (rw [ordI_t (by omega)]; first | done | rfl) | (rw [ordI_f (by omega)]; first | done | rfl))) (by first | rfl | (rw [ordI_t (by omega)]; first | done | rfl) | (rw [ordI_f (by omega)]; first | done | rfl)), rfl⟩
          · have h5 := g5; (try simp only [cmpB, decide_eq_true_eq, decide_eq_false_iff_not, beq_iff_eq, beq_eq_false_iff_ne, bne_iff_ne, ne_eq, bne_eq_false_iff_eq, Bool.not_eq_true', Bool.not_eq_false', Int.not_lt, Int.not_le] at h5)
            refine W_skip ?_
            refine blockK_n ?_
            refine thenK_n ?_
            refine W_seqK (b' := 227) rfl rfl ?_
            refine k_op0 (d := 26) (b := 179) (j' := 1) rfl rfl rfl rfl (.plain rfl) (T_move rfl rfl) rfl ?_
            refine k_op0 (d := 27) (b := 195) (j' := 2) rfl rfl rfl rfl (.plain rfl) (T_add64 rfl rfl rfl (by first | assumption | omega | (have q := hk _ (getD_mem (i := i) (by omega)); omega) | (have q := hpi (by omega); omega) | (have q := hpi (by omega); simp only [List.length_set]; omega) | (have q := hpj (by omega); omega) | (have e : ((i : Int) + 1).toNat = i + 1 := (by omega); rw [e]; have q := hpj (by omega); omega) | (simp; omega))) rfl ?_
            refine k_op0 (d := 5) (b := 211) (j' := 3) rfl rfl rfl rfl (.plain rfl) (T_assign rfl rfl) rfl ?_
            refine k_done rfl ?_
            refine thenK_n ?_
            refine ⟨i + 1, by (try dsimp only); omega, by (try dsimp only); omega, ?_⟩
            exact ⟨[(2, 2)], .same rfl rfl (.same rfl rfl (.eq rfl (.eq rfl (.nil) (by first | rfl | (rw [ordI_t (by omega)]; first | done | rfl) | (rw [ordI_f (by omega)]; first | done | rfl))) (by first | rfl | (rw [ordI_t (by omega)]; first | done | rfl) | (rw [ordI_f (by omega)]; first | done | rfl)))), .fzE rfl (.rowE rfl (.nil) (by first | rfl | (rw [ordI_t (by omega)]; first | done | rfl) | (rw [ordI_f (by omega)]; first | done | rfl))) (by first | rfl | (rw [ordI_t (by omega)]; first | done | rfl) | (rw [ordI_f (by omega)]; first | done | rfl)), rfl⟩
        · have h4 := g4; (try simp only [cmpB, decide_eq_true_eq, decide_eq_false_iff_not, beq_iff_eq, beq_eq_false_iff_ne, bne_iff_ne, ne_eq, bne_eq_false_iff_eq, Bool.not_eq_true', Bool.not_eq_false', Int.not_lt, Int.not_le] at h4)
          refine W_exit ?_
          refine thenK_e ?_
          refine thenK_e ?_
          refine blockK_hit ?_
          refine blockK_n ?_
          refine thenK_n ?_
          refine W_seqK (b' := 115) rfl rfl ?_
          refine k_op0 (d := 20) (b := 67) (j' := 1) rfl rfl rfl rfl (.plain rfl) (T_move rfl rfl) rfl ?_
          refine k_op0 (d := 21) (b := 83) (j' := 2) rfl rfl rfl rfl (.plain rfl) (T_add64 rfl rfl rfl (by first | assumption | omega | (have q := hk _ (getD_mem (i := i) (by omega)); omega) | (have q := hpi (by omega); omega) | (have q := hpi (by omega); simp only [List.length_set]; omega) | (have q := hpj (by omega); omega) | (have e : ((i : Int) + 1).toNat = i + 1 := (by omega); rw [e]; have q := hpj (by omega); omega) | (simp; omega))) rfl ?_
          refine k_op0 (d := 4) (b := 99) (j' := 3) rfl rfl rfl rfl (.plain rfl) (T_assign rfl rfl) rfl ?_
          refine k_done rfl ?_
          refine thenK_n ?_
          have ei : i = keys.length := by omega
          refine ⟨k + 1, by (try dsimp only); omega, by (try dsimp only); omega, ?_⟩
          exact ⟨[(2, 2)], .same rfl rfl (.same rfl rfl (.eq rfl (.nil) (by first | rfl | (rw [ordTo_succ, ei]; first | done | rfl)))), .fzE rfl (.rowE rfl (.nil) (by first | rfl | (rw [ordTo_succ, ei]; first | done | rfl))) (by first | rfl | (rw [ordTo_succ, ei]; first | done | rfl)), rfl⟩
      · have h3 := g3; (try simp only [cmpB, decide_eq_true_eq, decide_eq_false_iff_not, beq_iff_eq, beq_eq_false_iff_ne, bne_iff_ne, ne_eq, bne_eq_false_iff_eq, Bool.not_eq_true', Bool.not_eq_false', Int.not_lt, Int.not_le] at h3)
        refine W_exit ?_
        refine thenK_e ?_
        refine thenK_e ?_
        refine blockK_hit ?_
        refine thenK_n ?_
        refine W_seq ?_
        refine W_seqK (b' := 99) rfl rfl ?_
        refine k_op1 (d := 40) (b := 35) (j' := 1) rfl rfl rfl rfl (.plain rfl) (T_bs D (ys := [_]) (enc := eI) (l := [_]) rfl rfl rfl rfl rfl rfl (.cons rfl (flat_v rfl) (.nil)) rfl rfl rfl rfl (.v rfl (.nil)) rfl rfl) rfl ?_
        refine k_op0 (d := 41) (b := 51) (j' := 2) rfl rfl rfl rfl (.plain rfl) (T_move rfl rfl) rfl ?_
        refine k_opn (d := 42) (b := 67) (j' := 3) rfl rfl rfl rfl (.plain rfl) (T_append D rfl rfl rfl rfl rfl rfl rfl rfl rfl rfl rfl rfl (by (try simp only [ty3]); first | assumption | omega | (have q := hk _ (getD_mem (i := i) (by omega)); omega) | (have q := hpi (by omega); omega) | (have q := hpi (by omega); simp only [List.length_set]; omega) | (have q := hpj (by omega); omega) | (have e : ((i : Int) + 1).toNat = i + 1 := (by omega); rw [e]; have q := hpj (by omega); omega) | (simp; omega)) (by (try simp only [ty3]); first | assumption | omega | (have q := hk _ (getD_mem (i := i) (by omega)); omega) | (have q := hpi (by omega); omega) | (have q := hpi (by omega); simp only [List.length_set]; omega) | (have q := hpj (by omega); omega) | (have e : ((i : Int) + 1).toNat = i + 1 := (by omega); rw [e]; have q := hpj (by omega); omega) | (simp; omega))) rfl ?_
        refine k_op0 (d := 6) (b := 83) (j' := 4) rfl rfl rfl rfl (.plain rfl) (T_assign rfl rfl) rfl ?_
        refine k_done rfl ?_
        refine thenK_n ?_
        refine W_seq ?_
        refine W_seqK (b' := 163) rfl rfl ?_
        refine k_op0 (d := 43) (b := 99) (j' := 1) rfl rfl rfl rfl (.plain rfl) (T_move rfl rfl) rfl ?_
        refine k_op0 (d := 44) (b := 115) (j' := 2) rfl rfl rfl rfl (.plain rfl) (T_len D rfl rfl rfl rfl rfl rfl) rfl ?_
        refine k_op1 (d := 45) (b := 131) (j' := 3) rfl rfl rfl rfl (.plain rfl) (T_make D (zx := (⟨[], 0, 0, 0, 0⟩ : GBlock)) (enc := eBlock) rfl rfl rfl rfl rfl rfl rfl (.z (.v rfl (.v rfl (.v rfl (.v rfl (.nil)))))) rfl (by (try simp only [ty72]); first | assumption | omega | (have q := hk _ (getD_mem (i := i) (by omega)); omega) | (have q := hpi (by omega); omega) | (have q := hpi (by omega); simp only [List.length_set]; omega) | (have q := hpj (by omega); omega) | (have e : ((i : Int) + 1).toNat = i + 1 := (by omega); rw [e]; have q := hpj (by omega); omega) | (simp; omega)) (by (try simp only [ty72]); first | assumption | omega | (have q := hk _ (getD_mem (i := i) (by omega)); omega) | (have q := hpi (by omega); omega) | (have q := hpi (by omega); simp only [List.length_set]; omega) | (have q := hpj (by omega); omega) | (have e : ((i : Int) + 1).toNat = i + 1 := (by omega); rw [e]; have q := hpj (by omega); omega) | (simp; omega))) rfl ?_
        refine k_op0 (d := 7) (b := 147) (j' := 4) rfl rfl rfl rfl (.plain rfl) (T_assign rfl rfl) rfl ?_
        refine k_done rfl ?_
        refine thenK_n ?_
        refine W_seq ?_
        refine W_seqK (b' := 179) rfl rfl ?_
        refine k_op1 (d := 8) (b := 163) (j' := 1) rfl rfl rfl rfl (.plain rfl) (T_nils [(70, 8)] (T_assign rfl rfl) rfl (.inr ⟨rfl, rfl⟩) (.cons (.nil rfl) .nil) (lv' := .r 163) (upd' := [(163, .row 70 8 (List.map eTac ([] : List (GTac))))]) (nn' := 1) rfl rfl) rfl ?_
        refine k_done rfl ?_
        refine thenK_n ?_
        refine W_seq ?_
        refine W_seq ?_
        refine W_seqK (b' := 195) rfl rfl ?_
        refine k_op0 (d := 9) (b := 179) (j' := 1) rfl rfl rfl rfl (.plain rfl) (T_assign rfl rfl) rfl ?_
        refine k_done rfl ?_
        refine thenK_n ?_
        refine W_block ?_
        have ek : k = 256 := by omega
        subst ek
        have hP := cPath_perm hk
        have hPl := cPath_le hk (by omega)
        refine W_loop (ι := Nat) 5 (fun i => ⟨[(6, .r 2), (7, .r 3), (8, .r 4), (9, .v (.int .i64 (i : Int)))], [(1, .fz 1 (keys.map eU8)), (2, .row 3 1 ((cPath keys).map eI)), (3, .row 72 5 ((bsTo (cPath keys) i).map eBlock)), (4, .row 70 8 ((((cPath keys).take i).map cTac).map eTac))]⟩) (fun i => i ≤ (cPath keys).length) (fun i => (cPath keys).length - i) (0) (by exact Nat.zero_le _) ?_ (fun i hI => ?_)
        · exact ⟨[(2, 67), (3, 131), (4, 163)], .same rfl rfl (.same rfl rfl (.same rfl rfl (.eq rfl (.nil) (by first | rfl | simp [bsTo])))), .fzE rfl (.rowE rfl (.rowE rfl (.rowE rfl (.nil) (by first | rfl | simp [bsTo])) (by first | rfl | simp [bsTo])) (by first | rfl | simp [bsTo])) (by first | rfl | simp [bsTo]), rfl⟩
        have hpi := fun h : i < (cPath keys).length => hP.inn _ (getD_mem h)
        have hpj := fun h : i + 1 < (cPath keys).length => hP.inn _ (getD_mem h)
        have hbl := bsTo_length (cPath keys) i
        have hpn := fun h : i < (cPath keys).length => (show ((cPath keys).getD i default).toNat < (bsTo (cPath keys) i).length by have := hpi h; omega)
        refine W_seq ?_
        refine W_seq ?_
        refine W_seqK (b' := 69) rfl rfl ?_
        refine k_op0 (d := 46) (b := 5) (j' := 1) rfl rfl rfl rfl (.plain rfl) (T_move rfl rfl) rfl ?_
        refine k_op0 (d := 47) (b := 21) (j' := 2) rfl rfl rfl rfl (.plain rfl) (T_move rfl rfl) rfl ?_
        refine k_op0 (d := 48) (b := 37) (j' := 3) rfl rfl rfl rfl (.plain rfl) (T_len D rfl rfl rfl rfl rfl rfl) rfl ?_
        refine k_op0 (d := 49) (b := 53) (j' := 4) rfl rfl rfl rfl (.plain rfl) (T_cmp rfl rfl rfl rfl) rfl ?_
        refine k_done rfl ?_
        refine thenK_n ?_
        refine W_cond rfl (fun g6 => ?_) (fun g6 => ?_)
        · have h6 := g6; (try simp only [cmpB, decide_eq_true_eq, decide_eq_false_iff_not, beq_iff_eq, beq_eq_false_iff_ne, bne_iff_ne, ne_eq, bne_eq_false_iff_eq, Bool.not_eq_true', Bool.not_eq_false', Int.not_lt, Int.not_le] at h6)
          refine W_skip ?_
          refine thenK_n ?_
          refine W_seq ?_
          refine W_block ?_
          refine W_seq ?_
          refine W_seqK (b' := 197) rfl rfl ?_
          refine k_op0 (d := 52) (b := 69) (j' := 1) rfl rfl rfl rfl (.plain rfl) (T_move rfl rfl) rfl ?_
          refine k_op0 (d := 53) (b := 85) (j' := 2) rfl rfl rfl rfl (.plain rfl) (T_move rfl rfl) rfl ?_
          first | refine k_op0 (d := 54) (b := 101) (j' := 3) rfl rfl rfl rfl (.plain rfl) (T_indexAddr D rfl rfl rfl rfl rfl rfl rfl rfl (by first | assumption | omega | (have q := hk _ (getD_mem (i := i) (by omega)); omega) | (have q := hpi (by omega); omega) | (have q := hpi (by omega); simp only [List.length_set]; omega) | (have q := hpj (by omega); omega) | (have e : ((i : Int) + 1).toNat = i + 1 := (by omega); rw [e]; have q := hpj (by omega); omega) | (simp; omega))) rfl ?_ | refine k_op0 (d := 54) (b := 101) (j' := 3) rfl rfl rfl rfl (.plain rfl) (T_indexAddrZ D rfl rfl rfl rfl rfl rfl rfl rfl (by first | assumption | omega | (have q := hk _ (getD_mem (i := i) (by omega)); omega) | (have q := hpi (by omega); omega) | (have q := hpi (by omega); simp only [List.length_set]; omega) | (have q := hpj (by omega); omega) | (have e : ((i : Int) + 1).toNat = i + 1 := (by omega); rw [e]; have q := hpj (by omega); omega) | (simp; omega)) (by first | assumption | omega | (have q := hk _ (getD_mem (i := i) (by omega)); omega) | (have q := hpi (by omega); omega) | (have q := hpi (by omega); simp only [List.length_set]; omega) | (have q := hpj (by omega); omega) | (have e : ((i : Int) + 1).toNat = i + 1 := (by omega); rw [e]; have q := hpj (by omega); omega) | (simp; omega))) rfl ?_
          refine k_op0 (d := 55) (b := 117) (j' := 4) rfl rfl rfl rfl (.plain rfl) (T_ldE D (lv := .v _) (nn := 0) (upd := []) rfl rfl rfl rfl rfl (by first | assumption | omega | (have q := hk _ (getD_mem (i := i) (by omega)); omega) | (have q := hpi (by omega); omega) | (have q := hpi (by omega); simp only [List.length_set]; omega) | (have q := hpj (by omega); omega) | (have e : ((i : Int) + 1).toNat = i + 1 := (by omega); rw [e]; have q := hpj (by omega); omega) | (simp; omega)) rfl rfl rfl rfl) rfl ?_
          refine k_op0 (d := 56) (b := 133) (j' := 5) rfl rfl rfl rfl (.plain rfl) (T_conv (r := (cPath keys).getD i default) rfl rfl (by rw [Try.underlying3]; rfl) Try.underlying68 (wrap_u32 (by have := hpi (by omega); omega))) rfl ?_
          refine k_op0 (d := 57) (b := 149) (j' := 6) rfl rfl rfl rfl (.plain rfl) (T_build D (l := [_, _, _, _, _, _, _, _]) rfl rfl rfl rfl (.cons rfl (flat_v rfl) (.cons rfl (flat_v rfl) (.nil))) rfl rfl) rfl ?_
          refine k_op1 (d := 10) (b := 165) (j' := 7) rfl rfl rfl rfl (.plain rfl) (T_alloc D rfl rfl rfl) rfl ?_
          refine k_st1 (b := 181) (j' := 8) rfl rfl rfl rfl (.plain rfl) (T_stB D (cs' := [_, _, _, _, _, _, _, _]) rfl rfl rfl rfl flat_agg rfl rfl (Nat.le_of_ble_eq_true rfl) rfl) rfl ?_
          refine k_done rfl ?_
          refine thenK_n ?_
          refine W_seq ?_
          refine W_seqK (b' := 277) rfl rfl ?_
          refine k_op0 (d := 58) (b := 197) (j' := 1) rfl rfl rfl rfl (.plain rfl) (T_move rfl rfl) rfl ?_
          refine k_op0 (d := 59) (b := 213) (j' := 2) rfl rfl rfl rfl (.plain rfl) (T_load_bA D (l := [_, _, _, _, _, _, _, _]) rfl rfl rfl rfl rfl rfl rfl) rfl ?_
          refine k_op1 (d := 60) (b := 229) (j' := 3) rfl rfl rfl rfl (.plain rfl) (T_bs D (ys := [⟨_, _, _, _, _, _, _, _⟩]) (enc := eTac) (l := [_, _, _, _, _, _, _, _]) rfl rfl rfl rfl rfl rfl (.cons rfl flat_agg (.nil)) rfl rfl rfl rfl (.v rfl (.v rfl (.v rfl (.v rfl (.v rfl (.v rfl (.v rfl (.v rfl (.nil))))))))) rfl rfl) rfl ?_
          refine k_opn (d := 61) (b := 245) (j' := 4) rfl rfl rfl rfl (.plain rfl) (T_append D rfl rfl rfl rfl rfl rfl rfl rfl rfl rfl rfl rfl (by (try simp only [ty70]); first | assumption | omega | (have q := hk _ (getD_mem (i := i) (by omega)); omega) | (have q := hpi (by omega); omega) | (have q := hpi (by omega); simp only [List.length_set]; omega) | (have q := hpj (by omega); omega) | (have e : ((i : Int) + 1).toNat = i + 1 := (by omega); rw [e]; have q := hpj (by omega); omega) | (simp; omega)) (by (try simp only [ty70]); first | assumption | omega | (have q := hk _ (getD_mem (i := i) (by omega)); omega) | (have q := hpi (by omega); omega) | (have q := hpi (by omega); simp only [List.length_set]; omega) | (have q := hpj (by omega); omega) | (have e : ((i : Int) + 1).toNat = i + 1 := (by omega); rw [e]; have q := hpj (by omega); omega) | (simp; omega))) rfl ?_
          refine k_op0 (d := 8) (b := 261) (j' := 5) rfl rfl rfl rfl (.plain rfl) (T_assign rfl rfl) rfl ?_
          refine k_done rfl ?_
          refine thenK_n ?_
          refine W_seq ?_
          refine W_anyK (b' := 437) rfl rfl rfl ?_
          refine k_op0 (d := 62) (b := 277) (j' := 1) rfl rfl rfl rfl (.plain rfl) (T_move rfl rfl) rfl ?_
          refine k_op0 (d := 63) (b := 293) (j' := 2) rfl rfl rfl rfl (.plain rfl) (T_move rfl rfl) rfl ?_
          refine k_op0 (d := 64) (b := 309) (j' := 3) rfl rfl rfl rfl (.plain rfl) (T_move rfl rfl) rfl ?_
          first | refine k_op0 (d := 65) (b := 325) (j' := 4) rfl rfl rfl rfl (.plain rfl) (T_indexAddr D rfl rfl rfl rfl rfl rfl rfl rfl (by first | assumption | omega | (have q := hk _ (getD_mem (i := i) (by omega)); omega) | (have q := hpi (by omega); omega) | (have q := hpi (by omega); simp only [List.length_set]; omega) | (have q := hpj (by omega); omega) | (have e : ((i : Int) + 1).toNat = i + 1 := (by omega); rw [e]; have q := hpj (by omega); omega) | (simp; omega))) rfl ?_ | refine k_op0 (d := 65) (b := 325) (j' := 4) rfl rfl rfl rfl (.plain rfl) (T_indexAddrZ D rfl rfl rfl rfl rfl rfl rfl rfl (by first | assumption | omega | (have q := hk _ (getD_mem (i := i) (by omega)); omega) | (have q := hpi (by omega); omega) | (have q := hpi (by omega); simp only [List.length_set]; omega) | (have q := hpj (by omega); omega) | (have e : ((i : Int) + 1).toNat = i + 1 := (by omega); rw [e]; have q := hpj (by omega); omega) | (simp; omega)) (by first | assumption | omega | (have q := hk _ (getD_mem (i := i) (by omega)); omega) | (have q := hpi (by omega); omega) | (have q := hpi (by omega); simp only [List.length_set]; omega) | (have q := hpj (by omega); omega) | (have e : ((i : Int) + 1).toNat = i + 1 := (by omega); rw [e]; have q := hpj (by omega); omega) | (simp; omega))) rfl ?_
          refine k_op0 (d := 66) (b := 341) (j' := 5) rfl rfl rfl rfl (.plain rfl) (T_ldE D (lv := .v _) (nn := 0) (upd := []) rfl rfl rfl rfl rfl (by first | assumption | omega | (have q := hk _ (getD_mem (i := i) (by omega)); omega) | (have q := hpi (by omega); omega) | (have q := hpi (by omega); simp only [List.length_set]; omega) | (have q := hpj (by omega); omega) | (have e : ((i : Int) + 1).toNat = i + 1 := (by omega); rw [e]; have q := hpj (by omega); omega) | (simp; omega)) rfl rfl rfl rfl) rfl ?_
          refine k_op0 (d := 67) (b := 357) (j' := 6) rfl rfl rfl rfl (.plain rfl) (T_load_bA D (l := [_, _, _, _, _, _, _, _]) rfl rfl rfl rfl rfl rfl rfl) rfl ?_
          refine k_op1 (d := 68) (b := 373) (j' := 7) rfl rfl rfl rfl (.plain rfl) (T_bs D (ys := [⟨_, _, _, _, _, _, _, _⟩]) (enc := eTac) (l := [_, _, _, _, _, _, _, _]) rfl rfl rfl rfl rfl rfl (.cons rfl flat_agg (.nil)) rfl rfl rfl rfl (.v rfl (.v rfl (.v rfl (.v rfl (.v rfl (.v rfl (.v rfl (.v rfl (.nil))))))))) rfl rfl) rfl ?_
          refine k_op0 (d := 69) (b := 389) (j' := 8) rfl rfl rfl rfl (.plain rfl) (T_build D (l := [_, _, _, _, _]) rfl rfl rfl rfl (.cons rfl (flat_sl rfl) (.cons rfl (flat_v rfl) (.nil))) rfl rfl) rfl ?_
          first | refine k_op0 (d := 70) (b := 405) (j' := 9) rfl rfl rfl rfl (.plain rfl) (T_indexAddr D rfl rfl rfl rfl rfl rfl rfl rfl (by first | assumption | omega | (have q := hk _ (getD_mem (i := i) (by omega)); omega) | (have q := hpi (by omega); omega) | (have q := hpi (by omega); simp only [List.length_set]; omega) | (have q := hpj (by omega); omega) | (have e : ((i : Int) + 1).toNat = i + 1 := (by omega); rw [e]; have q := hpj (by omega); omega) | (simp; omega))) rfl ?_ | refine k_op0 (d := 70) (b := 405) (j' := 9) rfl rfl rfl rfl (.plain rfl) (T_indexAddrZ D rfl rfl rfl rfl rfl rfl rfl rfl (by first | assumption | omega | (have q := hk _ (getD_mem (i := i) (by omega)); omega) | (have q := hpi (by omega); omega) | (have q := hpi (by omega); simp only [List.length_set]; omega) | (have q := hpj (by omega); omega) | (have e : ((i : Int) + 1).toNat = i + 1 := (by omega); rw [e]; have q := hpj (by omega); omega) | (simp; omega)) (by first | assumption | omega | (have q := hk _ (getD_mem (i := i) (by omega)); omega) | (have q := hpi (by omega); omega) | (have q := hpi (by omega); simp only [List.length_set]; omega) | (have q := hpj (by omega); omega) | (have e : ((i : Int) + 1).toNat = i + 1 := (by omega); rw [e]; have q := hpj (by omega); omega) | (simp; omega))) rfl ?_
          refine k_stn (b := 421) (j' := 10) rfl rfl rfl rfl (.plain rfl) (T_store_e D (z := ⟨_, _, _, _, _⟩) rfl rfl rfl rfl flat_agg rfl rfl (by first | assumption | omega | (have q := hk _ (getD_mem (i := i) (by omega)); omega) | (have q := hpi (by omega); omega) | (have q := hpi (by omega); simp only [List.length_set]; omega) | (have q := hpj (by omega); omega) | (have e : ((i : Int) + 1).toNat = i + 1 := (by omega); rw [e]; have q := hpj (by omega); omega) | (simp; omega)) (.row rfl (.v rfl (.v rfl (.v rfl (.v rfl (.nil))))) rfl) rfl (Nat.le_of_ble_eq_true rfl) rfl) rfl ?_
          refine k_done rfl ?_
          refine ⟨rfl, ?_⟩
          refine thenK_n ?_
          refine W_seq ?_
          refine W_seqK (b' := 517) rfl rfl ?_
          refine k_op0 (d := 71) (b := 437) (j' := 1) rfl rfl rfl rfl (.plain rfl) (T_move rfl rfl) rfl ?_
          refine k_op0 (d := 72) (b := 453) (j' := 2) rfl rfl rfl rfl (.plain rfl) (T_add64 rfl rfl rfl (by first | assumption | omega | (have q := hk _ (getD_mem (i := i) (by omega)); omega) | (have q := hpi (by omega); omega) | (have q := hpi (by omega); simp only [List.length_set]; omega) | (have q := hpj (by omega); omega) | (have e : ((i : Int) + 1).toNat = i + 1 := (by omega); rw [e]; have q := hpj (by omega); omega) | (simp; omega))) rfl ?_
          refine k_op0 (d := 73) (b := 469) (j' := 3) rfl rfl rfl rfl (.plain rfl) (T_move rfl rfl) rfl ?_
          refine k_op0 (d := 74) (b := 485) (j' := 4) rfl rfl rfl rfl (.plain rfl) (T_len D rfl rfl rfl rfl rfl rfl) rfl ?_
          refine k_op0 (d := 75) (b := 501) (j' := 5) rfl rfl rfl rfl (.plain rfl) (T_cmp rfl rfl rfl rfl) rfl ?_
          refine k_done rfl ?_
          refine thenK_n ?_
          refine W_cond rfl (fun g7 => ?_) (fun g7 => ?_)
          · have h7 := g7; (try simp only [cmpB, decide_eq_true_eq, decide_eq_false_iff_not, beq_iff_eq, beq_eq_false_iff_ne, bne_iff_ne, ne_eq, bne_eq_false_iff_eq, Bool.not_eq_true', Bool.not_eq_false', Int.not_lt, Int.not_le] at h7)
            refine W_seq ?_
            refine W_seqK (b' := 645) rfl rfl ?_
            refine k_op0 (d := 76) (b := 517) (j' := 1) rfl rfl rfl rfl (.plain rfl) (T_move rfl rfl) rfl ?_
            refine k_op0 (d := 77) (b := 533) (j' := 2) rfl rfl rfl rfl (.plain rfl) (T_move rfl rfl) rfl ?_
            refine k_op0 (d := 78) (b := 549) (j' := 3) rfl rfl rfl rfl (.plain rfl) (T_move rfl rfl) rfl ?_
            first | refine k_op0 (d := 79) (b := 565) (j' := 4) rfl rfl rfl rfl (.plain rfl) (T_indexAddr D rfl rfl rfl rfl rfl rfl rfl rfl (by first | assumption | omega | (have q := hk _ (getD_mem (i := i) (by omega)); omega) | (have q := hpi (by omega); omega) | (have q := hpi (by omega); simp only [List.length_set]; omega) | (have q := hpj (by omega); omega) | (have e : ((i : Int) + 1).toNat = i + 1 := (by omega); rw [e]; have q := hpj (by omega); omega) | (simp; omega))) rfl ?_ | refine k_op0 (d := 79) (b := 565) (j' := 4) rfl rfl rfl rfl (.plain rfl) (T_indexAddrZ D rfl rfl rfl rfl rfl rfl rfl rfl (by first | assumption | omega | (have q := hk _ (getD_mem (i := i) (by omega)); omega) | (have q := hpi (by omega); omega) | (have q := hpi (by omega); simp only [List.length_set]; omega) | (have q := hpj (by omega); omega) | (have e : ((i : Int) + 1).toNat = i + 1 := (by omega); rw [e]; have q := hpj (by omega); omega) | (simp; omega)) (by first | assumption | omega | (have q := hk _ (getD_mem (i := i) (by omega)); omega) | (have q := hpi (by omega); omega) | (have q := hpi (by omega); simp only [List.length_set]; omega) | (have q := hpj (by omega); omega) | (have e : ((i : Int) + 1).toNat = i + 1 := (by omega); rw [e]; have q := hpj (by omega); omega) | (simp; omega))) rfl ?_
            refine k_op0 (d := 80) (b := 581) (j' := 5) rfl rfl rfl rfl (.plain rfl) (T_ldE D (lv := .v _) (nn := 0) (upd := []) rfl rfl rfl rfl rfl (by first | assumption | omega | (have q := hk _ (getD_mem (i := i) (by omega)); omega) | (have q := hpi (by omega); omega) | (have q := hpi (by omega); simp only [List.length_set]; omega) | (have q := hpj (by omega); omega) | (have e : ((i : Int) + 1).toNat = i + 1 := (by omega); rw [e]; have q := hpj (by omega); omega) | (simp; omega)) rfl rfl rfl rfl) rfl ?_
            first | refine k_op0 (d := 81) (b := 597) (j' := 6) rfl rfl rfl rfl (.plain rfl) (T_indexAddr D rfl rfl rfl rfl rfl rfl rfl rfl (by first | assumption | omega | (have q := hk _ (getD_mem (i := i) (by omega)); omega) | (have q := hpi (by omega); omega) | (have q := hpi (by omega); simp only [List.length_set]; omega) | (have q := hpj (by omega); omega) | (have e : ((i : Int) + 1).toNat = i + 1 := (by omega); rw [e]; have q := hpj (by omega); omega) | (simp; omega))) rfl ?_ | refine k_op0 (d := 81) (b := 597) (j' := 6) rfl rfl rfl rfl (.plain rfl) (T_indexAddrZ D rfl rfl rfl rfl rfl rfl rfl rfl (by first | assumption | omega | (have q := hk _ (getD_mem (i := i) (by omega)); omega) | (have q := hpi (by omega); omega) | (have q := hpi (by omega); simp only [List.length_set]; omega) | (have q := hpj (by omega); omega) | (have e : ((i : Int) + 1).toNat = i + 1 := (by omega); rw [e]; have q := hpj (by omega); omega) | (simp; omega)) (by first | assumption | omega | (have q := hk _ (getD_mem (i := i) (by omega)); omega) | (have q := hpi (by omega); omega) | (have q := hpi (by omega); simp only [List.length_set]; omega) | (have q := hpj (by omega); omega) | (have e : ((i : Int) + 1).toNat = i + 1 := (by omega); rw [e]; have q := hpj (by omega); omega) | (simp; omega))) rfl ?_
            refine k_op0 (d := 82) (b := 613) (j' := 7) rfl rfl rfl rfl (.plain rfl) (T_fae D (m := 1) rfl rfl rfl rfl rfl rfl) rfl ?_
            refine k_st1 (b := 629) (j' := 8) rfl rfl rfl rfl (.plain rfl) (T_store_e D (z := _) rfl rfl rfl rfl (flat_v rfl) rfl rfl (by first | assumption | omega | (have q := hk _ (getD_mem (i := i) (by omega)); omega) | (have q := hpi (by omega); omega) | (have q := hpi (by omega); simp only [List.length_set]; omega) | (have q := hpj (by omega); omega) | (have e : ((i : Int) + 1).toNat = i + 1 := (by omega); rw [e]; have q := hpj (by omega); omega) | (simp; omega)) (.v rfl (.nil)) rfl (Nat.le_of_ble_eq_true rfl) (eBlock_fin _ _)) rfl ?_
            refine k_done rfl ?_
            refine thenK_n ?_
            refine W_anyK (b' := 853) rfl rfl rfl ?_
            refine k_op0 (d := 83) (b := 645) (j' := 1) rfl rfl rfl rfl (.plain rfl) (T_move rfl rfl) rfl ?_
            refine k_op0 (d := 84) (b := 661) (j' := 2) rfl rfl rfl rfl (.plain rfl) (T_move rfl rfl) rfl ?_
            refine k_op0 (d := 85) (b := 677) (j' := 3) rfl rfl rfl rfl (.plain rfl) (T_move rfl rfl) rfl ?_
            first | refine k_op0 (d := 86) (b := 693) (j' := 4) rfl rfl rfl rfl (.plain rfl) (T_indexAddr D rfl rfl rfl rfl rfl rfl rfl rfl (by first | assumption | omega | (have q := hk _ (getD_mem (i := i) (by omega)); omega) | (have q := hpi (by omega); omega) | (have q := hpi (by omega); simp only [List.length_set]; omega) | (have q := hpj (by omega); omega) | (have e : ((i : Int) + 1).toNat = i + 1 := (by omega); rw [e]; have q := hpj (by omega); omega) | (simp; omega))) rfl ?_ | refine k_op0 (d := 86) (b := 693) (j' := 4) rfl rfl rfl rfl (.plain rfl) (T_indexAddrZ D rfl rfl rfl rfl rfl rfl rfl rfl (by first | assumption | omega | (have q := hk _ (getD_mem (i := i) (by omega)); omega) | (have q := hpi (by omega); omega) | (have q := hpi (by omega); simp only [List.length_set]; omega) | (have q := hpj (by omega); omega) | (have e : ((i : Int) + 1).toNat = i + 1 := (by omega); rw [e]; have q := hpj (by omega); omega) | (simp; omega)) (by first | assumption | omega | (have q := hk _ (getD_mem (i := i) (by omega)); omega) | (have q := hpi (by omega); omega) | (have q := hpi (by omega); simp only [List.length_set]; omega) | (have q := hpj (by omega); omega) | (have e : ((i : Int) + 1).toNat = i + 1 := (by omega); rw [e]; have q := hpj (by omega); omega) | (simp; omega))) rfl ?_
            refine k_op0 (d := 87) (b := 709) (j' := 5) rfl rfl rfl rfl (.plain rfl) (T_ldE D (lv := .v _) (nn := 0) (upd := []) rfl rfl rfl rfl rfl (by first | assumption | omega | (have q := hk _ (getD_mem (i := i) (by omega)); omega) | (have q := hpi (by omega); omega) | (have q := hpi (by omega); simp only [List.length_set]; omega) | (have q := hpj (by omega); omega) | (have e : ((i : Int) + 1).toNat = i + 1 := (by omega); rw [e]; have q := hpj (by omega); omega) | (simp; omega)) rfl rfl rfl rfl) rfl ?_
            refine k_op0 (d := 88) (b := 725) (j' := 6) rfl rfl rfl rfl (.plain rfl) (T_move rfl rfl) rfl ?_
            refine k_op0 (d := 89) (b := 741) (j' := 7) rfl rfl rfl rfl (.plain rfl) (T_move rfl rfl) rfl ?_
            refine k_op0 (d := 90) (b := 757) (j' := 8) rfl rfl rfl rfl (.plain rfl) (T_add64 rfl rfl rfl (by first | assumption | omega | (have q := hk _ (getD_mem (i := i) (by omega)); omega) | (have q := hpi (by omega); omega) | (have q := hpi (by omega); simp only [List.length_set]; omega) | (have q := hpj (by omega); omega) | (have e : ((i : Int) + 1).toNat = i + 1 := (by omega); rw [e]; have q := hpj (by omega); omega) | (simp; omega))) rfl ?_
            first | refine k_op0 (d := 91) (b := 773) (j' := 9) rfl rfl rfl rfl (.plain rfl) (T_indexAddr D rfl rfl rfl rfl rfl rfl rfl rfl (by first | assumption | omega | (have q := hk _ (getD_mem (i := i) (by omega)); omega) | (have q := hpi (by omega); omega) | (have q := hpi (by omega); simp only [List.length_set]; omega) | (have q := hpj (by omega); omega) | (have e : ((i : Int) + 1).toNat = i + 1 := (by omega); rw [e]; have q := hpj (by omega); omega) | (simp; omega))) rfl ?_ | refine k_op0 (d := 91) (b := 773) (j' := 9) rfl rfl rfl rfl (.plain rfl) (T_indexAddrZ D rfl rfl rfl rfl rfl rfl rfl rfl (by first | assumption | omega | (have q := hk _ (getD_mem (i := i) (by omega)); omega) | (have q := hpi (by omega); omega) | (have q := hpi (by omega); simp only [List.length_set]; omega) | (have q := hpj (by omega); omega) | (have e : ((i : Int) + 1).toNat = i + 1 := (by omega); rw [e]; have q := hpj (by omega); omega) | (simp; omega)) (by first | assumption | omega | (have q := hk _ (getD_mem (i := i) (by omega)); omega) | (have q := hpi (by omega); omega) | (have q := hpi (by omega); simp only [List.length_set]; omega) | (have q := hpj (by omega); omega) | (have e : ((i : Int) + 1).toNat = i + 1 := (by omega); rw [e]; have q := hpj (by omega); omega) | (simp; omega))) rfl ?_
            refine k_op0 (d := 92) (b := 789) (j' := 10) rfl rfl rfl rfl (.plain rfl) (T_ldE D (lv := .v _) (nn := 0) (upd := []) rfl rfl rfl rfl rfl (by first | assumption | omega | (have q := hk _ (getD_mem (i := i) (by omega)); omega) | (have q := hpi (by omega); omega) | (have q := hpi (by omega); simp only [List.length_set]; omega) | (have q := hpj (by omega); omega) | (have e : ((i : Int) + 1).toNat = i + 1 := (by omega); rw [e]; have q := hpj (by omega); omega) | (simp; omega)) rfl rfl rfl rfl) rfl ?_
            first | refine k_op0 (d := 93) (b := 805) (j' := 11) rfl rfl rfl rfl (.plain rfl) (T_indexAddr D rfl rfl rfl rfl rfl rfl rfl rfl (by first | assumption | omega | (have q := hk _ (getD_mem (i := i) (by omega)); omega) | (have q := hpi (by omega); omega) | (have q := hpi (by omega); simp only [List.length_set]; omega) | (have q := hpj (by omega); omega) | (have e : ((i : Int) + 1).toNat = i + 1 := (by omega); rw [e]; have q := hpj (by omega); omega) | (simp; omega))) rfl ?_ | refine k_op0 (d := 93) (b := 805) (j' := 11) rfl rfl rfl rfl (.plain rfl) (T_indexAddrZ D rfl rfl rfl rfl rfl rfl rfl rfl (by first | assumption | omega | (have q := hk _ (getD_mem (i := i) (by omega)); omega) | (have q := hpi (by omega); omega) | (have q := hpi (by omega); simp only [List.length_set]; omega) | (have q := hpj (by omega); omega) | (have e : ((i : Int) + 1).toNat = i + 1 := (by omega); rw [e]; have q := hpj (by omega); omega) | (simp; omega)) (by first | assumption | omega | (have q := hk _ (getD_mem (i := i) (by omega)); omega) | (have q := hpi (by omega); omega) | (have q := hpi (by omega); simp only [List.length_set]; omega) | (have q := hpj (by omega); omega) | (have e : ((i : Int) + 1).toNat = i + 1 := (by omega); rw [e]; have q := hpj (by omega); omega) | (simp; omega))) rfl ?_
            refine k_op0 (d := 94) (b := 821) (j' := 12) rfl rfl rfl rfl (.plain rfl) (T_fae D (m := 3) rfl rfl rfl rfl rfl rfl) rfl ?_
            refine k_st1 (b := 837) (j' := 13) rfl rfl rfl rfl (.plain rfl) (T_store_e D (z := _) rfl rfl rfl rfl (flat_v rfl) rfl rfl (by first | assumption | omega | (have q := hk _ (getD_mem (i := i) (by omega)); omega) | (have q := hpi (by omega); omega) | (have q := hpi (by omega); simp only [List.length_set]; omega) | (have q := hpj (by omega); omega) | (have e : ((i : Int) + 1).toNat = i + 1 := (by omega); rw [e]; have q := hpj (by omega); omega) | (simp; omega)) (.v rfl (.nil)) rfl (Nat.le_of_ble_eq_true rfl) (eBlock_to _ _)) rfl ?_
            refine k_done rfl ?_
            refine ⟨rfl, ?_⟩
            refine blockK_n ?_
            refine thenK_n ?_
            refine W_seqK (b' := 901) rfl rfl ?_
            refine k_op0 (d := 50) (b := 853) (j' := 1) rfl rfl rfl rfl (.plain rfl) (T_move rfl rfl) rfl ?_
            refine k_op0 (d := 51) (b := 869) (j' := 2) rfl rfl rfl rfl (.plain rfl) (T_add64 rfl rfl rfl (by first | assumption | omega | (have q := hk _ (getD_mem (i := i) (by omega)); omega) | (have q := hpi (by omega); omega) | (have q := hpi (by omega); simp only [List.length_set]; omega) | (have q := hpj (by omega); omega) | (have e : ((i : Int) + 1).toNat = i + 1 := (by omega); rw [e]; have q := hpj (by omega); omega) | (simp; omega))) rfl ?_
            refine k_op0 (d := 9) (b := 885) (j' := 3) rfl rfl rfl rfl (.plain rfl) (T_assign rfl rfl) rfl ?_
            refine k_done rfl ?_
            refine thenK_n ?_
            refine ⟨i + 1, by (try dsimp only); omega, by (try dsimp only); omega, ?_⟩
            exact ⟨[(2, 2), (3, 3), (4, 245)], .same rfl rfl (.same rfl rfl (.same rfl rfl (.eq rfl (.nil) (by first | rfl | exact congrArg (List.map eTac) (map_take_c cTac (cPath keys) (j := i) (by omega)).symm | (rw [bsTo_succ]; simp only [List.set_set, gs_self (hpn (by omega))]; unfold cBlk; rw [if_pos (by omega)]; first | done | rfl) | (rw [bsTo_succ]; unfold cBlk; rw [if_neg (by omega)]; first | done | rfl))))), .fzE rfl (.rowE rfl (.rowE rfl (.rowE rfl (.nil) (by first | rfl | exact congrArg (List.map eTac) (map_take_c cTac (cPath keys) (j := i) (by omega)).symm | (rw [bsTo_succ]; simp only [List.set_set, gs_self (hpn (by omega))]; unfold cBlk; rw [if_pos (by omega)]; first | done | rfl) | (rw [bsTo_succ]; unfold cBlk; rw [if_neg (by omega)]; first | done | rfl))) (by first | rfl | exact congrArg (List.map eTac) (map_take_c cTac (cPath keys) (j := i) (by omega)).symm | (rw [bsTo_succ]; simp only [List.set_set, gs_self (hpn (by omega))]; unfold cBlk; rw [if_pos (by omega)]; first | done | rfl) | (rw [bsTo_succ]; unfold cBlk; rw [if_neg (by omega)]; first | done | rfl))) (by first | rfl | exact congrArg (List.map eTac) (map_take_c cTac (cPath keys) (j := i) (by omega)).symm | (rw [bsTo_succ]; simp only [List.set_set, gs_self (hpn (by omega))]; unfold cBlk; rw [if_pos (by omega)]; first | done | rfl) | (rw [bsTo_succ]; unfold cBlk; rw [if_neg (by omega)]; first | done | rfl))) (by first | rfl | exact congrArg (List.map eTac) (map_take_c cTac (cPath keys) (j := i) (by omega)).symm | (rw [bsTo_succ]; simp only [List.set_set, gs_self (hpn (by omega))]; unfold cBlk; rw [if_pos (by omega)]; first | done | rfl) | (rw [bsTo_succ]; unfold cBlk; rw [if_neg (by omega)]; first | done | rfl)), rfl⟩
          · have h7 := g7; (try simp only [cmpB, decide_eq_true_eq, decide_eq_false_iff_not, beq_iff_eq, beq_eq_false_iff_ne, bne_iff_ne, ne_eq, bne_eq_false_iff_eq, Bool.not_eq_true', Bool.not_eq_false', Int.not_lt, Int.not_le] at h7)
            refine W_skip ?_
            refine blockK_n ?_
            refine thenK_n ?_
            refine W_seqK (b' := 565) rfl rfl ?_
            refine k_op0 (d := 50) (b := 517) (j' := 1) rfl rfl rfl rfl (.plain rfl) (T_move rfl rfl) rfl ?_
            refine k_op0 (d := 51) (b := 533) (j' := 2) rfl rfl rfl rfl (.plain rfl) (T_add64 rfl rfl rfl (by first | assumption | omega | (have q := hk _ (getD_mem (i := i) (by omega)); omega) | (have q := hpi (by omega); omega) | (have q := hpi (by omega); simp only [List.length_set]; omega) | (have q := hpj (by omega); omega) | (have e : ((i : Int) + 1).toNat = i + 1 := (by omega); rw [e]; have q := hpj (by omega); omega) | (simp; omega))) rfl ?_
            refine k_op0 (d := 9) (b := 549) (j' := 3) rfl rfl rfl rfl (.plain rfl) (T_assign rfl rfl) rfl ?_
            refine k_done rfl ?_
            refine thenK_n ?_
            refine ⟨i + 1, by (try dsimp only); omega, by (try dsimp only); omega, ?_⟩
            exact ⟨[(2, 2), (3, 3), (4, 245)], .same rfl rfl (.same rfl rfl (.same rfl rfl (.eq rfl (.nil) (by first | rfl | exact congrArg (List.map eTac) (map_take_c cTac (cPath keys) (j := i) (by omega)).symm | (rw [bsTo_succ]; simp only [List.set_set, gs_self (hpn (by omega))]; unfold cBlk; rw [if_pos (by omega)]; first | done | rfl) | (rw [bsTo_succ]; unfold cBlk; rw [if_neg (by omega)]; first | done | rfl))))), .fzE rfl (.rowE rfl (.rowE rfl (.rowE rfl (.nil) (by first | rfl | exact congrArg (List.map eTac) (map_take_c cTac (cPath keys) (j := i) (by omega)).symm | (rw [bsTo_succ]; simp only [List.set_set, gs_self (hpn (by omega))]; unfold cBlk; rw [if_pos (by omega)]; first | done | rfl) | (rw [bsTo_succ]; unfold cBlk; rw [if_neg (by omega)]; first | done | rfl))) (by first | rfl | exact congrArg (List.map eTac) (map_take_c cTac (cPath keys) (j := i) (by omega)).symm | (rw [bsTo_succ]; simp only [List.set_set, gs_self (hpn (by omega))]; unfold cBlk; rw [if_pos (by omega)]; first | done | rfl) | (rw [bsTo_succ]; unfold cBlk; rw [if_neg (by omega)]; first | done | rfl))) (by first | rfl | exact congrArg (List.map eTac) (map_take_c cTac (cPath keys) (j := i) (by omega)).symm | (rw [bsTo_succ]; simp only [List.set_set, gs_self (hpn (by omega))]; unfold cBlk; rw [if_pos (by omega)]; first | done | rfl) | (rw [bsTo_succ]; unfold cBlk; rw [if_neg (by omega)]; first | done | rfl))) (by first | rfl | exact congrArg (List.map eTac) (map_take_c cTac (cPath keys) (j := i) (by omega)).symm | (rw [bsTo_succ]; simp only [List.set_set, gs_self (hpn (by omega))]; unfold cBlk; rw [if_pos (by omega)]; first | done | rfl) | (rw [bsTo_succ]; unfold cBlk; rw [if_neg (by omega)]; first | done | rfl)), rfl⟩
        · have h6 := g6; (try simp only [cmpB, decide_eq_true_eq, decide_eq_false_iff_not, beq_iff_eq, beq_eq_false_iff_ne, bne_iff_ne, ne_eq, bne_eq_false_iff_eq, Bool.not_eq_true', Bool.not_eq_false', Int.not_lt, Int.not_le] at h6)
          refine W_exit ?_
          refine thenK_e ?_
          refine thenK_e ?_
          refine blockK_hit ?_
          refine thenK_n ?_
          refine W_seq ?_
          refine W_seqK (b' := 213) rfl rfl ?_
          refine k_op0 (d := 96) (b := 69) (j' := 1) rfl rfl rfl rfl (.plain rfl) (T_move rfl rfl) rfl ?_
          refine k_op0 (d := 97) (b := 85) (j' := 2) rfl rfl rfl rfl (.plain rfl) (T_build D (l := [_, _]) rfl rfl rfl rfl (.cons rfl (flat_v rfl) (.cons rfl (flat_sl rfl) (.nil))) rfl rfl) rfl ?_
          refine k_opn (d := 98) (b := 101) (j' := 3) rfl rfl rfl rfl (.plain rfl) (T_call (lvs := [_]) (L := [(1, 3)]) (lv := .tup [.agg [.v _, .r 101], .r 102]) (upd := [(101, .row 72 5 _), (102, .fz 1 _), (3, .fz 5 _)]) (nn := 2) false (tidy_spec ⟨1, bsTo (cPath keys) i⟩ (cMain hk (by omega) (by omega : i = (cPath keys).length)).hb (cMain hk (by omega) (by omega : i = (cPath keys).length)).hi (cMain hk (by omega) (by omega : i = (cPath keys).length)).hc) body26 rfl rfl rfl rfl (.lend rfl (.nil)) rfl (.inl rfl) rfl rfl rfl) rfl ?_
          refine k_op0 (d := 95) (b := 117) (j' := 4) rfl rfl rfl rfl (.plain rfl) (T_move rfl rfl) rfl ?_
          refine k_op0 (d := 99) (b := 133) (j' := 5) rfl rfl rfl rfl (.plain rfl) (T_extract rfl rfl rfl) rfl ?_
          refine k_op0 (d := 100) (b := 149) (j' := 6) rfl rfl rfl rfl (.plain rfl) (T_extract rfl rfl rfl) rfl ?_
          refine k_opn (d := 11) (b := 165) (j' := 7) rfl rfl rfl rfl (.plain rfl) (T_nilbox [(72, 5)] (T_alloc D rfl rfl rfl) rfl (.cons (.same _) <| .cons (.nil rfl) <| .nil) (upd' := [(165, .box 29 [.v (.int .i64 0), .r 166]), (166, .row 72 5 (List.map eBlock ([] : List (GBlock))))]) (nn' := 2) rfl rfl) rfl ?_
          refine k_st1 (b := 181) (j' := 8) rfl rfl rfl rfl (.plain rfl) (T_stB D (cs' := [_, _]) rfl rfl rfl rfl flat_agg rfl rfl (Nat.le_of_ble_eq_true rfl) rfl) rfl ?_
          refine k_op0 (d := 12) (b := 197) (j' := 9) rfl rfl rfl rfl (.plain rfl) (T_assign rfl rfl) rfl ?_
          refine k_done rfl ?_
          refine thenK_n ?_
          refine W_seq ?_
          refine W_seqK (b' := 421) rfl rfl ?_
          refine k_op0 (d := 101) (b := 213) (j' := 1) rfl rfl rfl rfl (.plain rfl) (T_move rfl rfl) rfl ?_
          refine k_op0 (d := 102) (b := 229) (j' := 2) rfl rfl rfl rfl (.plain rfl) (T_move rfl rfl) rfl ?_
          refine k_opn (d := 103) (b := 245) (j' := 3) rfl rfl rfl rfl (.plain rfl) (T_bs D (ys := [_]) (enc := eIs) (l := [_]) rfl rfl rfl rfl rfl rfl (.cons rfl (flat_sl rfl) (.nil)) rfl rfl rfl rfl (.row rfl (.nil) rfl) rfl rfl) rfl ?_
          refine k_op0 (d := 104) (b := 261) (j' := 4) rfl rfl rfl rfl (.plain rfl) (T_callV (lvs := [_, _]) (L := [(1, 102), (2, 245)]) (same_ps_spec (pathsL ⟨1, bsTo (cPath keys) i⟩) [cPath keys] (cMain hk (by omega) (by omega : i = (cPath keys).length)).l1 ((cMain hk (by omega) (by omega : i = (cPath keys).length)).l2 hPl)) body29 rfl rfl rfl rfl (.fz rfl (.lend rfl (.nil))) rfl) rfl ?_
          refine k_op0 (d := 105) (b := 277) (j' := 5) rfl rfl rfl rfl (.plain rfl) (T_move rfl rfl) rfl ?_
          refine k_split (d := 105) rfl (fun g8 => ?_) (fun g8 => ?_)
          · have h8 := g8; (try simp only [cmpB, decide_eq_true_eq, decide_eq_false_iff_not, beq_iff_eq, beq_eq_false_iff_ne, bne_iff_ne, ne_eq, bne_eq_false_iff_eq, Bool.not_eq_true', Bool.not_eq_false', Int.not_lt, Int.not_le] at h8)
            refine k_op0 (d := 106) (b := 293) (j' := 6) rfl rfl rfl rfl (g_tt rfl rfl rfl g8) (T_load_bA D (l := [_, _]) rfl rfl rfl rfl rfl rfl rfl) rfl ?_
            refine k_op0 (d := 107) (b := 309) (j' := 7) rfl rfl rfl rfl (g_tt rfl rfl rfl g8) (T_move rfl rfl) rfl ?_
            refine k_op0 (d := 108) (b := 325) (j' := 8) rfl rfl rfl rfl (g_tt rfl rfl rfl g8) (T_build D (l := [_, _, _, _, _]) rfl rfl rfl rfl (.cons rfl (flat_sl rfl) (.cons rfl (flat_v rfl) (.nil))) rfl rfl) rfl ?_
            refine k_opn (d := 109) (b := 341) (j' := 9) rfl rfl rfl rfl (g_tt rfl rfl rfl g8) (T_bs D (ys := [⟨_, _, _, _, _⟩]) (enc := eBlock) (l := [_, _, _, _, _]) rfl rfl rfl rfl rfl rfl (.cons rfl flat_agg (.nil)) rfl rfl rfl rfl (.row rfl (.v rfl (.v rfl (.v rfl (.v rfl (.nil))))) rfl) rfl rfl) rfl ?_
            refine k_op0 (d := 110) (b := 357) (j' := 10) rfl rfl rfl rfl (g_tt rfl rfl rfl g8) (T_build D (l := [_, _]) rfl rfl rfl rfl (.cons rfl (flat_v rfl) (.cons rfl (flat_sl rfl) (.nil))) rfl rfl) rfl ?_
            refine k_op0 (d := 111) (b := 373) (j' := 11) rfl rfl rfl rfl (g_tt rfl rfl rfl g8) (T_callV (lvs := [_, _]) (L := [(1, 101), (2, 341)]) (same_spec (tidyG ⟨1, bsTo (cPath keys) i⟩) ⟨1, [⟨((cPath keys).take i).map cTac, 3, 0, 0, 0⟩]⟩ (cMain hk (by omega) (by omega : i = (cPath keys).length)).l3 ((cMain hk (by omega) (by omega : i = (cPath keys).length)).l4 hPl)) body28 rfl rfl rfl rfl (.lend rfl (.lend rfl (.nil))) rfl) rfl ?_
            refine k_op0 (d := 112) (b := 389) (j' := 12) rfl rfl rfl rfl (.plain rfl) (T_pick_t rfl rfl rfl g8) rfl ?_
            refine k_op0 (d := 2) (b := 405) (j' := 13) rfl rfl rfl rfl (.plain rfl) (T_assign rfl rfl) rfl ?_
            refine k_done rfl ?_
            refine thenK_n ?_
            refine W_ret ?_
            -- end 2
            exact .mk [] (.inr rfl) (.tmp rfl (.nil)) (by first | rfl | exact absurd g1 (by decide) | (simp only [resLV, LV.ren, LV.v.injEq, Value.bool.injEq]; exact decide_eq_true (cMain hk (by omega) (by omega : i = (cPath keys).length)).tidy) | (exact absurd (cMain hk (by omega) (by omega : i = (cPath keys).length)).paths (by assumption))) (.nil) rfl
          · have h8 := g8; (try simp only [cmpB, decide_eq_true_eq, decide_eq_false_iff_not, beq_iff_eq, beq_eq_false_iff_ne, bne_iff_ne, ne_eq, bne_eq_false_iff_eq, Bool.not_eq_true', Bool.not_eq_false', Int.not_lt, Int.not_le] at h8)
            refine k_no (d := 106) (j' := 6) rfl rfl rfl (g_tf rfl rfl rfl g8) ?_
            refine k_no (d := 107) (j' := 7) rfl rfl rfl (g_tf rfl rfl rfl g8) ?_
            refine k_no (d := 108) (j' := 8) rfl rfl rfl (g_tf rfl rfl rfl g8) ?_
            refine k_no (d := 109) (j' := 9) rfl rfl rfl (g_tf rfl rfl rfl g8) ?_
            refine k_no (d := 110) (j' := 10) rfl rfl rfl (g_tf rfl rfl rfl g8) ?_
            refine k_no (d := 111) (j' := 11) rfl rfl rfl (g_tf rfl rfl rfl g8) ?_
            refine k_op0 (d := 112) (b := 389) (j' := 12) rfl rfl rfl rfl (.plain rfl) (T_pick_f rfl rfl rfl g8) rfl ?_
            refine k_op0 (d := 2) (b := 405) (j' := 13) rfl rfl rfl rfl (.plain rfl) (T_assign rfl rfl) rfl ?_
            refine k_done rfl ?_
            refine thenK_n ?_
            refine W_ret ?_
            -- end 3
            exact .mk [] (.inr rfl) (.tmp rfl (.nil)) (by first | rfl | exact absurd g1 (by decide) | (simp only [resLV, LV.ren, LV.v.injEq, Value.bool.injEq]; exact decide_eq_true (cMain hk (by omega) (by omega : i = (cPath keys).length)).tidy) | (exact absurd (cMain hk (by omega) (by omega : i = (cPath keys).length)).paths (by assumption))) (.nil) rfl
end Lg
end Go.Proofs.Ytpfhmodjjljpjaa

namespace Go.Proofs.Ytpfhmodjjljpjaa
open Go.ChangeShapes Go.WideShapes Go.ChangeAt Go.RowKit
namespace Lg
set_option maxRecDepth 100000
section
variable {H : Type} {enc : TypeId × Value → H} {w : World}
theorem o_u8s : Opens enc Try.prog w 66 (fun l : List Int => [.sl 1 (l.map eU8)]) (fun l => l.length ≤ maxLen ∧ l.length * 1 ≤ reachBytes ∧ ∀ x ∈ l, 0 ≤ x ∧ x < 256) := opens_slice (by_ := 1) (sz := 1) Try.underlying66 (by kernel_rfl) (by kernel_rfl) o_u8
theorem arg_u8s {r : Reach} {b : Nat} {v : Value} {d : DataW H} {p : List MemPlace} (hv : Value.okWide Try.prog w r b 66 v) (hd : DataW.Trod enc Try.prog w 0 (fun _ => true) true 66 v d p) (hw : (d.weights Try.prog 66).all (· ≤ reachBytes) = true) :
    ∃ (l : List Int), Rd w (fun _ => True) (.sl 1 (l.map eU8)) v ∧ (l.length ≤ maxLen ∧ l.length * 1 ≤ 140737488351232 ∧ ∀ x ∈ l, 0 ≤ x ∧ x < 256) := by
  obtain ⟨l, h1, h2⟩ := arg_slice o_u8s Try.underlying66 hv hd hw
  exact ⟨l, h1.1, h2⟩
end
end Lg
end Go.Proofs.Ytpfhmodjjljpjaa
