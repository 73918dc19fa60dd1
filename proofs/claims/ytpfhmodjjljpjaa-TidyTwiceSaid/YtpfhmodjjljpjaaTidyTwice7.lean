import Derived.Test.YtpfhmodjjljpjaaTidyTwice6
set_option linter.unusedVariables false
set_option linter.unusedSimpArgs false
namespace Go.Proofs.Ytpfhmodjjljpjaa
open Go.RowKit
namespace Lg

/-! ### Tidied again -/
theorem ends_tidy {f : GFn} (h : VF f) {j : Nat} (hj : j < (headsL f).length) : endsB ((tidyG f).blocks.getD j default) (headsL f).length f.regs = true := by
  obtain ⟨p, hp, e⟩ := path_at h hj
  have hE := h.at (hp.g.lt _ (lastN_mem hp))
  rw [tidyG_at hj, e]
  unfold newBlock
  rw [lastOf_path hp]
  have hin : ∀ y, y ∈ follows (f.blocks.getD (lastN p) default) → withinB (begins (pathsL f) y) (headsL f).length = true := fun y hy => by
    obtain ⟨h1, h2, h3⟩ := last_head h hp hy
    obtain ⟨j2, hj2, _, hb⟩ := begins_of h h1 h3
    rw [h2] at hb
    rw [withinB_iff, hb]; omega
  unfold endsB
  simp only
  rcases hE.e with ⟨h1, h2, h3, h4⟩ | ⟨h1, h2, h3, h4⟩ | ⟨h1, h2, h3, h4⟩
  · rw [if_pos h1, if_neg (show ¬ _ = (3 : Int) by omega), if_neg (show ¬ _ = (2 : Int) by omega), h3, hin _ (by unfold follows; rw [if_pos h1]; simp)]; rfl
  · rw [if_neg (show ¬ _ = (1 : Int) by omega), if_pos h1, if_neg (show ¬ _ = (3 : Int) by omega), if_pos h1, hin _ (by unfold follows; rw [if_neg (by omega), if_pos h1]; simp), hin _ (by unfold follows; rw [if_neg (by omega), if_pos h1]; simp), withinB_iff.2 h4]; rfl
  · rw [if_neg (show ¬ _ = (1 : Int) by omega), if_neg (show ¬ _ = (2 : Int) by omega), if_pos h1, if_neg (show ¬ _ = (2 : Int) by omega), h1, h2]; rfl
theorem tidy_vf {f : GFn} (h : VF f) : VF (tidyG f) := by
  refine ⟨by rw [tidyG_length]; exact (heads_zero h).1, fun k hk => ?_⟩
  rw [tidyG_length] at hk ⊢
  exact ends_tidy h hk
theorem from_srcs {f : GFn} (h : VF f) {k : Nat} (hk : k < (headsL f).length) : (fromL (tidyG f)).getD k default = srcs (nextL (tidyG f)) k (headsL f).length := by
  rw [fromL_getD (tidy_vf h).inN (by rw [tidyG_length]; exact hk), tidyG_length]
  unfold srcs
  have hc : ∀ (l : List Nat), (∀ j ∈ l, j < (headsL f).length) → l.flatMap (fun i => if (reachL (tidyG f)).getD i default = true then List.replicate (((nextL (tidyG f)).getD i default).count (k : Int)) (i : Int) else []) = l.flatMap (fun j => List.replicate (((nextL (tidyG f)).getD j default).count (k : Int)) (j : Int)) := by
    intro l
    induction l with
    | nil => exact fun _ => rfl
    | cons x l ih =>
      intro hl
      rw [List.flatMap_cons, List.flatMap_cons, ih (fun j hj => hl j (List.mem_cons_of_mem _ hj)), if_pos ((reachL_iff _ _).2 (tidy_reached h (hl x (by simp))))]
  exact hc _ (fun j hj => by simpa using hj)
theorem tidy_by {f : GFn} (h : VF f) {k : Nat} (hk : k < (headsL f).length) : (byL (tidyG f)).getD k default = -1 := by
  rw [byL_getD _ (by rw [tidyG_length]; exact hk)]
  unfold takenAt
  refine if_neg (fun hc => ?_)
  obtain ⟨c1, c2, c3, c4, c5⟩ := hc
  rw [from_srcs h hk] at c3 c4 c5
  obtain ⟨j, j1, j2, j3⟩ := srcs_one c3
  rw [j2] at c4 c5
  have c5' : ((tidyG f).blocks.getD j default).fin = 1 := by rw [← blk_nat]; exact c5
  have c4' : ¬ (j : Int) = (k : Int) := c4
  exact (tidy_most h hk c1).2 j j2 (by omega) c5'
theorem tidy_isHead {f : GFn} (h : VF f) {k : Nat} (hk : k < (headsL f).length) : isHead (tidyG f) k = true :=
  isHead_iff.2 ⟨(reachL_iff _ _).2 (tidy_reached h hk), by rw [tidy_by h hk]; omega⟩
theorem tidy_heads {f : GFn} (h : VF f) : headsL (tidyG f) = List.range (headsL f).length := by
  unfold headsL
  rw [show (tidyG f).blocks.length = ((List.range f.blocks.length).filter (isHead f)).length from tidyG_length f]
  rw [List.filter_eq_self]
  exact fun k hk => tidy_isHead h (by simpa [headsL] using hk)
theorem tidy_path {f : GFn} (h : VF f) {k : Nat} (hk : k < (headsL f).length) : pathAt (tidyG f) k = [(k : Int)] := by
  have hv := tidy_vf h
  obtain ⟨p, hp⟩ := (path_of hv.inN (by rw [tidyG_length]; exact hk) (tidy_isHead h hk)).2
  rw [hp.e]
  have hl : p.length = 1 := by
    have h1 := List.length_pos_iff.2 hp.g.ne
    rcases Nat.lt_or_ge 1 p.length with h2 | h2
    · exfalso
      have ht := hp.g.link 0 h2
      have h3 := ht.kn
      rw [tidyG_length] at h3
      exact byL_neg ht.kn (by rw [tidy_by h h3]; omega) hv.inN _ ht
    · omega
  obtain ⟨x, hx⟩ := List.length_eq_one_iff.1 hl
  have h4 := hp.h
  rw [hx] at h4 ⊢
  have : x = k := h4
  rw [this]; rfl
theorem tidy_paths {f : GFn} (h : VF f) : pathsL (tidyG f) = (List.range (headsL f).length).map (fun k : Nat => [(k : Int)]) := by
  rw [pathsL_eq, tidy_heads h]
  exact List.map_congr_left (fun k hk => tidy_path h (by simpa using hk))
theorem tidy_begins {f : GFn} (h : VF f) {y : Int} (hy : 0 ≤ y ∧ y < ((headsL f).length : Int)) : begins (pathsL (tidyG f)) y = y := by
  have h1 := begins_head (tidy_vf h) (j := y.toNat) (by rw [tidy_heads h]; simp; omega)
  rw [tidy_heads h, range_getD (by omega)] at h1
  rw [show ((y.toNat : Nat) : Int) = y by omega] at h1
  exact h1
theorem tidy_twice {f : GFn} (h : VF f) : tidyG (tidyG f) = tidyG f := by
  have hb : (tidyG (tidyG f)).blocks = (tidyG f).blocks := by
    have hl : (tidyG (tidyG f)).blocks.length = (tidyG f).blocks.length := by rw [tidyG_length, tidy_heads h, tidyG_length]; simp
    refine ext_getD hl (fun j hj => ?_)
    rw [hl, tidyG_length] at hj
    rw [tidyG_at (by rw [tidy_heads h]; simpa using hj), tidy_paths h, getD_map _ _ (by simpa using hj), range_getD hj, ← tidy_paths h]
    have hE := (tidy_vf h).at (k := j) (by rw [tidyG_length]; exact hj)
    have hlast : blk (tidyG f) (lastOf [(j : Int)]) = (tidyG f).blocks.getD j default := by rw [lastOf_one, blk_nat]
    unfold newBlock
    rw [hlast]
    have hins : instrs (tidyG f) [(j : Int)] = ((tidyG f).blocks.getD j default).ins := by simp [instrs, -List.getD_eq_getElem?_getD]
    rw [hins]
    have hlen := tidyG_length f
    generalize (tidyG f).blocks.getD j default = b at hE ⊢
    have h1 : (if b.fin = 3 then 0 else begins (pathsL (tidyG f)) b.to) = b.to := by
      rcases hE.e with ⟨h1, h2, h3, h4⟩ | ⟨h1, h2, h3, h4⟩ | ⟨h1, h2, h3, h4⟩
      · rw [if_neg (by omega)]; exact tidy_begins h (by omega)
      · rw [if_neg (by omega)]; exact tidy_begins h (by omega)
      · rw [if_pos h1, h3]
    have h2 : (if b.fin = 2 then begins (pathsL (tidyG f)) b.els else 0) = b.els := by
      rcases hE.e with ⟨h1, h2, h3, h4⟩ | ⟨h1, h2, h3, h4⟩ | ⟨h1, h2, h3, h4⟩
      · rw [if_neg (by omega), h4]
      · rw [if_pos h1]; exact tidy_begins h (by omega)
      · rw [if_neg (by omega), h4]
    rw [h1, h2]
  have hr : (tidyG (tidyG f)).regs = (tidyG f).regs := rfl
  generalize tidyG (tidyG f) = a at hb hr
  generalize tidyG f = b at hb hr
  cases a; cases b
  simp_all

theorem twice_len {f : GFn} (h : VF f) : (pathsL (tidyG f)).length = (tidyG f).blocks.length := by rw [paths_length, tidy_heads h, tidyG_length]; simp
theorem twice_at {f : GFn} (h : VF f) {k : Nat} (hk : k < (pathsL (tidyG f)).length) : (pathsL (tidyG f)).getD k default = [(k : Int)] := by
  rw [twice_len h, tidyG_length] at hk
  rw [tidy_paths h, getD_map _ _ (by simpa using hk), range_getD hk]
theorem twice_reach {f : GFn} (h : VF f) {k : Nat} (hk : k < (pathsL (tidyG f)).length) : (reachN (nextL (tidyG f))).getD k default = true := by
  rw [twice_len h, tidyG_length] at hk
  exact (reachN_iff _ _).2 (tidy_reached h hk)
/-! Sizes -/
theorem nodup_sum (g : Nat → Nat) : ∀ (n : Nat) (l : List Nat), l.Nodup → (∀ x ∈ l, x < n) → (l.map g).sum ≤ ((List.range n).map g).sum
  | 0, l, _, h => by
    cases l with
    | nil => simp
    | cons x l => exact absurd (h x (by simp)) (by omega)
  | n + 1, l, hd, h => by
    have h1 := nodup_sum g n (l.erase n) (hd.erase n) (fun x hx => by
      have := h x (List.mem_of_mem_erase hx)
      have hne : x ≠ n := fun e => by subst e; exact (List.Nodup.not_mem_erase hd) hx
      omega)
    rw [List.range_succ, List.map_append, List.sum_append]
    simp only [List.map_cons, List.map_nil, List.sum_cons, List.sum_nil]
    by_cases hm : n ∈ l
    · have := ((List.perm_cons_erase hm).map g).sum_nat
      rw [this, List.map_cons, List.sum_cons]; omega
    · rw [List.erase_of_not_mem hm] at h1; omega
theorem szB_sum (f : GFn) : ∀ (i : Nat), i ≤ f.blocks.length → ((List.range i).map (fun x => (f.blocks.getD x default).ins.length)).sum ≤ szB f i
  | 0, _ => by simp
  | i + 1, h => by
    rw [szB_succ (f := f) (i := i) (by omega), List.range_succ, List.map_append, List.sum_append]
    have := szB_sum f i (by omega)
    simp only [List.map_cons, List.map_nil, List.sum_cons, List.sum_nil]
    omega
theorem instrs_sum (f : GFn) : ∀ (p : List Nat), (instrs f (ints p)).length = (p.map (fun x => (f.blocks.getD x default).ins.length)).sum
  | [] => rfl
  | x :: p => by
    have h1 := instrs_sum f p
    have h2 : (instrs f (ints (x :: p))).length = (f.blocks.getD x default).ins.length + (instrs f (ints p)).length := by simp [instrs, ints, -List.getD_eq_getElem?_getD]
    rw [h2, h1, List.map_cons, List.sum_cons]
theorem tidy_ins {f : GFn} (h : VF f) {c : Nat} (hc : szB f f.blocks.length ≤ c) : ∀ b ∈ (tidyG f).blocks, b.ins.length ≤ c := fun b hb => by
  obtain ⟨j, hj, rfl⟩ := mem_getD hb
  rw [tidyG_length] at hj
  obtain ⟨p, hp, e⟩ := path_at h hj
  rw [tidyG_at hj, e]
  show (instrs f (ints p)).length ≤ c
  rw [instrs_sum]
  exact Nat.le_trans (nodup_sum _ _ _ hp.g.nd hp.g.lt) (Nat.le_trans (szB_sum f _ (Nat.le_refl _)) hc)
theorem small_sz {p : GProg} {most : Int} (h : smallG p most = true) {c : Nat} (hc : most ≤ c) {i : Nat} (hi : i < p.funcs.length) : szB (p.funcs.getD i default) (p.funcs.getD i default).blocks.length ≤ c := by
  have h8 := szB_le_szP (Nat.le_refl _) i hi
  have h3 := (smallG_iff h).2.2.1
  omega
end Lg
end Go.Proofs.Ytpfhmodjjljpjaa

namespace Go.Proofs.Ytpfhmodjjljpjaa
open Go.RowKit
namespace Lg
set_option maxRecDepth 100000
set_option linter.unusedVariables false
set_option linter.unusedSimpArgs false



theorem body78 : (Try.prog.funcs[78]?).map (fun fn => (fn.name == "runtime.NumGoroutine" || fn.body.isNone)) = some false := by kernel_rfl
theorem without_spec (next : List (List Int)) (a : Int) (ha : a < 0) (hn : next.length ≤ 1000000) (hnl : ∀ l ∈ next, l.length ≤ 1000000) : Spec Try.prog 78 [.r 1, .v (.int .i64 a)] 2 [(1, .fz 1 (next.map eIs))] (.r 2) 3 [(2, .row 4 1 ((reachN next).map eB))] := by
  refine spec_of D (fn := Try.f78) rfl rfl (Nat.le_of_ble_eq_true rfl) ?_
  refine W_seq ?_
  refine W_seqK (b' := 18) rfl rfl ?_
  refine k_op1 (d := 4) (b := 2) (j' := 1) rfl rfl rfl rfl (.plain rfl) (T_nils [(4, 1)] (T_assign rfl rfl) rfl (.inr ⟨rfl, rfl⟩) (.cons (.nil rfl) .nil) (lv' := .r 2) (upd' := [(2, .row 4 1 (List.map eB ([] : List (Bool))))]) (nn' := 1) rfl rfl) rfl ?_
  refine k_done rfl ?_
  refine thenK_n ?_
  refine W_seq ?_
  refine W_seqK (b' := 82) rfl rfl ?_
  refine k_op0 (d := 10) (b := 18) (j' := 1) rfl rfl rfl rfl (.plain rfl) (T_move rfl rfl) rfl ?_
  refine k_op0 (d := 11) (b := 34) (j' := 2) rfl rfl rfl rfl (.plain rfl) (T_len D rfl rfl rfl rfl rfl rfl) rfl ?_
  refine k_op1 (d := 12) (b := 50) (j' := 3) rfl rfl rfl rfl (.plain rfl) (T_make D (zx := false) (enc := eB) rfl rfl rfl rfl rfl rfl rfl (.v rfl (.nil)) rfl (by (try simp only [ty4]); first | assumption | omega | (simp; omega)) (by (try simp only [ty4]); first | assumption | omega | (simp; omega))) rfl ?_
  refine k_op0 (d := 5) (b := 66) (j' := 4) rfl rfl rfl rfl (.plain rfl) (T_assign rfl rfl) rfl ?_
  refine k_done rfl ?_
  refine thenK_n ?_
  refine W_seq ?_
  refine W_seq ?_
  refine W_seqK (b' := 130) rfl rfl ?_
  refine k_op0 (d := 13) (b := 82) (j' := 1) rfl rfl rfl rfl (.plain rfl) (T_move rfl rfl) rfl ?_
  refine k_op0 (d := 14) (b := 98) (j' := 2) rfl rfl rfl rfl (.plain rfl) (T_len D rfl rfl rfl rfl rfl rfl) rfl ?_
  refine k_op0 (d := 15) (b := 114) (j' := 3) rfl rfl rfl rfl (.plain rfl) (T_cmp rfl rfl rfl rfl) rfl ?_
  refine k_done rfl ?_
  refine thenK_n ?_
  refine W_cond rfl (fun g1 => ?_) (fun g1 => ?_)
  · have h1 := g1; (try simp only [cmpB, decide_eq_true_eq, decide_eq_false_iff_not, beq_iff_eq, beq_eq_false_iff_ne, bne_iff_ne, ne_eq, bne_eq_false_iff_eq, Bool.not_eq_true', Bool.not_eq_false', Int.not_lt, Int.not_le] at h1)
    refine W_seq ?_
    refine W_seqK (b' := 162) rfl rfl ?_
    refine k_op0 (d := 16) (b := 130) (j' := 1) rfl rfl rfl rfl (.plain rfl) (T_move rfl rfl) rfl ?_
    refine k_op0 (d := 4) (b := 146) (j' := 2) rfl rfl rfl rfl (.plain rfl) (T_assign rfl rfl) rfl ?_
    refine k_done rfl ?_
    refine thenK_n ?_
    refine W_ret ?_
    refine thenK_r ?_
    -- end 0
    exact .mk [(2, 50)] (.inr rfl) (.tmp rfl (.nil)) rfl (.rowE rfl (.nil) (by first | rfl | exact congrArg (List.map eB) (reach_none (by omega)))) rfl
  · have h1 := g1; (try simp only [cmpB, decide_eq_true_eq, decide_eq_false_iff_not, beq_iff_eq, beq_eq_false_iff_ne, bne_iff_ne, ne_eq, bne_eq_false_iff_eq, Bool.not_eq_true', Bool.not_eq_false', Int.not_lt, Int.not_le] at h1)
    refine W_skip ?_
    refine thenK_n ?_
    refine W_seq ?_
    refine W_seqK (b' := 178) rfl rfl ?_
    refine k_op0 (d := 17) (b := 130) (j' := 1) rfl rfl rfl rfl (.plain rfl) (T_move rfl rfl) rfl ?_
    first | refine k_op0 (d := 18) (b := 146) (j' := 2) rfl rfl rfl rfl (.plain rfl) (T_indexAddr D rfl rfl rfl rfl rfl rfl rfl rfl (by first | assumption | omega | (simp; omega))) rfl ?_ | refine k_op0 (d := 18) (b := 146) (j' := 2) rfl rfl rfl rfl (.plain rfl) (T_indexAddrZ D rfl rfl rfl rfl rfl rfl rfl rfl (by first | assumption | omega | (simp; omega)) (by first | assumption | omega | (simp; omega))) rfl ?_
    refine k_st1 (b := 162) (j' := 3) rfl rfl rfl rfl (.plain rfl) (T_store_e D (z := _) rfl rfl rfl rfl (flat_v rfl) rfl rfl (by first | assumption | omega | (simp; omega)) (.v rfl (.nil)) rfl (Nat.le_of_ble_eq_true rfl) rfl) rfl ?_
    refine k_done rfl ?_
    refine thenK_n ?_
    refine W_seq ?_
    refine W_seqK (b' := 210) rfl rfl ?_
    refine k_op1 (d := 19) (b := 178) (j' := 1) rfl rfl rfl rfl (.plain rfl) (T_bs D (ys := [_]) (enc := eI) (l := [_]) rfl rfl rfl rfl rfl rfl (.cons rfl (flat_v rfl) (.nil)) rfl rfl rfl rfl (.v rfl (.nil)) rfl rfl) rfl ?_
    refine k_op0 (d := 6) (b := 194) (j' := 2) rfl rfl rfl rfl (.plain rfl) (T_assign rfl rfl) rfl ?_
    refine k_done rfl ?_
    refine thenK_n ?_
    refine W_seq ?_
    refine W_block ?_
    refine W_loop (ι := List Bool × List Int) 4 (fun x => ⟨[(0, .r 1), (1, .v (.int .i64 a)), (5, .r 2), (6, .r 3)], [(1, .fz 1 (next.map eIs)), (2, .row 4 1 (x.1.map eB)), (3, .row 3 1 (x.2.map eI))]⟩) (fun x => BF next x.1 x.2) (fun x => msr x.1 x.2) (((List.replicate next.length false).set 0 true, [0])) (by exact bf_start (by omega)) ?_ (fun x hJ => ?_)
    · exact ⟨[(2, 50), (3, 178)], .same rfl rfl (.eq rfl (.same rfl rfl (.same rfl rfl (.nil))) (by first | rfl | simp)), .fzE rfl (.rowE rfl (.rowE rfl (.nil) (by first | rfl | simp)) (by first | rfl | simp)) (by first | rfl | simp), rfl⟩
    refine W_seq ?_
    refine W_seq ?_
    refine W_seqK (b' := 52) rfl rfl ?_
    refine k_op0 (d := 20) (b := 4) (j' := 1) rfl rfl rfl rfl (.plain rfl) (T_move rfl rfl) rfl ?_
    refine k_op0 (d := 21) (b := 20) (j' := 2) rfl rfl rfl rfl (.plain rfl) (T_len D rfl rfl rfl rfl rfl rfl) rfl ?_
    refine k_op0 (d := 22) (b := 36) (j' := 3) rfl rfl rfl rfl (.plain rfl) (T_cmp rfl rfl rfl rfl) rfl ?_
    refine k_done rfl ?_
    refine thenK_n ?_
    refine W_cond rfl (fun g2 => ?_) (fun g2 => ?_)
    · have h2 := g2; (try simp only [cmpB, decide_eq_true_eq, decide_eq_false_iff_not, beq_iff_eq, beq_eq_false_iff_ne, bne_iff_ne, ne_eq, bne_eq_false_iff_eq, Bool.not_eq_true', Bool.not_eq_false', Int.not_lt, Int.not_le] at h2)
      refine W_skip ?_
      refine thenK_n ?_
      refine W_block ?_
      refine W_seq ?_
      refine W_seqK (b' := 116) rfl rfl ?_
      refine k_op0 (d := 23) (b := 52) (j' := 1) rfl rfl rfl rfl (.plain rfl) (T_move rfl rfl) rfl ?_
      first | refine k_op0 (d := 24) (b := 68) (j' := 2) rfl rfl rfl rfl (.plain rfl) (T_indexAddr D rfl rfl rfl rfl rfl rfl rfl rfl (by first | assumption | omega | (simp; omega))) rfl ?_ | refine k_op0 (d := 24) (b := 68) (j' := 2) rfl rfl rfl rfl (.plain rfl) (T_indexAddrZ D rfl rfl rfl rfl rfl rfl rfl rfl (by first | assumption | omega | (simp; omega)) (by first | assumption | omega | (simp; omega))) rfl ?_
      refine k_op0 (d := 25) (b := 84) (j' := 3) rfl rfl rfl rfl (.plain rfl) (T_ldE D (lv := .v _) (nn := 0) (upd := []) rfl rfl rfl rfl rfl (by first | assumption | omega | (simp; omega)) rfl rfl rfl rfl) rfl ?_
      refine k_op0 (d := 7) (b := 100) (j' := 4) rfl rfl rfl rfl (.plain rfl) (T_assign rfl rfl) rfl ?_
      refine k_done rfl ?_
      refine thenK_n ?_
      refine W_seq ?_
      refine W_seqK (b' := 164) rfl rfl ?_
      refine k_op0 (d := 26) (b := 116) (j' := 1) rfl rfl rfl rfl (.plain rfl) (T_move rfl rfl) rfl ?_
      refine k_opn (d := 27) (b := 132) (j' := 2) rfl rfl rfl rfl (.plain rfl) (T_slO D (vl := some _) (vh := none) (vm := none) (l := 1) rfl rfl rfl rfl rfl rfl rfl rfl rfl rfl (by first | assumption | omega | (simp; omega)) (by first | assumption | omega | (simp; omega)) (slb_l (by first | assumption | omega | (simp; omega)))) rfl ?_
      refine k_op0 (d := 6) (b := 148) (j' := 3) rfl rfl rfl rfl (.plain rfl) (T_assign rfl rfl) rfl ?_
      refine k_done rfl ?_
      refine thenK_n ?_
      refine W_seq ?_
      refine W_seqK (b' := 180) rfl rfl ?_
      refine k_op0 (d := 8) (b := 164) (j' := 1) rfl rfl rfl rfl (.plain rfl) (T_assign rfl rfl) rfl ?_
      refine k_done rfl ?_
      refine thenK_n ?_
      refine W_block ?_
      have hx0 := hJ.tin (x.2.getD 0 default) (getD_mem (by omega))
      have hms := msr_drop (out := x.1) (todo := x.2) (by omega)
      have hjs := hJ.size
      have hcl := hnl (next.getD (x.2.getD 0 default).toNat default) (getD_mem (by omega))
      refine W_loop (ι := Nat × List Bool × List Int) 4 (fun y => ⟨[(0, .r 1), (1, .v (.int .i64 a)), (5, .r 2), (6, .r 3), (7, .v (.int .i64 (x.2.getD 0 default))), (8, .v (.int .i64 (y.1 : Int)))], [(1, .fz 1 (next.map eIs)), (2, .row 4 1 (y.2.1.map eB)), (3, .row 3 1 (y.2.2.map eI))]⟩) (fun y => BI next (x.2.getD 0 default).toNat (msr x.1 (x.2.drop 1)) y.1 y.2.1 y.2.2 ∧ y.1 ≤ (next.getD (x.2.getD 0 default).toNat default).length) (fun y => (next.getD (x.2.getD 0 default).toNat default).length - y.1) ((0, x.1, x.2.drop 1)) (by exact ⟨hJ.pop' (by omega), Nat.zero_le _⟩) ?_ (fun y hI => ?_)
      · exact ⟨[(2, 2), (3, 132)], .same rfl rfl (.eq rfl (.same rfl rfl (.same rfl rfl (.eq rfl (.eq rfl (.nil) (by first | rfl | (rw [sub_tail]; first | done | rfl))) (by first | rfl | (rw [sub_tail]; first | done | rfl))))) (by first | rfl | (rw [sub_tail]; first | done | rfl))), .fzE rfl (.rowE rfl (.rowE rfl (.nil) (by first | rfl | (rw [sub_tail]; first | done | rfl))) (by first | rfl | (rw [sub_tail]; first | done | rfl))) (by first | rfl | (rw [sub_tail]; first | done | rfl)), rfl⟩
      have hol := hI.1.len
      have htl := hI.1.len3
      refine W_seq ?_
      refine W_seq ?_
      refine W_seqK (b' := 196) rfl rfl ?_
      refine k_op0 (d := 28) (b := 4) (j' := 1) rfl rfl rfl rfl (.plain rfl) (T_move rfl rfl) rfl ?_
      refine k_op0 (d := 29) (b := 20) (j' := 2) rfl rfl rfl rfl (.plain rfl) (T_move rfl rfl) rfl ?_
      refine k_op0 (d := 30) (b := 36) (j' := 3) rfl rfl rfl rfl (.plain rfl) (T_move rfl rfl) rfl ?_
      first | refine k_op0 (d := 31) (b := 52) (j' := 4) rfl rfl rfl rfl (.plain rfl) (T_indexAddr D rfl rfl rfl rfl rfl rfl rfl rfl (by first | assumption | omega | (simp; omega))) rfl ?_ | refine k_op0 (d := 31) (b := 52) (j' := 4) rfl rfl rfl rfl (.plain rfl) (T_indexAddrZ D rfl rfl rfl rfl rfl rfl rfl rfl (by first | assumption | omega | (simp; omega)) (by first | assumption | omega | (simp; omega))) rfl ?_
      refine k_op1 (d := 32) (b := 68) (j' := 5) rfl rfl rfl rfl (.plain rfl) (T_ldE D (lv := .r 68) (nn := 1) (upd := [(68, .fz 1 _)]) rfl rfl rfl rfl rfl (by first | assumption | omega | (simp; omega)) rfl rfl rfl rfl) rfl ?_
      refine k_op0 (d := 33) (b := 84) (j' := 6) rfl rfl rfl rfl (.plain rfl) (T_len D rfl rfl rfl rfl rfl rfl) rfl ?_
      refine k_op0 (d := 34) (b := 100) (j' := 7) rfl rfl rfl rfl (.plain rfl) (T_cmp rfl rfl rfl rfl) rfl ?_
      refine k_op0 (d := 35) (b := 116) (j' := 8) rfl rfl rfl rfl (.plain rfl) (T_move rfl rfl) rfl ?_
      refine k_split (d := 35) rfl (fun g3 => ?_) (fun g3 => ?_)
      · have h3 := g3; (try simp only [cmpB, decide_eq_true_eq, decide_eq_false_iff_not, beq_iff_eq, beq_eq_false_iff_ne, bne_iff_ne, ne_eq, bne_eq_false_iff_eq, Bool.not_eq_true', Bool.not_eq_false', Int.not_lt, Int.not_le] at h3)
        refine k_op0 (d := 36) (b := 132) (j' := 9) rfl rfl rfl rfl (g_tt rfl rfl rfl g3) (T_move rfl rfl) rfl ?_
        refine k_op0 (d := 37) (b := 148) (j' := 10) rfl rfl rfl rfl (g_tt rfl rfl rfl g3) (T_move rfl rfl) rfl ?_
        refine k_op0 (d := 38) (b := 164) (j' := 11) rfl rfl rfl rfl (g_tt rfl rfl rfl g3) (T_cmp rfl rfl rfl rfl) rfl ?_
        refine k_op0 (d := 39) (b := 180) (j' := 12) rfl rfl rfl rfl (.plain rfl) (T_pick_t rfl rfl rfl g3) rfl ?_
        refine k_done rfl ?_
        refine thenK_n ?_
        refine W_cond rfl (fun g4 => ?_) (fun g4 => ?_)
        · have h4 := g4; (try simp only [cmpB, decide_eq_true_eq, decide_eq_false_iff_not, beq_iff_eq, beq_eq_false_iff_ne, bne_iff_ne, ne_eq, bne_eq_false_iff_eq, Bool.not_eq_true', Bool.not_eq_false', Int.not_lt, Int.not_le] at h4)
          refine W_skip ?_
          refine thenK_n ?_
          refine W_seq ?_
          refine W_block ?_
          refine W_seq ?_
          refine W_seqK (b' := 324) rfl rfl ?_
          refine k_op0 (d := 42) (b := 196) (j' := 1) rfl rfl rfl rfl (.plain rfl) (T_move rfl rfl) rfl ?_
          refine k_op0 (d := 43) (b := 212) (j' := 2) rfl rfl rfl rfl (.plain rfl) (T_move rfl rfl) rfl ?_
          first | refine k_op0 (d := 44) (b := 228) (j' := 3) rfl rfl rfl rfl (.plain rfl) (T_indexAddr D rfl rfl rfl rfl rfl rfl rfl rfl (by first | assumption | omega | (simp; omega))) rfl ?_ | refine k_op0 (d := 44) (b := 228) (j' := 3) rfl rfl rfl rfl (.plain rfl) (T_indexAddrZ D rfl rfl rfl rfl rfl rfl rfl rfl (by first | assumption | omega | (simp; omega)) (by first | assumption | omega | (simp; omega))) rfl ?_
          refine k_op1 (d := 45) (b := 244) (j' := 4) rfl rfl rfl rfl (.plain rfl) (T_ldE D (lv := .r 244) (nn := 1) (upd := [(244, .fz 1 _)]) rfl rfl rfl rfl rfl (by first | assumption | omega | (simp; omega)) rfl rfl rfl rfl) rfl ?_
          refine k_op0 (d := 46) (b := 260) (j' := 5) rfl rfl rfl rfl (.plain rfl) (T_move rfl rfl) rfl ?_
          first | refine k_op0 (d := 47) (b := 276) (j' := 6) rfl rfl rfl rfl (.plain rfl) (T_indexAddr D rfl rfl rfl rfl rfl rfl rfl rfl (by first | assumption | omega | (simp; omega))) rfl ?_ | refine k_op0 (d := 47) (b := 276) (j' := 6) rfl rfl rfl rfl (.plain rfl) (T_indexAddrZ D rfl rfl rfl rfl rfl rfl rfl rfl (by first | assumption | omega | (simp; omega)) (by first | assumption | omega | (simp; omega))) rfl ?_
          refine k_op0 (d := 48) (b := 292) (j' := 7) rfl rfl rfl rfl (.plain rfl) (T_ldE D (lv := .v _) (nn := 0) (upd := []) rfl rfl rfl rfl rfl (by first | assumption | omega | (simp; omega)) rfl rfl rfl rfl) rfl ?_
          refine k_op0 (d := 9) (b := 308) (j' := 8) rfl rfl rfl rfl (.plain rfl) (T_assign rfl rfl) rfl ?_
          refine k_done rfl ?_
          refine thenK_n ?_
          refine W_seq ?_
          refine W_seqK (b' := 564) rfl rfl ?_
          refine k_op0 (d := 49) (b := 324) (j' := 1) rfl rfl rfl rfl (.plain rfl) (T_move rfl rfl) rfl ?_
          refine k_op0 (d := 50) (b := 340) (j' := 2) rfl rfl rfl rfl (.plain rfl) (T_cmp rfl rfl rfl rfl) rfl ?_
          refine k_op0 (d := 51) (b := 356) (j' := 3) rfl rfl rfl rfl (.plain rfl) (T_move rfl rfl) rfl ?_
          refine k_split (d := 51) rfl (fun g5 => ?_) (fun g5 => ?_)
          · have h5 := g5; (try simp only [cmpB, decide_eq_true_eq, decide_eq_false_iff_not, beq_iff_eq, beq_eq_false_iff_ne, bne_iff_ne, ne_eq, bne_eq_false_iff_eq, Bool.not_eq_true', Bool.not_eq_false', Int.not_lt, Int.not_le] at h5)
            refine k_op0 (d := 52) (b := 372) (j' := 4) rfl rfl rfl rfl (g_tt rfl rfl rfl g5) (T_move rfl rfl) rfl ?_
            refine k_op0 (d := 53) (b := 388) (j' := 5) rfl rfl rfl rfl (g_tt rfl rfl rfl g5) (T_move rfl rfl) rfl ?_
            refine k_op0 (d := 54) (b := 404) (j' := 6) rfl rfl rfl rfl (g_tt rfl rfl rfl g5) (T_len D rfl rfl rfl rfl rfl rfl) rfl ?_
            refine k_op0 (d := 55) (b := 420) (j' := 7) rfl rfl rfl rfl (g_tt rfl rfl rfl g5) (T_cmp rfl rfl rfl rfl) rfl ?_
            refine k_op0 (d := 56) (b := 436) (j' := 8) rfl rfl rfl rfl (.plain rfl) (T_pick_t rfl rfl rfl g5) rfl ?_
            refine k_op0 (d := 57) (b := 452) (j' := 9) rfl rfl rfl rfl (.plain rfl) (T_move rfl rfl) rfl ?_
            refine k_split (d := 57) rfl (fun g6 => ?_) (fun g6 => ?_)
            · have h6 := g6; (try simp only [cmpB, decide_eq_true_eq, decide_eq_false_iff_not, beq_iff_eq, beq_eq_false_iff_ne, bne_iff_ne, ne_eq, bne_eq_false_iff_eq, Bool.not_eq_true', Bool.not_eq_false', Int.not_lt, Int.not_le] at h6)
              refine k_op0 (d := 58) (b := 468) (j' := 10) rfl rfl rfl rfl (g_tt rfl rfl rfl g6) (T_move rfl rfl) rfl ?_
              refine k_op0 (d := 59) (b := 484) (j' := 11) rfl rfl rfl rfl (g_tt rfl rfl rfl g6) (T_move rfl rfl) rfl ?_
              first | refine k_op0 (d := 60) (b := 500) (j' := 12) rfl rfl rfl rfl (g_tt rfl rfl rfl g6) (T_indexAddr D rfl rfl rfl rfl rfl rfl rfl rfl (by first | assumption | omega | (simp; omega))) rfl ?_ | refine k_op0 (d := 60) (b := 500) (j' := 12) rfl rfl rfl rfl (g_tt rfl rfl rfl g6) (T_indexAddrZ D rfl rfl rfl rfl rfl rfl rfl rfl (by first | assumption | omega | (simp; omega)) (by first | assumption | omega | (simp; omega))) rfl ?_
              refine k_op0 (d := 61) (b := 516) (j' := 13) rfl rfl rfl rfl (g_tt rfl rfl rfl g6) (T_ldE D (lv := .v _) (nn := 0) (upd := []) rfl rfl rfl rfl rfl (by first | assumption | omega | (simp; omega)) rfl rfl rfl rfl) rfl ?_
              refine k_op0 (d := 62) (b := 532) (j' := 14) rfl rfl rfl rfl (g_tt rfl rfl rfl g6) (T_not rfl rfl) rfl ?_
              refine k_op0 (d := 63) (b := 548) (j' := 15) rfl rfl rfl rfl (.plain rfl) (T_pick_t rfl rfl rfl g6) rfl ?_
              refine k_done rfl ?_
              refine thenK_n ?_
              refine W_cond rfl (fun g7 => ?_) (fun g7 => ?_)
              · have h7 := g7; (try simp only [cmpB, decide_eq_true_eq, decide_eq_false_iff_not, beq_iff_eq, beq_eq_false_iff_ne, bne_iff_ne, ne_eq, bne_eq_false_iff_eq, Bool.not_eq_true', Bool.not_eq_false', Int.not_lt, Int.not_le] at h7)
                refine W_seq ?_
                refine W_seqK (b' := 628) rfl rfl ?_
                refine k_op0 (d := 64) (b := 564) (j' := 1) rfl rfl rfl rfl (.plain rfl) (T_move rfl rfl) rfl ?_
                refine k_op0 (d := 65) (b := 580) (j' := 2) rfl rfl rfl rfl (.plain rfl) (T_move rfl rfl) rfl ?_
                first | refine k_op0 (d := 66) (b := 596) (j' := 3) rfl rfl rfl rfl (.plain rfl) (T_indexAddr D rfl rfl rfl rfl rfl rfl rfl rfl (by first | assumption | omega | (simp; omega))) rfl ?_ | refine k_op0 (d := 66) (b := 596) (j' := 3) rfl rfl rfl rfl (.plain rfl) (T_indexAddrZ D rfl rfl rfl rfl rfl rfl rfl rfl (by first | assumption | omega | (simp; omega)) (by first | assumption | omega | (simp; omega))) rfl ?_
                refine k_st1 (b := 612) (j' := 4) rfl rfl rfl rfl (.plain rfl) (T_store_e D (z := _) rfl rfl rfl rfl (flat_v rfl) rfl rfl (by first | assumption | omega | (simp; omega)) (.v rfl (.nil)) rfl (Nat.le_of_ble_eq_true rfl) rfl) rfl ?_
                refine k_done rfl ?_
                refine thenK_n ?_
                refine W_seqK (b' := 708) rfl rfl ?_
                refine k_op0 (d := 67) (b := 628) (j' := 1) rfl rfl rfl rfl (.plain rfl) (T_move rfl rfl) rfl ?_
                refine k_op0 (d := 68) (b := 644) (j' := 2) rfl rfl rfl rfl (.plain rfl) (T_move rfl rfl) rfl ?_
                refine k_op1 (d := 69) (b := 660) (j' := 3) rfl rfl rfl rfl (.plain rfl) (T_bs D (ys := [_]) (enc := eI) (l := [_]) rfl rfl rfl rfl rfl rfl (.cons rfl (flat_v rfl) (.nil)) rfl rfl rfl rfl (.v rfl (.nil)) rfl rfl) rfl ?_
                refine k_opn (d := 70) (b := 676) (j' := 4) rfl rfl rfl rfl (.plain rfl) (T_append D rfl rfl rfl rfl rfl rfl rfl rfl rfl rfl rfl rfl (by (try simp only [ty3]); first | assumption | omega | (simp; omega)) (by (try simp only [ty3]); first | assumption | omega | (simp; omega))) rfl ?_
                refine k_op0 (d := 6) (b := 692) (j' := 5) rfl rfl rfl rfl (.plain rfl) (T_assign rfl rfl) rfl ?_
                refine k_done rfl ?_
                refine blockK_n ?_
                refine thenK_n ?_
                refine W_seqK (b' := 756) rfl rfl ?_
                refine k_op0 (d := 40) (b := 708) (j' := 1) rfl rfl rfl rfl (.plain rfl) (T_move rfl rfl) rfl ?_
                refine k_op0 (d := 41) (b := 724) (j' := 2) rfl rfl rfl rfl (.plain rfl) (T_add64 rfl rfl rfl (by first | assumption | omega | (simp; omega))) rfl ?_
                refine k_op0 (d := 8) (b := 740) (j' := 3) rfl rfl rfl rfl (.plain rfl) (T_assign rfl rfl) rfl ?_
                refine k_done rfl ?_
                refine thenK_n ?_
                refine ⟨(y.1 + 1, y.2.1.set ((next.getD (x.2.getD 0 default).toNat default).getD y.1 default).toNat true, y.2.2 ++ [((next.getD (x.2.getD 0 default).toNat default).getD y.1 default)]), by (try dsimp only); exact ⟨hI.1.push (by omega) rfl (by omega) (by omega) (by assumption), by omega⟩, by (try dsimp only); omega, ?_⟩
                exact ⟨[(2, 2), (3, 676)], .same rfl rfl (.eq rfl (.same rfl rfl (.same rfl rfl (.eq rfl (.eq rfl (.nil) (by first | rfl | simp)) (by first | rfl | simp)))) (by first | rfl | simp)), .fzE rfl (.rowE rfl (.rowE rfl (.nil) (by first | rfl | simp)) (by first | rfl | simp)) (by first | rfl | simp), rfl⟩
              · have h7 := g7; (try simp only [cmpB, decide_eq_true_eq, decide_eq_false_iff_not, beq_iff_eq, beq_eq_false_iff_ne, bne_iff_ne, ne_eq, bne_eq_false_iff_eq, Bool.not_eq_true', Bool.not_eq_false', Int.not_lt, Int.not_le] at h7)
                refine W_skip ?_
                refine blockK_n ?_
                refine thenK_n ?_
                refine W_seqK (b' := 612) rfl rfl ?_
                refine k_op0 (d := 40) (b := 564) (j' := 1) rfl rfl rfl rfl (.plain rfl) (T_move rfl rfl) rfl ?_
                refine k_op0 (d := 41) (b := 580) (j' := 2) rfl rfl rfl rfl (.plain rfl) (T_add64 rfl rfl rfl (by first | assumption | omega | (simp; omega))) rfl ?_
                refine k_op0 (d := 8) (b := 596) (j' := 3) rfl rfl rfl rfl (.plain rfl) (T_assign rfl rfl) rfl ?_
                refine k_done rfl ?_
                refine thenK_n ?_
                refine ⟨(y.1 + 1, y.2.1, y.2.2), by (try dsimp only); exact ⟨hI.1.skip (fun a0 a1 => by first | (exfalso; omega) | assumption), by omega⟩, by (try dsimp only); omega, ?_⟩
                exact ⟨[(2, 2), (3, 3)], .same rfl rfl (.eq rfl (.same rfl rfl (.same rfl rfl (.eq rfl (.eq rfl (.nil) (by first | rfl | simp)) (by first | rfl | simp)))) (by first | rfl | simp)), .fzE rfl (.rowE rfl (.rowE rfl (.nil) (by first | rfl | simp)) (by first | rfl | simp)) (by first | rfl | simp), rfl⟩
            · have h6 := g6; (try simp only [cmpB, decide_eq_true_eq, decide_eq_false_iff_not, beq_iff_eq, beq_eq_false_iff_ne, bne_iff_ne, ne_eq, bne_eq_false_iff_eq, Bool.not_eq_true', Bool.not_eq_false', Int.not_lt, Int.not_le] at h6)
              refine k_no (d := 58) (j' := 10) rfl rfl rfl (g_tf rfl rfl rfl g6) ?_
              refine k_no (d := 59) (j' := 11) rfl rfl rfl (g_tf rfl rfl rfl g6) ?_
              refine k_no (d := 60) (j' := 12) rfl rfl rfl (g_tf rfl rfl rfl g6) ?_
              refine k_no (d := 61) (j' := 13) rfl rfl rfl (g_tf rfl rfl rfl g6) ?_
              refine k_no (d := 62) (j' := 14) rfl rfl rfl (g_tf rfl rfl rfl g6) ?_
              refine k_op0 (d := 63) (b := 548) (j' := 15) rfl rfl rfl rfl (.plain rfl) (T_pick_f rfl rfl rfl g6) rfl ?_
              refine k_done rfl ?_
              refine thenK_n ?_
              refine W_cond rfl (fun g8 => ?_) (fun g8 => ?_)
              · exact absurd (g8.symm.trans rfl) (by decide)
              · skip
                refine W_skip ?_
                refine blockK_n ?_
                refine thenK_n ?_
                refine W_seqK (b' := 612) rfl rfl ?_
                refine k_op0 (d := 40) (b := 564) (j' := 1) rfl rfl rfl rfl (.plain rfl) (T_move rfl rfl) rfl ?_
                refine k_op0 (d := 41) (b := 580) (j' := 2) rfl rfl rfl rfl (.plain rfl) (T_add64 rfl rfl rfl (by first | assumption | omega | (simp; omega))) rfl ?_
                refine k_op0 (d := 8) (b := 596) (j' := 3) rfl rfl rfl rfl (.plain rfl) (T_assign rfl rfl) rfl ?_
                refine k_done rfl ?_
                refine thenK_n ?_
                refine ⟨(y.1 + 1, y.2.1, y.2.2), by (try dsimp only); exact ⟨hI.1.skip (fun a0 a1 => by first | (exfalso; omega) | assumption), by omega⟩, by (try dsimp only); omega, ?_⟩
                exact ⟨[(2, 2), (3, 3)], .same rfl rfl (.eq rfl (.same rfl rfl (.same rfl rfl (.eq rfl (.eq rfl (.nil) (by first | rfl | simp)) (by first | rfl | simp)))) (by first | rfl | simp)), .fzE rfl (.rowE rfl (.rowE rfl (.nil) (by first | rfl | simp)) (by first | rfl | simp)) (by first | rfl | simp), rfl⟩
          · have h5 := g5; (try simp only [cmpB, decide_eq_true_eq, decide_eq_false_iff_not, beq_iff_eq, beq_eq_false_iff_ne, bne_iff_ne, ne_eq, bne_eq_false_iff_eq, Bool.not_eq_true', Bool.not_eq_false', Int.not_lt, Int.not_le] at h5)
            refine k_no (d := 52) (j' := 4) rfl rfl rfl (g_tf rfl rfl rfl g5) ?_
            refine k_no (d := 53) (j' := 5) rfl rfl rfl (g_tf rfl rfl rfl g5) ?_
            refine k_no (d := 54) (j' := 6) rfl rfl rfl (g_tf rfl rfl rfl g5) ?_
            refine k_no (d := 55) (j' := 7) rfl rfl rfl (g_tf rfl rfl rfl g5) ?_
            refine k_op0 (d := 56) (b := 436) (j' := 8) rfl rfl rfl rfl (.plain rfl) (T_pick_f rfl rfl rfl g5) rfl ?_
            refine k_op0 (d := 57) (b := 452) (j' := 9) rfl rfl rfl rfl (.plain rfl) (T_move rfl rfl) rfl ?_
            refine k_no (d := 58) (j' := 10) rfl rfl rfl (g_tf rfl rfl rfl rfl) ?_
            refine k_no (d := 59) (j' := 11) rfl rfl rfl (g_tf rfl rfl rfl rfl) ?_
            refine k_no (d := 60) (j' := 12) rfl rfl rfl (g_tf rfl rfl rfl rfl) ?_
            refine k_no (d := 61) (j' := 13) rfl rfl rfl (g_tf rfl rfl rfl rfl) ?_
            refine k_no (d := 62) (j' := 14) rfl rfl rfl (g_tf rfl rfl rfl rfl) ?_
            refine k_op0 (d := 63) (b := 548) (j' := 15) rfl rfl rfl rfl (.plain rfl) (T_pick_f rfl rfl rfl rfl) rfl ?_
            refine k_done rfl ?_
            refine thenK_n ?_
            refine W_cond rfl (fun g9 => ?_) (fun g9 => ?_)
            · exact absurd (g9.symm.trans rfl) (by decide)
            · skip
              refine W_skip ?_
              refine blockK_n ?_
              refine thenK_n ?_
              refine W_seqK (b' := 612) rfl rfl ?_
              refine k_op0 (d := 40) (b := 564) (j' := 1) rfl rfl rfl rfl (.plain rfl) (T_move rfl rfl) rfl ?_
              refine k_op0 (d := 41) (b := 580) (j' := 2) rfl rfl rfl rfl (.plain rfl) (T_add64 rfl rfl rfl (by first | assumption | omega | (simp; omega))) rfl ?_
              refine k_op0 (d := 8) (b := 596) (j' := 3) rfl rfl rfl rfl (.plain rfl) (T_assign rfl rfl) rfl ?_
              refine k_done rfl ?_
              refine thenK_n ?_
              refine ⟨(y.1 + 1, y.2.1, y.2.2), by (try dsimp only); exact ⟨hI.1.skip (fun a0 a1 => by first | (exfalso; omega) | assumption), by omega⟩, by (try dsimp only); omega, ?_⟩
              exact ⟨[(2, 2), (3, 3)], .same rfl rfl (.eq rfl (.same rfl rfl (.same rfl rfl (.eq rfl (.eq rfl (.nil) (by first | rfl | simp)) (by first | rfl | simp)))) (by first | rfl | simp)), .fzE rfl (.rowE rfl (.rowE rfl (.nil) (by first | rfl | simp)) (by first | rfl | simp)) (by first | rfl | simp), rfl⟩
        · have h4 := g4; (try simp only [cmpB, decide_eq_true_eq, decide_eq_false_iff_not, beq_iff_eq, beq_eq_false_iff_ne, bne_iff_ne, ne_eq, bne_eq_false_iff_eq, Bool.not_eq_true', Bool.not_eq_false', Int.not_lt, Int.not_le] at h4)
          refine W_exit ?_
          refine thenK_e ?_
          refine thenK_e ?_
          refine blockK_hit ?_
          refine blockK_n ?_
          refine thenK_n ?_
          refine ⟨(y.2.1, y.2.2), by (try dsimp only); first | (exfalso; omega) | (have q := hJ.size; exact hI.1.fin (by omega) (by omega)), by (try dsimp only); first | (exfalso; omega) | (have := hI.1.size; omega), ?_⟩
          exact ⟨[(2, 2), (3, 3)], .same rfl rfl (.eq rfl (.same rfl rfl (.same rfl rfl (.nil))) (by first | rfl | simp)), .fzE rfl (.rowE rfl (.rowE rfl (.nil) (by first | rfl | simp)) (by first | rfl | simp)) (by first | rfl | simp), rfl⟩
      · have h3 := g3; (try simp only [cmpB, decide_eq_true_eq, decide_eq_false_iff_not, beq_iff_eq, beq_eq_false_iff_ne, bne_iff_ne, ne_eq, bne_eq_false_iff_eq, Bool.not_eq_true', Bool.not_eq_false', Int.not_lt, Int.not_le] at h3)
        refine k_no (d := 36) (j' := 9) rfl rfl rfl (g_tf rfl rfl rfl g3) ?_
        refine k_no (d := 37) (j' := 10) rfl rfl rfl (g_tf rfl rfl rfl g3) ?_
        refine k_no (d := 38) (j' := 11) rfl rfl rfl (g_tf rfl rfl rfl g3) ?_
        refine k_op0 (d := 39) (b := 180) (j' := 12) rfl rfl rfl rfl (.plain rfl) (T_pick_f rfl rfl rfl g3) rfl ?_
        refine k_done rfl ?_
        refine thenK_n ?_
        refine W_cond rfl (fun g10 => ?_) (fun g10 => ?_)
        · exact absurd (g10.symm.trans rfl) (by decide)
        · skip
          refine W_exit ?_
          refine thenK_e ?_
          refine thenK_e ?_
          refine blockK_hit ?_
          refine blockK_n ?_
          refine thenK_n ?_
          refine ⟨(y.2.1, y.2.2), by (try dsimp only); first | (exfalso; omega) | (have q := hJ.size; exact hI.1.fin (by omega) (by omega)), by (try dsimp only); first | (exfalso; omega) | (have := hI.1.size; omega), ?_⟩
          exact ⟨[(2, 2), (3, 3)], .same rfl rfl (.eq rfl (.same rfl rfl (.same rfl rfl (.nil))) (by first | rfl | simp)), .fzE rfl (.rowE rfl (.rowE rfl (.nil) (by first | rfl | simp)) (by first | rfl | simp)) (by first | rfl | simp), rfl⟩
    · have h2 := g2; (try simp only [cmpB, decide_eq_true_eq, decide_eq_false_iff_not, beq_iff_eq, beq_eq_false_iff_ne, bne_iff_ne, ne_eq, bne_eq_false_iff_eq, Bool.not_eq_true', Bool.not_eq_false', Int.not_lt, Int.not_le] at h2)
      refine W_exit ?_
      refine thenK_e ?_
      refine thenK_e ?_
      refine blockK_hit ?_
      refine thenK_n ?_
      refine W_seq ?_
      refine W_seqK (b' := 84) rfl rfl ?_
      refine k_op0 (d := 71) (b := 52) (j' := 1) rfl rfl rfl rfl (.plain rfl) (T_move rfl rfl) rfl ?_
      refine k_op0 (d := 4) (b := 68) (j' := 2) rfl rfl rfl rfl (.plain rfl) (T_assign rfl rfl) rfl ?_
      refine k_done rfl ?_
      refine thenK_n ?_
      refine W_ret ?_
      -- end 1
      exact .mk [(2, 2)] (.inr rfl) (.tmp rfl (.nil)) rfl (.rowE rfl (.nil) (by first | rfl | exact congrArg (List.map eB) (hJ.fin' (by omega)))) rfl

theorem body37 : (Try.prog.funcs[37]?).map (fun fn => (fn.name == "runtime.NumGoroutine" || fn.body.isNone)) = some false := by kernel_rfl
theorem rreach_spec (next : List (List Int)) (hn : next.length ≤ 1000000) (hnl : ∀ l ∈ next, l.length ≤ 1000000) : Spec Try.prog 37 [.r 1] 2 [(1, .fz 1 (next.map eIs))] (.r 2) 3 [(2, .row 4 1 ((reachN next).map eB))] := by
  refine spec_of D (fn := Try.f37) rfl rfl (Nat.le_of_ble_eq_true rfl) ?_
  refine W_seq ?_
  refine W_seqK (b' := 18) rfl rfl ?_
  refine k_op1 (d := 2) (b := 2) (j' := 1) rfl rfl rfl rfl (.plain rfl) (T_nils [(4, 1)] (T_assign rfl rfl) rfl (.inr ⟨rfl, rfl⟩) (.cons (.nil rfl) .nil) (lv' := .r 2) (upd' := [(2, .row 4 1 (List.map eB ([] : List (Bool))))]) (nn' := 1) rfl rfl) rfl ?_
  refine k_done rfl ?_
  refine thenK_n ?_
  refine W_seq ?_
  refine W_seqK (b' := 66) rfl rfl ?_
  refine k_op0 (d := 3) (b := 18) (j' := 1) rfl rfl rfl rfl (.plain rfl) (T_move rfl rfl) rfl ?_
  refine k_op1 (d := 4) (b := 34) (j' := 2) rfl rfl rfl rfl (.plain rfl) (T_callR (lvs := [_, _]) (L := [(1, 1)]) (keep := false) (without_spec next (-1) (by omega) hn hnl) body78 rfl rfl rfl rfl (.fz rfl (.nil)) rfl (.inl rfl) rfl) rfl ?_
  refine k_op0 (d := 2) (b := 50) (j' := 3) rfl rfl rfl rfl (.plain rfl) (T_assign rfl rfl) rfl ?_
  refine k_done rfl ?_
  refine thenK_n ?_
  refine W_ret ?_
  -- end 0
  exact .mk [(2, 34)] (.inr rfl) (.tmp rfl (.nil)) rfl (.rowE rfl (.nil) (by first | rfl | simp)) rfl
end Lg
end Go.Proofs.Ytpfhmodjjljpjaa

namespace Go.Proofs.Ytpfhmodjjljpjaa
open Go.RowKit
namespace Lg
set_option maxRecDepth 100000
set_option linter.unusedVariables false
set_option linter.unusedSimpArgs false



theorem body38 : (Try.prog.funcs[38]?).map (fun fn => (fn.name == "runtime.NumGoroutine" || fn.body.isNone)) = some false := by kernel_rfl
theorem rnext_spec (f : GFn) (hf : f.blocks.length ≤ 1000000) : Spec Try.prog 38 [.agg [.v (.int .i64 f.regs), .r 1]] 2 [(1, .fz 5 (f.blocks.map eBlock))] (.r 2) 3 [(2, .row 52 1 ((f.blocks.map follows).map eIs))] := by
  refine spec_of D (fn := Try.f38) rfl rfl (Nat.le_of_ble_eq_true rfl) ?_
  refine W_seq ?_
  refine W_seqK (b' := 34) rfl rfl ?_
  refine k_op1 (d := 1) (b := 2) (j' := 1) rfl rfl rfl rfl (.plain rfl) (T_box rfl rfl flat_agg) rfl ?_
  refine k_op1 (d := 2) (b := 18) (j' := 2) rfl rfl rfl rfl (.plain rfl) (T_nils [(52, 1)] (T_assign rfl rfl) rfl (.inr ⟨rfl, rfl⟩) (.cons (.nil rfl) .nil) (lv' := .r 18) (upd' := [(18, .row 52 1 (List.map eIs ([] : List (List Int))))]) (nn' := 1) rfl rfl) rfl ?_
  refine k_done rfl ?_
  refine thenK_n ?_
  refine W_seq ?_
  refine W_seqK (b' := 114) rfl rfl ?_
  refine k_op0 (d := 6) (b := 34) (j' := 1) rfl rfl rfl rfl (.plain rfl) (T_fa D (m := 1) rfl rfl rfl rfl rfl rfl) rfl ?_
  refine k_op0 (d := 7) (b := 50) (j' := 2) rfl rfl rfl rfl (.plain rfl) (T_load_b D rfl rfl rfl rfl rfl rfl) rfl ?_
  refine k_op0 (d := 8) (b := 66) (j' := 3) rfl rfl rfl rfl (.plain rfl) (T_len D rfl rfl rfl rfl rfl rfl) rfl ?_
  refine k_op1 (d := 9) (b := 82) (j' := 4) rfl rfl rfl rfl (.plain rfl) (T_make D (zx := ([] : List Int)) (enc := eIs) rfl rfl rfl rfl rfl rfl rfl (.z (.nil)) rfl (by (try simp only [ty52]); first | assumption | omega | (simp; omega)) (by (try simp only [ty52]); first | assumption | omega | (simp; omega))) rfl ?_
  refine k_op0 (d := 3) (b := 98) (j' := 5) rfl rfl rfl rfl (.plain rfl) (T_assign rfl rfl) rfl ?_
  refine k_done rfl ?_
  refine thenK_n ?_
  refine W_seq ?_
  refine W_seq ?_
  refine W_seqK (b' := 130) rfl rfl ?_
  refine k_op0 (d := 4) (b := 114) (j' := 1) rfl rfl rfl rfl (.plain rfl) (T_assign rfl rfl) rfl ?_
  refine k_done rfl ?_
  refine thenK_n ?_
  refine W_block ?_
  refine W_loop (ι := Nat) 4 (fun j => ⟨[(1, .p 2 0), (3, .r 3), (4, .v (.int .i64 (j : Int)))], [(1, .fz 5 (f.blocks.map eBlock)), (2, .box 29 [.v (.int .i64 f.regs), .r 1]), (3, .row 52 1 (((f.blocks.take j).map follows ++ List.replicate (f.blocks.length - j) []).map eIs))]⟩) (fun j => j ≤ f.blocks.length) (fun j => f.blocks.length - j) (0) (by exact Nat.zero_le _) ?_ (fun j hJ => ?_)
  · exact ⟨[(2, 2), (3, 82)], .same rfl rfl (.same rfl rfl (.eq rfl (.nil) (by first | rfl | simp))), .fzE rfl (.box (by first | rfl | simp) (.rowE rfl (.nil) (by first | rfl | simp))) (by first | rfl | simp), rfl⟩
  refine W_seq ?_
  refine W_seq ?_
  refine W_seqK (b' := 84) rfl rfl ?_
  refine k_op0 (d := 10) (b := 4) (j' := 1) rfl rfl rfl rfl (.plain rfl) (T_move rfl rfl) rfl ?_
  refine k_op0 (d := 11) (b := 20) (j' := 2) rfl rfl rfl rfl (.plain rfl) (T_fa D (m := 1) rfl rfl rfl rfl rfl rfl) rfl ?_
  refine k_op0 (d := 12) (b := 36) (j' := 3) rfl rfl rfl rfl (.plain rfl) (T_load_b D rfl rfl rfl rfl rfl rfl) rfl ?_
  refine k_op0 (d := 13) (b := 52) (j' := 4) rfl rfl rfl rfl (.plain rfl) (T_len D rfl rfl rfl rfl rfl rfl) rfl ?_
  refine k_op0 (d := 14) (b := 68) (j' := 5) rfl rfl rfl rfl (.plain rfl) (T_cmp rfl rfl rfl rfl) rfl ?_
  refine k_done rfl ?_
  refine thenK_n ?_
  refine W_cond rfl (fun g1 => ?_) (fun g1 => ?_)
  · have h1 := g1; (try simp only [cmpB, decide_eq_true_eq, decide_eq_false_iff_not, beq_iff_eq, beq_eq_false_iff_ne, bne_iff_ne, ne_eq, bne_eq_false_iff_eq, Bool.not_eq_true', Bool.not_eq_false', Int.not_lt, Int.not_le] at h1)
    refine W_skip ?_
    refine thenK_n ?_
    refine W_seq ?_
    refine W_block ?_
    refine W_seq ?_
    refine W_seqK (b' := 196) rfl rfl ?_
    refine k_op0 (d := 17) (b := 84) (j' := 1) rfl rfl rfl rfl (.plain rfl) (T_fa D (m := 1) rfl rfl rfl rfl rfl rfl) rfl ?_
    refine k_op0 (d := 18) (b := 100) (j' := 2) rfl rfl rfl rfl (.plain rfl) (T_load_b D rfl rfl rfl rfl rfl rfl) rfl ?_
    refine k_op0 (d := 19) (b := 116) (j' := 3) rfl rfl rfl rfl (.plain rfl) (T_move rfl rfl) rfl ?_
    first | refine k_op0 (d := 20) (b := 132) (j' := 4) rfl rfl rfl rfl (.plain rfl) (T_indexAddr D rfl rfl rfl rfl rfl rfl rfl rfl (by first | assumption | omega | (simp; omega))) rfl ?_ | refine k_op0 (d := 20) (b := 132) (j' := 4) rfl rfl rfl rfl (.plain rfl) (T_indexAddrZ D rfl rfl rfl rfl rfl rfl rfl rfl (by first | assumption | omega | (simp; omega)) (by first | assumption | omega | (simp; omega))) rfl ?_
    refine k_op1 (d := 21) (b := 148) (j' := 5) rfl rfl rfl rfl (.plain rfl) (T_ldEA D (l := [.r 148, .v _, .v _, .v _, .v _]) (nn := 1) (upd := [(148, .fz 8 _)]) rfl rfl rfl rfl rfl (by first | assumption | omega | (simp; omega)) rfl rfl rfl rfl rfl) rfl ?_
    refine k_opn (d := 5) (b := 164) (j' := 6) rfl rfl rfl rfl (.plain rfl) (T_nilbox [(70, 8)] (T_alloc D rfl rfl rfl) rfl (.cons (.nil rfl) <| .cons (.same _) <| .cons (.same _) <| .cons (.same _) <| .cons (.same _) <| .nil) (upd' := [(164, .box 72 [.r 165, .v (.int .i64 0), .v (.int .i64 0), .v (.int .i64 0), .v (.int .i64 0)]), (165, .row 70 8 (List.map eTac ([] : List (GTac))))]) (nn' := 2) rfl rfl) rfl ?_
    refine k_st1 (b := 180) (j' := 7) rfl rfl rfl rfl (.plain rfl) (T_stB D (cs' := [_, _, _, _, _]) rfl rfl rfl rfl flat_agg rfl rfl (Nat.le_of_ble_eq_true rfl) rfl) rfl ?_
    refine k_done rfl ?_
    refine thenK_n ?_
    refine W_seq ?_
    refine W_seq ?_
    refine W_seqK (b' := 244) rfl rfl ?_
    refine k_op0 (d := 22) (b := 196) (j' := 1) rfl rfl rfl rfl (.plain rfl) (T_fa D (m := 1) rfl rfl rfl rfl rfl rfl) rfl ?_
    refine k_op0 (d := 23) (b := 212) (j' := 2) rfl rfl rfl rfl (.plain rfl) (T_load_b D rfl rfl rfl rfl rfl rfl) rfl ?_
    refine k_op0 (d := 24) (b := 228) (j' := 3) rfl rfl rfl rfl (.plain rfl) (T_cmp rfl rfl rfl rfl) rfl ?_
    refine k_done rfl ?_
    refine thenK_n ?_
    refine W_cond rfl (fun g2 => ?_) (fun g2 => ?_)
    · have h2 := g2; (try simp only [cmpB, decide_eq_true_eq, decide_eq_false_iff_not, beq_iff_eq, beq_eq_false_iff_ne, bne_iff_ne, ne_eq, bne_eq_false_iff_eq, Bool.not_eq_true', Bool.not_eq_false', Int.not_lt, Int.not_le] at h2)
      refine W_seqK (b' := 356) rfl rfl ?_
      refine k_op0 (d := 25) (b := 244) (j' := 1) rfl rfl rfl rfl (.plain rfl) (T_move rfl rfl) rfl ?_
      refine k_op0 (d := 26) (b := 260) (j' := 2) rfl rfl rfl rfl (.plain rfl) (T_move rfl rfl) rfl ?_
      refine k_op0 (d := 27) (b := 276) (j' := 3) rfl rfl rfl rfl (.plain rfl) (T_fa D (m := 3) rfl rfl rfl rfl rfl rfl) rfl ?_
      refine k_op0 (d := 28) (b := 292) (j' := 4) rfl rfl rfl rfl (.plain rfl) (T_load_b D rfl rfl rfl rfl rfl rfl) rfl ?_
      refine k_op1 (d := 29) (b := 308) (j' := 5) rfl rfl rfl rfl (.plain rfl) (T_bs D (ys := [_]) (enc := eI) (l := [_]) rfl rfl rfl rfl rfl rfl (.cons rfl (flat_v rfl) (.nil)) rfl rfl rfl rfl (.v rfl (.nil)) rfl rfl) rfl ?_
      first | refine k_op0 (d := 30) (b := 324) (j' := 6) rfl rfl rfl rfl (.plain rfl) (T_indexAddr D rfl rfl rfl rfl rfl rfl rfl rfl (by first | assumption | omega | (simp; omega))) rfl ?_ | refine k_op0 (d := 30) (b := 324) (j' := 6) rfl rfl rfl rfl (.plain rfl) (T_indexAddrZ D rfl rfl rfl rfl rfl rfl rfl rfl (by first | assumption | omega | (simp; omega)) (by first | assumption | omega | (simp; omega))) rfl ?_
      refine k_stn (b := 340) (j' := 7) rfl rfl rfl rfl (.plain rfl) (T_store_e D (z := _) rfl rfl rfl rfl (flat_sl rfl) rfl rfl (by first | assumption | omega | (simp; omega)) (.row rfl (.nil) rfl) rfl (Nat.le_of_ble_eq_true rfl) rfl) rfl ?_
      refine k_done rfl ?_
      refine thenK_n ?_
      refine W_seq ?_
      refine W_seqK (b' := 404) rfl rfl ?_
      refine k_op0 (d := 31) (b := 356) (j' := 1) rfl rfl rfl rfl (.plain rfl) (T_fa D (m := 1) rfl rfl rfl rfl rfl rfl) rfl ?_
      refine k_op0 (d := 32) (b := 372) (j' := 2) rfl rfl rfl rfl (.plain rfl) (T_load_b D rfl rfl rfl rfl rfl rfl) rfl ?_
      refine k_op0 (d := 33) (b := 388) (j' := 3) rfl rfl rfl rfl (.plain rfl) (T_cmp rfl rfl rfl rfl) rfl ?_
      refine k_done rfl ?_
      refine thenK_n ?_
      refine W_cond rfl (fun g3 => ?_) (fun g3 => ?_)
      · have h3 := g3; (try simp only [cmpB, decide_eq_true_eq, decide_eq_false_iff_not, beq_iff_eq, beq_eq_false_iff_ne, bne_iff_ne, ne_eq, bne_eq_false_iff_eq, Bool.not_eq_true', Bool.not_eq_false', Int.not_lt, Int.not_le] at h3)
        refine W_seqK (b' := 548) rfl rfl ?_
        refine k_op0 (d := 34) (b := 404) (j' := 1) rfl rfl rfl rfl (.plain rfl) (T_move rfl rfl) rfl ?_
        refine k_op0 (d := 35) (b := 420) (j' := 2) rfl rfl rfl rfl (.plain rfl) (T_move rfl rfl) rfl ?_
        refine k_op0 (d := 36) (b := 436) (j' := 3) rfl rfl rfl rfl (.plain rfl) (T_fa D (m := 3) rfl rfl rfl rfl rfl rfl) rfl ?_
        refine k_op0 (d := 37) (b := 452) (j' := 4) rfl rfl rfl rfl (.plain rfl) (T_load_b D rfl rfl rfl rfl rfl rfl) rfl ?_
        refine k_op0 (d := 38) (b := 468) (j' := 5) rfl rfl rfl rfl (.plain rfl) (T_fa D (m := 4) rfl rfl rfl rfl rfl rfl) rfl ?_
        refine k_op0 (d := 39) (b := 484) (j' := 6) rfl rfl rfl rfl (.plain rfl) (T_load_b D rfl rfl rfl rfl rfl rfl) rfl ?_
        refine k_op1 (d := 40) (b := 500) (j' := 7) rfl rfl rfl rfl (.plain rfl) (T_bs D (ys := [_, _]) (enc := eI) (l := [_, _]) rfl rfl rfl rfl rfl rfl (.cons rfl (flat_v rfl) (.cons rfl (flat_v rfl) (.nil))) rfl rfl rfl rfl (.v rfl (.v rfl (.nil))) rfl rfl) rfl ?_
        first | refine k_op0 (d := 41) (b := 516) (j' := 8) rfl rfl rfl rfl (.plain rfl) (T_indexAddr D rfl rfl rfl rfl rfl rfl rfl rfl (by first | assumption | omega | (simp; omega))) rfl ?_ | refine k_op0 (d := 41) (b := 516) (j' := 8) rfl rfl rfl rfl (.plain rfl) (T_indexAddrZ D rfl rfl rfl rfl rfl rfl rfl rfl (by first | assumption | omega | (simp; omega)) (by first | assumption | omega | (simp; omega))) rfl ?_
        refine k_stn (b := 532) (j' := 9) rfl rfl rfl rfl (.plain rfl) (T_store_e D (z := _) rfl rfl rfl rfl (flat_sl rfl) rfl rfl (by first | assumption | omega | (simp; omega)) (.row rfl (.nil) rfl) rfl (Nat.le_of_ble_eq_true rfl) rfl) rfl ?_
        refine k_done rfl ?_
        refine blockK_n ?_
        refine thenK_n ?_
        refine W_seqK (b' := 596) rfl rfl ?_
        refine k_op0 (d := 15) (b := 548) (j' := 1) rfl rfl rfl rfl (.plain rfl) (T_move rfl rfl) rfl ?_
        refine k_op0 (d := 16) (b := 564) (j' := 2) rfl rfl rfl rfl (.plain rfl) (T_add64 rfl rfl rfl (by first | assumption | omega | (simp; omega))) rfl ?_
        refine k_op0 (d := 4) (b := 580) (j' := 3) rfl rfl rfl rfl (.plain rfl) (T_assign rfl rfl) rfl ?_
        refine k_done rfl ?_
        refine thenK_n ?_
        refine ⟨j + 1, by (try dsimp only); omega, by (try dsimp only); omega, ?_⟩
        exact ⟨[(2, 2), (3, 3)], .same rfl rfl (.same rfl rfl (.eq rfl (.nil) (by first | rfl | (exfalso; omega) | exact congrArg _ (fill_step follows [] f.blocks j _ rfl (by omega) _ (by simp_all [follows])) | exact congrArg _ (fill_skip follows [] f.blocks j _ rfl (by omega) (by simp_all [follows]))))), .fzE rfl (.box (by first | rfl | (exfalso; omega) | exact congrArg _ (fill_step follows [] f.blocks j _ rfl (by omega) _ (by simp_all [follows])) | exact congrArg _ (fill_skip follows [] f.blocks j _ rfl (by omega) (by simp_all [follows]))) (.rowE rfl (.nil) (by first | rfl | (exfalso; omega) | exact congrArg _ (fill_step follows [] f.blocks j _ rfl (by omega) _ (by simp_all [follows])) | exact congrArg _ (fill_skip follows [] f.blocks j _ rfl (by omega) (by simp_all [follows]))))) (by first | rfl | (exfalso; omega) | exact congrArg _ (fill_step follows [] f.blocks j _ rfl (by omega) _ (by simp_all [follows])) | exact congrArg _ (fill_skip follows [] f.blocks j _ rfl (by omega) (by simp_all [follows]))), rfl⟩
      · have h3 := g3; (try simp only [cmpB, decide_eq_true_eq, decide_eq_false_iff_not, beq_iff_eq, beq_eq_false_iff_ne, bne_iff_ne, ne_eq, bne_eq_false_iff_eq, Bool.not_eq_true', Bool.not_eq_false', Int.not_lt, Int.not_le] at h3)
        refine W_skip ?_
        refine blockK_n ?_
        refine thenK_n ?_
        refine W_seqK (b' := 452) rfl rfl ?_
        refine k_op0 (d := 15) (b := 404) (j' := 1) rfl rfl rfl rfl (.plain rfl) (T_move rfl rfl) rfl ?_
        refine k_op0 (d := 16) (b := 420) (j' := 2) rfl rfl rfl rfl (.plain rfl) (T_add64 rfl rfl rfl (by first | assumption | omega | (simp; omega))) rfl ?_
        refine k_op0 (d := 4) (b := 436) (j' := 3) rfl rfl rfl rfl (.plain rfl) (T_assign rfl rfl) rfl ?_
        refine k_done rfl ?_
        refine thenK_n ?_
        refine ⟨j + 1, by (try dsimp only); omega, by (try dsimp only); omega, ?_⟩
        exact ⟨[(2, 2), (3, 3)], .same rfl rfl (.same rfl rfl (.eq rfl (.nil) (by first | rfl | (exfalso; omega) | exact congrArg _ (fill_step follows [] f.blocks j _ rfl (by omega) _ (by simp_all [follows])) | exact congrArg _ (fill_skip follows [] f.blocks j _ rfl (by omega) (by simp_all [follows]))))), .fzE rfl (.box (by first | rfl | (exfalso; omega) | exact congrArg _ (fill_step follows [] f.blocks j _ rfl (by omega) _ (by simp_all [follows])) | exact congrArg _ (fill_skip follows [] f.blocks j _ rfl (by omega) (by simp_all [follows]))) (.rowE rfl (.nil) (by first | rfl | (exfalso; omega) | exact congrArg _ (fill_step follows [] f.blocks j _ rfl (by omega) _ (by simp_all [follows])) | exact congrArg _ (fill_skip follows [] f.blocks j _ rfl (by omega) (by simp_all [follows]))))) (by first | rfl | (exfalso; omega) | exact congrArg _ (fill_step follows [] f.blocks j _ rfl (by omega) _ (by simp_all [follows])) | exact congrArg _ (fill_skip follows [] f.blocks j _ rfl (by omega) (by simp_all [follows]))), rfl⟩
    · have h2 := g2; (try simp only [cmpB, decide_eq_true_eq, decide_eq_false_iff_not, beq_iff_eq, beq_eq_false_iff_ne, bne_iff_ne, ne_eq, bne_eq_false_iff_eq, Bool.not_eq_true', Bool.not_eq_false', Int.not_lt, Int.not_le] at h2)
      refine W_skip ?_
      refine thenK_n ?_
      refine W_seq ?_
      refine W_seqK (b' := 292) rfl rfl ?_
      refine k_op0 (d := 31) (b := 244) (j' := 1) rfl rfl rfl rfl (.plain rfl) (T_fa D (m := 1) rfl rfl rfl rfl rfl rfl) rfl ?_
      refine k_op0 (d := 32) (b := 260) (j' := 2) rfl rfl rfl rfl (.plain rfl) (T_load_b D rfl rfl rfl rfl rfl rfl) rfl ?_
      refine k_op0 (d := 33) (b := 276) (j' := 3) rfl rfl rfl rfl (.plain rfl) (T_cmp rfl rfl rfl rfl) rfl ?_
      refine k_done rfl ?_
      refine thenK_n ?_
      refine W_cond rfl (fun g4 => ?_) (fun g4 => ?_)
      · have h4 := g4; (try simp only [cmpB, decide_eq_true_eq, decide_eq_false_iff_not, beq_iff_eq, beq_eq_false_iff_ne, bne_iff_ne, ne_eq, bne_eq_false_iff_eq, Bool.not_eq_true', Bool.not_eq_false', Int.not_lt, Int.not_le] at h4)
        refine W_seqK (b' := 436) rfl rfl ?_
        refine k_op0 (d := 34) (b := 292) (j' := 1) rfl rfl rfl rfl (.plain rfl) (T_move rfl rfl) rfl ?_
        refine k_op0 (d := 35) (b := 308) (j' := 2) rfl rfl rfl rfl (.plain rfl) (T_move rfl rfl) rfl ?_
        refine k_op0 (d := 36) (b := 324) (j' := 3) rfl rfl rfl rfl (.plain rfl) (T_fa D (m := 3) rfl rfl rfl rfl rfl rfl) rfl ?_
        refine k_op0 (d := 37) (b := 340) (j' := 4) rfl rfl rfl rfl (.plain rfl) (T_load_b D rfl rfl rfl rfl rfl rfl) rfl ?_
        refine k_op0 (d := 38) (b := 356) (j' := 5) rfl rfl rfl rfl (.plain rfl) (T_fa D (m := 4) rfl rfl rfl rfl rfl rfl) rfl ?_
        refine k_op0 (d := 39) (b := 372) (j' := 6) rfl rfl rfl rfl (.plain rfl) (T_load_b D rfl rfl rfl rfl rfl rfl) rfl ?_
        refine k_op1 (d := 40) (b := 388) (j' := 7) rfl rfl rfl rfl (.plain rfl) (T_bs D (ys := [_, _]) (enc := eI) (l := [_, _]) rfl rfl rfl rfl rfl rfl (.cons rfl (flat_v rfl) (.cons rfl (flat_v rfl) (.nil))) rfl rfl rfl rfl (.v rfl (.v rfl (.nil))) rfl rfl) rfl ?_
        first | refine k_op0 (d := 41) (b := 404) (j' := 8) rfl rfl rfl rfl (.plain rfl) (T_indexAddr D rfl rfl rfl rfl rfl rfl rfl rfl (by first | assumption | omega | (simp; omega))) rfl ?_ | refine k_op0 (d := 41) (b := 404) (j' := 8) rfl rfl rfl rfl (.plain rfl) (T_indexAddrZ D rfl rfl rfl rfl rfl rfl rfl rfl (by first | assumption | omega | (simp; omega)) (by first | assumption | omega | (simp; omega))) rfl ?_
        refine k_stn (b := 420) (j' := 9) rfl rfl rfl rfl (.plain rfl) (T_store_e D (z := _) rfl rfl rfl rfl (flat_sl rfl) rfl rfl (by first | assumption | omega | (simp; omega)) (.row rfl (.nil) rfl) rfl (Nat.le_of_ble_eq_true rfl) rfl) rfl ?_
        refine k_done rfl ?_
        refine blockK_n ?_
        refine thenK_n ?_
        refine W_seqK (b' := 484) rfl rfl ?_
        refine k_op0 (d := 15) (b := 436) (j' := 1) rfl rfl rfl rfl (.plain rfl) (T_move rfl rfl) rfl ?_
        refine k_op0 (d := 16) (b := 452) (j' := 2) rfl rfl rfl rfl (.plain rfl) (T_add64 rfl rfl rfl (by first | assumption | omega | (simp; omega))) rfl ?_
        refine k_op0 (d := 4) (b := 468) (j' := 3) rfl rfl rfl rfl (.plain rfl) (T_assign rfl rfl) rfl ?_
        refine k_done rfl ?_
        refine thenK_n ?_
        refine ⟨j + 1, by (try dsimp only); omega, by (try dsimp only); omega, ?_⟩
        exact ⟨[(2, 2), (3, 3)], .same rfl rfl (.same rfl rfl (.eq rfl (.nil) (by first | rfl | (exfalso; omega) | exact congrArg _ (fill_step follows [] f.blocks j _ rfl (by omega) _ (by simp_all [follows])) | exact congrArg _ (fill_skip follows [] f.blocks j _ rfl (by omega) (by simp_all [follows]))))), .fzE rfl (.box (by first | rfl | (exfalso; omega) | exact congrArg _ (fill_step follows [] f.blocks j _ rfl (by omega) _ (by simp_all [follows])) | exact congrArg _ (fill_skip follows [] f.blocks j _ rfl (by omega) (by simp_all [follows]))) (.rowE rfl (.nil) (by first | rfl | (exfalso; omega) | exact congrArg _ (fill_step follows [] f.blocks j _ rfl (by omega) _ (by simp_all [follows])) | exact congrArg _ (fill_skip follows [] f.blocks j _ rfl (by omega) (by simp_all [follows]))))) (by first | rfl | (exfalso; omega) | exact congrArg _ (fill_step follows [] f.blocks j _ rfl (by omega) _ (by simp_all [follows])) | exact congrArg _ (fill_skip follows [] f.blocks j _ rfl (by omega) (by simp_all [follows]))), rfl⟩
      · have h4 := g4; (try simp only [cmpB, decide_eq_true_eq, decide_eq_false_iff_not, beq_iff_eq, beq_eq_false_iff_ne, bne_iff_ne, ne_eq, bne_eq_false_iff_eq, Bool.not_eq_true', Bool.not_eq_false', Int.not_lt, Int.not_le] at h4)
        refine W_skip ?_
        refine blockK_n ?_
        refine thenK_n ?_
        refine W_seqK (b' := 340) rfl rfl ?_
        refine k_op0 (d := 15) (b := 292) (j' := 1) rfl rfl rfl rfl (.plain rfl) (T_move rfl rfl) rfl ?_
        refine k_op0 (d := 16) (b := 308) (j' := 2) rfl rfl rfl rfl (.plain rfl) (T_add64 rfl rfl rfl (by first | assumption | omega | (simp; omega))) rfl ?_
        refine k_op0 (d := 4) (b := 324) (j' := 3) rfl rfl rfl rfl (.plain rfl) (T_assign rfl rfl) rfl ?_
        refine k_done rfl ?_
        refine thenK_n ?_
        refine ⟨j + 1, by (try dsimp only); omega, by (try dsimp only); omega, ?_⟩
        exact ⟨[(2, 2), (3, 3)], .same rfl rfl (.same rfl rfl (.eq rfl (.nil) (by first | rfl | (exfalso; omega) | exact congrArg _ (fill_step follows [] f.blocks j _ rfl (by omega) _ (by simp_all [follows])) | exact congrArg _ (fill_skip follows [] f.blocks j _ rfl (by omega) (by simp_all [follows]))))), .fzE rfl (.box (by first | rfl | (exfalso; omega) | exact congrArg _ (fill_step follows [] f.blocks j _ rfl (by omega) _ (by simp_all [follows])) | exact congrArg _ (fill_skip follows [] f.blocks j _ rfl (by omega) (by simp_all [follows]))) (.rowE rfl (.nil) (by first | rfl | (exfalso; omega) | exact congrArg _ (fill_step follows [] f.blocks j _ rfl (by omega) _ (by simp_all [follows])) | exact congrArg _ (fill_skip follows [] f.blocks j _ rfl (by omega) (by simp_all [follows]))))) (by first | rfl | (exfalso; omega) | exact congrArg _ (fill_step follows [] f.blocks j _ rfl (by omega) _ (by simp_all [follows])) | exact congrArg _ (fill_skip follows [] f.blocks j _ rfl (by omega) (by simp_all [follows]))), rfl⟩
  · have h1 := g1; (try simp only [cmpB, decide_eq_true_eq, decide_eq_false_iff_not, beq_iff_eq, beq_eq_false_iff_ne, bne_iff_ne, ne_eq, bne_eq_false_iff_eq, Bool.not_eq_true', Bool.not_eq_false', Int.not_lt, Int.not_le] at h1)
    refine W_exit ?_
    refine thenK_e ?_
    refine thenK_e ?_
    refine blockK_hit ?_
    refine thenK_n ?_
    refine W_seq ?_
    refine W_seqK (b' := 116) rfl rfl ?_
    refine k_op0 (d := 42) (b := 84) (j' := 1) rfl rfl rfl rfl (.plain rfl) (T_move rfl rfl) rfl ?_
    refine k_op0 (d := 2) (b := 100) (j' := 2) rfl rfl rfl rfl (.plain rfl) (T_assign rfl rfl) rfl ?_
    refine k_done rfl ?_
    refine thenK_n ?_
    refine W_ret ?_
    -- end 0
    exact .mk [(2, 3)] (.inr rfl) (.tmp rfl (.nil)) rfl (.rowE rfl (.nil) (by first | rfl | (have : j = f.blocks.length := by omega); subst this; simp)) rfl
end Lg
end Go.Proofs.Ytpfhmodjjljpjaa

namespace Go.Proofs.Ytpfhmodjjljpjaa
end Go.Proofs.Ytpfhmodjjljpjaa

namespace Go.Proofs.Ytpfhmodjjljpjaa
open Go.RowKit
namespace Lg
set_option maxRecDepth 100000
set_option linter.unusedVariables false
set_option linter.unusedSimpArgs false



theorem body7 : (Try.prog.funcs[7]?).map (fun fn => (fn.name == "runtime.NumGoroutine" || fn.body.isNone)) = some false := by kernel_rfl
theorem law7 (p : GProg) (x : Int) (hp : PgOk p) (hx : 0 ≤ x ∧ x < 256) : Spec Try.prog 7 [.agg [.v (.int .i64 p.words), .r 1], .v (.int .u8 x)] 2 [(1, .fz 2 (p.funcs.map eFn))] (.v (.bool true)) 2 [] := by
  have hp1 := hp.1
  refine spec_of D (fn := Try.f7) rfl rfl (Nat.le_of_ble_eq_true rfl) ?_
  refine W_seq ?_
  refine W_seqK (b' := 34) rfl rfl ?_
  refine k_op1 (d := 2) (b := 2) (j' := 1) rfl rfl rfl rfl (.plain rfl) (T_box rfl rfl flat_agg) rfl ?_
  refine k_op0 (d := 4) (b := 18) (j' := 2) rfl rfl rfl rfl (.plain rfl) (T_assign rfl rfl) rfl ?_
  refine k_done rfl ?_
  refine thenK_n ?_
  refine W_seq ?_
  refine W_seq ?_
  refine W_seqK (b' := 66) rfl rfl ?_
  refine k_op0 (d := 11) (b := 34) (j' := 1) rfl rfl rfl rfl (.plain rfl) (T_callV (lvs := []) (L := []) (awake_spec) body24 rfl rfl rfl rfl (.nil) rfl) rfl ?_
  refine k_op0 (d := 12) (b := 50) (j' := 2) rfl rfl rfl rfl (.plain rfl) (T_not rfl rfl) rfl ?_
  refine k_done rfl ?_
  refine thenK_n ?_
  refine W_cond rfl (fun g1 => ?_) (fun g1 => ?_)
  · have h1 := g1; (try simp only [cmpB, decide_eq_true_eq, decide_eq_false_iff_not, beq_iff_eq, beq_eq_false_iff_ne, bne_iff_ne, ne_eq, bne_eq_false_iff_eq, Bool.not_eq_true', Bool.not_eq_false', Int.not_lt, Int.not_le] at h1)
    refine W_seq ?_
    refine W_seqK (b' := 82) rfl rfl ?_
    refine k_op0 (d := 4) (b := 66) (j' := 1) rfl rfl rfl rfl (.plain rfl) (T_assign rfl rfl) rfl ?_
    refine k_done rfl ?_
    refine thenK_n ?_
    refine W_ret ?_
    refine thenK_r ?_
    -- end 0
    exact .mk [] (.inr rfl) (.tmp rfl (.nil)) (by first | rfl | exact absurd g1 (by decide) | exact absurd (tidy_twice (small_fn (c := 150) (by assumption : smallG p 150 = true) (by omega) (by omega : x.toNat < p.funcs.length)).vf).symm (by assumption) | (exfalso; have q := twice_len (small_fn (c := 150) (by assumption : smallG p 150 = true) (by omega) (by omega : x.toNat < p.funcs.length)).vf; omega) | exact absurd (twice_at hS.vf (k := j) (by omega)) (by assumption) | (exfalso; have q := twice_reach hS.vf (k := j) (by omega); exact absurd (q.symm.trans (by assumption : _ = false)) (by decide)) | simp [resLV, LV.ren]) (.nil) rfl
  · have h1 := g1; (try simp only [cmpB, decide_eq_true_eq, decide_eq_false_iff_not, beq_iff_eq, beq_eq_false_iff_ne, bne_iff_ne, ne_eq, bne_eq_false_iff_eq, Bool.not_eq_true', Bool.not_eq_false', Int.not_lt, Int.not_le] at h1)
    refine W_skip ?_
    refine thenK_n ?_
    refine W_seq ?_
    refine W_seq ?_
    refine W_seqK (b' := 242) rfl rfl ?_
    refine k_op0 (d := 13) (b := 66) (j' := 1) rfl rfl rfl rfl (.plain rfl) (T_load_bA D (l := [_, _]) rfl rfl rfl rfl rfl rfl rfl) rfl ?_
    refine k_op0 (d := 14) (b := 82) (j' := 2) rfl rfl rfl rfl (.plain rfl) (T_callV (lvs := [_, _]) (L := [(1, 1)]) (small30_spec p 150 hp) body25 rfl rfl rfl rfl (.fz rfl (.nil)) rfl) rfl ?_
    refine k_op0 (d := 15) (b := 98) (j' := 3) rfl rfl rfl rfl (.plain rfl) (T_not rfl rfl) rfl ?_
    refine k_op0 (d := 16) (b := 114) (j' := 4) rfl rfl rfl rfl (.plain rfl) (T_move rfl rfl) rfl ?_
    refine k_split (d := 16) rfl (fun g2 => ?_) (fun g2 => ?_)
    · have h2 := g2; (try simp only [cmpB, decide_eq_true_eq, decide_eq_false_iff_not, beq_iff_eq, beq_eq_false_iff_ne, bne_iff_ne, ne_eq, bne_eq_false_iff_eq, Bool.not_eq_true', Bool.not_eq_false', Int.not_lt, Int.not_le] at h2)
      refine k_no (d := 17) (j' := 5) rfl rfl rfl (g_ft rfl rfl rfl g2) ?_
      refine k_no (d := 18) (j' := 6) rfl rfl rfl (g_ft rfl rfl rfl g2) ?_
      refine k_no (d := 19) (j' := 7) rfl rfl rfl (g_ft rfl rfl rfl g2) ?_
      refine k_no (d := 20) (j' := 8) rfl rfl rfl (g_ft rfl rfl rfl g2) ?_
      refine k_no (d := 21) (j' := 9) rfl rfl rfl (g_ft rfl rfl rfl g2) ?_
      refine k_no (d := 22) (j' := 10) rfl rfl rfl (g_ft rfl rfl rfl g2) ?_
      refine k_op0 (d := 23) (b := 226) (j' := 11) rfl rfl rfl rfl (.plain rfl) (T_pick_t rfl rfl rfl g2) rfl ?_
      refine k_done rfl ?_
      refine thenK_n ?_
      refine W_cond rfl (fun g3 => ?_) (fun g3 => ?_)
      · skip
        refine W_seq ?_
        refine W_seqK (b' := 258) rfl rfl ?_
        refine k_op0 (d := 4) (b := 242) (j' := 1) rfl rfl rfl rfl (.plain rfl) (T_assign rfl rfl) rfl ?_
        refine k_done rfl ?_
        refine thenK_n ?_
        refine W_ret ?_
        refine thenK_r ?_
        -- end 1
        exact .mk [] (.inr rfl) (.tmp rfl (.nil)) (by first | rfl | exact absurd g1 (by decide) | exact absurd (tidy_twice (small_fn (c := 150) (by assumption : smallG p 150 = true) (by omega) (by omega : x.toNat < p.funcs.length)).vf).symm (by assumption) | (exfalso; have q := twice_len (small_fn (c := 150) (by assumption : smallG p 150 = true) (by omega) (by omega : x.toNat < p.funcs.length)).vf; omega) | exact absurd (twice_at hS.vf (k := j) (by omega)) (by assumption) | (exfalso; have q := twice_reach hS.vf (k := j) (by omega); exact absurd (q.symm.trans (by assumption : _ = false)) (by decide)) | simp [resLV, LV.ren]) (.nil) rfl
      · exact absurd (g3.symm.trans rfl) (by decide)
    · have h2 := g2; (try simp only [cmpB, decide_eq_true_eq, decide_eq_false_iff_not, beq_iff_eq, beq_eq_false_iff_ne, bne_iff_ne, ne_eq, bne_eq_false_iff_eq, Bool.not_eq_true', Bool.not_eq_false', Int.not_lt, Int.not_le] at h2)
      refine k_op0 (d := 17) (b := 130) (j' := 5) rfl rfl rfl rfl (g_ff rfl rfl rfl g2) (T_move rfl rfl) rfl ?_
      refine k_op0 (d := 18) (b := 146) (j' := 6) rfl rfl rfl rfl (g_ff rfl rfl rfl g2) (T_conv64 rfl rfl (by rw [Try.underlying5]; rfl) (by first | assumption | omega | (simp; omega))) rfl ?_
      refine k_op0 (d := 19) (b := 162) (j' := 7) rfl rfl rfl rfl (g_ff rfl rfl rfl g2) (T_fa D (m := 1) rfl rfl rfl rfl rfl rfl) rfl ?_
      refine k_op0 (d := 20) (b := 178) (j' := 8) rfl rfl rfl rfl (g_ff rfl rfl rfl g2) (T_load_b D rfl rfl rfl rfl rfl rfl) rfl ?_
      refine k_op0 (d := 21) (b := 194) (j' := 9) rfl rfl rfl rfl (g_ff rfl rfl rfl g2) (T_len D rfl rfl rfl rfl rfl rfl) rfl ?_
      refine k_op0 (d := 22) (b := 210) (j' := 10) rfl rfl rfl rfl (g_ff rfl rfl rfl g2) (T_cmp rfl rfl rfl rfl) rfl ?_
      refine k_op0 (d := 23) (b := 226) (j' := 11) rfl rfl rfl rfl (.plain rfl) (T_pick_f rfl rfl rfl g2) rfl ?_
      refine k_done rfl ?_
      refine thenK_n ?_
      refine W_cond rfl (fun g4 => ?_) (fun g4 => ?_)
      · have h4 := g4; (try simp only [cmpB, decide_eq_true_eq, decide_eq_false_iff_not, beq_iff_eq, beq_eq_false_iff_ne, bne_iff_ne, ne_eq, bne_eq_false_iff_eq, Bool.not_eq_true', Bool.not_eq_false', Int.not_lt, Int.not_le] at h4)
        refine W_seq ?_
        refine W_seqK (b' := 258) rfl rfl ?_
        refine k_op0 (d := 4) (b := 242) (j' := 1) rfl rfl rfl rfl (.plain rfl) (T_assign rfl rfl) rfl ?_
        refine k_done rfl ?_
        refine thenK_n ?_
        refine W_ret ?_
        refine thenK_r ?_
        -- end 2
        exact .mk [] (.inr rfl) (.tmp rfl (.nil)) (by first | rfl | exact absurd g1 (by decide) | exact absurd (tidy_twice (small_fn (c := 150) (by assumption : smallG p 150 = true) (by omega) (by omega : x.toNat < p.funcs.length)).vf).symm (by assumption) | (exfalso; have q := twice_len (small_fn (c := 150) (by assumption : smallG p 150 = true) (by omega) (by omega : x.toNat < p.funcs.length)).vf; omega) | exact absurd (twice_at hS.vf (k := j) (by omega)) (by assumption) | (exfalso; have q := twice_reach hS.vf (k := j) (by omega); exact absurd (q.symm.trans (by assumption : _ = false)) (by decide)) | simp [resLV, LV.ren]) (.nil) rfl
      · have h4 := g4; (try simp only [cmpB, decide_eq_true_eq, decide_eq_false_iff_not, beq_iff_eq, beq_eq_false_iff_ne, bne_iff_ne, ne_eq, bne_eq_false_iff_eq, Bool.not_eq_true', Bool.not_eq_false', Int.not_lt, Int.not_le] at h4)
        refine W_skip ?_
        refine thenK_n ?_
        refine W_seq ?_
        refine W_seqK (b' := 434) rfl rfl ?_
        refine k_op0 (d := 25) (b := 242) (j' := 1) rfl rfl rfl rfl (.plain rfl) (T_fa D (m := 1) rfl rfl rfl rfl rfl rfl) rfl ?_
        refine k_op0 (d := 26) (b := 258) (j' := 2) rfl rfl rfl rfl (.plain rfl) (T_load_b D rfl rfl rfl rfl rfl rfl) rfl ?_
        refine k_op0 (d := 27) (b := 274) (j' := 3) rfl rfl rfl rfl (.plain rfl) (T_move rfl rfl) rfl ?_
        first | refine k_op0 (d := 28) (b := 290) (j' := 4) rfl rfl rfl rfl (.plain rfl) (T_indexAddr D rfl rfl rfl rfl rfl rfl rfl rfl (by first | assumption | omega | (simp; omega))) rfl ?_ | refine k_op0 (d := 28) (b := 290) (j' := 4) rfl rfl rfl rfl (.plain rfl) (T_indexAddrZ D rfl rfl rfl rfl rfl rfl rfl rfl (by first | assumption | omega | (simp; omega)) (by first | assumption | omega | (simp; omega))) rfl ?_
        refine k_op1 (d := 29) (b := 306) (j' := 5) rfl rfl rfl rfl (.plain rfl) (T_ldEA D (l := [.v _, .r 306]) (nn := 1) (upd := [(306, .fz 5 _)]) rfl rfl rfl rfl rfl (by first | assumption | omega | (simp; omega)) rfl rfl rfl rfl rfl) rfl ?_
        refine k_opn (d := 30) (b := 322) (j' := 6) rfl rfl rfl rfl (.plain rfl) (T_call (lvs := [_]) (L := [(1, 306)]) (lv := .tup [.agg [.v _, .r 322], .r 323]) (upd := [(322, .row 72 5 _), (323, .fz 1 _)]) (nn := 2) false (tidy_spec (p.funcs.getD x.toNat default) (by have := (small_fn (c := 150) (by assumption : smallG p 150 = true) (by omega) (by omega : x.toNat < p.funcs.length)).len; omega) (small_fn (c := 150) (by assumption : smallG p 150 = true) (by omega) (by omega : x.toNat < p.funcs.length)).vf.inN ((small_fn (c := 150) (by assumption : smallG p 150 = true) (by omega) (by omega : x.toNat < p.funcs.length)).ins1000 (by omega))) body26 rfl rfl rfl rfl (.fz rfl (.nil)) rfl (.inl rfl) rfl rfl rfl) rfl ?_
        refine k_op0 (d := 24) (b := 338) (j' := 7) rfl rfl rfl rfl (.plain rfl) (T_move rfl rfl) rfl ?_
        refine k_op0 (d := 31) (b := 354) (j' := 8) rfl rfl rfl rfl (.plain rfl) (T_extract rfl rfl rfl) rfl ?_
        refine k_op0 (d := 32) (b := 370) (j' := 9) rfl rfl rfl rfl (.plain rfl) (T_extract rfl rfl rfl) rfl ?_
        refine k_opn (d := 5) (b := 386) (j' := 10) rfl rfl rfl rfl (.plain rfl) (T_nilbox [(72, 5)] (T_alloc D rfl rfl rfl) rfl (.cons (.same _) <| .cons (.nil rfl) <| .nil) (upd' := [(386, .box 29 [.v (.int .i64 0), .r 387]), (387, .row 72 5 (List.map eBlock ([] : List (GBlock))))]) (nn' := 2) rfl rfl) rfl ?_
        refine k_st1 (b := 402) (j' := 11) rfl rfl rfl rfl (.plain rfl) (T_stB D (cs' := [_, _]) rfl rfl rfl rfl flat_agg rfl rfl (Nat.le_of_ble_eq_true rfl) rfl) rfl ?_
        refine k_op0 (d := 6) (b := 418) (j' := 12) rfl rfl rfl rfl (.plain rfl) (T_assign rfl rfl) rfl ?_
        refine k_done rfl ?_
        refine thenK_n ?_
        refine W_seq ?_
        refine W_seqK (b' := 562) rfl rfl ?_
        refine k_op0 (d := 34) (b := 434) (j' := 1) rfl rfl rfl rfl (.plain rfl) (T_load_bA D (l := [_, _]) rfl rfl rfl rfl rfl rfl rfl) rfl ?_
        refine k_opn (d := 35) (b := 450) (j' := 2) rfl rfl rfl rfl (.plain rfl) (T_call (lvs := [_]) (L := [(1, 322)]) (lv := .tup [.agg [.v _, .r 450], .r 451]) (upd := [(450, .row 72 5 _), (451, .fz 1 _), (322, .fz 5 _)]) (nn := 2) false (tidy_spec (tidyG (p.funcs.getD x.toNat default)) (by have := (small_fn (c := 150) (by assumption : smallG p 150 = true) (by omega) (by omega : x.toNat < p.funcs.length)).len; have := heads_le (p.funcs.getD x.toNat default); rw [tidyG_length]; omega) (tidy_vf (small_fn (c := 150) (by assumption : smallG p 150 = true) (by omega) (by omega : x.toNat < p.funcs.length)).vf).inN (fun b hb => by have q := tidy_ins (small_fn (c := 150) (by assumption : smallG p 150 = true) (by omega) (by omega : x.toNat < p.funcs.length)).vf (c := 150) (small_sz (by assumption : smallG p 150 = true) (by omega) (by omega)) b hb; omega)) body26 rfl rfl rfl rfl (.lend rfl (.nil)) rfl (.inl rfl) rfl rfl rfl) rfl ?_
        refine k_op0 (d := 33) (b := 466) (j' := 3) rfl rfl rfl rfl (.plain rfl) (T_move rfl rfl) rfl ?_
        refine k_op0 (d := 36) (b := 482) (j' := 4) rfl rfl rfl rfl (.plain rfl) (T_extract rfl rfl rfl) rfl ?_
        refine k_op0 (d := 37) (b := 498) (j' := 5) rfl rfl rfl rfl (.plain rfl) (T_extract rfl rfl rfl) rfl ?_
        refine k_opn (d := 7) (b := 514) (j' := 6) rfl rfl rfl rfl (.plain rfl) (T_nilbox [(72, 5)] (T_alloc D rfl rfl rfl) rfl (.cons (.same _) <| .cons (.nil rfl) <| .nil) (upd' := [(514, .box 29 [.v (.int .i64 0), .r 515]), (515, .row 72 5 (List.map eBlock ([] : List (GBlock))))]) (nn' := 2) rfl rfl) rfl ?_
        refine k_st1 (b := 530) (j' := 7) rfl rfl rfl rfl (.plain rfl) (T_stB D (cs' := [_, _]) rfl rfl rfl rfl flat_agg rfl rfl (Nat.le_of_ble_eq_true rfl) rfl) rfl ?_
        refine k_op0 (d := 8) (b := 546) (j' := 8) rfl rfl rfl rfl (.plain rfl) (T_assign rfl rfl) rfl ?_
        refine k_done rfl ?_
        refine thenK_n ?_
        refine W_seq ?_
        refine W_seq ?_
        refine W_seqK (b' := 754) rfl rfl ?_
        refine k_op0 (d := 38) (b := 562) (j' := 1) rfl rfl rfl rfl (.plain rfl) (T_load_bA D (l := [_, _]) rfl rfl rfl rfl rfl rfl rfl) rfl ?_
        refine k_op0 (d := 39) (b := 578) (j' := 2) rfl rfl rfl rfl (.plain rfl) (T_load_bA D (l := [_, _]) rfl rfl rfl rfl rfl rfl rfl) rfl ?_
        refine k_op0 (d := 40) (b := 594) (j' := 3) rfl rfl rfl rfl (.plain rfl) (T_callV (lvs := [_, _]) (L := [(1, 322), (2, 450)]) (same_spec (tidyG (p.funcs.getD x.toNat default)) (tidyG (tidyG (p.funcs.getD x.toNat default))) (by have := (small_fn (c := 150) (by assumption : smallG p 150 = true) (by omega) (by omega : x.toNat < p.funcs.length)).len; have := heads_le (p.funcs.getD x.toNat default); rw [tidyG_length]; omega) (fun b hb => by have q := tidy_ins (small_fn (c := 150) (by assumption : smallG p 150 = true) (by omega) (by omega : x.toNat < p.funcs.length)).vf (c := 150) (small_sz (by assumption : smallG p 150 = true) (by omega) (by omega)) b hb; omega)) body28 rfl rfl rfl rfl (.fz rfl (.lend rfl (.nil))) rfl) rfl ?_
        refine k_op0 (d := 41) (b := 610) (j' := 4) rfl rfl rfl rfl (.plain rfl) (T_not rfl rfl) rfl ?_
        refine k_op0 (d := 42) (b := 626) (j' := 5) rfl rfl rfl rfl (.plain rfl) (T_move rfl rfl) rfl ?_
        refine k_split (d := 42) rfl (fun g5 => ?_) (fun g5 => ?_)
        · have h5 := g5; (try simp only [cmpB, decide_eq_true_eq, decide_eq_false_iff_not, beq_iff_eq, beq_eq_false_iff_ne, bne_iff_ne, ne_eq, bne_eq_false_iff_eq, Bool.not_eq_true', Bool.not_eq_false', Int.not_lt, Int.not_le] at h5)
          refine k_no (d := 43) (j' := 6) rfl rfl rfl (g_ft rfl rfl rfl g5) ?_
          refine k_no (d := 44) (j' := 7) rfl rfl rfl (g_ft rfl rfl rfl g5) ?_
          refine k_no (d := 45) (j' := 8) rfl rfl rfl (g_ft rfl rfl rfl g5) ?_
          refine k_no (d := 46) (j' := 9) rfl rfl rfl (g_ft rfl rfl rfl g5) ?_
          refine k_no (d := 47) (j' := 10) rfl rfl rfl (g_ft rfl rfl rfl g5) ?_
          refine k_no (d := 48) (j' := 11) rfl rfl rfl (g_ft rfl rfl rfl g5) ?_
          refine k_op0 (d := 49) (b := 738) (j' := 12) rfl rfl rfl rfl (.plain rfl) (T_pick_t rfl rfl rfl g5) rfl ?_
          refine k_done rfl ?_
          refine thenK_n ?_
          refine W_cond rfl (fun g6 => ?_) (fun g6 => ?_)
          · skip
            refine W_seq ?_
            refine W_seqK (b' := 770) rfl rfl ?_
            refine k_op0 (d := 4) (b := 754) (j' := 1) rfl rfl rfl rfl (.plain rfl) (T_assign rfl rfl) rfl ?_
            refine k_done rfl ?_
            refine thenK_n ?_
            refine W_ret ?_
            refine thenK_r ?_
            -- end 3
            exact .mk [] (.inr rfl) (.tmp rfl (.nil)) (by first | rfl | exact absurd g1 (by decide) | exact absurd (tidy_twice (small_fn (c := 150) (by assumption : smallG p 150 = true) (by omega) (by omega : x.toNat < p.funcs.length)).vf).symm (by assumption) | (exfalso; have q := twice_len (small_fn (c := 150) (by assumption : smallG p 150 = true) (by omega) (by omega : x.toNat < p.funcs.length)).vf; omega) | exact absurd (twice_at hS.vf (k := j) (by omega)) (by assumption) | (exfalso; have q := twice_reach hS.vf (k := j) (by omega); exact absurd (q.symm.trans (by assumption : _ = false)) (by decide)) | simp [resLV, LV.ren]) (.nil) rfl
          · exact absurd (g6.symm.trans rfl) (by decide)
        · have h5 := g5; (try simp only [cmpB, decide_eq_true_eq, decide_eq_false_iff_not, beq_iff_eq, beq_eq_false_iff_ne, bne_iff_ne, ne_eq, bne_eq_false_iff_eq, Bool.not_eq_true', Bool.not_eq_false', Int.not_lt, Int.not_le] at h5)
          refine k_op0 (d := 43) (b := 642) (j' := 6) rfl rfl rfl rfl (g_ff rfl rfl rfl g5) (T_move rfl rfl) rfl ?_
          refine k_op0 (d := 44) (b := 658) (j' := 7) rfl rfl rfl rfl (g_ff rfl rfl rfl g5) (T_len D rfl rfl rfl rfl rfl rfl) rfl ?_
          refine k_op0 (d := 45) (b := 674) (j' := 8) rfl rfl rfl rfl (g_ff rfl rfl rfl g5) (T_fa D (m := 1) rfl rfl rfl rfl rfl rfl) rfl ?_
          refine k_op0 (d := 46) (b := 690) (j' := 9) rfl rfl rfl rfl (g_ff rfl rfl rfl g5) (T_load_b D rfl rfl rfl rfl rfl rfl) rfl ?_
          refine k_op0 (d := 47) (b := 706) (j' := 10) rfl rfl rfl rfl (g_ff rfl rfl rfl g5) (T_len D rfl rfl rfl rfl rfl rfl) rfl ?_
          refine k_op0 (d := 48) (b := 722) (j' := 11) rfl rfl rfl rfl (g_ff rfl rfl rfl g5) (T_cmp rfl rfl rfl rfl) rfl ?_
          refine k_op0 (d := 49) (b := 738) (j' := 12) rfl rfl rfl rfl (.plain rfl) (T_pick_f rfl rfl rfl g5) rfl ?_
          refine k_done rfl ?_
          refine thenK_n ?_
          refine W_cond rfl (fun g7 => ?_) (fun g7 => ?_)
          · have h7 := g7; (try simp only [cmpB, decide_eq_true_eq, decide_eq_false_iff_not, beq_iff_eq, beq_eq_false_iff_ne, bne_iff_ne, ne_eq, bne_eq_false_iff_eq, Bool.not_eq_true', Bool.not_eq_false', Int.not_lt, Int.not_le] at h7)
            refine W_seq ?_
            refine W_seqK (b' := 770) rfl rfl ?_
            refine k_op0 (d := 4) (b := 754) (j' := 1) rfl rfl rfl rfl (.plain rfl) (T_assign rfl rfl) rfl ?_
            refine k_done rfl ?_
            refine thenK_n ?_
            refine W_ret ?_
            refine thenK_r ?_
            -- end 4
            exact .mk [] (.inr rfl) (.tmp rfl (.nil)) (by first | rfl | exact absurd g1 (by decide) | exact absurd (tidy_twice (small_fn (c := 150) (by assumption : smallG p 150 = true) (by omega) (by omega : x.toNat < p.funcs.length)).vf).symm (by assumption) | (exfalso; have q := twice_len (small_fn (c := 150) (by assumption : smallG p 150 = true) (by omega) (by omega : x.toNat < p.funcs.length)).vf; omega) | exact absurd (twice_at hS.vf (k := j) (by omega)) (by assumption) | (exfalso; have q := twice_reach hS.vf (k := j) (by omega); exact absurd (q.symm.trans (by assumption : _ = false)) (by decide)) | simp [resLV, LV.ren]) (.nil) rfl
          · have h7 := g7; (try simp only [cmpB, decide_eq_true_eq, decide_eq_false_iff_not, beq_iff_eq, beq_eq_false_iff_ne, bne_iff_ne, ne_eq, bne_eq_false_iff_eq, Bool.not_eq_true', Bool.not_eq_false', Int.not_lt, Int.not_le] at h7)
            refine W_skip ?_
            refine thenK_n ?_
            refine W_seq ?_
            refine W_seqK (b' := 818) rfl rfl ?_
            refine k_op0 (d := 50) (b := 754) (j' := 1) rfl rfl rfl rfl (.plain rfl) (T_load_bA D (l := [_, _]) rfl rfl rfl rfl rfl rfl rfl) rfl ?_
            refine k_op1 (d := 51) (b := 770) (j' := 2) rfl rfl rfl rfl (.plain rfl) (T_call (lvs := [_]) (L := [(1, 322)]) (lv := .r 770) (upd := [(770, .row 52 1 _)]) (nn := 1) false (rnext_spec (tidyG (p.funcs.getD x.toNat default)) (by have := (small_fn (c := 150) (by assumption : smallG p 150 = true) (by omega) (by omega : x.toNat < p.funcs.length)).len; have := heads_le (p.funcs.getD x.toNat default); rw [tidyG_length]; omega)) body38 rfl rfl rfl rfl (.fz rfl (.nil)) rfl (.inl rfl) rfl rfl rfl) rfl ?_
            refine k_op1 (d := 52) (b := 786) (j' := 3) rfl rfl rfl rfl (.plain rfl) (T_callR (lvs := [_]) (L := [(1, 770)]) (keep := true) (rreach_spec (nextL (tidyG (p.funcs.getD x.toNat default))) (by have := (small_fn (c := 150) (by assumption : smallG p 150 = true) (by omega) (by omega : x.toNat < p.funcs.length)).len; have := heads_le (p.funcs.getD x.toNat default); rw [nextL_length, tidyG_length]; omega) (fun l h => by have := follows_le _ l h; omega)) body37 rfl rfl rfl rfl (.lend rfl (.nil)) rfl (.inr (flat_eB _)) rfl) rfl ?_
            refine k_op0 (d := 9) (b := 802) (j' := 4) rfl rfl rfl rfl (.plain rfl) (T_assign rfl rfl) rfl ?_
            refine k_done rfl ?_
            refine thenK_n ?_
            refine W_seq ?_
            refine W_seq ?_
            refine W_seqK (b' := 834) rfl rfl ?_
            refine k_op0 (d := 10) (b := 818) (j' := 1) rfl rfl rfl rfl (.plain rfl) (T_assign rfl rfl) rfl ?_
            refine k_done rfl ?_
            refine thenK_n ?_
            refine W_block ?_
            have hS := (small_fn (c := 150) (by assumption : smallG p 150 = true) (by omega) (by omega : x.toNat < p.funcs.length))
            have hS40 := hS.len
            have hgl := tidyG_length (p.funcs.getD x.toNat default)
            have hhl := heads_le (p.funcs.getD x.toNat default)
            have htl := twice_len hS.vf
            have hrl := reachN_length (nextL (tidyG (p.funcs.getD x.toNat default)))
            have hnl := nextL_length (tidyG (p.funcs.getD x.toNat default))
            refine W_loop (ι := Nat) 4 (fun j => ⟨[(8, .r 2), (9, .r 3), (10, .v (.int .i64 (j : Int)))], [(1, .fz 2 (p.funcs.map eFn)), (2, .fz 1 ((pathsL (tidyG (p.funcs.getD x.toNat default))).map eIs)), (3, .row 4 1 ((reachN (nextL (tidyG (p.funcs.getD x.toNat default)))).map eB))]⟩) (fun j => j ≤ (pathsL (tidyG (p.funcs.getD x.toNat default))).length) (fun j => (pathsL (tidyG (p.funcs.getD x.toNat default))).length - j) (0) (by exact Nat.zero_le _) ?_ (fun j hJ => ?_)
            · exact ⟨[(2, 451), (3, 786)], .same rfl rfl (.same rfl rfl (.eq rfl (.nil) (by first | rfl | simp))), .fzE rfl (.fzE rfl (.rowE rfl (.nil) (by first | rfl | simp)) (by first | rfl | simp)) (by first | rfl | simp), rfl⟩
            refine W_seq ?_
            refine W_seq ?_
            refine W_seqK (b' := 68) rfl rfl ?_
            refine k_op0 (d := 53) (b := 4) (j' := 1) rfl rfl rfl rfl (.plain rfl) (T_move rfl rfl) rfl ?_
            refine k_op0 (d := 54) (b := 20) (j' := 2) rfl rfl rfl rfl (.plain rfl) (T_move rfl rfl) rfl ?_
            refine k_op0 (d := 55) (b := 36) (j' := 3) rfl rfl rfl rfl (.plain rfl) (T_len D rfl rfl rfl rfl rfl rfl) rfl ?_
            refine k_op0 (d := 56) (b := 52) (j' := 4) rfl rfl rfl rfl (.plain rfl) (T_cmp rfl rfl rfl rfl) rfl ?_
            refine k_done rfl ?_
            refine thenK_n ?_
            refine W_cond rfl (fun g8 => ?_) (fun g8 => ?_)
            · have h8 := g8; (try simp only [cmpB, decide_eq_true_eq, decide_eq_false_iff_not, beq_iff_eq, beq_eq_false_iff_ne, bne_iff_ne, ne_eq, bne_eq_false_iff_eq, Bool.not_eq_true', Bool.not_eq_false', Int.not_lt, Int.not_le] at h8)
              refine W_skip ?_
              refine thenK_n ?_
              refine W_seq ?_
              refine W_block ?_
              refine W_seq ?_
              refine W_seqK (b' := 308) rfl rfl ?_
              refine k_op0 (d := 59) (b := 68) (j' := 1) rfl rfl rfl rfl (.plain rfl) (T_move rfl rfl) rfl ?_
              refine k_op0 (d := 60) (b := 84) (j' := 2) rfl rfl rfl rfl (.plain rfl) (T_move rfl rfl) rfl ?_
              first | refine k_op0 (d := 61) (b := 100) (j' := 3) rfl rfl rfl rfl (.plain rfl) (T_indexAddr D rfl rfl rfl rfl rfl rfl rfl rfl (by first | assumption | omega | (simp; omega))) rfl ?_ | refine k_op0 (d := 61) (b := 100) (j' := 3) rfl rfl rfl rfl (.plain rfl) (T_indexAddrZ D rfl rfl rfl rfl rfl rfl rfl rfl (by first | assumption | omega | (simp; omega)) (by first | assumption | omega | (simp; omega))) rfl ?_
              refine k_op1 (d := 62) (b := 116) (j' := 4) rfl rfl rfl rfl (.plain rfl) (T_ldE D (lv := .r 116) (nn := 1) (upd := [(116, .fz 1 _)]) rfl rfl rfl rfl rfl (by first | assumption | omega | (simp; omega)) rfl rfl rfl rfl) rfl ?_
              refine k_op0 (d := 63) (b := 132) (j' := 5) rfl rfl rfl rfl (.plain rfl) (T_move rfl rfl) rfl ?_
              refine k_op1 (d := 64) (b := 148) (j' := 6) rfl rfl rfl rfl (.plain rfl) (T_bs D (ys := [_]) (enc := eI) (l := [_]) rfl rfl rfl rfl rfl rfl (.cons rfl (flat_v rfl) (.nil)) rfl rfl rfl rfl (.v rfl (.nil)) rfl rfl) rfl ?_
              refine k_op0 (d := 65) (b := 164) (j' := 7) rfl rfl rfl rfl (.plain rfl) (T_callV (lvs := [_, _]) (L := [(1, 116), (2, 148)]) (list_spec ((pathsL (tidyG (p.funcs.getD x.toNat default))).getD j default) [(j : Int)] (by rw [twice_at hS.vf (by omega)]; simp)) body39 rfl rfl rfl rfl (.fz rfl (.lend rfl (.nil))) rfl) rfl ?_
              refine k_op0 (d := 66) (b := 180) (j' := 8) rfl rfl rfl rfl (.plain rfl) (T_not rfl rfl) rfl ?_
              refine k_op0 (d := 67) (b := 196) (j' := 9) rfl rfl rfl rfl (.plain rfl) (T_move rfl rfl) rfl ?_
              refine k_split (d := 67) rfl (fun g9 => ?_) (fun g9 => ?_)
              · have h9 := g9; (try simp only [cmpB, decide_eq_true_eq, decide_eq_false_iff_not, beq_iff_eq, beq_eq_false_iff_ne, bne_iff_ne, ne_eq, bne_eq_false_iff_eq, Bool.not_eq_true', Bool.not_eq_false', Int.not_lt, Int.not_le] at h9)
                refine k_no (d := 68) (j' := 10) rfl rfl rfl (g_ft rfl rfl rfl g9) ?_
                refine k_no (d := 69) (j' := 11) rfl rfl rfl (g_ft rfl rfl rfl g9) ?_
                refine k_no (d := 70) (j' := 12) rfl rfl rfl (g_ft rfl rfl rfl g9) ?_
                refine k_no (d := 71) (j' := 13) rfl rfl rfl (g_ft rfl rfl rfl g9) ?_
                refine k_no (d := 72) (j' := 14) rfl rfl rfl (g_ft rfl rfl rfl g9) ?_
                refine k_op0 (d := 73) (b := 292) (j' := 15) rfl rfl rfl rfl (.plain rfl) (T_pick_t rfl rfl rfl g9) rfl ?_
                refine k_done rfl ?_
                refine thenK_n ?_
                refine W_cond rfl (fun g10 => ?_) (fun g10 => ?_)
                · skip
                  refine W_seq ?_
                  refine W_seqK (b' := 324) rfl rfl ?_
                  refine k_op0 (d := 4) (b := 308) (j' := 1) rfl rfl rfl rfl (.plain rfl) (T_assign rfl rfl) rfl ?_
                  refine k_done rfl ?_
                  refine thenK_n ?_
                  refine W_ret ?_
                  refine blockK_r ?_
                  refine thenK_r ?_
                  refine thenK_r ?_
                  refine blockK_r ?_
                  refine thenK_r ?_
                  -- end 5
                  exact .mk [] (.inr rfl) (.tmp rfl (.nil)) (by first | rfl | exact absurd g1 (by decide) | exact absurd (tidy_twice (small_fn (c := 150) (by assumption : smallG p 150 = true) (by omega) (by omega : x.toNat < p.funcs.length)).vf).symm (by assumption) | (exfalso; have q := twice_len (small_fn (c := 150) (by assumption : smallG p 150 = true) (by omega) (by omega : x.toNat < p.funcs.length)).vf; omega) | exact absurd (twice_at hS.vf (k := j) (by omega)) (by assumption) | (exfalso; have q := twice_reach hS.vf (k := j) (by omega); exact absurd (q.symm.trans (by assumption : _ = false)) (by decide)) | simp [resLV, LV.ren]) (.nil) rfl
                · exact absurd (g10.symm.trans rfl) (by decide)
              · have h9 := g9; (try simp only [cmpB, decide_eq_true_eq, decide_eq_false_iff_not, beq_iff_eq, beq_eq_false_iff_ne, bne_iff_ne, ne_eq, bne_eq_false_iff_eq, Bool.not_eq_true', Bool.not_eq_false', Int.not_lt, Int.not_le] at h9)
                refine k_op0 (d := 68) (b := 212) (j' := 10) rfl rfl rfl rfl (g_ff rfl rfl rfl g9) (T_move rfl rfl) rfl ?_
                refine k_op0 (d := 69) (b := 228) (j' := 11) rfl rfl rfl rfl (g_ff rfl rfl rfl g9) (T_move rfl rfl) rfl ?_
                first | refine k_op0 (d := 70) (b := 244) (j' := 12) rfl rfl rfl rfl (g_ff rfl rfl rfl g9) (T_indexAddr D rfl rfl rfl rfl rfl rfl rfl rfl (by first | assumption | omega | (simp; omega))) rfl ?_ | refine k_op0 (d := 70) (b := 244) (j' := 12) rfl rfl rfl rfl (g_ff rfl rfl rfl g9) (T_indexAddrZ D rfl rfl rfl rfl rfl rfl rfl rfl (by first | assumption | omega | (simp; omega)) (by first | assumption | omega | (simp; omega))) rfl ?_
                refine k_op0 (d := 71) (b := 260) (j' := 13) rfl rfl rfl rfl (g_ff rfl rfl rfl g9) (T_ldE D (lv := .v _) (nn := 0) (upd := []) rfl rfl rfl rfl rfl (by first | assumption | omega | (simp; omega)) rfl rfl rfl rfl) rfl ?_
                refine k_op0 (d := 72) (b := 276) (j' := 14) rfl rfl rfl rfl (g_ff rfl rfl rfl g9) (T_not rfl rfl) rfl ?_
                refine k_op0 (d := 73) (b := 292) (j' := 15) rfl rfl rfl rfl (.plain rfl) (T_pick_f rfl rfl rfl g9) rfl ?_
                refine k_done rfl ?_
                refine thenK_n ?_
                refine W_cond rfl (fun g11 => ?_) (fun g11 => ?_)
                · have h11 := g11; (try simp only [cmpB, decide_eq_true_eq, decide_eq_false_iff_not, beq_iff_eq, beq_eq_false_iff_ne, bne_iff_ne, ne_eq, bne_eq_false_iff_eq, Bool.not_eq_true', Bool.not_eq_false', Int.not_lt, Int.not_le] at h11)
                  refine W_seq ?_
                  refine W_seqK (b' := 324) rfl rfl ?_
                  refine k_op0 (d := 4) (b := 308) (j' := 1) rfl rfl rfl rfl (.plain rfl) (T_assign rfl rfl) rfl ?_
                  refine k_done rfl ?_
                  refine thenK_n ?_
                  refine W_ret ?_
                  refine blockK_r ?_
                  refine thenK_r ?_
                  refine thenK_r ?_
                  refine blockK_r ?_
                  refine thenK_r ?_
                  -- end 6
                  exact .mk [] (.inr rfl) (.tmp rfl (.nil)) (by first | rfl | exact absurd g1 (by decide) | exact absurd (tidy_twice (small_fn (c := 150) (by assumption : smallG p 150 = true) (by omega) (by omega : x.toNat < p.funcs.length)).vf).symm (by assumption) | (exfalso; have q := twice_len (small_fn (c := 150) (by assumption : smallG p 150 = true) (by omega) (by omega : x.toNat < p.funcs.length)).vf; omega) | exact absurd (twice_at hS.vf (k := j) (by omega)) (by assumption) | (exfalso; have q := twice_reach hS.vf (k := j) (by omega); exact absurd (q.symm.trans (by assumption : _ = false)) (by decide)) | simp [resLV, LV.ren]) (.nil) rfl
                · have h11 := g11; (try simp only [cmpB, decide_eq_true_eq, decide_eq_false_iff_not, beq_iff_eq, beq_eq_false_iff_ne, bne_iff_ne, ne_eq, bne_eq_false_iff_eq, Bool.not_eq_true', Bool.not_eq_false', Int.not_lt, Int.not_le] at h11)
                  refine W_skip ?_
                  refine blockK_n ?_
                  refine thenK_n ?_
                  refine W_seqK (b' := 356) rfl rfl ?_
                  refine k_op0 (d := 57) (b := 308) (j' := 1) rfl rfl rfl rfl (.plain rfl) (T_move rfl rfl) rfl ?_
                  refine k_op0 (d := 58) (b := 324) (j' := 2) rfl rfl rfl rfl (.plain rfl) (T_add64 rfl rfl rfl (by first | assumption | omega | (simp; omega))) rfl ?_
                  refine k_op0 (d := 10) (b := 340) (j' := 3) rfl rfl rfl rfl (.plain rfl) (T_assign rfl rfl) rfl ?_
                  refine k_done rfl ?_
                  refine thenK_n ?_
                  refine ⟨j + 1, by (try dsimp only); omega, by (try dsimp only); omega, ?_⟩
                  exact ⟨[(2, 2), (3, 3)], .same rfl rfl (.same rfl rfl (.eq rfl (.nil) (by first | rfl | simp))), .fzE rfl (.fzE rfl (.rowE rfl (.nil) (by first | rfl | simp)) (by first | rfl | simp)) (by first | rfl | simp), rfl⟩
            · have h8 := g8; (try simp only [cmpB, decide_eq_true_eq, decide_eq_false_iff_not, beq_iff_eq, beq_eq_false_iff_ne, bne_iff_ne, ne_eq, bne_eq_false_iff_eq, Bool.not_eq_true', Bool.not_eq_false', Int.not_lt, Int.not_le] at h8)
              refine W_exit ?_
              refine thenK_e ?_
              refine thenK_e ?_
              refine blockK_hit ?_
              refine thenK_n ?_
              refine W_seq ?_
              refine W_seqK (b' := 84) rfl rfl ?_
              refine k_op0 (d := 4) (b := 68) (j' := 1) rfl rfl rfl rfl (.plain rfl) (T_assign rfl rfl) rfl ?_
              refine k_done rfl ?_
              refine thenK_n ?_
              refine W_ret ?_
              -- end 7
              exact .mk [] (.inr rfl) (.tmp rfl (.nil)) (by first | rfl | exact absurd g1 (by decide) | exact absurd (tidy_twice (small_fn (c := 150) (by assumption : smallG p 150 = true) (by omega) (by omega : x.toNat < p.funcs.length)).vf).symm (by assumption) | (exfalso; have q := twice_len (small_fn (c := 150) (by assumption : smallG p 150 = true) (by omega) (by omega : x.toNat < p.funcs.length)).vf; omega) | exact absurd (twice_at hS.vf (k := j) (by omega)) (by assumption) | (exfalso; have q := twice_reach hS.vf (k := j) (by omega); exact absurd (q.symm.trans (by assumption : _ = false)) (by decide)) | simp [resLV, LV.ren]) (.nil) rfl
end Lg
end Go.Proofs.Ytpfhmodjjljpjaa
