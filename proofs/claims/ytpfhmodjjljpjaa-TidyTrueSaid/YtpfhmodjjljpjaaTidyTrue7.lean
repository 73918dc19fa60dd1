import Derived.Test.YtpfhmodjjljpjaaTidyTrue6
set_option linter.unusedVariables false
set_option linter.unusedSimpArgs false
namespace Go.Proofs.Ytpfhmodjjljpjaa
open Go.RowKit
namespace Lg
set_option maxRecDepth 100000
set_option linter.unusedVariables false
set_option linter.unusedSimpArgs false
theorem body35 : (Try.prog.funcs[35]?).map (fun fn => (fn.name == "runtime.NumGoroutine" || fn.body.isNone)) = some false := by kernel_rfl
theorem right_spec (p : GProg) (hp : PgOk p) : Spec Try.prog 35 [.agg [.v (.int .i64 p.words), .r 1]] 2 [(1, .fz 2 (p.funcs.map eFn))] (.v (.bool (rightB p))) 2 [] := by
 have hp1 := hp.1
 refine spec_of D (fn := Try.f35) rfl rfl (Nat.le_of_ble_eq_true rfl) ?_
 refine W_seq ?_
 refine W_seqK (b' := 34) rfl rfl ?_
 refine q1 1 2 1 rfl rfl (T_box rfl rfl flat_agg) rfl ?_
 refine q0 2 18 2 rfl rfl (T_assign rfl rfl) rfl ?_
 refine k_done rfl ?_
 refine thenK_n ?_
 refine W_seq ?_
 refine W_seq ?_
 refine W_seqK (b' := 258) rfl rfl ?_
 refine q0 4 34 1 rfl rfl (T_fa D (m := 0) rfl rfl rfl rfl rfl rfl) rfl ?_
 refine q0 5 50 2 rfl rfl (T_load_b D rfl rfl rfl rfl rfl rfl) rfl ?_
 refine q0 6 66 3 rfl rfl (T_cmp rfl rfl rfl rfl) rfl ?_
 refine q0 7 82 4 rfl rfl (T_move rfl rfl) rfl ?_
 refine k_split (d := 7) rfl (fun g1 => ?_) (fun g1 => ?_)
 ·have h1 := c_lss_t g1
  refine k_no (d := 8) (j' := 5) rfl rfl rfl (g_ft rfl rfl rfl g1) ?_
  refine k_no (d := 9) (j' := 6) rfl rfl rfl (g_ft rfl rfl rfl g1) ?_
  refine k_no (d := 10) (j' := 7) rfl rfl rfl (g_ft rfl rfl rfl g1) ?_
  refine q0 11 146 8 rfl rfl (T_pick_t rfl rfl rfl g1) rfl ?_
  refine q0 12 162 9 rfl rfl (T_move rfl rfl) rfl ?_
  refine k_no (d := 13) (j' := 10) rfl rfl rfl (g_ft rfl rfl rfl rfl) ?_
  refine k_no (d := 14) (j' := 11) rfl rfl rfl (g_ft rfl rfl rfl rfl) ?_
  refine k_no (d := 15) (j' := 12) rfl rfl rfl (g_ft rfl rfl rfl rfl) ?_
  refine k_no (d := 16) (j' := 13) rfl rfl rfl (g_ft rfl rfl rfl rfl) ?_
  refine q0 17 242 14 rfl rfl (T_pick_t rfl rfl rfl rfl) rfl ?_
  refine k_done rfl ?_
  refine thenK_n ?_
  refine W_cond rfl (fun g2 => ?_) (fun g2 => ?_)
  ·skip
   refine W_seq ?_
   refine W_seqK (b' := 274) rfl rfl ?_
   refine q0 2 258 1 rfl rfl (T_assign rfl rfl) rfl ?_
   refine k_done rfl ?_
   refine thenK_n ?_
   refine W_ret ?_
   refine thenK_r ?_
   exact .mk [] (.inr rfl) (.tmp rfl (.nil)) (by first | rfl | (simp only [resLV, LV.ren, LV.v.injEq, Value.bool.injEq]; first | exact right_no1 (by omega) | exact right_no2 (j := j) (by omega) (by assumption) | exact right_yes (by omega) (by omega) (fun i h => hJ.2 i (by omega)))) (.nil) rfl
  ·exact absurd (g2.symm.trans rfl) (by decide)
 ·have h1 := c_lss_f g1
  refine k_op0 (d := 8) (b := 98) (j' := 5) rfl rfl rfl rfl (g_ff rfl rfl rfl g1) (T_fa D (m := 0) rfl rfl rfl rfl rfl rfl) rfl ?_
  refine k_op0 (d := 9) (b := 114) (j' := 6) rfl rfl rfl rfl (g_ff rfl rfl rfl g1) (T_load_b D rfl rfl rfl rfl rfl rfl) rfl ?_
  refine k_op0 (d := 10) (b := 130) (j' := 7) rfl rfl rfl rfl (g_ff rfl rfl rfl g1) (T_cmp rfl rfl rfl rfl) rfl ?_
  refine q0 11 146 8 rfl rfl (T_pick_f rfl rfl rfl g1) rfl ?_
  refine q0 12 162 9 rfl rfl (T_move rfl rfl) rfl ?_
  refine k_split (d := 12) rfl (fun g3 => ?_) (fun g3 => ?_)
  ·have h3 := c_gtr_t g3
   refine k_no (d := 13) (j' := 10) rfl rfl rfl (g_ft rfl rfl rfl g3) ?_
   refine k_no (d := 14) (j' := 11) rfl rfl rfl (g_ft rfl rfl rfl g3) ?_
   refine k_no (d := 15) (j' := 12) rfl rfl rfl (g_ft rfl rfl rfl g3) ?_
   refine k_no (d := 16) (j' := 13) rfl rfl rfl (g_ft rfl rfl rfl g3) ?_
   refine q0 17 242 14 rfl rfl (T_pick_t rfl rfl rfl g3) rfl ?_
   refine k_done rfl ?_
   refine thenK_n ?_
   refine W_cond rfl (fun g4 => ?_) (fun g4 => ?_)
   ·skip
    refine W_seq ?_
    refine W_seqK (b' := 274) rfl rfl ?_
    refine q0 2 258 1 rfl rfl (T_assign rfl rfl) rfl ?_
    refine k_done rfl ?_
    refine thenK_n ?_
    refine W_ret ?_
    refine thenK_r ?_
    exact .mk [] (.inr rfl) (.tmp rfl (.nil)) (by first | rfl | (simp only [resLV, LV.ren, LV.v.injEq, Value.bool.injEq]; first | exact right_no1 (by omega) | exact right_no2 (j := j) (by omega) (by assumption) | exact right_yes (by omega) (by omega) (fun i h => hJ.2 i (by omega)))) (.nil) rfl
   ·exact absurd (g4.symm.trans rfl) (by decide)
  ·have h3 := c_gtr_f g3
   refine k_op0 (d := 13) (b := 178) (j' := 10) rfl rfl rfl rfl (g_ff rfl rfl rfl g3) (T_fa D (m := 1) rfl rfl rfl rfl rfl rfl) rfl ?_
   refine k_op0 (d := 14) (b := 194) (j' := 11) rfl rfl rfl rfl (g_ff rfl rfl rfl g3) (T_load_b D rfl rfl rfl rfl rfl rfl) rfl ?_
   refine k_op0 (d := 15) (b := 210) (j' := 12) rfl rfl rfl rfl (g_ff rfl rfl rfl g3) (T_len D rfl rfl rfl rfl rfl rfl) rfl ?_
   refine k_op0 (d := 16) (b := 226) (j' := 13) rfl rfl rfl rfl (g_ff rfl rfl rfl g3) (T_cmp rfl rfl rfl rfl) rfl ?_
   refine q0 17 242 14 rfl rfl (T_pick_f rfl rfl rfl g3) rfl ?_
   refine k_done rfl ?_
   refine thenK_n ?_
   refine W_cond rfl (fun g5 => ?_) (fun g5 => ?_)
   ·have h5 := c_eql_t g5
    refine W_seq ?_
    refine W_seqK (b' := 274) rfl rfl ?_
    refine q0 2 258 1 rfl rfl (T_assign rfl rfl) rfl ?_
    refine k_done rfl ?_
    refine thenK_n ?_
    refine W_ret ?_
    refine thenK_r ?_
    exact .mk [] (.inr rfl) (.tmp rfl (.nil)) (by first | rfl | (simp only [resLV, LV.ren, LV.v.injEq, Value.bool.injEq]; first | exact right_no1 (by omega) | exact right_no2 (j := j) (by omega) (by assumption) | exact right_yes (by omega) (by omega) (fun i h => hJ.2 i (by omega)))) (.nil) rfl
   ·have h5 := c_eql_f g5
    refine W_skip ?_
    refine thenK_n ?_
    refine W_seq ?_
    refine W_seq ?_
    refine W_seqK (b' := 274) rfl rfl ?_
    refine q0 3 258 1 rfl rfl (T_assign rfl rfl) rfl ?_
    refine k_done rfl ?_
    refine thenK_n ?_
    refine W_block ?_
    refine W_loop (ι := Nat) 3 (fun j => ⟨[(1, .p 2 0), (3, .v (.int .i64 (j : Int)))], [(1, .fz 2 (p.funcs.map eFn)), (2, .box 24 [.v (.int .i64 p.words), .r 1])]⟩) (fun j => j ≤ p.funcs.length ∧ ∀ i, i < j → oneB (p.funcs.getD i default) (i : Int) p.words = true) (fun j => p.funcs.length - j) (0) (by exact ⟨Nat.zero_le _, fun i h => absurd h (Nat.not_lt_zero _)⟩) ?_ (fun j hJ => ?_)
    ·exact ⟨[(2, 2)], .same rfl rfl (.eq rfl (.nil) (by first | rfl | simp)), .fzE rfl (.box (by first | rfl | simp) (.nil)) (by first | rfl | simp), rfl⟩
    refine W_seq ?_
    refine W_seq ?_
    refine W_seqK (b' := 83) rfl rfl ?_
    refine q0 18 3 1 rfl rfl (T_move rfl rfl) rfl ?_
    refine q0 19 19 2 rfl rfl (T_fa D (m := 1) rfl rfl rfl rfl rfl rfl) rfl ?_
    refine q0 20 35 3 rfl rfl (T_load_b D rfl rfl rfl rfl rfl rfl) rfl ?_
    refine q0 21 51 4 rfl rfl (T_len D rfl rfl rfl rfl rfl rfl) rfl ?_
    refine q0 22 67 5 rfl rfl (T_cmp rfl rfl rfl rfl) rfl ?_
    refine k_done rfl ?_
    refine thenK_n ?_
    refine W_cond rfl (fun g6 => ?_) (fun g6 => ?_)
    ·have h6 := c_lss_t g6
     refine W_skip ?_
     refine thenK_n ?_
     refine W_seq ?_
     refine W_block ?_
     refine W_seq ?_
     refine W_anyK (b' := 243) rfl rfl rfl ?_
     refine q0 25 83 1 rfl rfl (T_fa D (m := 1) rfl rfl rfl rfl rfl rfl) rfl ?_
     refine q0 26 99 2 rfl rfl (T_load_b D rfl rfl rfl rfl rfl rfl) rfl ?_
     refine q0 27 115 3 rfl rfl (T_move rfl rfl) rfl ?_
     first | refine q0 28 131 4 rfl rfl (T_indexAddr D rfl rfl rfl rfl rfl rfl rfl rfl (by first | assumption | omega | (simp; omega))) rfl ?_ | refine q0 28 131 4 rfl rfl (T_indexAddrZ D rfl rfl rfl rfl rfl rfl rfl rfl (by first | assumption | omega | (simp; omega)) (by first | assumption | omega | (simp; omega))) rfl ?_
     refine q1 29 147 5 rfl rfl (T_ldEA D (l := [.v _, .r 147]) (nn := 1) (upd := [(147, .fz 5 _)]) rfl rfl rfl rfl rfl (by first | assumption | omega | (simp; omega)) rfl rfl rfl rfl rfl) rfl ?_
     refine q0 30 163 6 rfl rfl (T_move rfl rfl) rfl ?_
     refine q0 31 179 7 rfl rfl (T_fa D (m := 0) rfl rfl rfl rfl rfl rfl) rfl ?_
     refine q0 32 195 8 rfl rfl (T_load_b D rfl rfl rfl rfl rfl rfl) rfl ?_
     refine q0 33 211 9 rfl rfl (T_callV (lvs := [_, _, _]) (L := [(1, 147)]) (one_fn_spec _ _ _ (hp.2 _ (getD_mem (by omega))) (by omega)) body47 rfl rfl rfl rfl (.fz rfl (.nil)) rfl) rfl ?_
     refine q0 34 227 10 rfl rfl (T_not rfl rfl) rfl ?_
     refine k_done rfl ?_
     refine ⟨rfl, ?_⟩
     refine thenK_n ?_
     refine W_cond rfl (fun g7 => ?_) (fun g7 => ?_)
     ·have h7 := g7; (try simp only [cmpB, decide_eq_true_eq, decide_eq_false_iff_not, beq_iff_eq, beq_eq_false_iff_ne, bne_iff_ne, ne_eq, bne_eq_false_iff_eq, Bool.not_eq_true', Bool.not_eq_false', Int.not_lt, Int.not_le] at h7)
      refine W_seq ?_
      refine W_seqK (b' := 259) rfl rfl ?_
      refine q0 2 243 1 rfl rfl (T_assign rfl rfl) rfl ?_
      refine k_done rfl ?_
      refine thenK_n ?_
      refine W_ret ?_
      refine blockK_r ?_
      refine thenK_r ?_
      refine thenK_r ?_
      refine blockK_r ?_
      refine thenK_r ?_
      exact .mk [] (.inr rfl) (.tmp rfl (.nil)) (by first | rfl | (simp only [resLV, LV.ren, LV.v.injEq, Value.bool.injEq]; first | exact right_no1 (by omega) | exact right_no2 (j := j) (by omega) (by assumption) | exact right_yes (by omega) (by omega) (fun i h => hJ.2 i (by omega)))) (.nil) rfl
     ·have h7 := g7; (try simp only [cmpB, decide_eq_true_eq, decide_eq_false_iff_not, beq_iff_eq, beq_eq_false_iff_ne, bne_iff_ne, ne_eq, bne_eq_false_iff_eq, Bool.not_eq_true', Bool.not_eq_false', Int.not_lt, Int.not_le] at h7)
      refine W_skip ?_
      refine blockK_n ?_
      refine thenK_n ?_
      refine W_seqK (b' := 291) rfl rfl ?_
      refine q0 23 243 1 rfl rfl (T_move rfl rfl) rfl ?_
      refine q0 24 259 2 rfl rfl (T_add64 rfl rfl rfl (by first | assumption | omega | (simp; omega))) rfl ?_
      refine q0 3 275 3 rfl rfl (T_assign rfl rfl) rfl ?_
      refine k_done rfl ?_
      refine thenK_n ?_
      refine ⟨j + 1, by (try dsimp only); exact ⟨by omega, fun i1 h => by rcases Nat.lt_or_ge i1 j with h0 | h0; exact hJ.2 i1 h0; rw [show i1 = j by omega]; assumption⟩, by (try dsimp only); omega, ?_⟩
      exact ⟨[(2, 2)], .same rfl rfl (.eq rfl (.nil) (by first | rfl | simp)), .fzE rfl (.box (by first | rfl | simp) (.nil)) rfl, rfl⟩
    ·have h6 := c_lss_f g6
     refine W_exit ?_
     refine thenK_e ?_
     refine thenK_e ?_
     refine blockK_hit ?_
     refine thenK_n ?_
     refine W_seq ?_
     refine W_seqK (b' := 99) rfl rfl ?_
     refine q0 2 83 1 rfl rfl (T_assign rfl rfl) rfl ?_
     refine k_done rfl ?_
     refine thenK_n ?_
     refine W_ret ?_
     exact .mk [] (.inr rfl) (.tmp rfl (.nil)) (by first | rfl | (simp only [resLV, LV.ren, LV.v.injEq, Value.bool.injEq]; first | exact right_no1 (by omega) | exact right_no2 (j := j) (by omega) (by assumption) | exact right_yes (by omega) (by omega) (fun i h => hJ.2 i (by omega)))) (.nil) rfl
theorem body25 : (Try.prog.funcs[25]?).map (fun fn => (fn.name == "runtime.NumGoroutine" || fn.body.isNone)) = some false := by kernel_rfl
theorem small30_spec (p : GProg) (most : Int) (hp : PgOk p) : Spec Try.prog 25 [.agg [.v (.int .i64 p.words), .r 1], .v (.int .i64 most)] 2 [(1, .fz 2 (p.funcs.map eFn))] (.v (.bool (smallG p most))) 2 [] := by
 have hp1 := hp.1
 refine spec_of D (fn := Try.f25) rfl rfl (Nat.le_of_ble_eq_true rfl) ?_
 refine W_seq ?_
 refine W_seqK (b' := 34) rfl rfl ?_
 refine q1 2 2 1 rfl rfl (T_box rfl rfl flat_agg) rfl ?_
 refine q0 4 18 2 rfl rfl (T_assign rfl rfl) rfl ?_
 refine k_done rfl ?_
 refine thenK_n ?_
 refine W_seq ?_
 refine W_seqK (b' := 50) rfl rfl ?_
 refine q0 5 34 1 rfl rfl (T_assign rfl rfl) rfl ?_
 refine k_done rfl ?_
 refine thenK_n ?_
 refine W_seq ?_
 refine W_seq ?_
 refine W_seqK (b' := 194) rfl rfl ?_
 refine q0 8 50 1 rfl rfl (T_fa D (m := 0) rfl rfl rfl rfl rfl rfl) rfl ?_
 refine q0 9 66 2 rfl rfl (T_load_b D rfl rfl rfl rfl rfl rfl) rfl ?_
 refine q0 10 82 3 rfl rfl (T_cmp rfl rfl rfl rfl) rfl ?_
 refine q0 11 98 4 rfl rfl (T_move rfl rfl) rfl ?_
 refine k_split (d := 11) rfl (fun g1 => ?_) (fun g1 => ?_)
 ·have h1 := c_gtr_t g1
  refine k_no (d := 12) (j' := 5) rfl rfl rfl (g_ft rfl rfl rfl g1) ?_
  refine k_no (d := 13) (j' := 6) rfl rfl rfl (g_ft rfl rfl rfl g1) ?_
  refine k_no (d := 14) (j' := 7) rfl rfl rfl (g_ft rfl rfl rfl g1) ?_
  refine k_no (d := 15) (j' := 8) rfl rfl rfl (g_ft rfl rfl rfl g1) ?_
  refine q0 16 178 9 rfl rfl (T_pick_t rfl rfl rfl g1) rfl ?_
  refine k_done rfl ?_
  refine thenK_n ?_
  refine W_cond rfl (fun g2 => ?_) (fun g2 => ?_)
  ·skip
   refine W_seq ?_
   refine W_seqK (b' := 210) rfl rfl ?_
   refine q0 4 194 1 rfl rfl (T_assign rfl rfl) rfl ?_
   refine k_done rfl ?_
   refine thenK_n ?_
   refine W_ret ?_
   refine thenK_r ?_
   exact .mk [] (.inr rfl) (.tmp rfl (.nil)) (by first | rfl | (simp only [resLV, LV.ren, LV.v.injEq, Value.bool.injEq]; first | exact small_no1 (by omega) | exact small_no2 (j := j) (by omega) (by omega) | exact small_yes (by omega) (fun i h => hJ.2 i (by omega)) (by have e : j = p.funcs.length := (by omega); subst e; first | rfl | (rw [decide_eq_true (by omega)]; rfl) | (rw [decide_eq_false (by omega)]; rfl) | (simp [*, cmpB]; done)))) (.nil) rfl
  ·exact absurd (g2.symm.trans rfl) (by decide)
 ·have h1 := c_gtr_f g1
  refine k_op0 (d := 12) (b := 114) (j' := 5) rfl rfl rfl rfl (g_ff rfl rfl rfl g1) (T_fa D (m := 1) rfl rfl rfl rfl rfl rfl) rfl ?_
  refine k_op0 (d := 13) (b := 130) (j' := 6) rfl rfl rfl rfl (g_ff rfl rfl rfl g1) (T_load_b D rfl rfl rfl rfl rfl rfl) rfl ?_
  refine k_op0 (d := 14) (b := 146) (j' := 7) rfl rfl rfl rfl (g_ff rfl rfl rfl g1) (T_len D rfl rfl rfl rfl rfl rfl) rfl ?_
  refine k_op0 (d := 15) (b := 162) (j' := 8) rfl rfl rfl rfl (g_ff rfl rfl rfl g1) (T_cmp rfl rfl rfl rfl) rfl ?_
  refine q0 16 178 9 rfl rfl (T_pick_f rfl rfl rfl g1) rfl ?_
  refine k_done rfl ?_
  refine thenK_n ?_
  refine W_cond rfl (fun g3 => ?_) (fun g3 => ?_)
  ·have h3 := c_gtr_t g3
   refine W_seq ?_
   refine W_seqK (b' := 210) rfl rfl ?_
   refine q0 4 194 1 rfl rfl (T_assign rfl rfl) rfl ?_
   refine k_done rfl ?_
   refine thenK_n ?_
   refine W_ret ?_
   refine thenK_r ?_
   exact .mk [] (.inr rfl) (.tmp rfl (.nil)) (by first | rfl | (simp only [resLV, LV.ren, LV.v.injEq, Value.bool.injEq]; first | exact small_no1 (by omega) | exact small_no2 (j := j) (by omega) (by omega) | exact small_yes (by omega) (fun i h => hJ.2 i (by omega)) (by have e : j = p.funcs.length := (by omega); subst e; first | rfl | (rw [decide_eq_true (by omega)]; rfl) | (rw [decide_eq_false (by omega)]; rfl) | (simp [*, cmpB]; done)))) (.nil) rfl
  ·have h3 := c_gtr_f g3
   refine W_skip ?_
   refine thenK_n ?_
   refine W_seq ?_
   refine W_seq ?_
   refine W_seqK (b' := 210) rfl rfl ?_
   refine q0 6 194 1 rfl rfl (T_assign rfl rfl) rfl ?_
   refine k_done rfl ?_
   refine thenK_n ?_
   refine W_block ?_
   refine W_loop (ι := Nat) 3 (fun j => ⟨[(1, .v (.int .i64 most)), (2, .p 2 0), (5, .v (.int .i64 (szP p j : Int))), (6, .v (.int .i64 (j : Int)))], [(1, .fz 2 (p.funcs.map eFn)), (2, .box 24 [.v (.int .i64 p.words), .r 1])]⟩) (fun j => (j ≤ p.funcs.length ∧ szP p j ≤ j * 5629499534049320) ∧ ∀ i, i < j → (p.funcs.getD i default).regs ≤ 60 ∧ ((p.funcs.getD i default).blocks.length : Int) ≤ 40) (fun j => p.funcs.length - j) (0) (by exact ⟨⟨Nat.zero_le _, by simp [szP]⟩, fun i h => absurd h (Nat.not_lt_zero _)⟩) ?_ (fun j hJ => ?_)
   ·exact ⟨[(2, 2)], .eq rfl (.same rfl rfl (.eq rfl (.eq rfl (.nil) (by first | rfl | simp)) (by first | rfl | simp))) (by first | rfl | simp), .fzE rfl (.box (by first | rfl | simp) (.nil)) (by first | rfl | simp), rfl⟩
   have hfo := fun h => hp.2 (p.funcs.getD j default) (getD_mem h)
   have hsp := fun h => szP_succ (p := p) (j := j) h
   refine W_seq ?_
   refine W_seq ?_
   refine W_seqK (b' := 83) rfl rfl ?_
   refine q0 17 3 1 rfl rfl (T_move rfl rfl) rfl ?_
   refine q0 18 19 2 rfl rfl (T_fa D (m := 1) rfl rfl rfl rfl rfl rfl) rfl ?_
   refine q0 19 35 3 rfl rfl (T_load_b D rfl rfl rfl rfl rfl rfl) rfl ?_
   refine q0 20 51 4 rfl rfl (T_len D rfl rfl rfl rfl rfl rfl) rfl ?_
   refine q0 21 67 5 rfl rfl (T_cmp rfl rfl rfl rfl) rfl ?_
   refine k_done rfl ?_
   refine thenK_n ?_
   refine W_cond rfl (fun g4 => ?_) (fun g4 => ?_)
   ·have h4 := c_lss_t g4
    refine W_skip ?_
    refine thenK_n ?_
    refine W_seq ?_
    refine W_block ?_
    refine W_seq ?_
    refine W_seq ?_
    refine W_seqK (b' := 355) rfl rfl ?_
    refine q0 24 83 1 rfl rfl (T_fa D (m := 1) rfl rfl rfl rfl rfl rfl) rfl ?_
    refine q0 25 99 2 rfl rfl (T_load_b D rfl rfl rfl rfl rfl rfl) rfl ?_
    refine q0 26 115 3 rfl rfl (T_move rfl rfl) rfl ?_
    first | refine q0 27 131 4 rfl rfl (T_indexAddr D rfl rfl rfl rfl rfl rfl rfl rfl (by first | assumption | omega | (simp; omega))) rfl ?_ | refine q0 27 131 4 rfl rfl (T_indexAddrZ D rfl rfl rfl rfl rfl rfl rfl rfl (by first | assumption | omega | (simp; omega)) (by first | assumption | omega | (simp; omega))) rfl ?_
    refine q0 28 147 5 rfl rfl (T_fae D (m := 0) rfl rfl rfl rfl rfl rfl) rfl ?_
    refine q0 29 163 6 rfl rfl (T_ldE D (lv := .v _) (nn := 0) (upd := []) rfl rfl rfl rfl rfl (by first | assumption | omega | (simp; omega)) rfl rfl rfl rfl) rfl ?_
    refine q0 30 179 7 rfl rfl (T_cmp rfl rfl rfl rfl) rfl ?_
    refine q0 31 195 8 rfl rfl (T_move rfl rfl) rfl ?_
    refine k_split (d := 31) rfl (fun g5 => ?_) (fun g5 => ?_)
    ·have h5 := c_gtr_t g5
     refine k_no (d := 32) (j' := 9) rfl rfl rfl (g_ft rfl rfl rfl g5) ?_
     refine k_no (d := 33) (j' := 10) rfl rfl rfl (g_ft rfl rfl rfl g5) ?_
     refine k_no (d := 34) (j' := 11) rfl rfl rfl (g_ft rfl rfl rfl g5) ?_
     refine k_no (d := 35) (j' := 12) rfl rfl rfl (g_ft rfl rfl rfl g5) ?_
     refine k_no (d := 36) (j' := 13) rfl rfl rfl (g_ft rfl rfl rfl g5) ?_
     refine k_no (d := 37) (j' := 14) rfl rfl rfl (g_ft rfl rfl rfl g5) ?_
     refine k_no (d := 38) (j' := 15) rfl rfl rfl (g_ft rfl rfl rfl g5) ?_
     refine k_no (d := 39) (j' := 16) rfl rfl rfl (g_ft rfl rfl rfl g5) ?_
     refine q0 40 339 17 rfl rfl (T_pick_t rfl rfl rfl g5) rfl ?_
     refine k_done rfl ?_
     refine thenK_n ?_
     refine W_cond rfl (fun g6 => ?_) (fun g6 => ?_)
     ·skip
      refine W_seq ?_
      refine W_seqK (b' := 371) rfl rfl ?_
      refine q0 4 355 1 rfl rfl (T_assign rfl rfl) rfl ?_
      refine k_done rfl ?_
      refine thenK_n ?_
      refine W_ret ?_
      refine thenK_r ?_
      refine blockK_r ?_
      refine thenK_r ?_
      refine thenK_r ?_
      refine blockK_r ?_
      refine thenK_r ?_
      exact .mk [] (.inr rfl) (.tmp rfl (.nil)) (by first | rfl | (simp only [resLV, LV.ren, LV.v.injEq, Value.bool.injEq]; first | exact small_no1 (by omega) | exact small_no2 (j := j) (by omega) (by omega) | exact small_yes (by omega) (fun i h => hJ.2 i (by omega)) (by have e : j = p.funcs.length := (by omega); subst e; first | rfl | (rw [decide_eq_true (by omega)]; rfl) | (rw [decide_eq_false (by omega)]; rfl) | (simp [*, cmpB]; done)))) (.nil) rfl
     ·exact absurd (g6.symm.trans rfl) (by decide)
    ·have h5 := c_gtr_f g5
     refine k_op0 (d := 32) (b := 211) (j' := 9) rfl rfl rfl rfl (g_ff rfl rfl rfl g5) (T_fa D (m := 1) rfl rfl rfl rfl rfl rfl) rfl ?_
     refine k_op0 (d := 33) (b := 227) (j' := 10) rfl rfl rfl rfl (g_ff rfl rfl rfl g5) (T_load_b D rfl rfl rfl rfl rfl rfl) rfl ?_
     refine k_op0 (d := 34) (b := 243) (j' := 11) rfl rfl rfl rfl (g_ff rfl rfl rfl g5) (T_move rfl rfl) rfl ?_
     first | refine k_op0 (d := 35) (b := 259) (j' := 12) rfl rfl rfl rfl (g_ff rfl rfl rfl g5) (T_indexAddr D rfl rfl rfl rfl rfl rfl rfl rfl (by first | assumption | omega | (simp; omega))) rfl ?_ | refine k_op0 (d := 35) (b := 259) (j' := 12) rfl rfl rfl rfl (g_ff rfl rfl rfl g5) (T_indexAddrZ D rfl rfl rfl rfl rfl rfl rfl rfl (by first | assumption | omega | (simp; omega)) (by first | assumption | omega | (simp; omega))) rfl ?_
     refine k_op0 (d := 36) (b := 275) (j' := 13) rfl rfl rfl rfl (g_ff rfl rfl rfl g5) (T_fae D (m := 1) rfl rfl rfl rfl rfl rfl) rfl ?_
     refine k_op1 (d := 37) (b := 291) (j' := 14) rfl rfl rfl rfl (g_ff rfl rfl rfl g5) (T_ldE D (lv := .r 291) (nn := 1) (upd := [(291, .fz 5 _)]) rfl rfl rfl rfl rfl (by first | assumption | omega | (simp; omega)) rfl rfl rfl rfl) rfl ?_
     refine k_op0 (d := 38) (b := 307) (j' := 15) rfl rfl rfl rfl (g_ff rfl rfl rfl g5) (T_len D rfl rfl rfl rfl rfl rfl) rfl ?_
     refine k_op0 (d := 39) (b := 323) (j' := 16) rfl rfl rfl rfl (g_ff rfl rfl rfl g5) (T_cmp rfl rfl rfl rfl) rfl ?_
     refine q0 40 339 17 rfl rfl (T_pick_f rfl rfl rfl g5) rfl ?_
     refine k_done rfl ?_
     refine thenK_n ?_
     refine W_cond rfl (fun g7 => ?_) (fun g7 => ?_)
     ·have h7 := c_gtr_t g7
      refine W_seq ?_
      refine W_seqK (b' := 371) rfl rfl ?_
      refine q0 4 355 1 rfl rfl (T_assign rfl rfl) rfl ?_
      refine k_done rfl ?_
      refine thenK_n ?_
      refine W_ret ?_
      refine thenK_r ?_
      refine blockK_r ?_
      refine thenK_r ?_
      refine thenK_r ?_
      refine blockK_r ?_
      refine thenK_r ?_
      exact .mk [] (.inr rfl) (.tmp rfl (.nil)) (by first | rfl | (simp only [resLV, LV.ren, LV.v.injEq, Value.bool.injEq]; first | exact small_no1 (by omega) | exact small_no2 (j := j) (by omega) (by omega) | exact small_yes (by omega) (fun i h => hJ.2 i (by omega)) (by have e : j = p.funcs.length := (by omega); subst e; first | rfl | (rw [decide_eq_true (by omega)]; rfl) | (rw [decide_eq_false (by omega)]; rfl) | (simp [*, cmpB]; done)))) (.nil) rfl
     ·have h7 := c_gtr_f g7
      refine W_skip ?_
      refine thenK_n ?_
      refine W_seq ?_
      refine W_seqK (b' := 371) rfl rfl ?_
      refine q0 7 355 1 rfl rfl (T_assign rfl rfl) rfl ?_
      refine k_done rfl ?_
      refine thenK_n ?_
      refine W_block ?_
      have hfj := hfo (by omega)
      refine W_loop (ι := Nat) 3 (fun i => ⟨[(1, .v (.int .i64 most)), (2, .p 2 0), (5, .v (.int .i64 ((szP p j + szB (p.funcs.getD j default) i : Nat) : Int))), (6, .v (.int .i64 (j : Int))), (7, .v (.int .i64 (i : Int)))], [(1, .fz 2 (p.funcs.map eFn)), (2, .box 24 [.v (.int .i64 p.words), .r 1])]⟩) (fun i => i ≤ (p.funcs.getD j default).blocks.length) (fun i => (p.funcs.getD j default).blocks.length - i) (0) (by exact Nat.zero_le _) ?_ (fun i hI => ?_)
      ·exact ⟨[(2, 2)], .eq rfl (.same rfl rfl (.eq rfl (.eq rfl (.eq rfl (.nil) (by first | rfl | simp [szB])) (by first | rfl | simp [szB])) (by first | rfl | simp [szB]))) (by first | rfl | simp [szB]), .fzE rfl (.box (by first | rfl | simp [szB]) (.nil)) (by first | rfl | simp [szB]), rfl⟩
      have hsi := szB_le hfj i hI
      have hss := fun h => szB_succ (f := p.funcs.getD j default) (i := i) h
      have hil := fun h => hfj.2 ((p.funcs.getD j default).blocks.getD i default) (getD_mem h)
      refine W_seq ?_
      refine W_seq ?_
      refine W_seqK (b' := 147) rfl rfl ?_
      refine q0 41 3 1 rfl rfl (T_move rfl rfl) rfl ?_
      refine q0 42 19 2 rfl rfl (T_fa D (m := 1) rfl rfl rfl rfl rfl rfl) rfl ?_
      refine q0 43 35 3 rfl rfl (T_load_b D rfl rfl rfl rfl rfl rfl) rfl ?_
      refine q0 44 51 4 rfl rfl (T_move rfl rfl) rfl ?_
      first | refine q0 45 67 5 rfl rfl (T_indexAddr D rfl rfl rfl rfl rfl rfl rfl rfl (by first | assumption | omega | (simp; omega))) rfl ?_ | refine q0 45 67 5 rfl rfl (T_indexAddrZ D rfl rfl rfl rfl rfl rfl rfl rfl (by first | assumption | omega | (simp; omega)) (by first | assumption | omega | (simp; omega))) rfl ?_
      refine q0 46 83 6 rfl rfl (T_fae D (m := 1) rfl rfl rfl rfl rfl rfl) rfl ?_
      refine q1 47 99 7 rfl rfl (T_ldE D (lv := .r 99) (nn := 1) (upd := [(99, .fz 5 _)]) rfl rfl rfl rfl rfl (by first | assumption | omega | (simp; omega)) rfl rfl rfl rfl) rfl ?_
      refine q0 48 115 8 rfl rfl (T_len D rfl rfl rfl rfl rfl rfl) rfl ?_
      refine q0 49 131 9 rfl rfl (T_cmp rfl rfl rfl rfl) rfl ?_
      refine k_done rfl ?_
      refine thenK_n ?_
      refine W_cond rfl (fun g8 => ?_) (fun g8 => ?_)
      ·have h8 := c_lss_t g8
       refine W_skip ?_
       refine thenK_n ?_
       refine W_seq ?_
       refine W_block ?_
       refine W_seqK (b' := 387) rfl rfl ?_
       refine q0 52 147 1 rfl rfl (T_move rfl rfl) rfl ?_
       refine q0 53 163 2 rfl rfl (T_add64 rfl rfl rfl (by first | assumption | omega | (simp; omega))) rfl ?_
       refine q0 54 179 3 rfl rfl (T_fa D (m := 1) rfl rfl rfl rfl rfl rfl) rfl ?_
       refine q0 55 195 4 rfl rfl (T_load_b D rfl rfl rfl rfl rfl rfl) rfl ?_
       refine q0 56 211 5 rfl rfl (T_move rfl rfl) rfl ?_
       first | refine q0 57 227 6 rfl rfl (T_indexAddr D rfl rfl rfl rfl rfl rfl rfl rfl (by first | assumption | omega | (simp; omega))) rfl ?_ | refine q0 57 227 6 rfl rfl (T_indexAddrZ D rfl rfl rfl rfl rfl rfl rfl rfl (by first | assumption | omega | (simp; omega)) (by first | assumption | omega | (simp; omega))) rfl ?_
       refine q0 58 243 7 rfl rfl (T_fae D (m := 1) rfl rfl rfl rfl rfl rfl) rfl ?_
       refine q1 59 259 8 rfl rfl (T_ldE D (lv := .r 259) (nn := 1) (upd := [(259, .fz 5 _)]) rfl rfl rfl rfl rfl (by first | assumption | omega | (simp; omega)) rfl rfl rfl rfl) rfl ?_
       refine q0 60 275 9 rfl rfl (T_move rfl rfl) rfl ?_
       first | refine q0 61 291 10 rfl rfl (T_indexAddr D rfl rfl rfl rfl rfl rfl rfl rfl (by first | assumption | omega | (simp; omega))) rfl ?_ | refine q0 61 291 10 rfl rfl (T_indexAddrZ D rfl rfl rfl rfl rfl rfl rfl rfl (by first | assumption | omega | (simp; omega)) (by first | assumption | omega | (simp; omega))) rfl ?_
       refine q0 62 307 11 rfl rfl (T_fae D (m := 0) rfl rfl rfl rfl rfl rfl) rfl ?_
       refine q1 63 323 12 rfl rfl (T_ldE D (lv := .r 323) (nn := 1) (upd := [(323, .fz 8 _)]) rfl rfl rfl rfl rfl (by first | assumption | omega | (simp; omega)) rfl rfl rfl rfl) rfl ?_
       refine q0 64 339 13 rfl rfl (T_len D rfl rfl rfl rfl rfl rfl) rfl ?_
       refine q0 65 355 14 rfl rfl (T_add64 rfl rfl rfl (by first | assumption | omega | (simp; omega))) rfl ?_
       refine q0 5 371 15 rfl rfl (T_assign rfl rfl) rfl ?_
       refine k_done rfl ?_
       refine blockK_n ?_
       refine thenK_n ?_
       refine W_seqK (b' := 435) rfl rfl ?_
       refine q0 50 387 1 rfl rfl (T_move rfl rfl) rfl ?_
       refine q0 51 403 2 rfl rfl (T_add64 rfl rfl rfl (by first | assumption | omega | (simp; omega))) rfl ?_
       refine q0 7 419 3 rfl rfl (T_assign rfl rfl) rfl ?_
       refine k_done rfl ?_
       refine thenK_n ?_
       refine ⟨i + 1, by (try dsimp only); omega, by (try dsimp only); omega, ?_⟩
       exact ⟨[(2, 2)], .eq rfl (.same rfl rfl (.eq rfl (.eq rfl (.eq rfl (.nil) (by first | rfl | (have hss2 := hss (by omega); congr 3; omega) | (have hss2 := hss (by omega); congr 2; omega))) rfl) (by first | rfl | (have hss2 := hss (by omega); congr 3; omega) | (have hss2 := hss (by omega); congr 2; omega)))) rfl, .fzE rfl (.box (by first | rfl | (have hss2 := hss (by omega); congr 3; omega) | (have hss2 := hss (by omega); congr 2; omega)) (.nil)) rfl, rfl⟩
      ·have h8 := c_lss_f g8
       refine W_exit ?_
       refine thenK_e ?_
       refine thenK_e ?_
       refine blockK_hit ?_
       refine blockK_n ?_
       refine thenK_n ?_
       refine W_seqK (b' := 195) rfl rfl ?_
       refine q0 22 147 1 rfl rfl (T_move rfl rfl) rfl ?_
       refine q0 23 163 2 rfl rfl (T_add64 rfl rfl rfl (by first | assumption | omega | (simp; omega))) rfl ?_
       refine q0 6 179 3 rfl rfl (T_assign rfl rfl) rfl ?_
       refine k_done rfl ?_
       refine thenK_n ?_
       have ei : i = (p.funcs.getD j default).blocks.length := by omega
       have hsp2 := hsp (by omega)
       refine ⟨j + 1, by (try dsimp only); exact ⟨⟨by omega, by rw [ei] at hsi; omega⟩, fun i1 h => by rcases Nat.lt_or_ge i1 j with h0 | h0; exact hJ.2 i1 h0; rw [show i1 = j by omega]; omega⟩, by (try dsimp only); omega, ?_⟩
       exact ⟨[(2, 2)], .eq rfl (.same rfl rfl (.eq rfl (.eq rfl (.nil) (by first | rfl | (rw [hsp2, ei]; first | done | rfl))) (by first | rfl | (rw [hsp2, ei]; first | done | rfl)))) rfl, .fzE rfl (.box (by first | rfl | (rw [hsp2, ei]; first | done | rfl)) (.nil)) rfl, rfl⟩
   ·have h4 := c_lss_f g4
    refine W_exit ?_
    refine thenK_e ?_
    refine thenK_e ?_
    refine blockK_hit ?_
    refine thenK_n ?_
    refine W_seq ?_
    refine W_seqK (b' := 211) rfl rfl ?_
    refine q0 66 83 1 rfl rfl (T_move rfl rfl) rfl ?_
    refine q0 67 99 2 rfl rfl (T_move rfl rfl) rfl ?_
    refine q0 68 115 3 rfl rfl (T_cmp rfl rfl rfl rfl) rfl ?_
    refine q0 69 131 4 rfl rfl (T_move rfl rfl) rfl ?_
    refine k_split (d := 69) rfl (fun g9 => ?_) (fun g9 => ?_)
    ·have h9 := c_leq_t g9
     refine k_op0 (d := 70) (b := 147) (j' := 5) rfl rfl rfl rfl (g_tt rfl rfl rfl g9) (T_load_bA D (l := [_, _]) rfl rfl rfl rfl rfl rfl rfl) rfl ?_
     refine k_op0 (d := 71) (b := 163) (j' := 6) rfl rfl rfl rfl (g_tt rfl rfl rfl g9) (T_callV (lvs := [_]) (L := [(1, 1)]) (right_spec _ hp) body35 rfl rfl rfl rfl (.fz rfl (.nil)) rfl) rfl ?_
     refine q0 72 179 7 rfl rfl (T_pick_t rfl rfl rfl g9) rfl ?_
     refine q0 4 195 8 rfl rfl (T_assign rfl rfl) rfl ?_
     refine k_done rfl ?_
     refine thenK_n ?_
     refine W_ret ?_
     exact .mk [] (.inr rfl) (.tmp rfl (.nil)) (by first | rfl | (simp only [resLV, LV.ren, LV.v.injEq, Value.bool.injEq]; first | exact small_no1 (by omega) | exact small_no2 (j := j) (by omega) (by omega) | exact small_yes (by omega) (fun i h => hJ.2 i (by omega)) (by have e : j = p.funcs.length := (by omega); subst e; first | rfl | (rw [decide_eq_true (by omega)]; rfl) | (rw [decide_eq_false (by omega)]; rfl) | (simp [*, cmpB]; done)))) (.nil) rfl
    ·have h9 := c_leq_f g9
     refine k_no (d := 70) (j' := 5) rfl rfl rfl (g_tf rfl rfl rfl g9) ?_
     refine k_no (d := 71) (j' := 6) rfl rfl rfl (g_tf rfl rfl rfl g9) ?_
     refine q0 72 179 7 rfl rfl (T_pick_f rfl rfl rfl g9) rfl ?_
     refine q0 4 195 8 rfl rfl (T_assign rfl rfl) rfl ?_
     refine k_done rfl ?_
     refine thenK_n ?_
     refine W_ret ?_
     exact .mk [] (.inr rfl) (.tmp rfl (.nil)) (by first | rfl | (simp only [resLV, LV.ren, LV.v.injEq, Value.bool.injEq]; first | exact small_no1 (by omega) | exact small_no2 (j := j) (by omega) (by omega) | exact small_yes (by omega) (fun i h => hJ.2 i (by omega)) (by have e : j = p.funcs.length := (by omega); subst e; first | rfl | (rw [decide_eq_true (by omega)]; rfl) | (rw [decide_eq_false (by omega)]; rfl) | (simp [*, cmpB]; done)))) (.nil) rfl
end Lg
end Go.Proofs.Ytpfhmodjjljpjaa

namespace Go.Proofs.Ytpfhmodjjljpjaa
open Go.RowKit
namespace Lg
structure SmallF (f : GFn) (c : Nat) : Prop where
  vf : VF f
  regs : 0 ≤ f.regs ∧ f.regs ≤ 60
  len : f.blocks.length ≤ 40
  ins : ∀ b ∈ f.blocks, b.ins.length ≤ c
theorem ins_le_szB {f : GFn} : ∀ {i : Nat}, i ≤ f.blocks.length → ∀ k, k < i → (f.blocks.getD k default).ins.length < szB f i
  | 0, _, k, hk => absurd hk (Nat.not_lt_zero _)
  | i + 1, hi, k, hk => by
    rw [szB_succ (f := f) (i := i) (by omega)]
    rcases Nat.lt_or_ge k i with h | h
    · have := ins_le_szB (f := f) (i := i) (by omega) k h; omega
    · have : k = i := by omega
      subst this; omega
theorem szB_le_szP {p : GProg} : ∀ {j : Nat}, j ≤ p.funcs.length → ∀ k, k < j → szB (p.funcs.getD k default) (p.funcs.getD k default).blocks.length ≤ szP p j
  | 0, _, k, hk => absurd hk (Nat.not_lt_zero _)
  | j + 1, hj, k, hk => by
    rw [szP_succ (p := p) (j := j) (by omega)]
    rcases Nat.lt_or_ge k j with h | h
    · have := szB_le_szP (p := p) (j := j) (by omega) k h; omega
    · have : k = j := by omega
      subst this; omega
theorem one_vf {f : GFn} {n w : Int} (h : oneB f n w = true) : VF f ∧ (0 ≤ f.regs ∧ f.regs ≤ 4000) := by
  simp only [oneB, Bool.and_eq_true, decide_eq_true_eq] at h
  obtain ⟨⟨h1, h2, h3⟩, h4⟩ := h
  refine ⟨⟨List.length_pos_iff.2 h3, fun k hk => ?_⟩, h1, h2⟩
  have := List.all_eq_true.1 h4 _ (getD_mem hk)
  simp only [blockB, Bool.and_eq_true] at this
  exact this.1
theorem right_one {p : GProg} (h : rightB p = true) {i : Nat} (hi : i < p.funcs.length) : oneB (p.funcs.getD i default) (i : Int) p.words = true := by
  simp only [rightB, Bool.and_eq_true] at h
  exact List.all_eq_true.1 h.2 i (by simpa using hi)
theorem smallG_iff {p : GProg} {most : Int} (h : smallG p most = true) : (p.words ≤ 500 ∧ (p.funcs.length : Int) ≤ 10) ∧ (∀ i, i < p.funcs.length → (p.funcs.getD i default).regs ≤ 60 ∧ ((p.funcs.getD i default).blocks.length : Int) ≤ 40) ∧ (szP p p.funcs.length : Int) ≤ most ∧ rightB p = true := by
  simp only [smallG, Bool.and_eq_true, decide_eq_true_eq] at h
  obtain ⟨⟨⟨h1, h2⟩, h3⟩, h4⟩ := h
  refine ⟨h1, fun i hi => ?_, h3, h4⟩
  have := all_iff_getD.1 h2 i hi
  simpa [smallF, -List.getD_eq_getElem?_getD] using this
theorem small_fn {p : GProg} {most : Int} (h : smallG p most = true) {c : Nat} (hc : most ≤ c) {i : Nat} (hi : i < p.funcs.length) : SmallF (p.funcs.getD i default) c := by
  obtain ⟨h1, h2, h3, h4⟩ := smallG_iff h
  have h5 := one_vf (right_one h4 hi)
  have h6 := h2 i hi
  refine ⟨h5.1, ⟨h5.2.1, h6.1⟩, by omega, fun b hb => ?_⟩
  obtain ⟨k, hk, rfl⟩ := mem_getD hb
  have h7 := ins_le_szB (Nat.le_refl _) k hk
  have h8 := szB_le_szP (Nat.le_refl _) i hi
  omega
theorem SmallF.ins1000 {f : GFn} {c : Nat} (h : SmallF f c) (hc : c ≤ 1000) : ∀ b ∈ f.blocks, b.ins.length ≤ 1000 := fun b hb => by have := h.ins b hb; omega
def srcsI (next : List (List Int)) (k j i : Nat) : List Int := srcs next k j ++ List.replicate (((next.getD j default).take i).count (k : Int)) (j : Int)
def lastS (l : List Int) : Int := l.getLastD (-1)
theorem srcsI_zero (next : List (List Int)) (k j : Nat) : srcsI next k j 0 = srcs next k j := by simp [srcsI]
theorem srcs_succ (next : List (List Int)) (k j : Nat) : srcs next k (j + 1) = srcsI next k j (next.getD j default).length := by
  simp [srcsI, srcs, List.range_succ, List.take_of_length_le]
theorem srcsI_t {next : List (List Int)} {k j i : Nat} (hi : i < (next.getD j default).length) (h : (next.getD j default).getD i default = (k : Int)) : srcsI next k j (i + 1) = srcsI next k j i ++ [(j : Int)] := by
  unfold srcsI
  rw [take_succ_getD hi, h, List.count_append, List.count_singleton_self, List.replicate_succ', List.append_assoc]
theorem srcsI_f {next : List (List Int)} {k j i : Nat} (hi : i < (next.getD j default).length) (h : ¬ (next.getD j default).getD i default = (k : Int)) : srcsI next k j (i + 1) = srcsI next k j i := by
  unfold srcsI
  have h0 : [(next.getD j default).getD i default].count (k : Int) = 0 := List.count_eq_zero.2 (fun hm => h (List.mem_singleton.1 hm).symm)
  rw [take_succ_getD hi, List.count_append, h0, Nat.add_zero]
theorem lastS_snoc (l : List Int) (x : Int) : lastS (l ++ [x]) = x := by
  unfold lastS
  rw [List.getLastD_eq_getLast?]
  simp
theorem srcsI_le {next : List (List Int)} (h : ∀ l ∈ next, l.length ≤ 2) (k : Nat) : ∀ (j i : Nat), (srcsI next k j i).length ≤ 2 * j + i
  | 0, i => by
    have : ((next.getD 0 default).take i).count (k : Int) ≤ ((next.getD 0 default).take i).length := List.count_le_length
    simp only [srcsI, srcs, List.range_zero, List.flatMap_nil, List.nil_append, List.length_replicate]
    rw [List.length_take] at this; omega
  | j + 1, i => by
    have h1 := srcsI_le h k j (next.getD j default).length
    have h2 : ((next.getD (j + 1) default).take i).count (k : Int) ≤ ((next.getD (j + 1) default).take i).length := List.count_le_length
    have h3 : (next.getD j default).length ≤ 2 := by
      by_cases hj : j < next.length
      · exact h _ (getD_mem hj)
      · rw [List.getD_eq_getElem?_getD, List.getElem?_eq_none (by omega)]; exact Nat.zero_le _
    rw [← srcs_succ] at h1
    unfold srcsI
    rw [List.length_append, List.length_replicate]
    rw [List.length_take] at h2
    omega
theorem srcs_le {next : List (List Int)} (h : ∀ l ∈ next, l.length ≤ 2) (k j : Nat) : (srcs next k j).length ≤ 2 * j := by
  have := srcsI_le h k j 0
  rw [srcsI_zero] at this; omega
theorem srcs_one {next : List (List Int)} {k m : Nat} (h : (srcs next k m).length = 1) : ∃ j : Nat, j < m ∧ srcs next k m = [(j : Int)] ∧ lastS (srcs next k m) = (j : Int) := by
  obtain ⟨x, hx⟩ := List.length_eq_one_iff.1 h
  have hm : x ∈ srcs next k m := by rw [hx]; simp
  obtain ⟨j, h1, rfl, _⟩ := mem_srcs.1 hm
  exact ⟨j, h1, hx, by rw [hx]; rfl⟩
theorem heads_le (f : GFn) : (headsL f).length ≤ f.blocks.length := by
  unfold headsL
  exact Nat.le_trans (List.length_filter_le _ _) (by simp)
theorem most_no {f : GFn} (h : VF f) {k m : Nat} (hk0 : 1 ≤ k) (hk : k < (tidyG f).blocks.length) (hm : m = (nextL (tidyG f)).length) (hc : (srcs (nextL (tidyG f)) k m).length = 0 ∨ ((srcs (nextL (tidyG f)) k m).length = 1 ∧ ¬ lastS (srcs (nextL (tidyG f)) k m) = (k : Int) ∧ ((tidyG f).blocks.getD (lastS (srcs (nextL (tidyG f)) k m)).toNat default).fin = 1)) : False := by
  have e : m = (headsL f).length := by rw [hm, nextL_length, tidyG_length]
  subst e
  rw [tidyG_length] at hk
  obtain ⟨h1, h2⟩ := tidy_most h hk hk0
  rcases hc with hc | ⟨c1, c2, c3⟩
  · exact h1 (List.eq_nil_of_length_eq_zero hc)
  · obtain ⟨j, j1, j2, j3⟩ := srcs_one c1
    rw [j3] at c2 c3
    exact h2 j j2 (by omega) (by simpa [-List.getD_eq_getElem?_getD] using c3)
end Lg
end Go.Proofs.Ytpfhmodjjljpjaa

namespace Go.Proofs.Ytpfhmodjjljpjaa
open Go.RowKit
namespace Lg
set_option linter.unusedSimpArgs false
set_option linter.unusedVariables false
theorem RowsRd.subs {w : World} {ok : Nat → Prop} {sz : Nat} {rows : List (List Cell)} {cells : List Value} (hR : RowsRd w ok sz rows cells) {l h : Nat} (h1 : l ≤ h) (h2 : h ≤ rows.length) : RowsRd w ok sz (sub rows l h) ((cells.drop (l * sz)).take ((h - l) * sz)) := by
  have hm : (h - l) * sz + l * sz ≤ rows.length * sz := by
    rw [← Nat.add_mul]; exact Nat.mul_le_mul_right _ (by omega)
  have hsl := sub_length h1 h2
  refine ⟨by rw [hsl, List.length_take, List.length_drop, hR.len]; omega, fun i r hi => ?_⟩
  obtain ⟨h3, h4⟩ := hR.each (l + i) r (sub_at hi)
  have hil : i < h - l := by rw [← hsl]; exact (List.getElem?_eq_some_iff.1 hi).1
  refine ⟨h3, fun j cl hj => ?_⟩
  obtain ⟨u, h5, h6⟩ := h4 j cl hj
  have hjl : j < sz := by rw [← h3]; exact (List.getElem?_eq_some_iff.1 hj).1
  have hlt : i * sz + j < (h - l) * sz := by
    have : (i + 1) * sz ≤ (h - l) * sz := Nat.mul_le_mul_right _ hil
    rw [Nat.succ_mul] at this; omega
  refine ⟨u, ?_, h6⟩
  rw [List.getElem?_take, if_pos hlt, List.getElem?_drop, show l * sz + (i * sz + j) = (l + i) * sz + j by rw [Nat.add_mul]; omega]
  exact h5
theorem sub_tail {α : Type} (l : List α) : sub l 1 l.length = l.drop 1 := by
  unfold sub
  rw [List.take_of_length_le (by rw [List.length_drop]; omega)]
section
variable {P : Program} {N b : Nat} {o : Oper} {st : St} (D : Tab P)
theorem T_slO {α : Type} {enc : α → List Cell} {xs : List α} {t i e sz l h : Nat} {x : Operand} {lo hi mx : Option Operand} {vl vh vm : Option Value} {ty ety : TyI} (ho : o.op = .slice t x lo hi mx) (hx : st.ev x = some (.r i)) (hob : st.o.lookup i = some (.row e sz (xs.map enc))) (hlo : oev st lo = some (vl.map .v)) (hhi : oev st hi = some (vh.map .v)) (hmx : oev st mx = some (vm.map .v))
    (hi' : D.get t = some ty) (he0 : (ty.elem == 0) = false) (he : D.get ty.elem = some ety) (hs : ety.size = sz) (h1 : l ≤ h) (h2 : h ≤ xs.length) (hb : SlB P xs.length l h vl vh vm) :
    T P N o b [i] st (.r b) 1 [(b, .row e sz ((sub xs l h).map enc)), (i, .no)] := by
  intro w0 M U ρ own st' a w hev hp hfrs fr hr
  obtain ⟨hv, hu⟩ := fr.eval ((hev x (by simp [ho, Op.operands])).trans hx)
  have e1 := opt_eval (st := st) fr (x := lo) (fun y hy => hev y (by simp [ho, Op.operands, hy])) hlo
  have e2 := opt_eval (st := st) fr (x := hi) (fun y hy => hev y (by simp [ho, Op.operands, hy])) hhi
  have e3 := opt_eval (st := st) fr (x := mx) (fun y hy => hev y (by simp [ho, Op.operands, hy])) hmx
  have hoi := (hp i (by simp)).trans hob
  obtain ⟨⟨hs0, cells, q1, q2, q3⟩, hUi, _⟩ := hr.ob i _ hoi
  have hlen : (xs.map enc).length = xs.length := by simp
  obtain ⟨A, c, hA, hcap, hA0⟩ : ∃ A c, ρ i = .slice A xs.length c ∧ xs.length ≤ c ∧ (A = none → c = 0) := by
    rcases q1.2 with ⟨h4, h5⟩ | ⟨g, off, cap, cur, he, hh, r1, r2, r3, r4⟩
    · rw [hlen] at h5
      exact ⟨none, 0, by rw [h4, h5], by omega, fun _ => rfl⟩
    · exact ⟨_, cap, by rw [he, hlen], by rw [← hlen]; exact r1, fun h => by cases h⟩
  obtain ⟨m, hm, hm1, hm2⟩ := hb c w hcap
  have hrun := run_slice_op (P := P) (ev := a.eval) (w := w) ho (v := .slice (if m = l then A else A.map (·.add (l * ety.size))) (h - l) (m - l)) (by
    rw [e1, e2, e3, hv]
    simp only [LV.val, hA]
    exact run_sl (D.ok t ty hi') (by simpa using he0) (D.ok _ ety he) hm)
  rw [hs] at hrun
  have hnew : OwnsR w e sz (.slice (if m = l then A else A.map (·.add (l * sz))) (h - l) (m - l)) (h - l) ((cells.drop (l * sz)).take ((h - l) * sz)) := by
    have hlt := (q3.subs h1 (by rw [hlen]; exact h2)).len
    rw [sub_length h1 (by rw [hlen]; exact h2)] at hlt
    refine ⟨hlt, ?_⟩
    rcases q1.2 with ⟨h4, h5⟩ | ⟨g, off, cap, cur, he, hh, r1, r2, r3, r4⟩
    · rw [h4] at hA
      have hA1 : A = none := by injection hA with e1 _ _; exact e1.symm
      have hc0 := hA0 hA1
      subst hA1
      rw [hlen] at h5
      have : m = l := by omega
      left
      rw [if_pos this]
      exact ⟨by rw [show h - l = 0 by omega, show m - l = 0 by omega], by omega⟩
    · rw [hA] at he
      injection he with e1 e2 e3
      subst e1 e3
      rw [hlen] at r4 r1
      have hml : (m - l) * sz + l * sz ≤ c * sz := by rw [← Nat.add_mul]; exact Nat.mul_le_mul_right _ (by omega)
      by_cases hmeq : m = l
      · rw [if_pos hmeq]
        refine .inr ⟨g, off, m - l, cur, rfl, hh, by omega, by omega, by omega, ?_⟩
        rw [show h - l = 0 by omega, Nat.zero_mul, List.take_zero, List.take_zero]
      · rw [if_neg hmeq]
        refine .inr ⟨g, off + l * sz, m - l, cur, by simp [add_at], hh, by omega, by omega, by omega, ?_⟩
        have hx : (h - l) * sz + l * sz ≤ xs.length * sz := by rw [← Nat.add_mul]; exact Nat.mul_le_mul_right _ (by omega)
        rw [← r4, List.drop_take, List.take_take, List.drop_drop, Nat.min_eq_left (by omega)]
  have hbU : ¬ U b := hfrs b (Nat.le_refl _) (by omega)
  have hbi : b ≠ i := fun h => hbU (h ▸ hUi)
  have hblk : ∀ k, (Value.slice (if m = l then A else A.map (·.add (l * sz))) (h - l) (m - l)).ownBlock = some k → own k = some i := fun k hk => q2 k (by
    rw [hA]
    revert hk
    split
    · cases A with
      | none => exact fun hk => hk
      | some ad => exact fun hk => hk
    · cases A with
      | none => exact fun hk => by cases hk
      | some ad => intro hk; simp only [Option.map_some, Value.ownBlock, add_block] at hk; exact hk)
  have hρ : ∀ q, U q → upd1 ρ b (.slice (if m = l then A else A.map (·.add (l * sz))) (h - l) (m - l)) q = ρ q := fun q hq => upd1_other _ _ (fun h => hbU (h ▸ hq))
  refine does_value hrun ⟨upd1 ρ b _, fun k => if own k = some i then some b else own k, by simp [LV.val, upd1_same], hρ, .inr ⟨Nat.le_refl _, by omega⟩, ?_⟩
  refine hr.step (fun q => q = i) rfl rfl rfl (Nat.le_refl _) (fun k hk hq => ⟨rfl, ?_⟩) hρ (fun i hi => .inl hi) (fun q hq => ⟨.no, by subst hq; simp [List.lookup, show (q == b) = false by simpa using Ne.symm hbi]⟩) (fun q ob' hq => ?_) (fun q ob' hq => ?_)
  · have hne : own k ≠ some i := fun h => hq i h rfl
    simp [hne]
  · simp only [List.lookup] at hq
    cases hqb : q == b with
    | true => exact .inr (by rw [show q = b by simpa using hqb]; exact hbU)
    | false =>
      rw [hqb] at hq
      cases hqi : q == i with
      | true => exact .inl (by rw [show q = i by simpa using hqi]; exact ⟨_, hoi⟩)
      | false => rw [hqi] at hq; cases hq
  · simp only [List.lookup] at hq
    cases hqb : q == b with
    | true =>
      rw [hqb] at hq
      obtain rfl : q = b := by simpa using hqb
      obtain rfl : Ob.row e sz ((sub xs l h).map enc) = ob' := by injection hq
      refine ⟨⟨hs0, (cells.drop (l * sz)).take ((h - l) * sz), ?_, fun k hk => ?_, ?_⟩, .inr ⟨Nat.le_refl _, by omega⟩, trivial⟩
      · rw [upd1_same, List.length_map, sub_length h1 h2]; exact hnew
      · rw [upd1_same] at hk
        simp [hblk k hk]
      · rw [← sub_map]
        exact (q3.subs h1 (by rw [hlen]; exact h2)).mono (fun k hk _ => ⟨by simp [hk], rfl⟩)
    | false =>
      rw [hqb] at hq
      cases hqi : q == i with
      | true =>
        rw [hqi] at hq
        obtain rfl : Ob.no = ob' := by injection hq
        obtain rfl : q = i := by simpa using hqi
        exact ⟨trivial, .inl hUi, trivial⟩
      | false => rw [hqi] at hq; cases hq
end
end Lg
end Go.Proofs.Ytpfhmodjjljpjaa

namespace Go.Proofs.Ytpfhmodjjljpjaa
open Go.RowKit
namespace Lg
theorem mem_getD' {α : Type} [Inhabited α] {p : List α} {x : α} (h : x ∈ p) : ∃ i, i < p.length ∧ p.getD i default = x := by
  obtain ⟨i, hi, e⟩ := List.mem_iff_getElem.1 h
  exact ⟨i, hi, by rw [List.getD_eq_getElem?_getD, List.getElem?_eq_getElem hi, e]; rfl⟩
def reachN (next : List (List Int)) : List Bool := ((visit next (-1) (next.length + 1) 0 (List.replicate next.length false, List.replicate next.length false)).getD ([], [])).2
theorem reachN_length (next : List (List Int)) : (reachN next).length = next.length := by
  obtain ⟨s2, o2, h1, h2, h3⟩ := visit_all next
  unfold reachN; rw [h1]; exact h2
theorem reachN_iff (next : List (List Int)) (x : Nat) : (reachN next).getD x default = true ↔ RF next (-1) 0 x := by
  obtain ⟨s2, o2, h1, h2, h3⟩ := visit_all next
  unfold reachN; rw [h1]; exact h3 x
def closedAt (next : List (List Int)) (out : List Bool) (x : Nat) : Prop := ∀ y ∈ next.getD x default, 0 ≤ y → y < (next.length : Int) → out.getD y.toNat default = true
def msr (out : List Bool) (todo : List Int) : Nat := 2 * out.count false + todo.length
structure BF (next : List (List Int)) (out : List Bool) (todo : List Int) : Prop where
  len : out.length = next.length
  fr : ∀ x, out.getD x default = true → RF next (-1) 0 x
  tin : ∀ t ∈ todo, 0 ≤ t ∧ t < (next.length : Int) ∧ out.getD t.toNat default = true
  clos : ∀ x : Nat, out.getD x default = true → (x : Int) ∈ todo ∨ closedAt next out x
  zero : out.getD 0 default = true
  size : msr out todo ≤ 2 * next.length + 1
structure BI (next : List (List Int)) (c m i : Nat) (out : List Bool) (todo : List Int) : Prop where
  len : out.length = next.length
  fr : ∀ x, out.getD x default = true → RF next (-1) 0 x
  tin : ∀ t ∈ todo, 0 ≤ t ∧ t < (next.length : Int) ∧ out.getD t.toNat default = true
  zero : out.getD 0 default = true
  cin : c < next.length ∧ out.getD c default = true
  clos : ∀ x : Nat, out.getD x default = true → x = c ∨ (x : Int) ∈ todo ∨ closedAt next out x
  done : ∀ q, q < i → 0 ≤ (next.getD c default).getD q default → (next.getD c default).getD q default < (next.length : Int) → out.getD ((next.getD c default).getD q default).toNat default = true
  size : msr out todo ≤ m
theorem bf_start {next : List (List Int)} (h : 0 < next.length) : BF next ((List.replicate next.length false).set 0 true) [0] := by
  have hg : ∀ x, ((List.replicate next.length false).set 0 true).getD x default = true ↔ x = 0 := fun x => by
    rw [getD_set_true (by simpa using h)]
    split
    · rename_i e; exact ⟨fun _ => e, fun _ => rfl⟩
    · rename_i e
      have hf : (List.replicate next.length false).getD x default = false := by
        rw [List.getD_eq_getElem?_getD, List.getElem?_replicate]
        split <;> rfl
      rw [hf]
      exact ⟨fun k => absurd k (by decide), fun k => absurd k e⟩
  refine ⟨by simp, fun x hx => ?_, fun t ht => ?_, fun x hx => .inl ?_, (hg 0).2 rfl, ?_⟩
  · rw [(hg x).1 hx]
    exact RF.refl (b := 0) (by omega) (by omega) (by omega)
  · rw [List.mem_singleton.1 ht]
    exact ⟨by omega, by omega, (hg 0).2 rfl⟩
  · rw [(hg x).1 hx]; simp
  · have : ((List.replicate next.length false).set 0 true).count false + 1 = (List.replicate next.length false).count false := count_set_lt (by simpa using h) (by
      rw [List.getD_eq_getElem?_getD, List.getElem?_replicate, if_pos h]; rfl)
    rw [List.count_replicate_self] at this
    unfold msr
    simp only [List.length_singleton]; omega
theorem BF.pop {next : List (List Int)} {out : List Bool} {t : Int} {rest : List Int} (h : BF next out (t :: rest)) : BI next t.toNat (msr out rest) 0 out rest := by
  have ht := h.tin t (by simp)
  refine ⟨h.len, h.fr, fun s hs => h.tin s (List.mem_cons_of_mem _ hs), h.zero, ⟨by omega, ht.2.2⟩, fun x hx => ?_, fun q hq => absurd hq (Nat.not_lt_zero _), Nat.le_refl _⟩
  rcases h.clos x hx with hm | hm
  · rcases List.mem_cons.1 hm with e | e
    · exact .inl (by omega)
    · exact .inr (.inl e)
  · exact .inr (.inr hm)
theorem BI.skip {next : List (List Int)} {c m i : Nat} {out : List Bool} {todo : List Int} (h : BI next c m i out todo) (hk : 0 ≤ (next.getD c default).getD i default → (next.getD c default).getD i default < (next.length : Int) → out.getD ((next.getD c default).getD i default).toNat default = true) : BI next c m (i + 1) out todo :=
  ⟨h.len, h.fr, h.tin, h.zero, h.cin, h.clos, fun q hq => by
    rcases Nat.lt_or_ge q i with h1 | h1
    · exact h.done q h1
    · have : q = i := by omega
      subst this; exact hk, h.size⟩
theorem BI.push {next : List (List Int)} {c m i : Nat} {out : List Bool} {todo : List Int} {k : Int} (h : BI next c m i out todo) (hi : i < (next.getD c default).length) (hk : (next.getD c default).getD i default = k) (h0 : 0 ≤ k) (h1 : k < (next.length : Int)) (hf : out.getD k.toNat default = false) : BI next c m (i + 1) (out.set k.toNat true) (todo ++ [k]) := by
  have hl : k.toNat < out.length := by rw [h.len]; omega
  have hmono : ∀ x, out.getD x default = true → (out.set k.toNat true).getD x default = true := fun x hx => by
    rw [getD_set_true hl]; split
    · rfl
    · exact hx
  have hself : (out.set k.toNat true).getD k.toNat default = true := by rw [getD_set_true hl, if_pos rfl]
  have hnew : ∀ x, (out.set k.toNat true).getD x default = true → x = k.toNat ∨ out.getD x default = true := fun x hx => by
    rw [getD_set_true hl] at hx
    split at hx
    · exact .inl (by assumption)
    · exact .inr hx
  have hcl : ∀ x, closedAt next out x → closedAt next (out.set k.toNat true) x := fun x hx y hy a1 a2 => hmono _ (hx y hy a1 a2)
  refine ⟨by rw [List.length_set]; exact h.len, fun x hx => ?_, fun t ht => ?_, hmono _ h.zero, ⟨h.cin.1, hmono _ h.cin.2⟩, fun x hx => ?_, fun q hq a1 a2 => ?_, ?_⟩
  · rcases hnew x hx with e | e
    · rw [e]
      refine RF.step (h.fr c h.cin.2) ?_ h0 h1 (by omega)
      rw [← hk]; exact getD_mem hi
    · exact h.fr x e
  · rcases List.mem_append.1 ht with e | e
    · have := h.tin t e
      exact ⟨this.1, this.2.1, hmono _ this.2.2⟩
    · rw [List.mem_singleton.1 e]; exact ⟨h0, h1, hself⟩
  · rcases hnew x hx with e | e
    · right; left
      rw [e, List.mem_append]
      right
      rw [List.mem_singleton]; omega
    · rcases h.clos x e with e2 | e2 | e2
      · exact .inl e2
      · exact .inr (.inl (List.mem_append_left _ e2))
      · exact .inr (.inr (hcl x e2))
  · rcases Nat.lt_or_ge q i with h2 | h2
    · exact hmono _ (h.done q h2 a1 a2)
    · have : q = i := by omega
      subst this
      rw [hk]; exact hself
  · have h3 := count_set_lt hl hf
    have h4 := h.size
    unfold msr at h4 ⊢
    rw [List.length_append, List.length_singleton]; omega
theorem BI.fin {next : List (List Int)} {c m i : Nat} {out : List Bool} {todo : List Int} (h : BI next c m i out todo) (hi : (next.getD c default).length ≤ i) (hm : m ≤ 2 * next.length + 1) : BF next out todo := by
  refine ⟨h.len, h.fr, h.tin, fun x hx => ?_, h.zero, Nat.le_trans h.size hm⟩
  rcases h.clos x hx with e | e | e
  · right
    rw [e]
    intro y hy a1 a2
    obtain ⟨q, hq, rfl⟩ := mem_getD' hy
    exact h.done q (by omega) a1 a2
  · exact .inl e
  · exact .inr e
theorem BF.fin {next : List (List Int)} {out : List Bool} (h : BF next out []) : out = reachN next := by
  have hback : ∀ x, RF next (-1) 0 x → out.getD x default = true := fun x hr => by
    induction hr with
    | refl a0 a1 a2 => exact h.zero
    | @step x y _ hy a0 a1 a2 ih =>
      rcases h.clos x ih with e | e
      · cases e
      · exact e y hy a0 a1
  refine ext_getD (by rw [h.len, reachN_length]) (fun x _ => ?_)
  have hiff : out.getD x default = true ↔ RF next (-1) 0 x := ⟨h.fr x, hback x⟩
  have h2 := reachN_iff next x
  rcases bool_cases (out.getD x default) with e | e
  · rw [e, h2.2 (hiff.1 e)]
  · rw [e]
    rcases bool_cases ((reachN next).getD x default) with e2 | e2
    · rw [hiff.2 (h2.1 e2)] at e; cases e
    · exact e2.symm
theorem BF.pop' {next : List (List Int)} {out : List Bool} {todo : List Int} (h : BF next out todo) (h0 : 0 < todo.length) : BI next (todo.getD 0 default).toNat (msr out (todo.drop 1)) 0 out (todo.drop 1) := by
  cases todo with
  | nil => simp at h0
  | cons t rest => exact h.pop
theorem msr_drop {out : List Bool} {todo : List Int} (h0 : 0 < todo.length) : msr out (todo.drop 1) + 1 = msr out todo := by
  cases todo with
  | nil => simp at h0
  | cons t rest => simp only [msr, List.drop_one, List.tail_cons, List.length_cons]; omega
theorem reach_none {next : List (List Int)} (h : next.length = 0) : List.replicate next.length false = reachN next :=
  ext_getD (by rw [reachN_length]; simp) (fun i hi => by rw [List.length_replicate] at hi; omega)
theorem BF.fin' {next : List (List Int)} {out : List Bool} {todo : List Int} (h : BF next out todo) (h0 : todo.length = 0) : out = reachN next := by
  have e : todo = [] := List.eq_nil_of_length_eq_zero h0
  subst e
  exact h.fin
theorem BI.len3 {next : List (List Int)} {c m i : Nat} {out : List Bool} {todo : List Int} (h : BI next c m i out todo) : todo.length ≤ m := by
  have := h.size
  unfold msr at this; omega
end Lg
end Go.Proofs.Ytpfhmodjjljpjaa

namespace Go.Proofs.Ytpfhmodjjljpjaa
open Go.RowKit
namespace Lg
theorem ends_tidy {f : GFn} (h : VF f) {j : Nat} (hj : j < (headsL f).length) : endsB ((tidyG f).blocks.getD j default) (headsL f).length f.regs = true := by
  obtain ⟨p, hp, e⟩ := path_at h hj
  have hE := h.at (hp.g.lt _ (lastN_mem hp))
  rw [tidyG_at hj, e]
  unfold newBlock
  rw [lastOf_path hp]
  have hin : ∀ y, y ∈ follows (f.blocks.getD (lastN p) default) → withinB (begins (pathsL f) y) (headsL f).length = true := fun y hy => by
    obtain ⟨h1, h2, h3⟩ := last_head h hp hy
    obtain ⟨j2, hj2, _, hb⟩ := begins_of h h1 h3
    rw [h2] at hb
    rw [withinB_iff, hb]; omega
  unfold endsB
  simp only
  rcases hE.e with ⟨h1, h2, h3, h4⟩ | ⟨h1, h2, h3, h4⟩ | ⟨h1, h2, h3, h4⟩
  · rw [if_pos h1, if_neg (show ¬ _ = (3 : Int) by omega), if_neg (show ¬ _ = (2 : Int) by omega), h3, hin _ (by unfold follows; rw [if_pos h1]; simp)]; rfl
  · rw [if_neg (show ¬ _ = (1 : Int) by omega), if_pos h1, if_neg (show ¬ _ = (3 : Int) by omega), if_pos h1, hin _ (by unfold follows; rw [if_neg (by omega), if_pos h1]; simp), hin _ (by unfold follows; rw [if_neg (by omega), if_pos h1]; simp), withinB_iff.2 h4]; rfl
  · rw [if_neg (show ¬ _ = (1 : Int) by omega), if_neg (show ¬ _ = (2 : Int) by omega), if_pos h1, if_neg (show ¬ _ = (2 : Int) by omega), h1, h2]; rfl
theorem tidy_vf {f : GFn} (h : VF f) : VF (tidyG f) := by
  refine ⟨by rw [tidyG_length]; exact (heads_zero h).1, fun k hk => ?_⟩
  rw [tidyG_length] at hk ⊢
  exact ends_tidy h hk
theorem from_srcs {f : GFn} (h : VF f) {k : Nat} (hk : k < (headsL f).length) : (fromL (tidyG f)).getD k default = srcs (nextL (tidyG f)) k (headsL f).length := by
  rw [fromL_getD (tidy_vf h).inN (by rw [tidyG_length]; exact hk), tidyG_length]
  unfold srcs
  have hc : ∀ (l : List Nat), (∀ j ∈ l, j < (headsL f).length) → l.flatMap (fun i => if (reachL (tidyG f)).getD i default = true then List.replicate (((nextL (tidyG f)).getD i default).count (k : Int)) (i : Int) else []) = l.flatMap (fun j => List.replicate (((nextL (tidyG f)).getD j default).count (k : Int)) (j : Int)) := by
    intro l
    induction l with
    | nil => exact fun _ => rfl
    | cons x l ih =>
      intro hl
      rw [List.flatMap_cons, List.flatMap_cons, ih (fun j hj => hl j (List.mem_cons_of_mem _ hj)), if_pos ((reachL_iff _ _).2 (tidy_reached h (hl x (by simp))))]
  exact hc _ (fun j hj => by simpa using hj)
theorem tidy_by {f : GFn} (h : VF f) {k : Nat} (hk : k < (headsL f).length) : (byL (tidyG f)).getD k default = -1 := by
  rw [byL_getD _ (by rw [tidyG_length]; exact hk)]
  unfold takenAt
  refine if_neg (fun hc => ?_)
  obtain ⟨c1, c2, c3, c4, c5⟩ := hc
  rw [from_srcs h hk] at c3 c4 c5
  obtain ⟨j, j1, j2, j3⟩ := srcs_one c3
  rw [j2] at c4 c5
  have c5' : ((tidyG f).blocks.getD j default).fin = 1 := by rw [← blk_nat]; exact c5
  have c4' : ¬ (j : Int) = (k : Int) := c4
  exact (tidy_most h hk c1).2 j j2 (by omega) c5'
theorem tidy_isHead {f : GFn} (h : VF f) {k : Nat} (hk : k < (headsL f).length) : isHead (tidyG f) k = true :=
  isHead_iff.2 ⟨(reachL_iff _ _).2 (tidy_reached h hk), by rw [tidy_by h hk]; omega⟩
theorem tidy_heads {f : GFn} (h : VF f) : headsL (tidyG f) = List.range (headsL f).length := by
  unfold headsL
  rw [show (tidyG f).blocks.length = ((List.range f.blocks.length).filter (isHead f)).length from tidyG_length f]
  rw [List.filter_eq_self]
  exact fun k hk => tidy_isHead h (by simpa [headsL] using hk)
theorem tidy_path {f : GFn} (h : VF f) {k : Nat} (hk : k < (headsL f).length) : pathAt (tidyG f) k = [(k : Int)] := by
  have hv := tidy_vf h
  obtain ⟨p, hp⟩ := (path_of hv.inN (by rw [tidyG_length]; exact hk) (tidy_isHead h hk)).2
  rw [hp.e]
  have hl : p.length = 1 := by
    have h1 := List.length_pos_iff.2 hp.g.ne
    rcases Nat.lt_or_ge 1 p.length with h2 | h2
    · exfalso
      have ht := hp.g.link 0 h2
      have h3 := ht.kn
      rw [tidyG_length] at h3
      exact byL_neg ht.kn (by rw [tidy_by h h3]; omega) hv.inN _ ht
    · omega
  obtain ⟨x, hx⟩ := List.length_eq_one_iff.1 hl
  have h4 := hp.h
  rw [hx] at h4 ⊢
  have : x = k := h4
  rw [this]; rfl
theorem tidy_paths {f : GFn} (h : VF f) : pathsL (tidyG f) = (List.range (headsL f).length).map (fun k : Nat => [(k : Int)]) := by
  rw [pathsL_eq, tidy_heads h]
  exact List.map_congr_left (fun k hk => tidy_path h (by simpa using hk))
theorem tidy_begins {f : GFn} (h : VF f) {y : Int} (hy : 0 ≤ y ∧ y < ((headsL f).length : Int)) : begins (pathsL (tidyG f)) y = y := by
  have h1 := begins_head (tidy_vf h) (j := y.toNat) (by rw [tidy_heads h]; simp; omega)
  rw [tidy_heads h, range_getD (by omega)] at h1
  rw [show ((y.toNat : Nat) : Int) = y by omega] at h1
  exact h1
theorem tidy_twice {f : GFn} (h : VF f) : tidyG (tidyG f) = tidyG f := by
  have hb : (tidyG (tidyG f)).blocks = (tidyG f).blocks := by
    have hl : (tidyG (tidyG f)).blocks.length = (tidyG f).blocks.length := by rw [tidyG_length, tidy_heads h, tidyG_length]; simp
    refine ext_getD hl (fun j hj => ?_)
    rw [hl, tidyG_length] at hj
    rw [tidyG_at (by rw [tidy_heads h]; simpa using hj), tidy_paths h, getD_map _ _ (by simpa using hj), range_getD hj, ← tidy_paths h]
    have hE := (tidy_vf h).at (k := j) (by rw [tidyG_length]; exact hj)
    have hlast : blk (tidyG f) (lastOf [(j : Int)]) = (tidyG f).blocks.getD j default := by rw [lastOf_one, blk_nat]
    unfold newBlock
    rw [hlast]
    have hins : instrs (tidyG f) [(j : Int)] = ((tidyG f).blocks.getD j default).ins := by simp [instrs, -List.getD_eq_getElem?_getD]
    rw [hins]
    have hlen := tidyG_length f
    generalize (tidyG f).blocks.getD j default = b at hE ⊢
    have h1 : (if b.fin = 3 then 0 else begins (pathsL (tidyG f)) b.to) = b.to := by
      rcases hE.e with ⟨h1, h2, h3, h4⟩ | ⟨h1, h2, h3, h4⟩ | ⟨h1, h2, h3, h4⟩
      · rw [if_neg (by omega)]; exact tidy_begins h (by omega)
      · rw [if_neg (by omega)]; exact tidy_begins h (by omega)
      · rw [if_pos h1, h3]
    have h2 : (if b.fin = 2 then begins (pathsL (tidyG f)) b.els else 0) = b.els := by
      rcases hE.e with ⟨h1, h2, h3, h4⟩ | ⟨h1, h2, h3, h4⟩ | ⟨h1, h2, h3, h4⟩
      · rw [if_neg (by omega), h4]
      · rw [if_pos h1]; exact tidy_begins h (by omega)
      · rw [if_neg (by omega), h4]
    rw [h1, h2]
  have hr : (tidyG (tidyG f)).regs = (tidyG f).regs := rfl
  generalize tidyG (tidyG f) = a at hb hr
  generalize tidyG f = b at hb hr
  cases a; cases b
  simp_all
theorem twice_len {f : GFn} (h : VF f) : (pathsL (tidyG f)).length = (tidyG f).blocks.length := by rw [paths_length, tidy_heads h, tidyG_length]; simp
theorem twice_at {f : GFn} (h : VF f) {k : Nat} (hk : k < (pathsL (tidyG f)).length) : (pathsL (tidyG f)).getD k default = [(k : Int)] := by
  rw [twice_len h, tidyG_length] at hk
  rw [tidy_paths h, getD_map _ _ (by simpa using hk), range_getD hk]
theorem twice_reach {f : GFn} (h : VF f) {k : Nat} (hk : k < (pathsL (tidyG f)).length) : (reachN (nextL (tidyG f))).getD k default = true := by
  rw [twice_len h, tidyG_length] at hk
  exact (reachN_iff _ _).2 (tidy_reached h hk)
theorem nodup_sum (g : Nat → Nat) : ∀ (n : Nat) (l : List Nat), l.Nodup → (∀ x ∈ l, x < n) → (l.map g).sum ≤ ((List.range n).map g).sum
  | 0, l, _, h => by
    cases l with
    | nil => simp
    | cons x l => exact absurd (h x (by simp)) (by omega)
  | n + 1, l, hd, h => by
    have h1 := nodup_sum g n (l.erase n) (hd.erase n) (fun x hx => by
      have := h x (List.mem_of_mem_erase hx)
      have hne : x ≠ n := fun e => by subst e; exact (List.Nodup.not_mem_erase hd) hx
      omega)
    rw [List.range_succ, List.map_append, List.sum_append]
    simp only [List.map_cons, List.map_nil, List.sum_cons, List.sum_nil]
    by_cases hm : n ∈ l
    · have := ((List.perm_cons_erase hm).map g).sum_nat
      rw [this, List.map_cons, List.sum_cons]; omega
    · rw [List.erase_of_not_mem hm] at h1; omega
theorem szB_sum (f : GFn) : ∀ (i : Nat), i ≤ f.blocks.length → ((List.range i).map (fun x => (f.blocks.getD x default).ins.length)).sum ≤ szB f i
  | 0, _ => by simp
  | i + 1, h => by
    rw [szB_succ (f := f) (i := i) (by omega), List.range_succ, List.map_append, List.sum_append]
    have := szB_sum f i (by omega)
    simp only [List.map_cons, List.map_nil, List.sum_cons, List.sum_nil]
    omega
theorem instrs_sum (f : GFn) : ∀ (p : List Nat), (instrs f (ints p)).length = (p.map (fun x => (f.blocks.getD x default).ins.length)).sum
  | [] => rfl
  | x :: p => by
    have h1 := instrs_sum f p
    have h2 : (instrs f (ints (x :: p))).length = (f.blocks.getD x default).ins.length + (instrs f (ints p)).length := by simp [instrs, ints, -List.getD_eq_getElem?_getD]
    rw [h2, h1, List.map_cons, List.sum_cons]
theorem tidy_ins {f : GFn} (h : VF f) {c : Nat} (hc : szB f f.blocks.length ≤ c) : ∀ b ∈ (tidyG f).blocks, b.ins.length ≤ c := fun b hb => by
  obtain ⟨j, hj, rfl⟩ := mem_getD hb
  rw [tidyG_length] at hj
  obtain ⟨p, hp, e⟩ := path_at h hj
  rw [tidyG_at hj, e]
  show (instrs f (ints p)).length ≤ c
  rw [instrs_sum]
  exact Nat.le_trans (nodup_sum _ _ _ hp.g.nd hp.g.lt) (Nat.le_trans (szB_sum f _ (Nat.le_refl _)) hc)
theorem small_sz {p : GProg} {most : Int} (h : smallG p most = true) {c : Nat} (hc : most ≤ c) {i : Nat} (hi : i < p.funcs.length) : szB (p.funcs.getD i default) (p.funcs.getD i default).blocks.length ≤ c := by
  have h8 := szB_le_szP (Nat.le_refl _) i hi
  have h3 := (smallG_iff h).2.2.1
  omega
end Lg
end Go.Proofs.Ytpfhmodjjljpjaa

namespace Go.Proofs.Ytpfhmodjjljpjaa
open Go.RowKit
namespace Lg
theorem small_right {p : GProg} {c : Int} (h : smallG p c = true) : rightB p = true := (smallG_iff h).2.2.2
theorem small_len {p : GProg} {c : Int} (h : smallG p c = true) : p.funcs.length ≤ 10 := by have := (smallG_iff h).1.2; omega
theorem last_lt {p : GProg} {c : Int} (h : smallG p c = true) : ((p.funcs.length : Int) - 1).toNat < p.funcs.length := by have := right_pos (small_right h); omega
theorem run_ok {p : GProg} {c : Int} (h : smallG p c = true) (hn : ∀ f ∈ p.funcs, ∀ b ∈ f.blocks, ∀ t ∈ b.ins, isW t.n) : RunOk p := ⟨small_right h, hn⟩
theorem put_each {p : GProg} {g : GFn} {Q : GFn → Prop} (h : ∀ f ∈ p.funcs, Q f) (hg : Q g) : ∀ f ∈ (putP p g).funcs, Q f := fun f hf => by
  rcases List.mem_or_eq_of_mem_set hf with h1 | h1
  · exact h f h1
  · rw [h1]; exact hg
theorem put_pgOk {p : GProg} {g : GFn} (h : PgOk p) (hg : FnOk g) : PgOk (putP p g) := ⟨by rw [putP_len]; exact h.1, put_each h.2 hg⟩
theorem small_each {p : GProg} {c : Int} (h : smallG p c = true) {n : Nat} (hc : c ≤ n) (hn : n ≤ 1000) : ∀ f ∈ p.funcs, f.blocks.length ≤ 1000000 ∧ ∀ b ∈ f.blocks, b.ins.length ≤ 1000000 := fun f hf => by
  obtain ⟨k, hk, rfl⟩ := mem_getD hf
  have q := small_fn h hc hk
  exact ⟨by have := q.len; omega, fun b hb => by have := q.ins b hb; omega⟩
theorem lastF_eq (p : GProg) : p.funcs.getD ((p.funcs.length : Int) - 1).toNat default = lastF p := by unfold lastF; congr 1; omega
theorem holds_n {f g : GFn} {ps : List (List Int)} (hH : Holds f g ps) (hn : ∀ b ∈ f.blocks, ∀ t ∈ b.ins, isW t.n) : ∀ b ∈ g.blocks, ∀ t ∈ b.ins, isW t.n := fun b hb t ht => by
  obtain ⟨k, hk, rfl⟩ := mem_getD hb
  have hk' : k < ps.length := by have := hH.len; omega
  rw [(hH.each k hk').2.1] at ht
  obtain ⟨j, hj, ht2⟩ := instrs_mem ht
  have := (hH.inn _ (getD_mem hk')).2 j hj
  exact hn _ (getD_mem (by omega)) t ht2
theorem put_run {p : GProg} {g : GFn} {ps : List (List Int)} (h : RunOk p) (hH : Holds (lastF p) g ps) : RunOk (putP p g) :=
  ⟨right_put h.right hH, put_each h.n (holds_n hH (h.n _ (getD_mem (by have := right_pos h.right; omega))))⟩
end Lg
end Go.Proofs.Ytpfhmodjjljpjaa

namespace Go.Proofs.Ytpfhmodjjljpjaa
open Go.RowKit
namespace Lg
theorem few_each {g : GFn} (h : few g 40 400 = true) : g.blocks.length ≤ 1000000 ∧ ∀ b ∈ g.blocks, b.ins.length ≤ 1000000 :=
  ⟨by have := (few_iff h).1; omega, fun b hb => by have := few_ins h b hb; omega⟩
theorem true_chk {p : GProg} {g : GFn} {ps : List (List Int)} (h1 : smallG p 100 = true) (h2 : few g 40 400 = true) (h3 : smallP ps 40 400 = true) : ChkOk (p.funcs.getD ((p.funcs.length : Int) - 1).toNat default) g ps := by
  have h4 := smallP_iff h3
  have h5 := small_fn (c := 100) h1 (by omega) (last_lt h1)
  refine ⟨by omega, fun p hp => by have := h4.2 p hp; omega, fun x hx => by have := few_ins h2 x hx; omega, fun p hp j => ?_⟩
  exact take_len (c := 0) (fun x hx => by have := h5.ins x hx; omega) (by have := h4.2 p hp; omega) j
end Lg
end Go.Proofs.Ytpfhmodjjljpjaa

namespace Go.Proofs.Ytpfhmodjjljpjaa
open Go.RowKit
namespace Lg
set_option maxRecDepth 100000
set_option linter.unusedVariables false
set_option linter.unusedSimpArgs false
theorem body6 : (Try.prog.funcs[6]?).map (fun fn => (fn.name == "runtime.NumGoroutine" || fn.body.isNone)) = some false := by kernel_rfl
theorem law6 (p : GProg) (gn : GFn) (ps : List (List Int)) (inp : ByteArray) (x : Int) (hp : PgOk p) (hg : FnOk gn) (hq : PsOk ps) (hn : ∀ f ∈ p.funcs, ∀ b ∈ f.blocks, ∀ t ∈ b.ins, isW t.n) (hx : 0 ≤ x ∧ x < 256) : Spec Try.prog 6 [.agg [.v (.int .i64 p.words), .r 1, .v (.int .i64 gn.regs), .r 2, .r 3], .v (.string inp), .v (.int .u8 x)] 4 [(1, .fz 2 (p.funcs.map eFn)), (2, .fz 5 (gn.blocks.map eBlock)), (3, .fz 1 (ps.map eIs))] (.v (.bool true)) 4 [] := by
 have hp1 := hp.1
 have hg1 := hg.1
 have hq1 := hq.1
 refine spec_of D (fn := Try.f6) rfl rfl (Nat.le_of_ble_eq_true rfl) ?_
 refine W_seq ?_
 refine W_seqK (b' := 36) rfl rfl ?_
 refine q1 3 4 1 rfl rfl (T_box rfl rfl flat_agg) rfl ?_
 refine q0 6 20 2 rfl rfl (T_assign rfl rfl) rfl ?_
 refine k_done rfl ?_
 refine thenK_n ?_
 refine W_seq ?_
 refine W_seq ?_
 refine W_seqK (b' := 68) rfl rfl ?_
 refine q0 10 36 1 rfl rfl (T_callV (lvs := []) (L := []) (awake_spec) body24 rfl rfl rfl rfl (.nil) rfl) rfl ?_
 refine q0 11 52 2 rfl rfl (T_not rfl rfl) rfl ?_
 refine k_done rfl ?_
 refine thenK_n ?_
 refine W_cond rfl (fun g1 => ?_) (fun g1 => ?_)
 ·have h1 := g1; (try simp only [cmpB, decide_eq_true_eq, decide_eq_false_iff_not, beq_iff_eq, beq_eq_false_iff_ne, bne_iff_ne, ne_eq, bne_eq_false_iff_eq, Bool.not_eq_true', Bool.not_eq_false', Int.not_lt, Int.not_le] at h1)
  refine W_seq ?_
  refine W_seqK (b' := 84) rfl rfl ?_
  refine q0 6 68 1 rfl rfl (T_assign rfl rfl) rfl ?_
  refine k_done rfl ?_
  refine thenK_n ?_
  refine W_ret ?_
  refine thenK_r ?_
  exact .mk [] (.inr rfl) (.tmp rfl (.nil)) (by exact absurd g1 (by decide)) (.nil) rfl
 ·have h1 := g1; (try simp only [cmpB, decide_eq_true_eq, decide_eq_false_iff_not, beq_iff_eq, beq_eq_false_iff_ne, bne_iff_ne, ne_eq, bne_eq_false_iff_eq, Bool.not_eq_true', Bool.not_eq_false', Int.not_lt, Int.not_le] at h1)
  refine W_skip ?_
  refine thenK_n ?_
  refine W_seq ?_
  refine W_seq ?_
  refine W_anyK (b' := 692) rfl rfl rfl ?_
  refine q0 12 68 1 rfl rfl (T_fa D (m := 0) rfl rfl rfl rfl rfl rfl) rfl ?_
  refine q0 13 84 2 rfl rfl (T_load_bA D (l := [_, _]) rfl rfl rfl rfl rfl rfl rfl) rfl ?_
  refine q0 14 100 3 rfl rfl (T_callV (lvs := [_, _]) (L := [(1, 1)]) (small30_spec p 100 hp) body25 rfl rfl rfl rfl (.fz rfl (.nil)) rfl) rfl ?_
  refine q0 15 116 4 rfl rfl (T_not rfl rfl) rfl ?_
  refine q0 16 132 5 rfl rfl (T_move rfl rfl) rfl ?_
  refine k_split (d := 16) rfl (fun g2 => ?_) (fun g2 => ?_)
  ·have h2 := g2; (try simp only [cmpB, decide_eq_true_eq, decide_eq_false_iff_not, beq_iff_eq, beq_eq_false_iff_ne, bne_iff_ne, ne_eq, bne_eq_false_iff_eq, Bool.not_eq_true', Bool.not_eq_false', Int.not_lt, Int.not_le] at h2)
   refine k_no (d := 17) (j' := 6) rfl rfl rfl (g_ft rfl rfl rfl g2) ?_
   refine k_no (d := 18) (j' := 7) rfl rfl rfl (g_ft rfl rfl rfl g2) ?_
   refine k_no (d := 19) (j' := 8) rfl rfl rfl (g_ft rfl rfl rfl g2) ?_
   refine q0 20 196 9 rfl rfl (T_pick_t rfl rfl rfl g2) rfl ?_
   refine q0 21 212 10 rfl rfl (T_move rfl rfl) rfl ?_
   refine k_no (d := 22) (j' := 11) rfl rfl rfl (g_ft rfl rfl rfl rfl) ?_
   refine k_no (d := 23) (j' := 12) rfl rfl rfl (g_ft rfl rfl rfl rfl) ?_
   refine k_no (d := 24) (j' := 13) rfl rfl rfl (g_ft rfl rfl rfl rfl) ?_
   refine k_no (d := 25) (j' := 14) rfl rfl rfl (g_ft rfl rfl rfl rfl) ?_
   refine q0 26 292 15 rfl rfl (T_pick_t rfl rfl rfl rfl) rfl ?_
   refine q0 27 308 16 rfl rfl (T_move rfl rfl) rfl ?_
   refine k_no (d := 28) (j' := 17) rfl rfl rfl (g_ft rfl rfl rfl rfl) ?_
   refine k_no (d := 29) (j' := 18) rfl rfl rfl (g_ft rfl rfl rfl rfl) ?_
   refine k_no (d := 30) (j' := 19) rfl rfl rfl (g_ft rfl rfl rfl rfl) ?_
   refine k_no (d := 31) (j' := 20) rfl rfl rfl (g_ft rfl rfl rfl rfl) ?_
   refine q0 32 388 21 rfl rfl (T_pick_t rfl rfl rfl rfl) rfl ?_
   refine q0 33 404 22 rfl rfl (T_move rfl rfl) rfl ?_
   refine k_no (d := 34) (j' := 23) rfl rfl rfl (g_ft rfl rfl rfl rfl) ?_
   refine k_no (d := 35) (j' := 24) rfl rfl rfl (g_ft rfl rfl rfl rfl) ?_
   refine k_no (d := 36) (j' := 25) rfl rfl rfl (g_ft rfl rfl rfl rfl) ?_
   refine k_no (d := 37) (j' := 26) rfl rfl rfl (g_ft rfl rfl rfl rfl) ?_
   refine k_no (d := 38) (j' := 27) rfl rfl rfl (g_ft rfl rfl rfl rfl) ?_
   refine k_no (d := 39) (j' := 28) rfl rfl rfl (g_ft rfl rfl rfl rfl) ?_
   refine k_no (d := 40) (j' := 29) rfl rfl rfl (g_ft rfl rfl rfl rfl) ?_
   refine k_no (d := 41) (j' := 30) rfl rfl rfl (g_ft rfl rfl rfl rfl) ?_
   refine k_no (d := 42) (j' := 31) rfl rfl rfl (g_ft rfl rfl rfl rfl) ?_
   refine k_no (d := 43) (j' := 32) rfl rfl rfl (g_ft rfl rfl rfl rfl) ?_
   refine k_no (d := 44) (j' := 33) rfl rfl rfl (g_ft rfl rfl rfl rfl) ?_
   refine k_no (d := 45) (j' := 34) rfl rfl rfl (g_ft rfl rfl rfl rfl) ?_
   refine k_no (d := 46) (j' := 35) rfl rfl rfl (g_ft rfl rfl rfl rfl) ?_
   refine k_no (d := 47) (j' := 36) rfl rfl rfl (g_ft rfl rfl rfl rfl) ?_
   refine k_no (d := 48) (j' := 37) rfl rfl rfl (g_ft rfl rfl rfl rfl) ?_
   refine k_no (d := 49) (j' := 38) rfl rfl rfl (g_ft rfl rfl rfl rfl) ?_
   refine q0 50 676 39 rfl rfl (T_pick_t rfl rfl rfl rfl) rfl ?_
   refine k_done rfl ?_
   refine ⟨rfl, ?_⟩
   refine thenK_n ?_
   refine W_cond rfl (fun g3 => ?_) (fun g3 => ?_)
   ·skip
    refine W_seq ?_
    refine W_seqK (b' := 708) rfl rfl ?_
    refine q0 6 692 1 rfl rfl (T_assign rfl rfl) rfl ?_
    refine k_done rfl ?_
    refine thenK_n ?_
    refine W_ret ?_
    refine thenK_r ?_
    exact .mk [] (.inr rfl) (.tmp rfl (.nil)) (by rfl) (.nil) rfl
   ·exact absurd (g3.symm.trans rfl) (by decide)
  ·have h2 := g2; (try simp only [cmpB, decide_eq_true_eq, decide_eq_false_iff_not, beq_iff_eq, beq_eq_false_iff_ne, bne_iff_ne, ne_eq, bne_eq_false_iff_eq, Bool.not_eq_true', Bool.not_eq_false', Int.not_lt, Int.not_le] at h2)
   refine k_op0 (d := 17) (b := 148) (j' := 6) rfl rfl rfl rfl (g_ff rfl rfl rfl g2) (T_move rfl rfl) rfl ?_
   refine k_op0 (d := 18) (b := 164) (j' := 7) rfl rfl rfl rfl (g_ff rfl rfl rfl g2) (T_lenS Try.underlying9 rfl rfl) rfl ?_
   refine k_op0 (d := 19) (b := 180) (j' := 8) rfl rfl rfl rfl (g_ff rfl rfl rfl g2) (T_cmp rfl rfl rfl rfl) rfl ?_
   refine q0 20 196 9 rfl rfl (T_pick_f rfl rfl rfl g2) rfl ?_
   refine q0 21 212 10 rfl rfl (T_move rfl rfl) rfl ?_
   refine k_split (d := 21) rfl (fun g4 => ?_) (fun g4 => ?_)
   ·have h4 := c_gtr_t g4
    refine k_no (d := 22) (j' := 11) rfl rfl rfl (g_ft rfl rfl rfl g4) ?_
    refine k_no (d := 23) (j' := 12) rfl rfl rfl (g_ft rfl rfl rfl g4) ?_
    refine k_no (d := 24) (j' := 13) rfl rfl rfl (g_ft rfl rfl rfl g4) ?_
    refine k_no (d := 25) (j' := 14) rfl rfl rfl (g_ft rfl rfl rfl g4) ?_
    refine q0 26 292 15 rfl rfl (T_pick_t rfl rfl rfl g4) rfl ?_
    refine q0 27 308 16 rfl rfl (T_move rfl rfl) rfl ?_
    refine k_no (d := 28) (j' := 17) rfl rfl rfl (g_ft rfl rfl rfl rfl) ?_
    refine k_no (d := 29) (j' := 18) rfl rfl rfl (g_ft rfl rfl rfl rfl) ?_
    refine k_no (d := 30) (j' := 19) rfl rfl rfl (g_ft rfl rfl rfl rfl) ?_
    refine k_no (d := 31) (j' := 20) rfl rfl rfl (g_ft rfl rfl rfl rfl) ?_
    refine q0 32 388 21 rfl rfl (T_pick_t rfl rfl rfl rfl) rfl ?_
    refine q0 33 404 22 rfl rfl (T_move rfl rfl) rfl ?_
    refine k_no (d := 34) (j' := 23) rfl rfl rfl (g_ft rfl rfl rfl rfl) ?_
    refine k_no (d := 35) (j' := 24) rfl rfl rfl (g_ft rfl rfl rfl rfl) ?_
    refine k_no (d := 36) (j' := 25) rfl rfl rfl (g_ft rfl rfl rfl rfl) ?_
    refine k_no (d := 37) (j' := 26) rfl rfl rfl (g_ft rfl rfl rfl rfl) ?_
    refine k_no (d := 38) (j' := 27) rfl rfl rfl (g_ft rfl rfl rfl rfl) ?_
    refine k_no (d := 39) (j' := 28) rfl rfl rfl (g_ft rfl rfl rfl rfl) ?_
    refine k_no (d := 40) (j' := 29) rfl rfl rfl (g_ft rfl rfl rfl rfl) ?_
    refine k_no (d := 41) (j' := 30) rfl rfl rfl (g_ft rfl rfl rfl rfl) ?_
    refine k_no (d := 42) (j' := 31) rfl rfl rfl (g_ft rfl rfl rfl rfl) ?_
    refine k_no (d := 43) (j' := 32) rfl rfl rfl (g_ft rfl rfl rfl rfl) ?_
    refine k_no (d := 44) (j' := 33) rfl rfl rfl (g_ft rfl rfl rfl rfl) ?_
    refine k_no (d := 45) (j' := 34) rfl rfl rfl (g_ft rfl rfl rfl rfl) ?_
    refine k_no (d := 46) (j' := 35) rfl rfl rfl (g_ft rfl rfl rfl rfl) ?_
    refine k_no (d := 47) (j' := 36) rfl rfl rfl (g_ft rfl rfl rfl rfl) ?_
    refine k_no (d := 48) (j' := 37) rfl rfl rfl (g_ft rfl rfl rfl rfl) ?_
    refine k_no (d := 49) (j' := 38) rfl rfl rfl (g_ft rfl rfl rfl rfl) ?_
    refine q0 50 676 39 rfl rfl (T_pick_t rfl rfl rfl rfl) rfl ?_
    refine k_done rfl ?_
    refine ⟨rfl, ?_⟩
    refine thenK_n ?_
    refine W_cond rfl (fun g5 => ?_) (fun g5 => ?_)
    ·skip
     refine W_seq ?_
     refine W_seqK (b' := 708) rfl rfl ?_
     refine q0 6 692 1 rfl rfl (T_assign rfl rfl) rfl ?_
     refine k_done rfl ?_
     refine thenK_n ?_
     refine W_ret ?_
     refine thenK_r ?_
     exact .mk [] (.inr rfl) (.tmp rfl (.nil)) (by rfl) (.nil) rfl
    ·exact absurd (g5.symm.trans rfl) (by decide)
   ·have h4 := c_gtr_f g4
    refine k_op0 (d := 22) (b := 228) (j' := 11) rfl rfl rfl rfl (g_ff rfl rfl rfl g4) (T_fa D (m := 2) rfl rfl rfl rfl rfl rfl) rfl ?_
    refine k_op0 (d := 23) (b := 244) (j' := 12) rfl rfl rfl rfl (g_ff rfl rfl rfl g4) (T_load_bA D (l := [_, _]) rfl rfl rfl rfl rfl rfl rfl) rfl ?_
    refine k_op0 (d := 24) (b := 260) (j' := 13) rfl rfl rfl rfl (g_ff rfl rfl rfl g4) (T_callV (lvs := [_, _, _]) (L := [(1, 2)]) (few_spec gn 40 400 (by omega) (fun h j => few_sum hg (n := 40) (by omega) (by omega) j)) body31 rfl rfl rfl rfl (.fz rfl (.nil)) rfl) rfl ?_
    refine k_op0 (d := 25) (b := 276) (j' := 14) rfl rfl rfl rfl (g_ff rfl rfl rfl g4) (T_not rfl rfl) rfl ?_
    refine q0 26 292 15 rfl rfl (T_pick_f rfl rfl rfl g4) rfl ?_
    refine q0 27 308 16 rfl rfl (T_move rfl rfl) rfl ?_
    refine k_split (d := 27) rfl (fun g6 => ?_) (fun g6 => ?_)
    ·have h6 := g6; (try simp only [cmpB, decide_eq_true_eq, decide_eq_false_iff_not, beq_iff_eq, beq_eq_false_iff_ne, bne_iff_ne, ne_eq, bne_eq_false_iff_eq, Bool.not_eq_true', Bool.not_eq_false', Int.not_lt, Int.not_le] at h6)
     refine k_no (d := 28) (j' := 17) rfl rfl rfl (g_ft rfl rfl rfl g6) ?_
     refine k_no (d := 29) (j' := 18) rfl rfl rfl (g_ft rfl rfl rfl g6) ?_
     refine k_no (d := 30) (j' := 19) rfl rfl rfl (g_ft rfl rfl rfl g6) ?_
     refine k_no (d := 31) (j' := 20) rfl rfl rfl (g_ft rfl rfl rfl g6) ?_
     refine q0 32 388 21 rfl rfl (T_pick_t rfl rfl rfl g6) rfl ?_
     refine q0 33 404 22 rfl rfl (T_move rfl rfl) rfl ?_
     refine k_no (d := 34) (j' := 23) rfl rfl rfl (g_ft rfl rfl rfl rfl) ?_
     refine k_no (d := 35) (j' := 24) rfl rfl rfl (g_ft rfl rfl rfl rfl) ?_
     refine k_no (d := 36) (j' := 25) rfl rfl rfl (g_ft rfl rfl rfl rfl) ?_
     refine k_no (d := 37) (j' := 26) rfl rfl rfl (g_ft rfl rfl rfl rfl) ?_
     refine k_no (d := 38) (j' := 27) rfl rfl rfl (g_ft rfl rfl rfl rfl) ?_
     refine k_no (d := 39) (j' := 28) rfl rfl rfl (g_ft rfl rfl rfl rfl) ?_
     refine k_no (d := 40) (j' := 29) rfl rfl rfl (g_ft rfl rfl rfl rfl) ?_
     refine k_no (d := 41) (j' := 30) rfl rfl rfl (g_ft rfl rfl rfl rfl) ?_
     refine k_no (d := 42) (j' := 31) rfl rfl rfl (g_ft rfl rfl rfl rfl) ?_
     refine k_no (d := 43) (j' := 32) rfl rfl rfl (g_ft rfl rfl rfl rfl) ?_
     refine k_no (d := 44) (j' := 33) rfl rfl rfl (g_ft rfl rfl rfl rfl) ?_
     refine k_no (d := 45) (j' := 34) rfl rfl rfl (g_ft rfl rfl rfl rfl) ?_
     refine k_no (d := 46) (j' := 35) rfl rfl rfl (g_ft rfl rfl rfl rfl) ?_
     refine k_no (d := 47) (j' := 36) rfl rfl rfl (g_ft rfl rfl rfl rfl) ?_
     refine k_no (d := 48) (j' := 37) rfl rfl rfl (g_ft rfl rfl rfl rfl) ?_
     refine k_no (d := 49) (j' := 38) rfl rfl rfl (g_ft rfl rfl rfl rfl) ?_
     refine q0 50 676 39 rfl rfl (T_pick_t rfl rfl rfl rfl) rfl ?_
     refine k_done rfl ?_
     refine ⟨rfl, ?_⟩
     refine thenK_n ?_
     refine W_cond rfl (fun g7 => ?_) (fun g7 => ?_)
     ·skip
      refine W_seq ?_
      refine W_seqK (b' := 708) rfl rfl ?_
      refine q0 6 692 1 rfl rfl (T_assign rfl rfl) rfl ?_
      refine k_done rfl ?_
      refine thenK_n ?_
      refine W_ret ?_
      refine thenK_r ?_
      exact .mk [] (.inr rfl) (.tmp rfl (.nil)) (by rfl) (.nil) rfl
     ·exact absurd (g7.symm.trans rfl) (by decide)
    ·have h6 := g6; (try simp only [cmpB, decide_eq_true_eq, decide_eq_false_iff_not, beq_iff_eq, beq_eq_false_iff_ne, bne_iff_ne, ne_eq, bne_eq_false_iff_eq, Bool.not_eq_true', Bool.not_eq_false', Int.not_lt, Int.not_le] at h6)
     refine k_op0 (d := 28) (b := 324) (j' := 17) rfl rfl rfl rfl (g_ff rfl rfl rfl g6) (T_fa D (m := 4) rfl rfl rfl rfl rfl rfl) rfl ?_
     refine k_op0 (d := 29) (b := 340) (j' := 18) rfl rfl rfl rfl (g_ff rfl rfl rfl g6) (T_load_b D rfl rfl rfl rfl rfl rfl) rfl ?_
     refine k_op0 (d := 30) (b := 356) (j' := 19) rfl rfl rfl rfl (g_ff rfl rfl rfl g6) (T_callV (lvs := [_, _, _]) (L := [(1, 3)]) (small_spec ps 40 400 (by omega) (by omega) (fun l h => by have := hq.2 l h; omega)) body32 rfl rfl rfl rfl (.fz rfl (.nil)) rfl) rfl ?_
     refine k_op0 (d := 31) (b := 372) (j' := 20) rfl rfl rfl rfl (g_ff rfl rfl rfl g6) (T_not rfl rfl) rfl ?_
     refine q0 32 388 21 rfl rfl (T_pick_f rfl rfl rfl g6) rfl ?_
     refine q0 33 404 22 rfl rfl (T_move rfl rfl) rfl ?_
     refine k_split (d := 33) rfl (fun g8 => ?_) (fun g8 => ?_)
     ·have h8 := g8; (try simp only [cmpB, decide_eq_true_eq, decide_eq_false_iff_not, beq_iff_eq, beq_eq_false_iff_ne, bne_iff_ne, ne_eq, bne_eq_false_iff_eq, Bool.not_eq_true', Bool.not_eq_false', Int.not_lt, Int.not_le] at h8)
      refine k_no (d := 34) (j' := 23) rfl rfl rfl (g_ft rfl rfl rfl g8) ?_
      refine k_no (d := 35) (j' := 24) rfl rfl rfl (g_ft rfl rfl rfl g8) ?_
      refine k_no (d := 36) (j' := 25) rfl rfl rfl (g_ft rfl rfl rfl g8) ?_
      refine k_no (d := 37) (j' := 26) rfl rfl rfl (g_ft rfl rfl rfl g8) ?_
      refine k_no (d := 38) (j' := 27) rfl rfl rfl (g_ft rfl rfl rfl g8) ?_
      refine k_no (d := 39) (j' := 28) rfl rfl rfl (g_ft rfl rfl rfl g8) ?_
      refine k_no (d := 40) (j' := 29) rfl rfl rfl (g_ft rfl rfl rfl g8) ?_
      refine k_no (d := 41) (j' := 30) rfl rfl rfl (g_ft rfl rfl rfl g8) ?_
      refine k_no (d := 42) (j' := 31) rfl rfl rfl (g_ft rfl rfl rfl g8) ?_
      refine k_no (d := 43) (j' := 32) rfl rfl rfl (g_ft rfl rfl rfl g8) ?_
      refine k_no (d := 44) (j' := 33) rfl rfl rfl (g_ft rfl rfl rfl g8) ?_
      refine k_no (d := 45) (j' := 34) rfl rfl rfl (g_ft rfl rfl rfl g8) ?_
      refine k_no (d := 46) (j' := 35) rfl rfl rfl (g_ft rfl rfl rfl g8) ?_
      refine k_no (d := 47) (j' := 36) rfl rfl rfl (g_ft rfl rfl rfl g8) ?_
      refine k_no (d := 48) (j' := 37) rfl rfl rfl (g_ft rfl rfl rfl g8) ?_
      refine k_no (d := 49) (j' := 38) rfl rfl rfl (g_ft rfl rfl rfl g8) ?_
      refine q0 50 676 39 rfl rfl (T_pick_t rfl rfl rfl g8) rfl ?_
      refine k_done rfl ?_
      refine ⟨rfl, ?_⟩
      refine thenK_n ?_
      refine W_cond rfl (fun g9 => ?_) (fun g9 => ?_)
      ·skip
       refine W_seq ?_
       refine W_seqK (b' := 708) rfl rfl ?_
       refine q0 6 692 1 rfl rfl (T_assign rfl rfl) rfl ?_
       refine k_done rfl ?_
       refine thenK_n ?_
       refine W_ret ?_
       refine thenK_r ?_
       exact .mk [] (.inr rfl) (.tmp rfl (.nil)) (by rfl) (.nil) rfl
      ·exact absurd (g9.symm.trans rfl) (by decide)
     ·have h8 := g8; (try simp only [cmpB, decide_eq_true_eq, decide_eq_false_iff_not, beq_iff_eq, beq_eq_false_iff_ne, bne_iff_ne, ne_eq, bne_eq_false_iff_eq, Bool.not_eq_true', Bool.not_eq_false', Int.not_lt, Int.not_le] at h8)
      refine k_op0 (d := 34) (b := 420) (j' := 23) rfl rfl rfl rfl (g_ff rfl rfl rfl g8) (T_fa D (m := 0) rfl rfl rfl rfl rfl rfl) rfl ?_
      refine k_op0 (d := 35) (b := 436) (j' := 24) rfl rfl rfl rfl (g_ff rfl rfl rfl g8) (T_fa D (m := 1) rfl rfl rfl rfl rfl rfl) rfl ?_
      refine k_op0 (d := 36) (b := 452) (j' := 25) rfl rfl rfl rfl (g_ff rfl rfl rfl g8) (T_load_b D rfl rfl rfl rfl rfl rfl) rfl ?_
      refine k_op0 (d := 37) (b := 468) (j' := 26) rfl rfl rfl rfl (g_ff rfl rfl rfl g8) (T_fa D (m := 0) rfl rfl rfl rfl rfl rfl) rfl ?_
      refine k_op0 (d := 38) (b := 484) (j' := 27) rfl rfl rfl rfl (g_ff rfl rfl rfl g8) (T_fa D (m := 1) rfl rfl rfl rfl rfl rfl) rfl ?_
      refine k_op0 (d := 39) (b := 500) (j' := 28) rfl rfl rfl rfl (g_ff rfl rfl rfl g8) (T_load_b D rfl rfl rfl rfl rfl rfl) rfl ?_
      refine k_op0 (d := 40) (b := 516) (j' := 29) rfl rfl rfl rfl (g_ff rfl rfl rfl g8) (T_len D rfl rfl rfl rfl rfl rfl) rfl ?_
      refine k_op0 (d := 41) (b := 532) (j' := 30) rfl rfl rfl rfl (g_ff rfl rfl rfl g8) (T_sub64 rfl rfl rfl (by first | assumption | omega | (have q := right_pos (small_right (by assumption)); omega) | (have q := right_pos (small_right (by assumption)); have q2 := small_len (by assumption); omega))) rfl ?_
      first | refine k_op0 (d := 42) (b := 548) (j' := 31) rfl rfl rfl rfl (g_ff rfl rfl rfl g8) (T_indexAddr D rfl rfl rfl rfl rfl rfl rfl rfl (by first | assumption | omega | (have q := right_pos (small_right (by assumption)); omega) | (have q := right_pos (small_right (by assumption)); have q2 := small_len (by assumption); omega))) rfl ?_ | refine k_op0 (d := 42) (b := 548) (j' := 31) rfl rfl rfl rfl (g_ff rfl rfl rfl g8) (T_indexAddrZ D rfl rfl rfl rfl rfl rfl rfl rfl (by first | assumption | omega | (have q := right_pos (small_right (by assumption)); omega) | (have q := right_pos (small_right (by assumption)); have q2 := small_len (by assumption); omega)) (by first | assumption | omega | (have q := right_pos (small_right (by assumption)); omega) | (have q := right_pos (small_right (by assumption)); have q2 := small_len (by assumption); omega))) rfl ?_
      refine k_op1 (d := 43) (b := 564) (j' := 32) rfl rfl rfl rfl (g_ff rfl rfl rfl g8) (T_ldEA D (l := [.v _, .r 564]) (nn := 1) (upd := [(564, .fz 5 _)]) rfl rfl rfl rfl rfl (by first | assumption | omega | (have q := right_pos (small_right (by assumption)); omega) | (have q := right_pos (small_right (by assumption)); have q2 := small_len (by assumption); omega)) rfl rfl rfl rfl rfl) rfl ?_
      refine k_op0 (d := 44) (b := 580) (j' := 33) rfl rfl rfl rfl (g_ff rfl rfl rfl g8) (T_fa D (m := 2) rfl rfl rfl rfl rfl rfl) rfl ?_
      refine k_op0 (d := 45) (b := 596) (j' := 34) rfl rfl rfl rfl (g_ff rfl rfl rfl g8) (T_load_bA D (l := [_, _]) rfl rfl rfl rfl rfl rfl rfl) rfl ?_
      refine k_op0 (d := 46) (b := 612) (j' := 35) rfl rfl rfl rfl (g_ff rfl rfl rfl g8) (T_fa D (m := 4) rfl rfl rfl rfl rfl rfl) rfl ?_
      refine k_op0 (d := 47) (b := 628) (j' := 36) rfl rfl rfl rfl (g_ff rfl rfl rfl g8) (T_load_b D rfl rfl rfl rfl rfl rfl) rfl ?_
      refine k_op0 (d := 48) (b := 644) (j' := 37) rfl rfl rfl rfl (g_ff rfl rfl rfl g8) (T_callV (lvs := [_, _, _]) (L := [(1, 564), (2, 2), (3, 3)]) (tcheck_ok (f := (p.funcs.getD ((p.funcs.length : Int) - 1).toNat default)) (g := gn) (ps := ps) (true_chk (by assumption) (by assumption) (by assumption))) body30 rfl rfl rfl rfl (.fz rfl (.fz rfl (.fz rfl (.nil)))) rfl) rfl ?_
      refine k_op0 (d := 49) (b := 660) (j' := 38) rfl rfl rfl rfl (g_ff rfl rfl rfl g8) (T_not rfl rfl) rfl ?_
      refine q0 50 676 39 rfl rfl (T_pick_f rfl rfl rfl g8) rfl ?_
      refine k_done rfl ?_
      refine ⟨rfl, ?_⟩
      refine thenK_n ?_
      refine W_cond rfl (fun g10 => ?_) (fun g10 => ?_)
      ·have h10 := g10; (try simp only [cmpB, decide_eq_true_eq, decide_eq_false_iff_not, beq_iff_eq, beq_eq_false_iff_ne, bne_iff_ne, ne_eq, bne_eq_false_iff_eq, Bool.not_eq_true', Bool.not_eq_false', Int.not_lt, Int.not_le] at h10)
       refine W_seq ?_
       refine W_seqK (b' := 708) rfl rfl ?_
       refine q0 6 692 1 rfl rfl (T_assign rfl rfl) rfl ?_
       refine k_done rfl ?_
       refine thenK_n ?_
       refine W_ret ?_
       refine thenK_r ?_
       exact .mk [] (.inr rfl) (.tmp rfl (.nil)) (by rfl) (.nil) rfl
      ·have h10 := g10; (try simp only [cmpB, decide_eq_true_eq, decide_eq_false_iff_not, beq_iff_eq, beq_eq_false_iff_ne, bne_iff_ne, ne_eq, bne_eq_false_iff_eq, Bool.not_eq_true', Bool.not_eq_false', Int.not_lt, Int.not_le] at h10)
       refine W_skip ?_
       refine thenK_n ?_
       refine W_seq ?_
       refine W_seqK (b' := 804) rfl rfl ?_
       refine q0 51 692 1 rfl rfl (T_fa D (m := 0) rfl rfl rfl rfl rfl rfl) rfl ?_
       refine q0 52 708 2 rfl rfl (T_load_bA D (l := [_, _]) rfl rfl rfl rfl rfl rfl rfl) rfl ?_
       refine q0 53 724 3 rfl rfl (T_fa D (m := 2) rfl rfl rfl rfl rfl rfl) rfl ?_
       refine q0 54 740 4 rfl rfl (T_load_bA D (l := [_, _]) rfl rfl rfl rfl rfl rfl rfl) rfl ?_
       refine q1 55 756 5 rfl rfl (T_call (lvs := [_, _]) (L := [(1, 1), (2, 2)]) (lv := .agg [.v _, .r 756]) (upd := [(756, .row 29 2 _)]) (nn := 1) false (put_spec p gn (right_pos (small_right (by assumption : smallG p 100 = true))) (by have := small_len (by assumption : smallG p 100 = true); omega)) body34 rfl rfl rfl rfl (.fz rfl (.fz rfl (.nil))) rfl (.inl rfl) rfl rfl rfl) rfl ?_
       refine qn 7 772 6 rfl rfl (T_nilbox [(29, 2)] (T_alloc D rfl rfl rfl) rfl (.cons (.same _) <| .cons (.nil rfl) <| .nil) (upd' := [(772, .box 24 [.v (.int .i64 0), .r 773]), (773, .row 29 2 (List.map eFn ([] : List (GFn))))]) (nn' := 2) rfl rfl) rfl ?_
       refine s1 788 7 rfl rfl (T_stB D (cs' := [_, _]) rfl rfl rfl rfl flat_agg rfl rfl (Nat.le_of_ble_eq_true rfl) rfl) rfl ?_
       refine k_done rfl ?_
       refine thenK_n ?_
       refine W_seq ?_
       refine W_seq ?_
       refine W_seqK (b' := 852) rfl rfl ?_
       refine q0 56 804 1 rfl rfl (T_load_bA D (l := [_, _]) rfl rfl rfl rfl rfl rfl rfl) rfl ?_
       refine q0 57 820 2 rfl rfl (T_callV (lvs := [_]) (L := [(1, 756)]) (right_spec (putP p gn) (put_pgOk hp hg)) body35 rfl rfl rfl rfl (.lend rfl (.nil)) rfl) rfl ?_
       refine q0 58 836 3 rfl rfl (T_not rfl rfl) rfl ?_
       refine k_done rfl ?_
       refine thenK_n ?_
       refine W_cond rfl (fun g11 => ?_) (fun g11 => ?_)
       ·have h11 := g11; (try simp only [cmpB, decide_eq_true_eq, decide_eq_false_iff_not, beq_iff_eq, beq_eq_false_iff_ne, bne_iff_ne, ne_eq, bne_eq_false_iff_eq, Bool.not_eq_true', Bool.not_eq_false', Int.not_lt, Int.not_le] at h11)
        refine W_seq ?_
        refine W_seqK (b' := 868) rfl rfl ?_
        refine q0 6 852 1 rfl rfl (T_assign rfl rfl) rfl ?_
        refine k_done rfl ?_
        refine thenK_n ?_
        refine W_ret ?_
        refine thenK_r ?_
        have hQ := (put_run (run_ok (by assumption : smallG p 100 = true) hn) (by rw [← lastF_eq p]; exact (tcheck_iff _ _ _).1 (by assumption) : Holds (lastF p) gn ps)).right
        exact .mk [] (.inr rfl) (.tmp rfl (.nil)) (by exact absurd (hQ.symm.trans (by assumption : _ = false)) (by decide)) (.nil) rfl
       ·have h11 := g11; (try simp only [cmpB, decide_eq_true_eq, decide_eq_false_iff_not, beq_iff_eq, beq_eq_false_iff_ne, bne_iff_ne, ne_eq, bne_eq_false_iff_eq, Bool.not_eq_true', Bool.not_eq_false', Int.not_lt, Int.not_le] at h11)
        refine W_skip ?_
        refine thenK_n ?_
        refine W_seq ?_
        refine W_seqK (b' := 980) rfl rfl ?_
        refine q0 59 852 1 rfl rfl (T_fa D (m := 0) rfl rfl rfl rfl rfl rfl) rfl ?_
        refine q0 60 868 2 rfl rfl (T_load_bA D (l := [_, _]) rfl rfl rfl rfl rfl rfl rfl) rfl ?_
        refine q0 61 884 3 rfl rfl (T_move rfl rfl) rfl ?_
        refine q0 62 900 4 rfl rfl (T_move rfl rfl) rfl ?_
        refine q0 63 916 5 rfl rfl (T_conv64 rfl rfl (by rw [Try.underlying5]; rfl) (by first | assumption | omega | (have q := right_pos (small_right (by assumption)); omega) | (have q := right_pos (small_right (by assumption)); have q2 := small_len (by assumption); omega))) rfl ?_
        refine qn 64 932 6 rfl rfl (T_call (lvs := [_, _, _]) (L := [(1, 1)]) (lv := .agg [.v _, .v _, .v _]) (upd := []) (nn := 0) false (runs_spec p inp x (run_ok (by assumption : smallG p 100 = true) hn) (by omega) (by omega) (by omega) (small_each (by assumption : smallG p 100 = true) (n := 100) (by omega) (by omega)) (by have := small_len (by assumption : smallG p 100 = true); omega)) body36 rfl rfl rfl rfl (.fz rfl (.nil)) rfl (.inl rfl) rfl rfl rfl) rfl ?_
        refine q1 8 948 7 rfl rfl (T_alloc D rfl rfl rfl) rfl ?_
        refine s1 964 8 rfl rfl (T_stB D (cs' := [_, _, _]) rfl rfl rfl rfl flat_agg rfl rfl (Nat.le_of_ble_eq_true rfl) rfl) rfl ?_
        refine k_done rfl ?_
        refine thenK_n ?_
        refine W_seq ?_
        refine W_seqK (b' := 1092) rfl rfl ?_
        refine q0 65 980 1 rfl rfl (T_load_bA D (l := [_, _]) rfl rfl rfl rfl rfl rfl rfl) rfl ?_
        refine q0 66 996 2 rfl rfl (T_move rfl rfl) rfl ?_
        refine q0 67 1012 3 rfl rfl (T_move rfl rfl) rfl ?_
        refine q0 68 1028 4 rfl rfl (T_conv64 rfl rfl (by rw [Try.underlying5]; rfl) (by first | assumption | omega | (have q := right_pos (small_right (by assumption)); omega) | (have q := right_pos (small_right (by assumption)); have q2 := small_len (by assumption); omega))) rfl ?_
        refine q1 69 1044 5 rfl rfl (T_call (lvs := [_, _, _]) (L := [(1, 756)]) (lv := .agg [.v _, .v _, .v _]) (upd := [(756, .fz 2 _)]) (nn := 0) false (runs_spec (putP p gn) inp x (put_run (run_ok (by assumption : smallG p 100 = true) hn) (by rw [← lastF_eq p]; exact (tcheck_iff _ _ _).1 (by assumption) : Holds (lastF p) gn ps)) (by omega) (by omega) (by omega) (put_each (small_each (by assumption : smallG p 100 = true) (n := 100) (by omega) (by omega)) (few_each (by assumption))) (by rw [putP_len]; have := small_len (by assumption : smallG p 100 = true); omega)) body36 rfl rfl rfl rfl (.lend rfl (.nil)) rfl (.inl rfl) rfl rfl rfl) rfl ?_
        refine q1 9 1060 6 rfl rfl (T_alloc D rfl rfl rfl) rfl ?_
        refine s1 1076 7 rfl rfl (T_stB D (cs' := [_, _, _]) rfl rfl rfl rfl flat_agg rfl rfl (Nat.le_of_ble_eq_true rfl) rfl) rfl ?_
        refine k_done rfl ?_
        refine thenK_n ?_
        refine W_seq ?_
        refine W_seqK (b' := 1492) rfl rfl ?_
        refine q0 70 1092 1 rfl rfl (T_fa D (m := 0) rfl rfl rfl rfl rfl rfl) rfl ?_
        refine q0 71 1108 2 rfl rfl (T_load_b D rfl rfl rfl rfl rfl rfl) rfl ?_
        refine q0 72 1124 3 rfl rfl (T_cmp rfl rfl rfl rfl) rfl ?_
        refine q0 73 1140 4 rfl rfl (T_move rfl rfl) rfl ?_
        refine k_split (d := 73) rfl (fun g12 => ?_) (fun g12 => ?_)
        ·have h12 := c_eql_t g12
         refine k_no (d := 74) (j' := 5) rfl rfl rfl (g_ft rfl rfl rfl g12) ?_
         refine k_no (d := 75) (j' := 6) rfl rfl rfl (g_ft rfl rfl rfl g12) ?_
         refine k_no (d := 76) (j' := 7) rfl rfl rfl (g_ft rfl rfl rfl g12) ?_
         refine k_no (d := 77) (j' := 8) rfl rfl rfl (g_ft rfl rfl rfl g12) ?_
         refine k_no (d := 78) (j' := 9) rfl rfl rfl (g_ft rfl rfl rfl g12) ?_
         refine k_no (d := 79) (j' := 10) rfl rfl rfl (g_ft rfl rfl rfl g12) ?_
         refine k_no (d := 80) (j' := 11) rfl rfl rfl (.und rfl rfl rfl) ?_
         refine k_no (d := 81) (j' := 12) rfl rfl rfl (.und rfl rfl rfl) ?_
         refine k_no (d := 82) (j' := 13) rfl rfl rfl (.und rfl rfl rfl) ?_
         refine k_no (d := 83) (j' := 14) rfl rfl rfl (.und rfl rfl rfl) ?_
         refine k_no (d := 84) (j' := 15) rfl rfl rfl (.und rfl rfl rfl) ?_
         refine k_no (d := 85) (j' := 16) rfl rfl rfl (g_ft rfl rfl rfl g12) ?_
         refine k_no (d := 86) (j' := 17) rfl rfl rfl (g_ft rfl rfl rfl g12) ?_
         refine k_no (d := 87) (j' := 18) rfl rfl rfl (.und rfl rfl rfl) ?_
         refine k_no (d := 88) (j' := 19) rfl rfl rfl (.und rfl rfl rfl) ?_
         refine k_no (d := 89) (j' := 20) rfl rfl rfl (.und rfl rfl rfl) ?_
         refine k_no (d := 90) (j' := 21) rfl rfl rfl (.und rfl rfl rfl) ?_
         refine k_no (d := 91) (j' := 22) rfl rfl rfl (.und rfl rfl rfl) ?_
         refine k_no (d := 92) (j' := 23) rfl rfl rfl (g_ft rfl rfl rfl g12) ?_
         refine q0 93 1460 24 rfl rfl (T_pick_t rfl rfl rfl g12) rfl ?_
         refine q0 6 1476 25 rfl rfl (T_assign rfl rfl) rfl ?_
         refine k_done rfl ?_
         refine thenK_n ?_
         refine W_ret ?_
         exact .mk [] (.inr rfl) (.tmp rfl (.nil)) (by rfl) (.nil) rfl
        ·have h12 := c_eql_f g12
         refine k_op0 (d := 74) (b := 1156) (j' := 5) rfl rfl rfl rfl (g_ff rfl rfl rfl g12) (T_fa D (m := 0) rfl rfl rfl rfl rfl rfl) rfl ?_
         refine k_op0 (d := 75) (b := 1172) (j' := 6) rfl rfl rfl rfl (g_ff rfl rfl rfl g12) (T_load_b D rfl rfl rfl rfl rfl rfl) rfl ?_
         refine k_op0 (d := 76) (b := 1188) (j' := 7) rfl rfl rfl rfl (g_ff rfl rfl rfl g12) (T_fa D (m := 0) rfl rfl rfl rfl rfl rfl) rfl ?_
         refine k_op0 (d := 77) (b := 1204) (j' := 8) rfl rfl rfl rfl (g_ff rfl rfl rfl g12) (T_load_b D rfl rfl rfl rfl rfl rfl) rfl ?_
         refine k_op0 (d := 78) (b := 1220) (j' := 9) rfl rfl rfl rfl (g_ff rfl rfl rfl g12) (T_cmp rfl rfl rfl rfl) rfl ?_
         refine k_op0 (d := 79) (b := 1236) (j' := 10) rfl rfl rfl rfl (g_ff rfl rfl rfl g12) (T_move rfl rfl) rfl ?_
         refine k_split (d := 79) rfl (fun g13 => ?_) (fun g13 => ?_)
         ·have h13 := c_eql_t g13
          refine k_op0 (d := 80) (b := 1252) (j' := 11) rfl rfl rfl rfl (g_tt rfl rfl rfl g13) (T_fa D (m := 1) rfl rfl rfl rfl rfl rfl) rfl ?_
          refine k_op0 (d := 81) (b := 1268) (j' := 12) rfl rfl rfl rfl (g_tt rfl rfl rfl g13) (T_load_b D rfl rfl rfl rfl rfl rfl) rfl ?_
          refine k_op0 (d := 82) (b := 1284) (j' := 13) rfl rfl rfl rfl (g_tt rfl rfl rfl g13) (T_fa D (m := 1) rfl rfl rfl rfl rfl rfl) rfl ?_
          refine k_op0 (d := 83) (b := 1300) (j' := 14) rfl rfl rfl rfl (g_tt rfl rfl rfl g13) (T_load_b D rfl rfl rfl rfl rfl rfl) rfl ?_
          refine k_op0 (d := 84) (b := 1316) (j' := 15) rfl rfl rfl rfl (g_tt rfl rfl rfl g13) (T_eqS rfl rfl rfl) rfl ?_
          refine k_op0 (d := 85) (b := 1332) (j' := 16) rfl rfl rfl rfl (g_ff rfl rfl rfl g12) (T_pick_t rfl rfl rfl g13) rfl ?_
          refine k_op0 (d := 86) (b := 1348) (j' := 17) rfl rfl rfl rfl (g_ff rfl rfl rfl g12) (T_move rfl rfl) rfl ?_
          refine k_split (d := 86) rfl (fun g14 => ?_) (fun g14 => ?_)
          ·have h14 := g14; (try simp only [cmpB, decide_eq_true_eq, decide_eq_false_iff_not, beq_iff_eq, beq_eq_false_iff_ne, bne_iff_ne, ne_eq, bne_eq_false_iff_eq, Bool.not_eq_true', Bool.not_eq_false', Int.not_lt, Int.not_le] at h14)
           refine k_op0 (d := 87) (b := 1364) (j' := 18) rfl rfl rfl rfl (g_tt rfl rfl rfl g14) (T_fa D (m := 2) rfl rfl rfl rfl rfl rfl) rfl ?_
           refine k_op0 (d := 88) (b := 1380) (j' := 19) rfl rfl rfl rfl (g_tt rfl rfl rfl g14) (T_load_b D rfl rfl rfl rfl rfl rfl) rfl ?_
           refine k_op0 (d := 89) (b := 1396) (j' := 20) rfl rfl rfl rfl (g_tt rfl rfl rfl g14) (T_fa D (m := 2) rfl rfl rfl rfl rfl rfl) rfl ?_
           refine k_op0 (d := 90) (b := 1412) (j' := 21) rfl rfl rfl rfl (g_tt rfl rfl rfl g14) (T_load_b D rfl rfl rfl rfl rfl rfl) rfl ?_
           refine k_op0 (d := 91) (b := 1428) (j' := 22) rfl rfl rfl rfl (g_tt rfl rfl rfl g14) (T_cmp rfl rfl rfl rfl) rfl ?_
           refine k_op0 (d := 92) (b := 1444) (j' := 23) rfl rfl rfl rfl (g_ff rfl rfl rfl g12) (T_pick_t rfl rfl rfl g14) rfl ?_
           refine q0 93 1460 24 rfl rfl (T_pick_f rfl rfl rfl g12) rfl ?_
           refine q0 6 1476 25 rfl rfl (T_assign rfl rfl) rfl ?_
           refine k_done rfl ?_
           refine thenK_n ?_
           refine W_ret ?_
           have hL := runs_law (small_right (by assumption : smallG p 100 = true)) (by rw [← lastF_eq p]; exact (tcheck_iff _ _ _).1 (by assumption) : Holds (lastF p) gn ps) (inp := inp) (fuel := x) hx.1
           exact .mk [] (.inr rfl) (.tmp rfl (.nil)) (by simp only [resLV, LV.ren, LV.v.injEq, Value.bool.injEq, cmpB]; exact decide_eq_true (by rcases hL with q | q <;> omega)) (.nil) rfl
          ·have h14 := g14; (try simp only [cmpB, decide_eq_true_eq, decide_eq_false_iff_not, beq_iff_eq, beq_eq_false_iff_ne, bne_iff_ne, ne_eq, bne_eq_false_iff_eq, Bool.not_eq_true', Bool.not_eq_false', Int.not_lt, Int.not_le] at h14)
           refine k_no (d := 87) (j' := 18) rfl rfl rfl (g_tf rfl rfl rfl g14) ?_
           refine k_no (d := 88) (j' := 19) rfl rfl rfl (g_tf rfl rfl rfl g14) ?_
           refine k_no (d := 89) (j' := 20) rfl rfl rfl (g_tf rfl rfl rfl g14) ?_
           refine k_no (d := 90) (j' := 21) rfl rfl rfl (g_tf rfl rfl rfl g14) ?_
           refine k_no (d := 91) (j' := 22) rfl rfl rfl (g_tf rfl rfl rfl g14) ?_
           refine k_op0 (d := 92) (b := 1444) (j' := 23) rfl rfl rfl rfl (g_ff rfl rfl rfl g12) (T_pick_f rfl rfl rfl g14) rfl ?_
           refine q0 93 1460 24 rfl rfl (T_pick_f rfl rfl rfl g12) rfl ?_
           refine q0 6 1476 25 rfl rfl (T_assign rfl rfl) rfl ?_
           refine k_done rfl ?_
           refine thenK_n ?_
           refine W_ret ?_
           have hL := runs_law (small_right (by assumption : smallG p 100 = true)) (by rw [← lastF_eq p]; exact (tcheck_iff _ _ _).1 (by assumption) : Holds (lastF p) gn ps) (inp := inp) (fuel := x) hx.1
           exact .mk [] (.inr rfl) (.tmp rfl (.nil)) (by exfalso; rcases hL with q | q <;> simp_all) (.nil) rfl
         ·have h13 := c_eql_f g13
          refine k_no (d := 80) (j' := 11) rfl rfl rfl (g_tf rfl rfl rfl g13) ?_
          refine k_no (d := 81) (j' := 12) rfl rfl rfl (g_tf rfl rfl rfl g13) ?_
          refine k_no (d := 82) (j' := 13) rfl rfl rfl (g_tf rfl rfl rfl g13) ?_
          refine k_no (d := 83) (j' := 14) rfl rfl rfl (g_tf rfl rfl rfl g13) ?_
          refine k_no (d := 84) (j' := 15) rfl rfl rfl (g_tf rfl rfl rfl g13) ?_
          refine k_op0 (d := 85) (b := 1332) (j' := 16) rfl rfl rfl rfl (g_ff rfl rfl rfl g12) (T_pick_f rfl rfl rfl g13) rfl ?_
          refine k_op0 (d := 86) (b := 1348) (j' := 17) rfl rfl rfl rfl (g_ff rfl rfl rfl g12) (T_move rfl rfl) rfl ?_
          refine k_no (d := 87) (j' := 18) rfl rfl rfl (g_tf rfl rfl rfl rfl) ?_
          refine k_no (d := 88) (j' := 19) rfl rfl rfl (g_tf rfl rfl rfl rfl) ?_
          refine k_no (d := 89) (j' := 20) rfl rfl rfl (g_tf rfl rfl rfl rfl) ?_
          refine k_no (d := 90) (j' := 21) rfl rfl rfl (g_tf rfl rfl rfl rfl) ?_
          refine k_no (d := 91) (j' := 22) rfl rfl rfl (g_tf rfl rfl rfl rfl) ?_
          refine k_op0 (d := 92) (b := 1444) (j' := 23) rfl rfl rfl rfl (g_ff rfl rfl rfl g12) (T_pick_f rfl rfl rfl rfl) rfl ?_
          refine q0 93 1460 24 rfl rfl (T_pick_f rfl rfl rfl g12) rfl ?_
          refine q0 6 1476 25 rfl rfl (T_assign rfl rfl) rfl ?_
          refine k_done rfl ?_
          refine thenK_n ?_
          refine W_ret ?_
          have hL := runs_law (small_right (by assumption : smallG p 100 = true)) (by rw [← lastF_eq p]; exact (tcheck_iff _ _ _).1 (by assumption) : Holds (lastF p) gn ps) (inp := inp) (fuel := x) hx.1
          exact .mk [] (.inr rfl) (.tmp rfl (.nil)) (by exfalso; rcases hL with q | q <;> omega) (.nil) rfl
end Lg
end Go.Proofs.Ytpfhmodjjljpjaa
