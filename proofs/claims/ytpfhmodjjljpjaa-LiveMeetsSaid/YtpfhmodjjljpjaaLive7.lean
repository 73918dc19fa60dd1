import Derived.Test.YtpfhmodjjljpjaaLive6
set_option linter.unusedVariables false
set_option linter.unusedSimpArgs false
namespace Go.Proofs.Ytpfhmodjjljpjaa
open Go.RowKit
namespace Lg
set_option maxRecDepth 100000
set_option linter.unusedVariables false
set_option linter.unusedSimpArgs false
theorem body15 : (Try.prog.funcs[15]?).map (fun fn => (fn.name == "runtime.NumGoroutine" || fn.body.isNone)) = some false := by kernel_rfl
theorem law15 (f : GFn) (li lo : List (List Bool)) (y : Int) (hf : FnOk f) (hb1 : li.length ≤ 1000000000000000) (hb2 : lo.length ≤ 1000000000000000) (hy : 0 ≤ y ∧ y < 256) : Spec Try.prog 15 [.agg [.v (.int .i64 f.regs), .r 1], .agg [.r 2, .r 3], .v (.int .u8 y)] 4 [(1, .fz 5 (f.blocks.map eBlock)), (2, .fz 1 (li.map eBs)), (3, .fz 1 (lo.map eBs))] (.v (.bool true)) 4 [] := by
 refine spec_of D (fn := Try.f15) rfl rfl (Nat.le_of_ble_eq_true rfl) ?_
 refine W_seq ?_
 refine W_seqK (b' := 52) rfl rfl ?_
 refine q1 3 4 1 rfl rfl (T_box rfl rfl flat_agg) rfl ?_
 refine q1 4 20 2 rfl rfl (T_box rfl rfl flat_agg) rfl ?_
 refine q0 6 36 3 rfl rfl (T_assign rfl rfl) rfl ?_
 refine k_done rfl ?_
 refine thenK_n ?_
 refine W_seq ?_
 refine W_seq ?_
 refine W_seqK (b' := 292) rfl rfl ?_
 refine q0 8 52 1 rfl rfl (T_load_bA D (l := [_, _]) rfl rfl rfl rfl rfl rfl rfl) rfl ?_
 refine q0 9 68 2 rfl rfl (T_callV (lvs := [_, _, _]) (L := [(1, 1)]) (small27_spec f 12 60 hf (by omega) (by omega)) body48 rfl rfl rfl rfl (.fz rfl (.nil)) rfl) rfl ?_
 refine q0 10 84 3 rfl rfl (T_not rfl rfl) rfl ?_
 refine q0 11 100 4 rfl rfl (T_move rfl rfl) rfl ?_
 refine k_split (d := 11) rfl (fun g1 => ?_) (fun g1 => ?_)
 ·have h1 := g1; (try simp only [cmpB, decide_eq_true_eq, decide_eq_false_iff_not, beq_iff_eq, beq_eq_false_iff_ne, bne_iff_ne, ne_eq, bne_eq_false_iff_eq, Bool.not_eq_true', Bool.not_eq_false', Int.not_lt, Int.not_le] at h1)
  refine k_no (d := 12) (j' := 5) rfl rfl rfl (g_ft rfl rfl rfl g1) ?_
  refine k_no (d := 13) (j' := 6) rfl rfl rfl (g_ft rfl rfl rfl g1) ?_
  refine k_no (d := 14) (j' := 7) rfl rfl rfl (g_ft rfl rfl rfl g1) ?_
  refine k_no (d := 15) (j' := 8) rfl rfl rfl (g_ft rfl rfl rfl g1) ?_
  refine q0 16 180 9 rfl rfl (T_pick_t rfl rfl rfl g1) rfl ?_
  refine q0 17 196 10 rfl rfl (T_move rfl rfl) rfl ?_
  refine k_no (d := 18) (j' := 11) rfl rfl rfl (g_ft rfl rfl rfl rfl) ?_
  refine k_no (d := 19) (j' := 12) rfl rfl rfl (g_ft rfl rfl rfl rfl) ?_
  refine k_no (d := 20) (j' := 13) rfl rfl rfl (g_ft rfl rfl rfl rfl) ?_
  refine k_no (d := 21) (j' := 14) rfl rfl rfl (g_ft rfl rfl rfl rfl) ?_
  refine q0 22 276 15 rfl rfl (T_pick_t rfl rfl rfl rfl) rfl ?_
  refine k_done rfl ?_
  refine thenK_n ?_
  refine W_cond rfl (fun g2 => ?_) (fun g2 => ?_)
  ·skip
   refine W_seq ?_
   refine W_seqK (b' := 324) rfl rfl ?_
   refine q0 23 292 1 rfl rfl (T_callV (lvs := []) (L := []) (awake27_spec) body49 rfl rfl rfl rfl (.nil) rfl) rfl ?_
   refine q0 6 308 2 rfl rfl (T_assign rfl rfl) rfl ?_
   refine k_done rfl ?_
   refine thenK_n ?_
   refine W_ret ?_
   refine thenK_r ?_
   exact .mk [] (.inr rfl) (.tmp rfl (.nil)) (by first | rfl | (simp [resLV, LV.ren]; done) | (exfalso; simp_all; done)) (.nil) rfl
  ·exact absurd (g2.symm.trans rfl) (by decide)
 ·have h1 := g1; (try simp only [cmpB, decide_eq_true_eq, decide_eq_false_iff_not, beq_iff_eq, beq_eq_false_iff_ne, bne_iff_ne, ne_eq, bne_eq_false_iff_eq, Bool.not_eq_true', Bool.not_eq_false', Int.not_lt, Int.not_le] at h1)
  refine k_op0 (d := 12) (b := 116) (j' := 5) rfl rfl rfl rfl (g_ff rfl rfl rfl g1) (T_fa D (m := 1) rfl rfl rfl rfl rfl rfl) rfl ?_
  refine k_op0 (d := 13) (b := 132) (j' := 6) rfl rfl rfl rfl (g_ff rfl rfl rfl g1) (T_load_b D rfl rfl rfl rfl rfl rfl) rfl ?_
  refine k_op0 (d := 14) (b := 148) (j' := 7) rfl rfl rfl rfl (g_ff rfl rfl rfl g1) (T_len D rfl rfl rfl rfl rfl rfl) rfl ?_
  refine k_op0 (d := 15) (b := 164) (j' := 8) rfl rfl rfl rfl (g_ff rfl rfl rfl g1) (T_cmp rfl rfl rfl rfl) rfl ?_
  refine q0 16 180 9 rfl rfl (T_pick_f rfl rfl rfl g1) rfl ?_
  refine q0 17 196 10 rfl rfl (T_move rfl rfl) rfl ?_
  refine k_split (d := 17) rfl (fun g3 => ?_) (fun g3 => ?_)
  ·have h3 := c_eql_t g3
   refine k_no (d := 18) (j' := 11) rfl rfl rfl (g_ft rfl rfl rfl g3) ?_
   refine k_no (d := 19) (j' := 12) rfl rfl rfl (g_ft rfl rfl rfl g3) ?_
   refine k_no (d := 20) (j' := 13) rfl rfl rfl (g_ft rfl rfl rfl g3) ?_
   refine k_no (d := 21) (j' := 14) rfl rfl rfl (g_ft rfl rfl rfl g3) ?_
   refine q0 22 276 15 rfl rfl (T_pick_t rfl rfl rfl g3) rfl ?_
   refine k_done rfl ?_
   refine thenK_n ?_
   refine W_cond rfl (fun g4 => ?_) (fun g4 => ?_)
   ·skip
    refine W_seq ?_
    refine W_seqK (b' := 324) rfl rfl ?_
    refine q0 23 292 1 rfl rfl (T_callV (lvs := []) (L := []) (awake27_spec) body49 rfl rfl rfl rfl (.nil) rfl) rfl ?_
    refine q0 6 308 2 rfl rfl (T_assign rfl rfl) rfl ?_
    refine k_done rfl ?_
    refine thenK_n ?_
    refine W_ret ?_
    refine thenK_r ?_
    exact .mk [] (.inr rfl) (.tmp rfl (.nil)) (by first | rfl | (simp [resLV, LV.ren]; done) | (exfalso; simp_all; done)) (.nil) rfl
   ·exact absurd (g4.symm.trans rfl) (by decide)
  ·have h3 := c_eql_f g3
   refine k_op0 (d := 18) (b := 212) (j' := 11) rfl rfl rfl rfl (g_ff rfl rfl rfl g3) (T_load_bA D (l := [_, _]) rfl rfl rfl rfl rfl rfl rfl) rfl ?_
   refine k_op0 (d := 19) (b := 228) (j' := 12) rfl rfl rfl rfl (g_ff rfl rfl rfl g3) (T_load_bA D (l := [_, _]) rfl rfl rfl rfl rfl rfl rfl) rfl ?_
   refine k_op0 (d := 20) (b := 244) (j' := 13) rfl rfl rfl rfl (g_ff rfl rfl rfl g3) (T_callV (lvs := [_, _]) (L := [(1, 1), (2, 2), (3, 3)]) (rSized_spec f li lo hb1 hb2) body56 rfl rfl rfl rfl (.fz rfl (.fz rfl (.fz rfl (.nil)))) rfl) rfl ?_
   refine k_op0 (d := 21) (b := 260) (j' := 14) rfl rfl rfl rfl (g_ff rfl rfl rfl g3) (T_not rfl rfl) rfl ?_
   refine q0 22 276 15 rfl rfl (T_pick_f rfl rfl rfl g3) rfl ?_
   refine k_done rfl ?_
   refine thenK_n ?_
   refine W_cond rfl (fun g5 => ?_) (fun g5 => ?_)
   ·have h5 := g5; (try simp only [cmpB, decide_eq_true_eq, decide_eq_false_iff_not, beq_iff_eq, beq_eq_false_iff_ne, bne_iff_ne, ne_eq, bne_eq_false_iff_eq, Bool.not_eq_true', Bool.not_eq_false', Int.not_lt, Int.not_le] at h5)
    refine W_seq ?_
    refine W_seqK (b' := 324) rfl rfl ?_
    refine q0 23 292 1 rfl rfl (T_callV (lvs := []) (L := []) (awake27_spec) body49 rfl rfl rfl rfl (.nil) rfl) rfl ?_
    refine q0 6 308 2 rfl rfl (T_assign rfl rfl) rfl ?_
    refine k_done rfl ?_
    refine thenK_n ?_
    refine W_ret ?_
    refine thenK_r ?_
    exact .mk [] (.inr rfl) (.tmp rfl (.nil)) (by first | rfl | (simp [resLV, LV.ren]; done) | (exfalso; simp_all; done)) (.nil) rfl
   ·have h5 := g5; (try simp only [cmpB, decide_eq_true_eq, decide_eq_false_iff_not, beq_iff_eq, beq_eq_false_iff_ne, bne_iff_ne, ne_eq, bne_eq_false_iff_eq, Bool.not_eq_true', Bool.not_eq_false', Int.not_lt, Int.not_le] at h5)
    refine W_skip ?_
    refine thenK_n ?_
    refine W_seq ?_
    refine W_seqK (b' := 404) rfl rfl ?_
    refine q0 24 292 1 rfl rfl (T_move rfl rfl) rfl ?_
    refine q0 25 308 2 rfl rfl (T_conv64 rfl rfl (by rw [Try.underlying5]; rfl) (by first | assumption | omega | (simp; omega))) rfl ?_
    refine q0 26 324 3 rfl rfl (T_fa D (m := 1) rfl rfl rfl rfl rfl rfl) rfl ?_
    refine q0 27 340 4 rfl rfl (T_load_b D rfl rfl rfl rfl rfl rfl) rfl ?_
    refine q0 28 356 5 rfl rfl (T_len D rfl rfl rfl rfl rfl rfl) rfl ?_
    refine q0 29 372 6 rfl rfl (T_remU rfl rfl rfl (by first | omega | (have q := s27 (by assumption : small27 f 12 60 = true); have q2 := q.pos; omega))) rfl ?_
    refine q0 7 388 7 rfl rfl (T_assign rfl rfl) rfl ?_
    refine k_done rfl ?_
    refine thenK_n ?_
    refine W_seq ?_
    refine W_anyK (b' := 612) rfl rfl rfl ?_
    refine q0 30 404 1 rfl rfl (T_callV (lvs := []) (L := []) (awake27_spec) body49 rfl rfl rfl rfl (.nil) rfl) rfl ?_
    refine q0 31 420 2 rfl rfl (T_move rfl rfl) rfl ?_
    refine k_op0 (d := 32) (b := 436) (j' := 3) rfl rfl rfl rfl (g_tt rfl rfl rfl rfl) (T_load_bA D (l := [_, _]) rfl rfl rfl rfl rfl rfl rfl) rfl ?_
    refine k_op0 (d := 33) (b := 452) (j' := 4) rfl rfl rfl rfl (g_tt rfl rfl rfl rfl) (T_load_bA D (l := [_, _]) rfl rfl rfl rfl rfl rfl rfl) rfl ?_
    refine k_op0 (d := 34) (b := 468) (j' := 5) rfl rfl rfl rfl (g_tt rfl rfl rfl rfl) (T_move rfl rfl) rfl ?_
    refine k_op1 (d := 35) (b := 484) (j' := 6) rfl rfl rfl rfl (g_tt rfl rfl rfl rfl) (T_call (lvs := [_, _, _]) (L := [(1, 1), (2, 2), (3, 3)]) (lv := .r 484) (upd := [(484, .fz 1 _)]) (nn := 1) false (beh_spec f li lo (y % (f.blocks.length : Int)) (small_lf (by assumption : small27 f 12 60 = true)) ⟨Int.emod_nonneg _ (by have q2 := (s27 (by assumption : small27 f 12 60 = true)).pos; omega), Int.emod_lt_of_pos _ (by have q2 := (s27 (by assumption : small27 f 12 60 = true)).pos; omega)⟩ (szL_of (sizedL_iff.1 (by assumption : sizedL f li lo = true)).2)) body58 rfl rfl rfl rfl (.fz rfl (.fz rfl (.fz rfl (.nil)))) rfl (.inl rfl) rfl rfl rfl) rfl ?_
    refine k_op0 (d := 36) (b := 500) (j' := 7) rfl rfl rfl rfl (g_tt rfl rfl rfl rfl) (T_load_bA D (l := [_, _]) rfl rfl rfl rfl rfl rfl rfl) rfl ?_
    refine k_op0 (d := 37) (b := 516) (j' := 8) rfl rfl rfl rfl (g_tt rfl rfl rfl rfl) (T_load_bA D (l := [_, _]) rfl rfl rfl rfl rfl rfl rfl) rfl ?_
    refine k_op0 (d := 38) (b := 532) (j' := 9) rfl rfl rfl rfl (g_tt rfl rfl rfl rfl) (T_move rfl rfl) rfl ?_
    refine k_op1 (d := 39) (b := 548) (j' := 10) rfl rfl rfl rfl (g_tt rfl rfl rfl rfl) (T_call (lvs := [_, _, _]) (L := [(1, 1), (2, 2), (3, 3)]) (lv := .r 548) (upd := [(548, .fz 1 _)]) (nn := 1) false (rbeh_spec f li lo (y % (f.blocks.length : Int)) (small_lf (by assumption : small27 f 12 60 = true)) ⟨Int.emod_nonneg _ (by have q2 := (s27 (by assumption : small27 f 12 60 = true)).pos; omega), Int.emod_lt_of_pos _ (by have q2 := (s27 (by assumption : small27 f 12 60 = true)).pos; omega)⟩ (szL_of (sizedL_iff.1 (by assumption : sizedL f li lo = true)).2)) body59 rfl rfl rfl rfl (.fz rfl (.fz rfl (.fz rfl (.nil)))) rfl (.inl rfl) rfl rfl rfl) rfl ?_
    refine k_op0 (d := 40) (b := 564) (j' := 11) rfl rfl rfl rfl (g_tt rfl rfl rfl rfl) (T_callV (lvs := [_, _]) (L := [(1, 484), (2, 548)]) (rows_spec (behL (f.blocks.getD (y % (f.blocks.length : Int)).toNat default) (lo.getD (y % (f.blocks.length : Int)).toNat default)) (behL (f.blocks.getD (y % (f.blocks.length : Int)).toNat default) (lo.getD (y % (f.blocks.length : Int)).toNat default)) (beh_len (by assumption : small27 f 12 60 = true) ⟨Int.emod_nonneg _ (by have q2 := (s27 (by assumption : small27 f 12 60 = true)).pos; omega), Int.emod_lt_of_pos _ (by have q2 := (s27 (by assumption : small27 f 12 60 = true)).pos; omega)⟩) (beh_each (by assumption : small27 f 12 60 = true) (szL_of (sizedL_iff.1 (by assumption : sizedL f li lo = true)).2) ⟨Int.emod_nonneg _ (by have q2 := (s27 (by assumption : small27 f 12 60 = true)).pos; omega), Int.emod_lt_of_pos _ (by have q2 := (s27 (by assumption : small27 f 12 60 = true)).pos; omega)⟩) (beh_each (by assumption : small27 f 12 60 = true) (szL_of (sizedL_iff.1 (by assumption : sizedL f li lo = true)).2) ⟨Int.emod_nonneg _ (by have q2 := (s27 (by assumption : small27 f 12 60 = true)).pos; omega), Int.emod_lt_of_pos _ (by have q2 := (s27 (by assumption : small27 f 12 60 = true)).pos; omega)⟩)) body57 rfl rfl rfl rfl (.fz rfl (.fz rfl (.nil))) rfl) rfl ?_
    refine q0 41 580 12 rfl rfl (T_pick_t rfl rfl rfl rfl) rfl ?_
    refine q0 6 596 13 rfl rfl (T_assign rfl rfl) rfl ?_
    refine k_done rfl ?_
    refine ⟨rfl, ?_⟩
    refine thenK_n ?_
    refine W_ret ?_
    exact .mk [] (.inr rfl) (.tmp rfl (.nil)) (by first | rfl | (simp [resLV, LV.ren]; done) | (exfalso; simp_all; done)) (.nil) rfl
theorem body16 : (Try.prog.funcs[16]?).map (fun fn => (fn.name == "runtime.NumGoroutine" || fn.body.isNone)) = some false := by kernel_rfl
theorem law16 (f : GFn) (li lo : List (List Bool)) (hf : FnOk f) (hb1 : li.length ≤ 1000000000000000) (hb2 : lo.length ≤ 1000000000000000) : Spec Try.prog 16 [.agg [.v (.int .i64 f.regs), .r 1], .agg [.r 2, .r 3]] 4 [(1, .fz 5 (f.blocks.map eBlock)), (2, .fz 1 (li.map eBs)), (3, .fz 1 (lo.map eBs))] (.v (.bool true)) 4 [] := by
 refine spec_of D (fn := Try.f16) rfl rfl (Nat.le_of_ble_eq_true rfl) ?_
 refine W_seq ?_
 refine W_seqK (b' := 52) rfl rfl ?_
 refine q1 2 4 1 rfl rfl (T_box rfl rfl flat_agg) rfl ?_
 refine q1 3 20 2 rfl rfl (T_box rfl rfl flat_agg) rfl ?_
 refine q0 4 36 3 rfl rfl (T_assign rfl rfl) rfl ?_
 refine k_done rfl ?_
 refine thenK_n ?_
 refine W_seq ?_
 refine W_seq ?_
 refine W_seqK (b' := 196) rfl rfl ?_
 refine q0 8 52 1 rfl rfl (T_load_bA D (l := [_, _]) rfl rfl rfl rfl rfl rfl rfl) rfl ?_
 refine q0 9 68 2 rfl rfl (T_callV (lvs := [_, _, _]) (L := [(1, 1)]) (small27_spec f 12 60 hf (by omega) (by omega)) body48 rfl rfl rfl rfl (.fz rfl (.nil)) rfl) rfl ?_
 refine q0 10 84 3 rfl rfl (T_not rfl rfl) rfl ?_
 refine q0 11 100 4 rfl rfl (T_move rfl rfl) rfl ?_
 refine k_split (d := 11) rfl (fun g1 => ?_) (fun g1 => ?_)
 ·have h1 := g1; (try simp only [cmpB, decide_eq_true_eq, decide_eq_false_iff_not, beq_iff_eq, beq_eq_false_iff_ne, bne_iff_ne, ne_eq, bne_eq_false_iff_eq, Bool.not_eq_true', Bool.not_eq_false', Int.not_lt, Int.not_le] at h1)
  refine k_no (d := 12) (j' := 5) rfl rfl rfl (g_ft rfl rfl rfl g1) ?_
  refine k_no (d := 13) (j' := 6) rfl rfl rfl (g_ft rfl rfl rfl g1) ?_
  refine k_no (d := 14) (j' := 7) rfl rfl rfl (g_ft rfl rfl rfl g1) ?_
  refine k_no (d := 15) (j' := 8) rfl rfl rfl (g_ft rfl rfl rfl g1) ?_
  refine q0 16 180 9 rfl rfl (T_pick_t rfl rfl rfl g1) rfl ?_
  refine k_done rfl ?_
  refine thenK_n ?_
  refine W_cond rfl (fun g2 => ?_) (fun g2 => ?_)
  ·skip
   refine W_seq ?_
   refine W_seqK (b' := 228) rfl rfl ?_
   refine q0 17 196 1 rfl rfl (T_callV (lvs := []) (L := []) (awake27_spec) body49 rfl rfl rfl rfl (.nil) rfl) rfl ?_
   refine q0 4 212 2 rfl rfl (T_assign rfl rfl) rfl ?_
   refine k_done rfl ?_
   refine thenK_n ?_
   refine W_ret ?_
   refine thenK_r ?_
   exact .mk [] (.inr rfl) (.tmp rfl (.nil)) (by first | rfl | (exfalso; have k := live_sized (by assumption : small27 f 12 60 = true); simp_all; done) | (exfalso; have k1 := hlj.1 r; have k2 := hlj.2 r; simp_all; done)) (.nil) rfl
  ·exact absurd (g2.symm.trans rfl) (by decide)
 ·have h1 := g1; (try simp only [cmpB, decide_eq_true_eq, decide_eq_false_iff_not, beq_iff_eq, beq_eq_false_iff_ne, bne_iff_ne, ne_eq, bne_eq_false_iff_eq, Bool.not_eq_true', Bool.not_eq_false', Int.not_lt, Int.not_le] at h1)
  refine k_op0 (d := 12) (b := 116) (j' := 5) rfl rfl rfl rfl (g_ff rfl rfl rfl g1) (T_load_bA D (l := [_, _]) rfl rfl rfl rfl rfl rfl rfl) rfl ?_
  refine k_op0 (d := 13) (b := 132) (j' := 6) rfl rfl rfl rfl (g_ff rfl rfl rfl g1) (T_load_bA D (l := [_, _]) rfl rfl rfl rfl rfl rfl rfl) rfl ?_
  refine k_op0 (d := 14) (b := 148) (j' := 7) rfl rfl rfl rfl (g_ff rfl rfl rfl g1) (T_callV (lvs := [_, _]) (L := [(1, 1), (2, 2), (3, 3)]) (rlcheck_spec f li lo (small_lf (by assumption : small27 f 12 60 = true)) hb1 hb2) body52 rfl rfl rfl rfl (.fz rfl (.fz rfl (.fz rfl (.nil)))) rfl) rfl ?_
  refine k_op0 (d := 15) (b := 164) (j' := 8) rfl rfl rfl rfl (g_ff rfl rfl rfl g1) (T_not rfl rfl) rfl ?_
  refine q0 16 180 9 rfl rfl (T_pick_f rfl rfl rfl g1) rfl ?_
  refine k_done rfl ?_
  refine thenK_n ?_
  refine W_cond rfl (fun g3 => ?_) (fun g3 => ?_)
  ·have h3 := g3; (try simp only [cmpB, decide_eq_true_eq, decide_eq_false_iff_not, beq_iff_eq, beq_eq_false_iff_ne, bne_iff_ne, ne_eq, bne_eq_false_iff_eq, Bool.not_eq_true', Bool.not_eq_false', Int.not_lt, Int.not_le] at h3)
   refine W_seq ?_
   refine W_seqK (b' := 228) rfl rfl ?_
   refine q0 17 196 1 rfl rfl (T_callV (lvs := []) (L := []) (awake27_spec) body49 rfl rfl rfl rfl (.nil) rfl) rfl ?_
   refine q0 4 212 2 rfl rfl (T_assign rfl rfl) rfl ?_
   refine k_done rfl ?_
   refine thenK_n ?_
   refine W_ret ?_
   refine thenK_r ?_
   exact .mk [] (.inr rfl) (.tmp rfl (.nil)) (by first | rfl | (exfalso; have k := live_sized (by assumption : small27 f 12 60 = true); simp_all; done) | (exfalso; have k1 := hlj.1 r; have k2 := hlj.2 r; simp_all; done)) (.nil) rfl
  ·have h3 := g3; (try simp only [cmpB, decide_eq_true_eq, decide_eq_false_iff_not, beq_iff_eq, beq_eq_false_iff_ne, bne_iff_ne, ne_eq, bne_eq_false_iff_eq, Bool.not_eq_true', Bool.not_eq_false', Int.not_lt, Int.not_le] at h3)
   refine W_skip ?_
   refine thenK_n ?_
   refine W_seq ?_
   refine W_seqK (b' := 260) rfl rfl ?_
   refine q0 18 196 1 rfl rfl (T_load_bA D (l := [_, _]) rfl rfl rfl rfl rfl rfl rfl) rfl ?_
   refine qn 19 212 2 rfl rfl (T_call (lvs := [_]) (L := [(1, 1)]) (lv := .agg [.r 212, .r 213]) (upd := [(212, .fz 1 _), (213, .fz 1 _)]) (nn := 2) false (live_spec f (small_lf (by assumption : small27 f 12 60 = true))) body50 rfl rfl rfl rfl (.fz rfl (.nil)) rfl (.inl rfl) rfl rfl rfl) rfl ?_
   refine qn 5 228 3 rfl rfl (T_nilbox [(48, 1), (48, 1)] (T_alloc D rfl rfl rfl) rfl (.cons (.nil rfl) <| .cons (.nil rfl) <| .nil) (upd' := [(228, .box 57 [.r 229, .r 230]), (229, .row 48 1 (List.map eBs ([] : List (List Bool)))), (230, .row 48 1 (List.map eBs ([] : List (List Bool))))]) (nn' := 3) rfl rfl) rfl ?_
   refine s1 244 4 rfl rfl (T_stB D (cs' := [_, _]) rfl rfl rfl rfl flat_agg rfl rfl (Nat.le_of_ble_eq_true rfl) rfl) rfl ?_
   refine k_done rfl ?_
   refine thenK_n ?_
   refine W_seq ?_
   refine W_seq ?_
   refine W_seqK (b' := 324) rfl rfl ?_
   refine q0 20 260 1 rfl rfl (T_load_bA D (l := [_, _]) rfl rfl rfl rfl rfl rfl rfl) rfl ?_
   refine q0 21 276 2 rfl rfl (T_load_bA D (l := [_, _]) rfl rfl rfl rfl rfl rfl rfl) rfl ?_
   refine q0 22 292 3 rfl rfl (T_callV (lvs := [_, _]) (L := [(1, 1), (2, 212), (3, 213)]) (rSized_spec f (liveL f).1 (liveL f).2 (by have := live_len1 (by assumption : small27 f 12 60 = true); omega) (by have := live_len2 (by assumption : small27 f 12 60 = true); omega)) body56 rfl rfl rfl rfl (.fz rfl (.fz rfl (.fz rfl (.nil)))) rfl) rfl ?_
   refine q0 23 308 4 rfl rfl (T_not rfl rfl) rfl ?_
   refine k_done rfl ?_
   refine thenK_n ?_
   refine W_cond rfl (fun g4 => ?_) (fun g4 => ?_)
   ·have h4 := g4; (try simp only [cmpB, decide_eq_true_eq, decide_eq_false_iff_not, beq_iff_eq, beq_eq_false_iff_ne, bne_iff_ne, ne_eq, bne_eq_false_iff_eq, Bool.not_eq_true', Bool.not_eq_false', Int.not_lt, Int.not_le] at h4)
    refine W_seq ?_
    refine W_seqK (b' := 340) rfl rfl ?_
    refine q0 4 324 1 rfl rfl (T_assign rfl rfl) rfl ?_
    refine k_done rfl ?_
    refine thenK_n ?_
    refine W_ret ?_
    refine thenK_r ?_
    exact .mk [] (.inr rfl) (.tmp rfl (.nil)) (by first | rfl | (exfalso; have k := live_sized (by assumption : small27 f 12 60 = true); simp_all; done) | (exfalso; have k1 := hlj.1 r; have k2 := hlj.2 r; simp_all; done)) (.nil) rfl
   ·have h4 := g4; (try simp only [cmpB, decide_eq_true_eq, decide_eq_false_iff_not, beq_iff_eq, beq_eq_false_iff_ne, bne_iff_ne, ne_eq, bne_eq_false_iff_eq, Bool.not_eq_true', Bool.not_eq_false', Int.not_lt, Int.not_le] at h4)
    refine W_skip ?_
    refine thenK_n ?_
    refine W_seq ?_
    refine W_seq ?_
    refine W_seqK (b' := 340) rfl rfl ?_
    refine q0 6 324 1 rfl rfl (T_assign rfl rfl) rfl ?_
    refine k_done rfl ?_
    refine thenK_n ?_
    refine W_block ?_
    have hS := s27 (by assumption : small27 f 12 60 = true)
    have hSl := hS.len
    have hSr := hS.regs
    have hC := closed_iff (by assumption : checkL f li lo = true)
    have hCi := hC.1.len
    have hCo := hC.2.1.len
    have hLi := (live_sz f).i.len
    have hLo := (live_sz f).o.len
    have hle := live_least hS.lf (by assumption : checkL f li lo = true)
    refine W_loop (ι := Nat) 9 (fun j => ⟨[(2, .p 4 0), (3, .p 5 0), (5, .p 6 0), (6, .v (.int .i64 (j : Int)))], [(1, .fz 5 (f.blocks.map eBlock)), (2, .fz 1 (li.map eBs)), (3, .fz 1 (lo.map eBs)), (4, .box 29 [.v (.int .i64 f.regs), .r 1]), (5, .box 57 [.r 2, .r 3]), (6, .box 57 [.r 7, .r 8]), (7, .fz 1 ((liveL f).1.map eBs)), (8, .fz 1 ((liveL f).2.map eBs))]⟩) (fun j => j ≤ f.blocks.length) (fun j => f.blocks.length - j) (0) (by exact Nat.zero_le _) ?_ (fun j hJ => ?_)
    ·exact ⟨[(4, 4), (5, 20), (6, 228), (7, 212), (8, 213)], .same rfl rfl (.same rfl rfl (.same rfl rfl (.eq rfl (.nil) (by first | rfl | simp)))), .fzE rfl (.fzE rfl (.fzE rfl (.box (by first | rfl | simp) (.box (by first | rfl | simp) (.box (by first | rfl | simp) (.fzE rfl (.fzE rfl (.nil) (by first | rfl | simp)) (by first | rfl | simp))))) (by first | rfl | simp)) (by first | rfl | simp)) (by first | rfl | simp), rfl⟩
    refine W_seq ?_
    refine W_seq ?_
    refine W_seqK (b' := 89) rfl rfl ?_
    refine q0 24 9 1 rfl rfl (T_move rfl rfl) rfl ?_
    refine q0 25 25 2 rfl rfl (T_fa D (m := 1) rfl rfl rfl rfl rfl rfl) rfl ?_
    refine q0 26 41 3 rfl rfl (T_load_b D rfl rfl rfl rfl rfl rfl) rfl ?_
    refine q0 27 57 4 rfl rfl (T_len D rfl rfl rfl rfl rfl rfl) rfl ?_
    refine q0 28 73 5 rfl rfl (T_cmp rfl rfl rfl rfl) rfl ?_
    refine k_done rfl ?_
    refine thenK_n ?_
    refine W_cond rfl (fun g5 => ?_) (fun g5 => ?_)
    ·have h5 := c_lss_t g5
     refine W_skip ?_
     refine thenK_n ?_
     refine W_seq ?_
     refine W_block ?_
     refine W_seq ?_
     refine W_seqK (b' := 105) rfl rfl ?_
     refine q0 7 89 1 rfl rfl (T_assign rfl rfl) rfl ?_
     refine k_done rfl ?_
     refine thenK_n ?_
     refine W_block ?_
     have hjb : j < f.blocks.length := by omega
     have e1 := hC.1.at hjb
     have e2 := hC.2.1.at hjb
     have e3 := (live_sz f).i.at hjb
     have e4 := (live_sz f).o.at hjb
     have hlj := hle j hjb
     refine W_loop (ι := Nat) 9 (fun r => ⟨[(2, .p 4 0), (3, .p 5 0), (5, .p 6 0), (6, .v (.int .i64 (j : Int))), (7, .v (.int .i64 (r : Int)))], [(1, .fz 5 (f.blocks.map eBlock)), (2, .fz 1 (li.map eBs)), (3, .fz 1 (lo.map eBs)), (4, .box 29 [.v (.int .i64 f.regs), .r 1]), (5, .box 57 [.r 2, .r 3]), (6, .box 57 [.r 7, .r 8]), (7, .fz 1 ((liveL f).1.map eBs)), (8, .fz 1 ((liveL f).2.map eBs))]⟩) (fun r => r ≤ f.regs.toNat) (fun r => f.regs.toNat - r) (0) (by exact Nat.zero_le _) ?_ (fun r hR => ?_)
     ·exact ⟨[(4, 4), (5, 5), (6, 6), (7, 7), (8, 8)], .same rfl rfl (.same rfl rfl (.same rfl rfl (.eq rfl (.eq rfl (.nil) (by first | rfl | simp)) (by first | rfl | simp)))), .fzE rfl (.fzE rfl (.fzE rfl (.box (by first | rfl | simp) (.box (by first | rfl | simp) (.box (by first | rfl | simp) (.fzE rfl (.fzE rfl (.nil) (by first | rfl | simp)) (by first | rfl | simp))))) (by first | rfl | simp)) (by first | rfl | simp)) (by first | rfl | simp), rfl⟩
     refine W_seq ?_
     refine W_seq ?_
     refine W_seqK (b' := 73) rfl rfl ?_
     refine q0 31 9 1 rfl rfl (T_move rfl rfl) rfl ?_
     refine q0 32 25 2 rfl rfl (T_fa D (m := 0) rfl rfl rfl rfl rfl rfl) rfl ?_
     refine q0 33 41 3 rfl rfl (T_load_b D rfl rfl rfl rfl rfl rfl) rfl ?_
     refine q0 34 57 4 rfl rfl (T_cmp rfl rfl rfl rfl) rfl ?_
     refine k_done rfl ?_
     refine thenK_n ?_
     refine W_cond rfl (fun g6 => ?_) (fun g6 => ?_)
     ·have h6 := c_lss_t g6
      refine W_skip ?_
      refine thenK_n ?_
      refine W_seq ?_
      refine W_block ?_
      refine W_seq ?_
      refine W_seqK (b' := 713) rfl rfl ?_
      refine q0 37 73 1 rfl rfl (T_fa D (m := 0) rfl rfl rfl rfl rfl rfl) rfl ?_
      refine q0 38 89 2 rfl rfl (T_load_b D rfl rfl rfl rfl rfl rfl) rfl ?_
      refine q0 39 105 3 rfl rfl (T_move rfl rfl) rfl ?_
      first | refine q0 40 121 4 rfl rfl (T_indexAddr D rfl rfl rfl rfl rfl rfl rfl rfl (by first | assumption | omega | (simp; omega))) rfl ?_ | refine q0 40 121 4 rfl rfl (T_indexAddrZ D rfl rfl rfl rfl rfl rfl rfl rfl (by first | assumption | omega | (simp; omega)) (by first | assumption | omega | (simp; omega))) rfl ?_
      refine q1 41 137 5 rfl rfl (T_ldE D (lv := .r 137) (nn := 1) (upd := [(137, .fz 1 _)]) rfl rfl rfl rfl rfl (by first | assumption | omega | (simp; omega)) rfl rfl rfl rfl) rfl ?_
      refine q0 42 153 6 rfl rfl (T_move rfl rfl) rfl ?_
      first | refine q0 43 169 7 rfl rfl (T_indexAddr D rfl rfl rfl rfl rfl rfl rfl rfl (by first | assumption | omega | (simp; omega))) rfl ?_ | refine q0 43 169 7 rfl rfl (T_indexAddrZ D rfl rfl rfl rfl rfl rfl rfl rfl (by first | assumption | omega | (simp; omega)) (by first | assumption | omega | (simp; omega))) rfl ?_
      refine q0 44 185 8 rfl rfl (T_ldE D (lv := .v _) (nn := 0) (upd := []) rfl rfl rfl rfl rfl (by first | assumption | omega | (simp; omega)) rfl rfl rfl rfl) rfl ?_
      refine q0 45 201 9 rfl rfl (T_move rfl rfl) rfl ?_
      refine k_split (d := 45) rfl (fun g7 => ?_) (fun g7 => ?_)
      ·have h7 := g7; (try simp only [cmpB, decide_eq_true_eq, decide_eq_false_iff_not, beq_iff_eq, beq_eq_false_iff_ne, bne_iff_ne, ne_eq, bne_eq_false_iff_eq, Bool.not_eq_true', Bool.not_eq_false', Int.not_lt, Int.not_le] at h7)
       refine k_op0 (d := 46) (b := 217) (j' := 10) rfl rfl rfl rfl (g_tt rfl rfl rfl g7) (T_fa D (m := 0) rfl rfl rfl rfl rfl rfl) rfl ?_
       refine k_op0 (d := 47) (b := 233) (j' := 11) rfl rfl rfl rfl (g_tt rfl rfl rfl g7) (T_load_b D rfl rfl rfl rfl rfl rfl) rfl ?_
       refine k_op0 (d := 48) (b := 249) (j' := 12) rfl rfl rfl rfl (g_tt rfl rfl rfl g7) (T_move rfl rfl) rfl ?_
       first | refine k_op0 (d := 49) (b := 265) (j' := 13) rfl rfl rfl rfl (g_tt rfl rfl rfl g7) (T_indexAddr D rfl rfl rfl rfl rfl rfl rfl rfl (by first | assumption | omega | (simp; omega))) rfl ?_ | refine k_op0 (d := 49) (b := 265) (j' := 13) rfl rfl rfl rfl (g_tt rfl rfl rfl g7) (T_indexAddrZ D rfl rfl rfl rfl rfl rfl rfl rfl (by first | assumption | omega | (simp; omega)) (by first | assumption | omega | (simp; omega))) rfl ?_
       refine k_op1 (d := 50) (b := 281) (j' := 14) rfl rfl rfl rfl (g_tt rfl rfl rfl g7) (T_ldE D (lv := .r 281) (nn := 1) (upd := [(281, .fz 1 _)]) rfl rfl rfl rfl rfl (by first | assumption | omega | (simp; omega)) rfl rfl rfl rfl) rfl ?_
       refine k_op0 (d := 51) (b := 297) (j' := 15) rfl rfl rfl rfl (g_tt rfl rfl rfl g7) (T_move rfl rfl) rfl ?_
       first | refine k_op0 (d := 52) (b := 313) (j' := 16) rfl rfl rfl rfl (g_tt rfl rfl rfl g7) (T_indexAddr D rfl rfl rfl rfl rfl rfl rfl rfl (by first | assumption | omega | (simp; omega))) rfl ?_ | refine k_op0 (d := 52) (b := 313) (j' := 16) rfl rfl rfl rfl (g_tt rfl rfl rfl g7) (T_indexAddrZ D rfl rfl rfl rfl rfl rfl rfl rfl (by first | assumption | omega | (simp; omega)) (by first | assumption | omega | (simp; omega))) rfl ?_
       refine k_op0 (d := 53) (b := 329) (j' := 17) rfl rfl rfl rfl (g_tt rfl rfl rfl g7) (T_ldE D (lv := .v _) (nn := 0) (upd := []) rfl rfl rfl rfl rfl (by first | assumption | omega | (simp; omega)) rfl rfl rfl rfl) rfl ?_
       refine k_op0 (d := 54) (b := 345) (j' := 18) rfl rfl rfl rfl (g_tt rfl rfl rfl g7) (T_not rfl rfl) rfl ?_
       refine q0 55 361 19 rfl rfl (T_pick_t rfl rfl rfl g7) rfl ?_
       refine q0 56 377 20 rfl rfl (T_move rfl rfl) rfl ?_
       refine k_split (d := 56) rfl (fun g8 => ?_) (fun g8 => ?_)
       ·have h8 := g8; (try simp only [cmpB, decide_eq_true_eq, decide_eq_false_iff_not, beq_iff_eq, beq_eq_false_iff_ne, bne_iff_ne, ne_eq, bne_eq_false_iff_eq, Bool.not_eq_true', Bool.not_eq_false', Int.not_lt, Int.not_le] at h8)
        refine k_no (d := 57) (j' := 21) rfl rfl rfl (g_ft rfl rfl rfl g8) ?_
        refine k_no (d := 58) (j' := 22) rfl rfl rfl (g_ft rfl rfl rfl g8) ?_
        refine k_no (d := 59) (j' := 23) rfl rfl rfl (g_ft rfl rfl rfl g8) ?_
        refine k_no (d := 60) (j' := 24) rfl rfl rfl (g_ft rfl rfl rfl g8) ?_
        refine k_no (d := 61) (j' := 25) rfl rfl rfl (g_ft rfl rfl rfl g8) ?_
        refine k_no (d := 62) (j' := 26) rfl rfl rfl (g_ft rfl rfl rfl g8) ?_
        refine k_no (d := 63) (j' := 27) rfl rfl rfl (g_ft rfl rfl rfl g8) ?_
        refine k_no (d := 64) (j' := 28) rfl rfl rfl (g_ft rfl rfl rfl g8) ?_
        refine k_no (d := 65) (j' := 29) rfl rfl rfl (g_ft rfl rfl rfl g8) ?_
        refine k_no (d := 66) (j' := 30) rfl rfl rfl (.und rfl rfl rfl) ?_
        refine k_no (d := 67) (j' := 31) rfl rfl rfl (.und rfl rfl rfl) ?_
        refine k_no (d := 68) (j' := 32) rfl rfl rfl (.und rfl rfl rfl) ?_
        refine k_no (d := 69) (j' := 33) rfl rfl rfl (.und rfl rfl rfl) ?_
        refine k_no (d := 70) (j' := 34) rfl rfl rfl (.und rfl rfl rfl) ?_
        refine k_no (d := 71) (j' := 35) rfl rfl rfl (.und rfl rfl rfl) ?_
        refine k_no (d := 72) (j' := 36) rfl rfl rfl (.und rfl rfl rfl) ?_
        refine k_no (d := 73) (j' := 37) rfl rfl rfl (.und rfl rfl rfl) ?_
        refine k_no (d := 74) (j' := 38) rfl rfl rfl (.und rfl rfl rfl) ?_
        refine k_no (d := 75) (j' := 39) rfl rfl rfl (g_ft rfl rfl rfl g8) ?_
        refine q0 76 697 40 rfl rfl (T_pick_t rfl rfl rfl g8) rfl ?_
        refine k_done rfl ?_
        refine thenK_n ?_
        refine W_cond rfl (fun g9 => ?_) (fun g9 => ?_)
        ·skip
         refine W_seq ?_
         refine W_seqK (b' := 729) rfl rfl ?_
         refine q0 4 713 1 rfl rfl (T_assign rfl rfl) rfl ?_
         refine k_done rfl ?_
         refine thenK_n ?_
         refine W_ret ?_
         refine blockK_r ?_
         refine thenK_r ?_
         refine thenK_r ?_
         refine blockK_r ?_
         refine blockK_r ?_
         refine thenK_r ?_
         refine thenK_r ?_
         refine blockK_r ?_
         refine thenK_r ?_
         exact .mk [] (.inr rfl) (.tmp rfl (.nil)) (by first | rfl | (exfalso; have k := live_sized (by assumption : small27 f 12 60 = true); simp_all; done) | (exfalso; have k1 := hlj.1 r; have k2 := hlj.2 r; simp_all; done)) (.nil) rfl
        ·exact absurd (g9.symm.trans rfl) (by decide)
       ·have h8 := g8; (try simp only [cmpB, decide_eq_true_eq, decide_eq_false_iff_not, beq_iff_eq, beq_eq_false_iff_ne, bne_iff_ne, ne_eq, bne_eq_false_iff_eq, Bool.not_eq_true', Bool.not_eq_false', Int.not_lt, Int.not_le] at h8)
        refine k_op0 (d := 57) (b := 393) (j' := 21) rfl rfl rfl rfl (g_ff rfl rfl rfl g8) (T_fa D (m := 1) rfl rfl rfl rfl rfl rfl) rfl ?_
        refine k_op0 (d := 58) (b := 409) (j' := 22) rfl rfl rfl rfl (g_ff rfl rfl rfl g8) (T_load_b D rfl rfl rfl rfl rfl rfl) rfl ?_
        refine k_op0 (d := 59) (b := 425) (j' := 23) rfl rfl rfl rfl (g_ff rfl rfl rfl g8) (T_move rfl rfl) rfl ?_
        first | refine k_op0 (d := 60) (b := 441) (j' := 24) rfl rfl rfl rfl (g_ff rfl rfl rfl g8) (T_indexAddr D rfl rfl rfl rfl rfl rfl rfl rfl (by first | assumption | omega | (simp; omega))) rfl ?_ | refine k_op0 (d := 60) (b := 441) (j' := 24) rfl rfl rfl rfl (g_ff rfl rfl rfl g8) (T_indexAddrZ D rfl rfl rfl rfl rfl rfl rfl rfl (by first | assumption | omega | (simp; omega)) (by first | assumption | omega | (simp; omega))) rfl ?_
        refine k_op1 (d := 61) (b := 457) (j' := 25) rfl rfl rfl rfl (g_ff rfl rfl rfl g8) (T_ldE D (lv := .r 457) (nn := 1) (upd := [(457, .fz 1 _)]) rfl rfl rfl rfl rfl (by first | assumption | omega | (simp; omega)) rfl rfl rfl rfl) rfl ?_
        refine k_op0 (d := 62) (b := 473) (j' := 26) rfl rfl rfl rfl (g_ff rfl rfl rfl g8) (T_move rfl rfl) rfl ?_
        first | refine k_op0 (d := 63) (b := 489) (j' := 27) rfl rfl rfl rfl (g_ff rfl rfl rfl g8) (T_indexAddr D rfl rfl rfl rfl rfl rfl rfl rfl (by first | assumption | omega | (simp; omega))) rfl ?_ | refine k_op0 (d := 63) (b := 489) (j' := 27) rfl rfl rfl rfl (g_ff rfl rfl rfl g8) (T_indexAddrZ D rfl rfl rfl rfl rfl rfl rfl rfl (by first | assumption | omega | (simp; omega)) (by first | assumption | omega | (simp; omega))) rfl ?_
        refine k_op0 (d := 64) (b := 505) (j' := 28) rfl rfl rfl rfl (g_ff rfl rfl rfl g8) (T_ldE D (lv := .v _) (nn := 0) (upd := []) rfl rfl rfl rfl rfl (by first | assumption | omega | (simp; omega)) rfl rfl rfl rfl) rfl ?_
        refine k_op0 (d := 65) (b := 521) (j' := 29) rfl rfl rfl rfl (g_ff rfl rfl rfl g8) (T_move rfl rfl) rfl ?_
        refine k_split (d := 65) rfl (fun g10 => ?_) (fun g10 => ?_)
        ·have h10 := g10; (try simp only [cmpB, decide_eq_true_eq, decide_eq_false_iff_not, beq_iff_eq, beq_eq_false_iff_ne, bne_iff_ne, ne_eq, bne_eq_false_iff_eq, Bool.not_eq_true', Bool.not_eq_false', Int.not_lt, Int.not_le] at h10)
         refine k_op0 (d := 66) (b := 537) (j' := 30) rfl rfl rfl rfl (g_tt rfl rfl rfl g10) (T_fa D (m := 1) rfl rfl rfl rfl rfl rfl) rfl ?_
         refine k_op0 (d := 67) (b := 553) (j' := 31) rfl rfl rfl rfl (g_tt rfl rfl rfl g10) (T_load_b D rfl rfl rfl rfl rfl rfl) rfl ?_
         refine k_op0 (d := 68) (b := 569) (j' := 32) rfl rfl rfl rfl (g_tt rfl rfl rfl g10) (T_move rfl rfl) rfl ?_
         first | refine k_op0 (d := 69) (b := 585) (j' := 33) rfl rfl rfl rfl (g_tt rfl rfl rfl g10) (T_indexAddr D rfl rfl rfl rfl rfl rfl rfl rfl (by first | assumption | omega | (simp; omega))) rfl ?_ | refine k_op0 (d := 69) (b := 585) (j' := 33) rfl rfl rfl rfl (g_tt rfl rfl rfl g10) (T_indexAddrZ D rfl rfl rfl rfl rfl rfl rfl rfl (by first | assumption | omega | (simp; omega)) (by first | assumption | omega | (simp; omega))) rfl ?_
         refine k_op1 (d := 70) (b := 601) (j' := 34) rfl rfl rfl rfl (g_tt rfl rfl rfl g10) (T_ldE D (lv := .r 601) (nn := 1) (upd := [(601, .fz 1 _)]) rfl rfl rfl rfl rfl (by first | assumption | omega | (simp; omega)) rfl rfl rfl rfl) rfl ?_
         refine k_op0 (d := 71) (b := 617) (j' := 35) rfl rfl rfl rfl (g_tt rfl rfl rfl g10) (T_move rfl rfl) rfl ?_
         first | refine k_op0 (d := 72) (b := 633) (j' := 36) rfl rfl rfl rfl (g_tt rfl rfl rfl g10) (T_indexAddr D rfl rfl rfl rfl rfl rfl rfl rfl (by first | assumption | omega | (simp; omega))) rfl ?_ | refine k_op0 (d := 72) (b := 633) (j' := 36) rfl rfl rfl rfl (g_tt rfl rfl rfl g10) (T_indexAddrZ D rfl rfl rfl rfl rfl rfl rfl rfl (by first | assumption | omega | (simp; omega)) (by first | assumption | omega | (simp; omega))) rfl ?_
         refine k_op0 (d := 73) (b := 649) (j' := 37) rfl rfl rfl rfl (g_tt rfl rfl rfl g10) (T_ldE D (lv := .v _) (nn := 0) (upd := []) rfl rfl rfl rfl rfl (by first | assumption | omega | (simp; omega)) rfl rfl rfl rfl) rfl ?_
         refine k_op0 (d := 74) (b := 665) (j' := 38) rfl rfl rfl rfl (g_tt rfl rfl rfl g10) (T_not rfl rfl) rfl ?_
         refine k_op0 (d := 75) (b := 681) (j' := 39) rfl rfl rfl rfl (g_ff rfl rfl rfl g8) (T_pick_t rfl rfl rfl g10) rfl ?_
         refine q0 76 697 40 rfl rfl (T_pick_f rfl rfl rfl g8) rfl ?_
         refine k_done rfl ?_
         refine thenK_n ?_
         refine W_cond rfl (fun g11 => ?_) (fun g11 => ?_)
         ·have h11 := g11; (try simp only [cmpB, decide_eq_true_eq, decide_eq_false_iff_not, beq_iff_eq, beq_eq_false_iff_ne, bne_iff_ne, ne_eq, bne_eq_false_iff_eq, Bool.not_eq_true', Bool.not_eq_false', Int.not_lt, Int.not_le] at h11)
          refine W_seq ?_
          refine W_seqK (b' := 729) rfl rfl ?_
          refine q0 4 713 1 rfl rfl (T_assign rfl rfl) rfl ?_
          refine k_done rfl ?_
          refine thenK_n ?_
          refine W_ret ?_
          refine blockK_r ?_
          refine thenK_r ?_
          refine thenK_r ?_
          refine blockK_r ?_
          refine blockK_r ?_
          refine thenK_r ?_
          refine thenK_r ?_
          refine blockK_r ?_
          refine thenK_r ?_
          exact .mk [] (.inr rfl) (.tmp rfl (.nil)) (by first | rfl | (exfalso; have k := live_sized (by assumption : small27 f 12 60 = true); simp_all; done) | (exfalso; have k1 := hlj.1 r; have k2 := hlj.2 r; simp_all; done)) (.nil) rfl
         ·have h11 := g11; (try simp only [cmpB, decide_eq_true_eq, decide_eq_false_iff_not, beq_iff_eq, beq_eq_false_iff_ne, bne_iff_ne, ne_eq, bne_eq_false_iff_eq, Bool.not_eq_true', Bool.not_eq_false', Int.not_lt, Int.not_le] at h11)
          refine W_skip ?_
          refine blockK_n ?_
          refine thenK_n ?_
          refine W_seqK (b' := 761) rfl rfl ?_
          refine q0 35 713 1 rfl rfl (T_move rfl rfl) rfl ?_
          refine q0 36 729 2 rfl rfl (T_add64 rfl rfl rfl (by first | assumption | omega | (simp; omega))) rfl ?_
          refine q0 7 745 3 rfl rfl (T_assign rfl rfl) rfl ?_
          refine k_done rfl ?_
          refine thenK_n ?_
          refine ⟨r + 1, by (try dsimp only); omega, by (try dsimp only); omega, ?_⟩
          exact ⟨[(4, 4), (5, 5), (6, 6), (7, 7), (8, 8)], .same rfl rfl (.same rfl rfl (.same rfl rfl (.eq rfl (.eq rfl (.nil) (by first | rfl | simp)) rfl))), .fzE rfl (.fzE rfl (.fzE rfl (.box (by first | rfl | simp) (.box (by first | rfl | simp) (.box (by first | rfl | simp) (.fzE rfl (.fzE rfl (.nil) rfl) rfl)))) rfl) rfl) rfl, rfl⟩
        ·have h10 := g10; (try simp only [cmpB, decide_eq_true_eq, decide_eq_false_iff_not, beq_iff_eq, beq_eq_false_iff_ne, bne_iff_ne, ne_eq, bne_eq_false_iff_eq, Bool.not_eq_true', Bool.not_eq_false', Int.not_lt, Int.not_le] at h10)
         refine k_no (d := 66) (j' := 30) rfl rfl rfl (g_tf rfl rfl rfl g10) ?_
         refine k_no (d := 67) (j' := 31) rfl rfl rfl (g_tf rfl rfl rfl g10) ?_
         refine k_no (d := 68) (j' := 32) rfl rfl rfl (g_tf rfl rfl rfl g10) ?_
         refine k_no (d := 69) (j' := 33) rfl rfl rfl (g_tf rfl rfl rfl g10) ?_
         refine k_no (d := 70) (j' := 34) rfl rfl rfl (g_tf rfl rfl rfl g10) ?_
         refine k_no (d := 71) (j' := 35) rfl rfl rfl (g_tf rfl rfl rfl g10) ?_
         refine k_no (d := 72) (j' := 36) rfl rfl rfl (g_tf rfl rfl rfl g10) ?_
         refine k_no (d := 73) (j' := 37) rfl rfl rfl (g_tf rfl rfl rfl g10) ?_
         refine k_no (d := 74) (j' := 38) rfl rfl rfl (g_tf rfl rfl rfl g10) ?_
         refine k_op0 (d := 75) (b := 681) (j' := 39) rfl rfl rfl rfl (g_ff rfl rfl rfl g8) (T_pick_f rfl rfl rfl g10) rfl ?_
         refine q0 76 697 40 rfl rfl (T_pick_f rfl rfl rfl g8) rfl ?_
         refine k_done rfl ?_
         refine thenK_n ?_
         refine W_cond rfl (fun g12 => ?_) (fun g12 => ?_)
         ·exact absurd (g12.symm.trans rfl) (by decide)
         ·skip
          refine W_skip ?_
          refine blockK_n ?_
          refine thenK_n ?_
          refine W_seqK (b' := 761) rfl rfl ?_
          refine q0 35 713 1 rfl rfl (T_move rfl rfl) rfl ?_
          refine q0 36 729 2 rfl rfl (T_add64 rfl rfl rfl (by first | assumption | omega | (simp; omega))) rfl ?_
          refine q0 7 745 3 rfl rfl (T_assign rfl rfl) rfl ?_
          refine k_done rfl ?_
          refine thenK_n ?_
          refine ⟨r + 1, by (try dsimp only); omega, by (try dsimp only); omega, ?_⟩
          exact ⟨[(4, 4), (5, 5), (6, 6), (7, 7), (8, 8)], .same rfl rfl (.same rfl rfl (.same rfl rfl (.eq rfl (.eq rfl (.nil) (by first | rfl | simp)) rfl))), .fzE rfl (.fzE rfl (.fzE rfl (.box (by first | rfl | simp) (.box (by first | rfl | simp) (.box (by first | rfl | simp) (.fzE rfl (.fzE rfl (.nil) rfl) rfl)))) rfl) rfl) rfl, rfl⟩
      ·have h7 := g7; (try simp only [cmpB, decide_eq_true_eq, decide_eq_false_iff_not, beq_iff_eq, beq_eq_false_iff_ne, bne_iff_ne, ne_eq, bne_eq_false_iff_eq, Bool.not_eq_true', Bool.not_eq_false', Int.not_lt, Int.not_le] at h7)
       refine k_no (d := 46) (j' := 10) rfl rfl rfl (g_tf rfl rfl rfl g7) ?_
       refine k_no (d := 47) (j' := 11) rfl rfl rfl (g_tf rfl rfl rfl g7) ?_
       refine k_no (d := 48) (j' := 12) rfl rfl rfl (g_tf rfl rfl rfl g7) ?_
       refine k_no (d := 49) (j' := 13) rfl rfl rfl (g_tf rfl rfl rfl g7) ?_
       refine k_no (d := 50) (j' := 14) rfl rfl rfl (g_tf rfl rfl rfl g7) ?_
       refine k_no (d := 51) (j' := 15) rfl rfl rfl (g_tf rfl rfl rfl g7) ?_
       refine k_no (d := 52) (j' := 16) rfl rfl rfl (g_tf rfl rfl rfl g7) ?_
       refine k_no (d := 53) (j' := 17) rfl rfl rfl (g_tf rfl rfl rfl g7) ?_
       refine k_no (d := 54) (j' := 18) rfl rfl rfl (g_tf rfl rfl rfl g7) ?_
       refine q0 55 361 19 rfl rfl (T_pick_f rfl rfl rfl g7) rfl ?_
       refine q0 56 377 20 rfl rfl (T_move rfl rfl) rfl ?_
       refine k_op0 (d := 57) (b := 393) (j' := 21) rfl rfl rfl rfl (g_ff rfl rfl rfl rfl) (T_fa D (m := 1) rfl rfl rfl rfl rfl rfl) rfl ?_
       refine k_op0 (d := 58) (b := 409) (j' := 22) rfl rfl rfl rfl (g_ff rfl rfl rfl rfl) (T_load_b D rfl rfl rfl rfl rfl rfl) rfl ?_
       refine k_op0 (d := 59) (b := 425) (j' := 23) rfl rfl rfl rfl (g_ff rfl rfl rfl rfl) (T_move rfl rfl) rfl ?_
       first | refine k_op0 (d := 60) (b := 441) (j' := 24) rfl rfl rfl rfl (g_ff rfl rfl rfl rfl) (T_indexAddr D rfl rfl rfl rfl rfl rfl rfl rfl (by first | assumption | omega | (simp; omega))) rfl ?_ | refine k_op0 (d := 60) (b := 441) (j' := 24) rfl rfl rfl rfl (g_ff rfl rfl rfl rfl) (T_indexAddrZ D rfl rfl rfl rfl rfl rfl rfl rfl (by first | assumption | omega | (simp; omega)) (by first | assumption | omega | (simp; omega))) rfl ?_
       refine k_op1 (d := 61) (b := 457) (j' := 25) rfl rfl rfl rfl (g_ff rfl rfl rfl rfl) (T_ldE D (lv := .r 457) (nn := 1) (upd := [(457, .fz 1 _)]) rfl rfl rfl rfl rfl (by first | assumption | omega | (simp; omega)) rfl rfl rfl rfl) rfl ?_
       refine k_op0 (d := 62) (b := 473) (j' := 26) rfl rfl rfl rfl (g_ff rfl rfl rfl rfl) (T_move rfl rfl) rfl ?_
       first | refine k_op0 (d := 63) (b := 489) (j' := 27) rfl rfl rfl rfl (g_ff rfl rfl rfl rfl) (T_indexAddr D rfl rfl rfl rfl rfl rfl rfl rfl (by first | assumption | omega | (simp; omega))) rfl ?_ | refine k_op0 (d := 63) (b := 489) (j' := 27) rfl rfl rfl rfl (g_ff rfl rfl rfl rfl) (T_indexAddrZ D rfl rfl rfl rfl rfl rfl rfl rfl (by first | assumption | omega | (simp; omega)) (by first | assumption | omega | (simp; omega))) rfl ?_
       refine k_op0 (d := 64) (b := 505) (j' := 28) rfl rfl rfl rfl (g_ff rfl rfl rfl rfl) (T_ldE D (lv := .v _) (nn := 0) (upd := []) rfl rfl rfl rfl rfl (by first | assumption | omega | (simp; omega)) rfl rfl rfl rfl) rfl ?_
       refine k_op0 (d := 65) (b := 521) (j' := 29) rfl rfl rfl rfl (g_ff rfl rfl rfl rfl) (T_move rfl rfl) rfl ?_
       refine k_split (d := 65) rfl (fun g13 => ?_) (fun g13 => ?_)
       ·have h13 := g13; (try simp only [cmpB, decide_eq_true_eq, decide_eq_false_iff_not, beq_iff_eq, beq_eq_false_iff_ne, bne_iff_ne, ne_eq, bne_eq_false_iff_eq, Bool.not_eq_true', Bool.not_eq_false', Int.not_lt, Int.not_le] at h13)
        refine k_op0 (d := 66) (b := 537) (j' := 30) rfl rfl rfl rfl (g_tt rfl rfl rfl g13) (T_fa D (m := 1) rfl rfl rfl rfl rfl rfl) rfl ?_
        refine k_op0 (d := 67) (b := 553) (j' := 31) rfl rfl rfl rfl (g_tt rfl rfl rfl g13) (T_load_b D rfl rfl rfl rfl rfl rfl) rfl ?_
        refine k_op0 (d := 68) (b := 569) (j' := 32) rfl rfl rfl rfl (g_tt rfl rfl rfl g13) (T_move rfl rfl) rfl ?_
        first | refine k_op0 (d := 69) (b := 585) (j' := 33) rfl rfl rfl rfl (g_tt rfl rfl rfl g13) (T_indexAddr D rfl rfl rfl rfl rfl rfl rfl rfl (by first | assumption | omega | (simp; omega))) rfl ?_ | refine k_op0 (d := 69) (b := 585) (j' := 33) rfl rfl rfl rfl (g_tt rfl rfl rfl g13) (T_indexAddrZ D rfl rfl rfl rfl rfl rfl rfl rfl (by first | assumption | omega | (simp; omega)) (by first | assumption | omega | (simp; omega))) rfl ?_
        refine k_op1 (d := 70) (b := 601) (j' := 34) rfl rfl rfl rfl (g_tt rfl rfl rfl g13) (T_ldE D (lv := .r 601) (nn := 1) (upd := [(601, .fz 1 _)]) rfl rfl rfl rfl rfl (by first | assumption | omega | (simp; omega)) rfl rfl rfl rfl) rfl ?_
        refine k_op0 (d := 71) (b := 617) (j' := 35) rfl rfl rfl rfl (g_tt rfl rfl rfl g13) (T_move rfl rfl) rfl ?_
        first | refine k_op0 (d := 72) (b := 633) (j' := 36) rfl rfl rfl rfl (g_tt rfl rfl rfl g13) (T_indexAddr D rfl rfl rfl rfl rfl rfl rfl rfl (by first | assumption | omega | (simp; omega))) rfl ?_ | refine k_op0 (d := 72) (b := 633) (j' := 36) rfl rfl rfl rfl (g_tt rfl rfl rfl g13) (T_indexAddrZ D rfl rfl rfl rfl rfl rfl rfl rfl (by first | assumption | omega | (simp; omega)) (by first | assumption | omega | (simp; omega))) rfl ?_
        refine k_op0 (d := 73) (b := 649) (j' := 37) rfl rfl rfl rfl (g_tt rfl rfl rfl g13) (T_ldE D (lv := .v _) (nn := 0) (upd := []) rfl rfl rfl rfl rfl (by first | assumption | omega | (simp; omega)) rfl rfl rfl rfl) rfl ?_
        refine k_op0 (d := 74) (b := 665) (j' := 38) rfl rfl rfl rfl (g_tt rfl rfl rfl g13) (T_not rfl rfl) rfl ?_
        refine k_op0 (d := 75) (b := 681) (j' := 39) rfl rfl rfl rfl (g_ff rfl rfl rfl rfl) (T_pick_t rfl rfl rfl g13) rfl ?_
        refine q0 76 697 40 rfl rfl (T_pick_f rfl rfl rfl rfl) rfl ?_
        refine k_done rfl ?_
        refine thenK_n ?_
        refine W_cond rfl (fun g14 => ?_) (fun g14 => ?_)
        ·have h14 := g14; (try simp only [cmpB, decide_eq_true_eq, decide_eq_false_iff_not, beq_iff_eq, beq_eq_false_iff_ne, bne_iff_ne, ne_eq, bne_eq_false_iff_eq, Bool.not_eq_true', Bool.not_eq_false', Int.not_lt, Int.not_le] at h14)
         refine W_seq ?_
         refine W_seqK (b' := 729) rfl rfl ?_
         refine q0 4 713 1 rfl rfl (T_assign rfl rfl) rfl ?_
         refine k_done rfl ?_
         refine thenK_n ?_
         refine W_ret ?_
         refine blockK_r ?_
         refine thenK_r ?_
         refine thenK_r ?_
         refine blockK_r ?_
         refine blockK_r ?_
         refine thenK_r ?_
         refine thenK_r ?_
         refine blockK_r ?_
         refine thenK_r ?_
         exact .mk [] (.inr rfl) (.tmp rfl (.nil)) (by first | rfl | (exfalso; have k := live_sized (by assumption : small27 f 12 60 = true); simp_all; done) | (exfalso; have k1 := hlj.1 r; have k2 := hlj.2 r; simp_all; done)) (.nil) rfl
        ·have h14 := g14; (try simp only [cmpB, decide_eq_true_eq, decide_eq_false_iff_not, beq_iff_eq, beq_eq_false_iff_ne, bne_iff_ne, ne_eq, bne_eq_false_iff_eq, Bool.not_eq_true', Bool.not_eq_false', Int.not_lt, Int.not_le] at h14)
         refine W_skip ?_
         refine blockK_n ?_
         refine thenK_n ?_
         refine W_seqK (b' := 761) rfl rfl ?_
         refine q0 35 713 1 rfl rfl (T_move rfl rfl) rfl ?_
         refine q0 36 729 2 rfl rfl (T_add64 rfl rfl rfl (by first | assumption | omega | (simp; omega))) rfl ?_
         refine q0 7 745 3 rfl rfl (T_assign rfl rfl) rfl ?_
         refine k_done rfl ?_
         refine thenK_n ?_
         refine ⟨r + 1, by (try dsimp only); omega, by (try dsimp only); omega, ?_⟩
         exact ⟨[(4, 4), (5, 5), (6, 6), (7, 7), (8, 8)], .same rfl rfl (.same rfl rfl (.same rfl rfl (.eq rfl (.eq rfl (.nil) (by first | rfl | simp)) rfl))), .fzE rfl (.fzE rfl (.fzE rfl (.box (by first | rfl | simp) (.box (by first | rfl | simp) (.box (by first | rfl | simp) (.fzE rfl (.fzE rfl (.nil) rfl) rfl)))) rfl) rfl) rfl, rfl⟩
       ·have h13 := g13; (try simp only [cmpB, decide_eq_true_eq, decide_eq_false_iff_not, beq_iff_eq, beq_eq_false_iff_ne, bne_iff_ne, ne_eq, bne_eq_false_iff_eq, Bool.not_eq_true', Bool.not_eq_false', Int.not_lt, Int.not_le] at h13)
        refine k_no (d := 66) (j' := 30) rfl rfl rfl (g_tf rfl rfl rfl g13) ?_
        refine k_no (d := 67) (j' := 31) rfl rfl rfl (g_tf rfl rfl rfl g13) ?_
        refine k_no (d := 68) (j' := 32) rfl rfl rfl (g_tf rfl rfl rfl g13) ?_
        refine k_no (d := 69) (j' := 33) rfl rfl rfl (g_tf rfl rfl rfl g13) ?_
        refine k_no (d := 70) (j' := 34) rfl rfl rfl (g_tf rfl rfl rfl g13) ?_
        refine k_no (d := 71) (j' := 35) rfl rfl rfl (g_tf rfl rfl rfl g13) ?_
        refine k_no (d := 72) (j' := 36) rfl rfl rfl (g_tf rfl rfl rfl g13) ?_
        refine k_no (d := 73) (j' := 37) rfl rfl rfl (g_tf rfl rfl rfl g13) ?_
        refine k_no (d := 74) (j' := 38) rfl rfl rfl (g_tf rfl rfl rfl g13) ?_
        refine k_op0 (d := 75) (b := 681) (j' := 39) rfl rfl rfl rfl (g_ff rfl rfl rfl rfl) (T_pick_f rfl rfl rfl g13) rfl ?_
        refine q0 76 697 40 rfl rfl (T_pick_f rfl rfl rfl rfl) rfl ?_
        refine k_done rfl ?_
        refine thenK_n ?_
        refine W_cond rfl (fun g15 => ?_) (fun g15 => ?_)
        ·exact absurd (g15.symm.trans rfl) (by decide)
        ·skip
         refine W_skip ?_
         refine blockK_n ?_
         refine thenK_n ?_
         refine W_seqK (b' := 761) rfl rfl ?_
         refine q0 35 713 1 rfl rfl (T_move rfl rfl) rfl ?_
         refine q0 36 729 2 rfl rfl (T_add64 rfl rfl rfl (by first | assumption | omega | (simp; omega))) rfl ?_
         refine q0 7 745 3 rfl rfl (T_assign rfl rfl) rfl ?_
         refine k_done rfl ?_
         refine thenK_n ?_
         refine ⟨r + 1, by (try dsimp only); omega, by (try dsimp only); omega, ?_⟩
         exact ⟨[(4, 4), (5, 5), (6, 6), (7, 7), (8, 8)], .same rfl rfl (.same rfl rfl (.same rfl rfl (.eq rfl (.eq rfl (.nil) (by first | rfl | simp)) rfl))), .fzE rfl (.fzE rfl (.fzE rfl (.box (by first | rfl | simp) (.box (by first | rfl | simp) (.box (by first | rfl | simp) (.fzE rfl (.fzE rfl (.nil) rfl) rfl)))) rfl) rfl) rfl, rfl⟩
     ·have h6 := c_lss_f g6
      refine W_exit ?_
      refine thenK_e ?_
      refine thenK_e ?_
      refine blockK_hit ?_
      refine blockK_n ?_
      refine thenK_n ?_
      refine W_seqK (b' := 121) rfl rfl ?_
      refine q0 29 73 1 rfl rfl (T_move rfl rfl) rfl ?_
      refine q0 30 89 2 rfl rfl (T_add64 rfl rfl rfl (by first | assumption | omega | (simp; omega))) rfl ?_
      refine q0 6 105 3 rfl rfl (T_assign rfl rfl) rfl ?_
      refine k_done rfl ?_
      refine thenK_n ?_
      refine ⟨j + 1, by (try dsimp only); omega, by (try dsimp only); omega, ?_⟩
      exact ⟨[(4, 4), (5, 5), (6, 6), (7, 7), (8, 8)], .same rfl rfl (.same rfl rfl (.same rfl rfl (.eq rfl (.nil) (by first | rfl | simp)))), .fzE rfl (.fzE rfl (.fzE rfl (.box (by first | rfl | simp) (.box (by first | rfl | simp) (.box (by first | rfl | simp) (.fzE rfl (.fzE rfl (.nil) rfl) rfl)))) rfl) rfl) rfl, rfl⟩
    ·have h5 := c_lss_f g5
     refine W_exit ?_
     refine thenK_e ?_
     refine thenK_e ?_
     refine blockK_hit ?_
     refine thenK_n ?_
     refine W_seq ?_
     refine W_seqK (b' := 121) rfl rfl ?_
     refine q0 77 89 1 rfl rfl (T_callV (lvs := []) (L := []) (awake27_spec) body49 rfl rfl rfl rfl (.nil) rfl) rfl ?_
     refine q0 4 105 2 rfl rfl (T_assign rfl rfl) rfl ?_
     refine k_done rfl ?_
     refine thenK_n ?_
     refine W_ret ?_
     exact .mk [] (.inr rfl) (.tmp rfl (.nil)) (by first | rfl | (exfalso; have k := live_sized (by assumption : small27 f 12 60 = true); simp_all; done) | (exfalso; have k1 := hlj.1 r; have k2 := hlj.2 r; simp_all; done)) (.nil) rfl
set_option maxHeartbeats 1600000
theorem body17 : (Try.prog.funcs[17]?).map (fun fn => (fn.name == "runtime.NumGoroutine" || fn.body.isNone)) = some false := by kernel_rfl
theorem law17 (f : GFn) (y z : Int) (hf : FnOk f) (hy : 0 ≤ y ∧ y < 256) (hz : 0 ≤ z ∧ z < 256) : Spec Try.prog 17 [.agg [.v (.int .i64 f.regs), .r 1], .v (.int .u8 y), .v (.int .u8 z)] 2 [(1, .fz 5 (f.blocks.map eBlock))] (.v (.bool true)) 2 [] := by
 refine spec_of D (fn := Try.f17) rfl rfl (Nat.le_of_ble_eq_true rfl) ?_
 refine W_seq ?_
 refine W_seqK (b' := 34) rfl rfl ?_
 refine q1 3 2 1 rfl rfl (T_box rfl rfl flat_agg) rfl ?_
 refine q0 6 18 2 rfl rfl (T_assign rfl rfl) rfl ?_
 refine k_done rfl ?_
 refine thenK_n ?_
 refine W_seq ?_
 refine W_seq ?_
 refine W_seqK (b' := 178) rfl rfl ?_
 refine q0 15 34 1 rfl rfl (T_load_bA D (l := [_, _]) rfl rfl rfl rfl rfl rfl rfl) rfl ?_
 refine q0 16 50 2 rfl rfl (T_callV (lvs := [_, _, _]) (L := [(1, 1)]) (small27_spec f 12 60 hf (by omega) (by omega)) body48 rfl rfl rfl rfl (.fz rfl (.nil)) rfl) rfl ?_
 refine q0 17 66 3 rfl rfl (T_not rfl rfl) rfl ?_
 refine q0 18 82 4 rfl rfl (T_move rfl rfl) rfl ?_
 refine k_split (d := 18) rfl (fun g1 => ?_) (fun g1 => ?_)
 ·have h1 := g1; (try simp only [cmpB, decide_eq_true_eq, decide_eq_false_iff_not, beq_iff_eq, beq_eq_false_iff_ne, bne_iff_ne, ne_eq, bne_eq_false_iff_eq, Bool.not_eq_true', Bool.not_eq_false', Int.not_lt, Int.not_le] at h1)
  refine k_no (d := 19) (j' := 5) rfl rfl rfl (g_ft rfl rfl rfl g1) ?_
  refine k_no (d := 20) (j' := 6) rfl rfl rfl (g_ft rfl rfl rfl g1) ?_
  refine k_no (d := 21) (j' := 7) rfl rfl rfl (g_ft rfl rfl rfl g1) ?_
  refine k_no (d := 22) (j' := 8) rfl rfl rfl (g_ft rfl rfl rfl g1) ?_
  refine q0 23 162 9 rfl rfl (T_pick_t rfl rfl rfl g1) rfl ?_
  refine k_done rfl ?_
  refine thenK_n ?_
  refine W_cond rfl (fun g2 => ?_) (fun g2 => ?_)
  ·skip
   refine W_seq ?_
   refine W_seqK (b' := 210) rfl rfl ?_
   refine q0 24 178 1 rfl rfl (T_callV (lvs := []) (L := []) (awake27_spec) body49 rfl rfl rfl rfl (.nil) rfl) rfl ?_
   refine q0 6 194 2 rfl rfl (T_assign rfl rfl) rfl ?_
   refine k_done rfl ?_
   refine thenK_n ?_
   refine W_ret ?_
   refine thenK_r ?_
   exact .mk [] (.inr rfl) (.tmp rfl (.nil)) (by rfl) (.nil) rfl
  ·exact absurd (g2.symm.trans rfl) (by decide)
 ·have h1 := g1; (try simp only [cmpB, decide_eq_true_eq, decide_eq_false_iff_not, beq_iff_eq, beq_eq_false_iff_ne, bne_iff_ne, ne_eq, bne_eq_false_iff_eq, Bool.not_eq_true', Bool.not_eq_false', Int.not_lt, Int.not_le] at h1)
  refine k_op0 (d := 19) (b := 98) (j' := 5) rfl rfl rfl rfl (g_ff rfl rfl rfl g1) (T_fa D (m := 1) rfl rfl rfl rfl rfl rfl) rfl ?_
  refine k_op0 (d := 20) (b := 114) (j' := 6) rfl rfl rfl rfl (g_ff rfl rfl rfl g1) (T_load_b D rfl rfl rfl rfl rfl rfl) rfl ?_
  refine k_op0 (d := 21) (b := 130) (j' := 7) rfl rfl rfl rfl (g_ff rfl rfl rfl g1) (T_len D rfl rfl rfl rfl rfl rfl) rfl ?_
  refine k_op0 (d := 22) (b := 146) (j' := 8) rfl rfl rfl rfl (g_ff rfl rfl rfl g1) (T_cmp rfl rfl rfl rfl) rfl ?_
  refine q0 23 162 9 rfl rfl (T_pick_f rfl rfl rfl g1) rfl ?_
  refine k_done rfl ?_
  refine thenK_n ?_
  refine W_cond rfl (fun g3 => ?_) (fun g3 => ?_)
  ·have h3 := c_eql_t g3
   refine W_seq ?_
   refine W_seqK (b' := 210) rfl rfl ?_
   refine q0 24 178 1 rfl rfl (T_callV (lvs := []) (L := []) (awake27_spec) body49 rfl rfl rfl rfl (.nil) rfl) rfl ?_
   refine q0 6 194 2 rfl rfl (T_assign rfl rfl) rfl ?_
   refine k_done rfl ?_
   refine thenK_n ?_
   refine W_ret ?_
   refine thenK_r ?_
   exact .mk [] (.inr rfl) (.tmp rfl (.nil)) (by rfl) (.nil) rfl
  ·have h3 := c_eql_f g3
   refine W_skip ?_
   refine thenK_n ?_
   refine W_seq ?_
   refine W_seqK (b' := 242) rfl rfl ?_
   refine q0 25 178 1 rfl rfl (T_load_bA D (l := [_, _]) rfl rfl rfl rfl rfl rfl rfl) rfl ?_
   refine qn 26 194 2 rfl rfl (T_call (lvs := [_]) (L := [(1, 1)]) (lv := .agg [.r 194, .r 195]) (upd := [(194, .fz 1 _), (195, .fz 1 _)]) (nn := 2) false (live_spec f (small_lf (by assumption : small27 f 12 60 = true))) body50 rfl rfl rfl rfl (.fz rfl (.nil)) rfl (.inl rfl) rfl rfl rfl) rfl ?_
   refine qn 7 210 3 rfl rfl (T_nilbox [(48, 1), (48, 1)] (T_alloc D rfl rfl rfl) rfl (.cons (.nil rfl) <| .cons (.nil rfl) <| .nil) (upd' := [(210, .box 57 [.r 211, .r 212]), (211, .row 48 1 (List.map eBs ([] : List (List Bool)))), (212, .row 48 1 (List.map eBs ([] : List (List Bool))))]) (nn' := 3) rfl rfl) rfl ?_
   refine s1 226 4 rfl rfl (T_stB D (cs' := [_, _]) rfl rfl rfl rfl flat_agg rfl rfl (Nat.le_of_ble_eq_true rfl) rfl) rfl ?_
   refine k_done rfl ?_
   refine thenK_n ?_
   refine W_seq ?_
   have hS := s27 (by assumption : small27 f 12 60 = true)
   have hSl := hS.len
   have hSr := hS.regs
   have hSp := hS.pos
   refine W_seqK (b' := 354) rfl rfl ?_
   refine q0 27 242 1 rfl rfl (T_move rfl rfl) rfl ?_
   refine q0 28 258 2 rfl rfl (T_conv64 rfl rfl (by rw [Try.underlying5]; rfl) (by first | assumption | omega | (have q := hu (by omega); omega) | (have q := hbv (by omega); rw [hLoy] at q; omega) | (simp; omega))) rfl ?_
   refine q0 29 274 3 rfl rfl (T_fa D (m := 1) rfl rfl rfl rfl rfl rfl) rfl ?_
   refine q0 30 290 4 rfl rfl (T_load_b D rfl rfl rfl rfl rfl rfl) rfl ?_
   refine q0 31 306 5 rfl rfl (T_len D rfl rfl rfl rfl rfl rfl) rfl ?_
   refine q0 32 322 6 rfl rfl (T_remU rfl rfl rfl (by first | omega | simp; omega)) rfl ?_
   refine q0 8 338 7 rfl rfl (T_assign rfl rfl) rfl ?_
   refine k_done rfl ?_
   refine thenK_n ?_
   refine W_seq ?_
   have hKi : 0 ≤ (y % (f.blocks.length : Int)) ∧ (y % (f.blocks.length : Int)) < (f.blocks.length : Int) := ⟨Int.emod_nonneg _ (by omega), Int.emod_lt_of_pos _ (by omega)⟩
   have hk : (y % (f.blocks.length : Int)).toNat < f.blocks.length := by omega
   have hLiy := (live_sz f).i.at hk
   have hLoy := (live_sz f).o.at hk
   have hLi := (live_sz f).i.len
   have hLo := (live_sz f).o.len
   have hbv := (hS.lf.ok (f.blocks.getD (y % (f.blocks.length : Int)).toNat default) (getD_mem hk)).2
   have hib := hS.ins (f.blocks.getD (y % (f.blocks.length : Int)).toNat default) (getD_mem hk)
   have hbl := behL_len (f.blocks.getD (y % (f.blocks.length : Int)).toNat default) ((liveL f).2.getD (y % (f.blocks.length : Int)).toNat default)
   refine W_seqK (b' := 466) rfl rfl ?_
   refine q0 33 354 1 rfl rfl (T_fa D (m := 1) rfl rfl rfl rfl rfl rfl) rfl ?_
   refine q0 34 370 2 rfl rfl (T_load_b D rfl rfl rfl rfl rfl rfl) rfl ?_
   refine q0 35 386 3 rfl rfl (T_move rfl rfl) rfl ?_
   first | refine q0 36 402 4 rfl rfl (T_indexAddr D rfl rfl rfl rfl rfl rfl rfl rfl (by first | assumption | omega | (have q := hu (by omega); omega) | (have q := hbv (by omega); rw [hLoy] at q; omega) | (simp; omega))) rfl ?_ | refine q0 36 402 4 rfl rfl (T_indexAddrZ D rfl rfl rfl rfl rfl rfl rfl rfl (by first | assumption | omega | (have q := hu (by omega); omega) | (have q := hbv (by omega); rw [hLoy] at q; omega) | (simp; omega)) (by first | assumption | omega | (have q := hu (by omega); omega) | (have q := hbv (by omega); rw [hLoy] at q; omega) | (simp; omega))) rfl ?_
   refine q1 37 418 5 rfl rfl (T_ldEA D (l := [.r 418, .v _, .v _, .v _, .v _]) (nn := 1) (upd := [(418, .fz 8 _)]) rfl rfl rfl rfl rfl (by first | assumption | omega | (have q := hu (by omega); omega) | (have q := hbv (by omega); rw [hLoy] at q; omega) | (simp; omega)) rfl rfl rfl rfl rfl) rfl ?_
   refine qn 9 434 6 rfl rfl (T_nilbox [(70, 8)] (T_alloc D rfl rfl rfl) rfl (.cons (.nil rfl) <| .cons (.same _) <| .cons (.same _) <| .cons (.same _) <| .cons (.same _) <| .nil) (upd' := [(434, .box 72 [.r 435, .v (.int .i64 0), .v (.int .i64 0), .v (.int .i64 0), .v (.int .i64 0)]), (435, .row 70 8 (List.map eTac ([] : List (GTac))))]) (nn' := 2) rfl rfl) rfl ?_
   refine s1 450 7 rfl rfl (T_stB D (cs' := [_, _, _, _, _]) rfl rfl rfl rfl flat_agg rfl rfl (Nat.le_of_ble_eq_true rfl) rfl) rfl ?_
   refine k_done rfl ?_
   refine thenK_n ?_
   refine W_seq ?_
   refine W_seq ?_
   refine W_seqK (b' := 530) rfl rfl ?_
   refine q0 38 466 1 rfl rfl (T_load_bA D (l := [_, _]) rfl rfl rfl rfl rfl rfl rfl) rfl ?_
   refine q0 39 482 2 rfl rfl (T_load_bA D (l := [_, _]) rfl rfl rfl rfl rfl rfl rfl) rfl ?_
   refine q0 40 498 3 rfl rfl (T_callV (lvs := [_, _]) (L := [(1, 1), (2, 194), (3, 195)]) (rSized_spec f (liveL f).1 (liveL f).2 (by have := live_len1 (by assumption : small27 f 12 60 = true); omega) (by have := live_len2 (by assumption : small27 f 12 60 = true); omega)) body56 rfl rfl rfl rfl (.fz rfl (.fz rfl (.fz rfl (.nil)))) rfl) rfl ?_
   refine q0 41 514 4 rfl rfl (T_not rfl rfl) rfl ?_
   refine k_done rfl ?_
   refine thenK_n ?_
   refine W_cond rfl (fun g4 => ?_) (fun g4 => ?_)
   ·have h4 := g4; (try simp only [cmpB, decide_eq_true_eq, decide_eq_false_iff_not, beq_iff_eq, beq_eq_false_iff_ne, bne_iff_ne, ne_eq, bne_eq_false_iff_eq, Bool.not_eq_true', Bool.not_eq_false', Int.not_lt, Int.not_le] at h4)
    refine W_seq ?_
    refine W_seqK (b' := 546) rfl rfl ?_
    refine q0 6 530 1 rfl rfl (T_assign rfl rfl) rfl ?_
    refine k_done rfl ?_
    refine thenK_n ?_
    refine W_ret ?_
    refine thenK_r ?_
    exact .mk [] (.inr rfl) (.tmp rfl (.nil)) (by exact absurd ((live_sized (by assumption : small27 f 12 60 = true)).symm.trans (by assumption : _ = false)) (by decide)) (.nil) rfl
   ·have h4 := g4; (try simp only [cmpB, decide_eq_true_eq, decide_eq_false_iff_not, beq_iff_eq, beq_eq_false_iff_ne, bne_iff_ne, ne_eq, bne_eq_false_iff_eq, Bool.not_eq_true', Bool.not_eq_false', Int.not_lt, Int.not_le] at h4)
    refine W_skip ?_
    refine thenK_n ?_
    refine W_seq ?_
    refine W_seq ?_
    refine W_anyK (b' := 866) rfl rfl rfl ?_
    refine q0 42 530 1 rfl rfl (T_fa D (m := 1) rfl rfl rfl rfl rfl rfl) rfl ?_
    refine q0 43 546 2 rfl rfl (T_load_b D rfl rfl rfl rfl rfl rfl) rfl ?_
    refine q0 44 562 3 rfl rfl (T_cmp rfl rfl rfl rfl) rfl ?_
    refine q0 45 578 4 rfl rfl (T_move rfl rfl) rfl ?_
    refine k_split (d := 45) rfl (fun g5 => ?_) (fun g5 => ?_)
    ·have h5 := c_eql_t g5
     refine k_op0 (d := 46) (b := 594) (j' := 5) rfl rfl rfl rfl (g_tt rfl rfl rfl g5) (T_fa D (m := 0) rfl rfl rfl rfl rfl rfl) rfl ?_
     refine k_op0 (d := 47) (b := 610) (j' := 6) rfl rfl rfl rfl (g_tt rfl rfl rfl g5) (T_load_b D rfl rfl rfl rfl rfl rfl) rfl ?_
     refine k_op0 (d := 48) (b := 626) (j' := 7) rfl rfl rfl rfl (g_tt rfl rfl rfl g5) (T_len D rfl rfl rfl rfl rfl rfl) rfl ?_
     refine k_op0 (d := 49) (b := 642) (j' := 8) rfl rfl rfl rfl (g_tt rfl rfl rfl g5) (T_cmp rfl rfl rfl rfl) rfl ?_
     refine q0 50 658 9 rfl rfl (T_pick_t rfl rfl rfl g5) rfl ?_
     refine q0 51 674 10 rfl rfl (T_move rfl rfl) rfl ?_
     refine k_split (d := 51) rfl (fun g6 => ?_) (fun g6 => ?_)
     ·have h6 := c_eql_t g6
      refine k_op0 (d := 52) (b := 690) (j' := 11) rfl rfl rfl rfl (g_tt rfl rfl rfl g6) (T_fa D (m := 0) rfl rfl rfl rfl rfl rfl) rfl ?_
      refine k_op0 (d := 53) (b := 706) (j' := 12) rfl rfl rfl rfl (g_tt rfl rfl rfl g6) (T_load_b D rfl rfl rfl rfl rfl rfl) rfl ?_
      refine k_op0 (d := 54) (b := 722) (j' := 13) rfl rfl rfl rfl (g_tt rfl rfl rfl g6) (T_move rfl rfl) rfl ?_
      first | refine k_op0 (d := 55) (b := 738) (j' := 14) rfl rfl rfl rfl (g_tt rfl rfl rfl g6) (T_indexAddr D rfl rfl rfl rfl rfl rfl rfl rfl (by first | assumption | omega | (have q := hu (by omega); omega) | (have q := hbv (by omega); rw [hLoy] at q; omega) | (simp; omega))) rfl ?_ | refine k_op0 (d := 55) (b := 738) (j' := 14) rfl rfl rfl rfl (g_tt rfl rfl rfl g6) (T_indexAddrZ D rfl rfl rfl rfl rfl rfl rfl rfl (by first | assumption | omega | (have q := hu (by omega); omega) | (have q := hbv (by omega); rw [hLoy] at q; omega) | (simp; omega)) (by first | assumption | omega | (have q := hu (by omega); omega) | (have q := hbv (by omega); rw [hLoy] at q; omega) | (simp; omega))) rfl ?_
      refine k_op1 (d := 56) (b := 754) (j' := 15) rfl rfl rfl rfl (g_tt rfl rfl rfl g6) (T_ldE D (lv := .r 754) (nn := 1) (upd := [(754, .fz 1 _)]) rfl rfl rfl rfl rfl (by first | assumption | omega | (have q := hu (by omega); omega) | (have q := hbv (by omega); rw [hLoy] at q; omega) | (simp; omega)) rfl rfl rfl rfl) rfl ?_
      refine k_op0 (d := 57) (b := 770) (j' := 16) rfl rfl rfl rfl (g_tt rfl rfl rfl g6) (T_fa D (m := 2) rfl rfl rfl rfl rfl rfl) rfl ?_
      refine k_op0 (d := 58) (b := 786) (j' := 17) rfl rfl rfl rfl (g_tt rfl rfl rfl g6) (T_load_b D rfl rfl rfl rfl rfl rfl) rfl ?_
      first | refine k_op0 (d := 59) (b := 802) (j' := 18) rfl rfl rfl rfl (g_tt rfl rfl rfl g6) (T_indexAddr D rfl rfl rfl rfl rfl rfl rfl rfl (by first | assumption | omega | (have q := hu (by omega); omega) | (have q := hbv (by omega); rw [hLoy] at q; omega) | (simp; omega))) rfl ?_ | refine k_op0 (d := 59) (b := 802) (j' := 18) rfl rfl rfl rfl (g_tt rfl rfl rfl g6) (T_indexAddrZ D rfl rfl rfl rfl rfl rfl rfl rfl (by first | assumption | omega | (have q := hu (by omega); omega) | (have q := hbv (by omega); rw [hLoy] at q; omega) | (simp; omega)) (by first | assumption | omega | (have q := hu (by omega); omega) | (have q := hbv (by omega); rw [hLoy] at q; omega) | (simp; omega))) rfl ?_
      refine k_op0 (d := 60) (b := 818) (j' := 19) rfl rfl rfl rfl (g_tt rfl rfl rfl g6) (T_ldE D (lv := .v _) (nn := 0) (upd := []) rfl rfl rfl rfl rfl (by first | assumption | omega | (have q := hu (by omega); omega) | (have q := hbv (by omega); rw [hLoy] at q; omega) | (simp; omega)) rfl rfl rfl rfl) rfl ?_
      refine k_op0 (d := 61) (b := 834) (j' := 20) rfl rfl rfl rfl (g_tt rfl rfl rfl g6) (T_not rfl rfl) rfl ?_
      refine q0 62 850 21 rfl rfl (T_pick_t rfl rfl rfl g6) rfl ?_
      refine k_done rfl ?_
      refine ⟨rfl, ?_⟩
      refine thenK_n ?_
      refine W_cond rfl (fun g7 => ?_) (fun g7 => ?_)
      ·have h7 := g7; (try simp only [cmpB, decide_eq_true_eq, decide_eq_false_iff_not, beq_iff_eq, beq_eq_false_iff_ne, bne_iff_ne, ne_eq, bne_eq_false_iff_eq, Bool.not_eq_true', Bool.not_eq_false', Int.not_lt, Int.not_le] at h7)
       refine W_seq ?_
       refine W_seqK (b' := 882) rfl rfl ?_
       refine q0 6 866 1 rfl rfl (T_assign rfl rfl) rfl ?_
       refine k_done rfl ?_
       refine thenK_n ?_
       refine W_ret ?_
       refine thenK_r ?_
       exact .mk [] (.inr rfl) (.tmp rfl (.nil)) (by exact absurd ((reads_end hS.lf hk (by omega) (by omega)).symm.trans (by assumption : _ = false)) (by decide)) (.nil) rfl
      ·have h7 := g7; (try simp only [cmpB, decide_eq_true_eq, decide_eq_false_iff_not, beq_iff_eq, beq_eq_false_iff_ne, bne_iff_ne, ne_eq, bne_eq_false_iff_eq, Bool.not_eq_true', Bool.not_eq_false', Int.not_lt, Int.not_le] at h7)
       refine W_skip ?_
       refine thenK_n ?_
       refine W_seq ?_
       refine W_seq ?_
       refine W_seqK (b' := 930) rfl rfl ?_
       refine q0 63 866 1 rfl rfl (T_fa D (m := 0) rfl rfl rfl rfl rfl rfl) rfl ?_
       refine q0 64 882 2 rfl rfl (T_load_b D rfl rfl rfl rfl rfl rfl) rfl ?_
       refine q0 65 898 3 rfl rfl (T_len D rfl rfl rfl rfl rfl rfl) rfl ?_
       refine q0 66 914 4 rfl rfl (T_cmp rfl rfl rfl rfl) rfl ?_
       refine k_done rfl ?_
       refine thenK_n ?_
       refine W_cond rfl (fun g8 => ?_) (fun g8 => ?_)
       ·have h8 := c_eql_t g8
        refine W_seq ?_
        refine W_seqK (b' := 962) rfl rfl ?_
        refine q0 67 930 1 rfl rfl (T_callV (lvs := []) (L := []) (awake27_spec) body49 rfl rfl rfl rfl (.nil) rfl) rfl ?_
        refine q0 6 946 2 rfl rfl (T_assign rfl rfl) rfl ?_
        refine k_done rfl ?_
        refine thenK_n ?_
        refine W_ret ?_
        refine thenK_r ?_
        exact .mk [] (.inr rfl) (.tmp rfl (.nil)) (by rfl) (.nil) rfl
       ·have h8 := c_eql_f g8
        refine W_skip ?_
        refine thenK_n ?_
        refine W_seq ?_
        have hIp : 0 < (f.blocks.getD (y % (f.blocks.length : Int)).toNat default).ins.length := by omega
        refine W_seqK (b' := 1042) rfl rfl ?_
        refine q0 68 930 1 rfl rfl (T_move rfl rfl) rfl ?_
        refine q0 69 946 2 rfl rfl (T_conv64 rfl rfl (by rw [Try.underlying5]; rfl) (by first | assumption | omega | (have q := hu (by omega); omega) | (have q := hbv (by omega); rw [hLoy] at q; omega) | (simp; omega))) rfl ?_
        refine q0 70 962 3 rfl rfl (T_fa D (m := 0) rfl rfl rfl rfl rfl rfl) rfl ?_
        refine q0 71 978 4 rfl rfl (T_load_b D rfl rfl rfl rfl rfl rfl) rfl ?_
        refine q0 72 994 5 rfl rfl (T_len D rfl rfl rfl rfl rfl rfl) rfl ?_
        refine q0 73 1010 6 rfl rfl (T_remU rfl rfl rfl (by first | omega | simp; omega)) rfl ?_
        refine q0 10 1026 7 rfl rfl (T_assign rfl rfl) rfl ?_
        refine k_done rfl ?_
        refine thenK_n ?_
        refine W_seq ?_
        have hI : 0 ≤ z % ((f.blocks.getD (y % (f.blocks.length : Int)).toNat default).ins.length : Int) ∧ z % ((f.blocks.getD (y % (f.blocks.length : Int)).toNat default).ins.length : Int) < ((f.blocks.getD (y % (f.blocks.length : Int)).toNat default).ins.length : Int) := ⟨Int.emod_nonneg _ (by omega), Int.emod_lt_of_pos _ (by omega)⟩
        have hI2 : (z % ((f.blocks.getD (y % (f.blocks.length : Int)).toNat default).ins.length : Int)).toNat < (f.blocks.getD (y % (f.blocks.length : Int)).toNat default).ins.length := by omega
        have hul := usesT_le ((f.blocks.getD (y % (f.blocks.length : Int)).toNat default).ins.getD (z % ((f.blocks.getD (y % (f.blocks.length : Int)).toNat default).ins.length : Int)).toNat default)
        refine W_seqK (b' := 1138) rfl rfl ?_
        refine q0 74 1042 1 rfl rfl (T_fa D (m := 0) rfl rfl rfl rfl rfl rfl) rfl ?_
        refine q0 75 1058 2 rfl rfl (T_load_b D rfl rfl rfl rfl rfl rfl) rfl ?_
        refine q0 76 1074 3 rfl rfl (T_move rfl rfl) rfl ?_
        first | refine q0 77 1090 4 rfl rfl (T_indexAddr D rfl rfl rfl rfl rfl rfl rfl rfl (by first | assumption | omega | (have q := hu (by omega); omega) | (have q := hbv (by omega); rw [hLoy] at q; omega) | (simp; omega))) rfl ?_ | refine q0 77 1090 4 rfl rfl (T_indexAddrZ D rfl rfl rfl rfl rfl rfl rfl rfl (by first | assumption | omega | (have q := hu (by omega); omega) | (have q := hbv (by omega); rw [hLoy] at q; omega) | (simp; omega)) (by first | assumption | omega | (have q := hu (by omega); omega) | (have q := hbv (by omega); rw [hLoy] at q; omega) | (simp; omega))) rfl ?_
        refine q1 78 1106 5 rfl rfl (T_ldE D (lv := .r 1106) (nn := 1) (upd := [(1106, .fz 1 _)]) rfl rfl rfl rfl rfl (by first | assumption | omega | (have q := hu (by omega); omega) | (have q := hbv (by omega); rw [hLoy] at q; omega) | (simp; omega)) rfl rfl rfl rfl) rfl ?_
        refine q0 11 1122 6 rfl rfl (T_assign rfl rfl) rfl ?_
        refine k_done rfl ?_
        refine thenK_n ?_
        refine W_seq ?_
        refine W_seq ?_
        refine W_seqK (b' := 1170) rfl rfl ?_
        refine q0 79 1138 1 rfl rfl (T_move rfl rfl) rfl ?_
        refine q0 80 1154 2 rfl rfl (T_cmp rfl rfl rfl rfl) rfl ?_
        refine k_done rfl ?_
        refine thenK_n ?_
        refine W_cond rfl (fun g9 => ?_) (fun g9 => ?_)
        ·have h9 := c_gtr_t g9
         refine W_seq ?_
         refine W_seqK (b' := 1250) rfl rfl ?_
         refine q0 81 1170 1 rfl rfl (T_load_bA D (l := [_, _]) rfl rfl rfl rfl rfl rfl rfl) rfl ?_
         refine q0 82 1186 2 rfl rfl (T_load_bA D (l := [_, _]) rfl rfl rfl rfl rfl rfl rfl) rfl ?_
         refine q0 83 1202 3 rfl rfl (T_move rfl rfl) rfl ?_
         refine q1 84 1218 4 rfl rfl (T_call (lvs := [_, _, _]) (L := [(1, 1), (2, 194), (3, 195)]) (lv := .r 1218) (upd := [(1218, .fz 1 _)]) (nn := 1) false (beh_spec f (liveL f).1 (liveL f).2 (y % (f.blocks.length : Int)) hS.lf hKi (live_sz f).o) body58 rfl rfl rfl rfl (.fz rfl (.fz rfl (.fz rfl (.nil)))) rfl (.inl rfl) rfl rfl rfl) rfl ?_
         refine q0 12 1234 5 rfl rfl (T_assign rfl rfl) rfl ?_
         refine k_done rfl ?_
         refine thenK_n ?_
         refine W_seq ?_
         refine W_seq ?_
         refine W_seqK (b' := 1346) rfl rfl ?_
         refine q0 85 1250 1 rfl rfl (T_move rfl rfl) rfl ?_
         refine q0 86 1266 2 rfl rfl (T_len D rfl rfl rfl rfl rfl rfl) rfl ?_
         refine q0 87 1282 3 rfl rfl (T_fa D (m := 0) rfl rfl rfl rfl rfl rfl) rfl ?_
         refine q0 88 1298 4 rfl rfl (T_load_b D rfl rfl rfl rfl rfl rfl) rfl ?_
         refine q0 89 1314 5 rfl rfl (T_len D rfl rfl rfl rfl rfl rfl) rfl ?_
         refine q0 90 1330 6 rfl rfl (T_cmp rfl rfl rfl rfl) rfl ?_
         refine k_done rfl ?_
         refine thenK_n ?_
         refine W_cond rfl (fun g10 => ?_) (fun g10 => ?_)
         ·have h10 := c_neq_t g10
          refine W_seq ?_
          refine W_seqK (b' := 1362) rfl rfl ?_
          refine q0 6 1346 1 rfl rfl (T_assign rfl rfl) rfl ?_
          refine k_done rfl ?_
          refine thenK_n ?_
          refine W_ret ?_
          refine thenK_r ?_
          refine thenK_r ?_
          exact .mk [] (.inr rfl) (.tmp rfl (.nil)) (by exfalso; omega) (.nil) rfl
         ·have h10 := c_neq_f g10
          refine W_skip ?_
          refine thenK_n ?_
          refine W_seqK (b' := 1442) rfl rfl ?_
          refine q0 91 1346 1 rfl rfl (T_move rfl rfl) rfl ?_
          refine q0 92 1362 2 rfl rfl (T_move rfl rfl) rfl ?_
          refine q0 93 1378 3 rfl rfl (T_sub64 rfl rfl rfl (by first | assumption | omega | (have q := hu (by omega); omega) | (have q := hbv (by omega); rw [hLoy] at q; omega) | (simp; omega))) rfl ?_
          first | refine q0 94 1394 4 rfl rfl (T_indexAddr D rfl rfl rfl rfl rfl rfl rfl rfl (by first | assumption | omega | (have q := hu (by omega); omega) | (have q := hbv (by omega); rw [hLoy] at q; omega) | (simp; omega))) rfl ?_ | refine q0 94 1394 4 rfl rfl (T_indexAddrZ D rfl rfl rfl rfl rfl rfl rfl rfl (by first | assumption | omega | (have q := hu (by omega); omega) | (have q := hbv (by omega); rw [hLoy] at q; omega) | (simp; omega)) (by first | assumption | omega | (have q := hu (by omega); omega) | (have q := hbv (by omega); rw [hLoy] at q; omega) | (simp; omega))) rfl ?_
          refine q1 95 1410 5 rfl rfl (T_ldE D (lv := .r 1410) (nn := 1) (upd := [(1410, .fz 1 _)]) rfl rfl rfl rfl rfl (by first | assumption | omega | (have q := hu (by omega); omega) | (have q := hbv (by omega); rw [hLoy] at q; omega) | (simp; omega)) rfl rfl rfl rfl) rfl ?_
          refine q0 11 1426 6 rfl rfl (T_assign rfl rfl) rfl ?_
          refine k_done rfl ?_
          refine thenK_n ?_
          refine W_seq ?_
          refine W_seqK (b' := 1554) rfl rfl ?_
          refine q0 96 1442 1 rfl rfl (T_fa D (m := 0) rfl rfl rfl rfl rfl rfl) rfl ?_
          refine q0 97 1458 2 rfl rfl (T_load_b D rfl rfl rfl rfl rfl rfl) rfl ?_
          refine q0 98 1474 3 rfl rfl (T_move rfl rfl) rfl ?_
          first | refine q0 99 1490 4 rfl rfl (T_indexAddr D rfl rfl rfl rfl rfl rfl rfl rfl (by first | assumption | omega | (have q := hu (by omega); omega) | (have q := hbv (by omega); rw [hLoy] at q; omega) | (simp; omega))) rfl ?_ | refine q0 99 1490 4 rfl rfl (T_indexAddrZ D rfl rfl rfl rfl rfl rfl rfl rfl (by first | assumption | omega | (have q := hu (by omega); omega) | (have q := hbv (by omega); rw [hLoy] at q; omega) | (simp; omega)) (by first | assumption | omega | (have q := hu (by omega); omega) | (have q := hbv (by omega); rw [hLoy] at q; omega) | (simp; omega))) rfl ?_
          refine q0 100 1506 5 rfl rfl (T_ldEA D (l := [.v _, .v _, .v _, .v _, .v _, .v _, .v _, .v _]) (nn := 0) (upd := []) rfl rfl rfl rfl rfl (by first | assumption | omega | (have q := hu (by omega); omega) | (have q := hbv (by omega); rw [hLoy] at q; omega) | (simp; omega)) rfl rfl rfl rfl rfl) rfl ?_
          refine q1 101 1522 6 rfl rfl (T_callR (lvs := [_]) (L := []) (keep := false) (uses_spec ((f.blocks.getD (y % (f.blocks.length : Int)).toNat default).ins.getD (z % ((f.blocks.getD (y % (f.blocks.length : Int)).toNat default).ins.length : Int)).toNat default)) body60 rfl rfl rfl rfl (.nil) rfl (.inl rfl) rfl) rfl ?_
          refine q0 13 1538 7 rfl rfl (T_assign rfl rfl) rfl ?_
          refine k_done rfl ?_
          refine thenK_n ?_
          refine W_seq ?_
          refine W_seq ?_
          refine W_seqK (b' := 1570) rfl rfl ?_
          refine q0 14 1554 1 rfl rfl (T_assign rfl rfl) rfl ?_
          refine k_done rfl ?_
          refine thenK_n ?_
          refine W_block ?_
          refine W_loop (ι := Nat) 4 (fun j => ⟨[(11, .r 2), (13, .r 3), (14, .v (.int .i64 (j : Int)))], [(1, .fz 5 (f.blocks.map eBlock)), (2, .fz 1 ((thrK (f.blocks.getD (y % (f.blocks.length : Int)).toNat default) ((liveL f).2.getD (y % (f.blocks.length : Int)).toNat default) (z % ((f.blocks.getD (y % (f.blocks.length : Int)).toNat default).ins.length : Int)).toNat).map eB)), (3, .row 3 1 ((usesT ((f.blocks.getD (y % (f.blocks.length : Int)).toNat default).ins.getD (z % ((f.blocks.getD (y % (f.blocks.length : Int)).toNat default).ins.length : Int)).toNat default)).map eI))]⟩) (fun j => j ≤ (usesT ((f.blocks.getD (y % (f.blocks.length : Int)).toNat default).ins.getD (z % ((f.blocks.getD (y % (f.blocks.length : Int)).toNat default).ins.length : Int)).toNat default)).length) (fun j => (usesT ((f.blocks.getD (y % (f.blocks.length : Int)).toNat default).ins.getD (z % ((f.blocks.getD (y % (f.blocks.length : Int)).toNat default).ins.length : Int)).toNat default)).length - j) (0) (by exact Nat.zero_le _) ?_ (fun j hJ => ?_)
          ·exact ⟨[(2, 1410), (3, 1522)], .same rfl rfl (.same rfl rfl (.eq rfl (.nil) (by first | rfl | (rw [reads_row (by omega) (by omega)]; first | done | rfl)))), .fzE rfl (.fzE rfl (.rowE rfl (.nil) (by first | rfl | (rw [reads_row (by omega) (by omega)]; first | done | rfl))) (by first | rfl | (rw [reads_row (by omega) (by omega)]; first | done | rfl))) (by first | rfl | (rw [reads_row (by omega) (by omega)]; first | done | rfl)), rfl⟩
          have hu := fun h : j < (usesT ((f.blocks.getD (y % (f.blocks.length : Int)).toNat default).ins.getD (z % ((f.blocks.getD (y % (f.blocks.length : Int)).toNat default).ins.length : Int)).toNat default)).length => use_in hS.lf hk hI2 (getD_mem h)
          have hr := fun h : j < (usesT ((f.blocks.getD (y % (f.blocks.length : Int)).toNat default).ins.getD (z % ((f.blocks.getD (y % (f.blocks.length : Int)).toNat default).ins.length : Int)).toNat default)).length => reads_use hS.lf hk hI2 (getD_mem h)
          have hRl : (thrK (f.blocks.getD (y % (f.blocks.length : Int)).toNat default) ((liveL f).2.getD (y % (f.blocks.length : Int)).toNat default) (z % ((f.blocks.getD (y % (f.blocks.length : Int)).toNat default).ins.length : Int)).toNat).length = f.regs.toNat := by rw [thrK_len]; exact hLoy
          refine W_seq ?_
          refine W_seq ?_
          refine W_seqK (b' := 68) rfl rfl ?_
          refine q0 102 4 1 rfl rfl (T_move rfl rfl) rfl ?_
          refine q0 103 20 2 rfl rfl (T_move rfl rfl) rfl ?_
          refine q0 104 36 3 rfl rfl (T_len D rfl rfl rfl rfl rfl rfl) rfl ?_
          refine q0 105 52 4 rfl rfl (T_cmp rfl rfl rfl rfl) rfl ?_
          refine k_done rfl ?_
          refine thenK_n ?_
          refine W_cond rfl (fun g11 => ?_) (fun g11 => ?_)
          ·have h11 := c_lss_t g11
           refine W_skip ?_
           refine thenK_n ?_
           refine W_seq ?_
           refine W_block ?_
           refine W_seq ?_
           refine W_seqK (b' := 340) rfl rfl ?_
           refine q0 108 68 1 rfl rfl (T_move rfl rfl) rfl ?_
           refine q0 109 84 2 rfl rfl (T_move rfl rfl) rfl ?_
           first | refine q0 110 100 3 rfl rfl (T_indexAddr D rfl rfl rfl rfl rfl rfl rfl rfl (by first | assumption | omega | (have q := hu (by omega); omega) | (have q := hbv (by omega); rw [hLoy] at q; omega) | (simp; omega))) rfl ?_ | refine q0 110 100 3 rfl rfl (T_indexAddrZ D rfl rfl rfl rfl rfl rfl rfl rfl (by first | assumption | omega | (have q := hu (by omega); omega) | (have q := hbv (by omega); rw [hLoy] at q; omega) | (simp; omega)) (by first | assumption | omega | (have q := hu (by omega); omega) | (have q := hbv (by omega); rw [hLoy] at q; omega) | (simp; omega))) rfl ?_
           refine q0 111 116 4 rfl rfl (T_ldE D (lv := .v _) (nn := 0) (upd := []) rfl rfl rfl rfl rfl (by first | assumption | omega | (have q := hu (by omega); omega) | (have q := hbv (by omega); rw [hLoy] at q; omega) | (simp; omega)) rfl rfl rfl rfl) rfl ?_
           refine q0 112 132 5 rfl rfl (T_move rfl rfl) rfl ?_
           refine q0 113 148 6 rfl rfl (T_len D rfl rfl rfl rfl rfl rfl) rfl ?_
           refine q0 114 164 7 rfl rfl (T_cmp rfl rfl rfl rfl) rfl ?_
           refine q0 115 180 8 rfl rfl (T_move rfl rfl) rfl ?_
           refine k_split (d := 115) rfl (fun g12 => ?_) (fun g12 => ?_)
           ·have h12 := c_geq_t g12
            refine k_no (d := 116) (j' := 9) rfl rfl rfl (g_ft rfl rfl rfl g12) ?_
            refine k_no (d := 117) (j' := 10) rfl rfl rfl (g_ft rfl rfl rfl g12) ?_
            refine k_no (d := 118) (j' := 11) rfl rfl rfl (g_ft rfl rfl rfl g12) ?_
            refine k_no (d := 119) (j' := 12) rfl rfl rfl (g_ft rfl rfl rfl g12) ?_
            refine k_no (d := 120) (j' := 13) rfl rfl rfl (g_ft rfl rfl rfl g12) ?_
            refine k_no (d := 121) (j' := 14) rfl rfl rfl (g_ft rfl rfl rfl g12) ?_
            refine k_no (d := 122) (j' := 15) rfl rfl rfl (g_ft rfl rfl rfl g12) ?_
            refine k_no (d := 123) (j' := 16) rfl rfl rfl (g_ft rfl rfl rfl g12) ?_
            refine q0 124 324 17 rfl rfl (T_pick_t rfl rfl rfl g12) rfl ?_
            refine k_done rfl ?_
            refine thenK_n ?_
            refine W_cond rfl (fun g13 => ?_) (fun g13 => ?_)
            ·skip
             refine W_seq ?_
             refine W_seqK (b' := 356) rfl rfl ?_
             refine q0 6 340 1 rfl rfl (T_assign rfl rfl) rfl ?_
             refine k_done rfl ?_
             refine thenK_n ?_
             refine W_ret ?_
             refine blockK_r ?_
             refine thenK_r ?_
             refine thenK_r ?_
             refine blockK_r ?_
             refine thenK_r ?_
             exact .mk [] (.inr rfl) (.tmp rfl (.nil)) (by exfalso; have q := hu (by omega); omega) (.nil) rfl
            ·exact absurd (g13.symm.trans rfl) (by decide)
           ·have h12 := c_geq_f g12
            refine k_op0 (d := 116) (b := 196) (j' := 9) rfl rfl rfl rfl (g_ff rfl rfl rfl g12) (T_move rfl rfl) rfl ?_
            refine k_op0 (d := 117) (b := 212) (j' := 10) rfl rfl rfl rfl (g_ff rfl rfl rfl g12) (T_move rfl rfl) rfl ?_
            refine k_op0 (d := 118) (b := 228) (j' := 11) rfl rfl rfl rfl (g_ff rfl rfl rfl g12) (T_move rfl rfl) rfl ?_
            first | refine k_op0 (d := 119) (b := 244) (j' := 12) rfl rfl rfl rfl (g_ff rfl rfl rfl g12) (T_indexAddr D rfl rfl rfl rfl rfl rfl rfl rfl (by first | assumption | omega | (have q := hu (by omega); omega) | (have q := hbv (by omega); rw [hLoy] at q; omega) | (simp; omega))) rfl ?_ | refine k_op0 (d := 119) (b := 244) (j' := 12) rfl rfl rfl rfl (g_ff rfl rfl rfl g12) (T_indexAddrZ D rfl rfl rfl rfl rfl rfl rfl rfl (by first | assumption | omega | (have q := hu (by omega); omega) | (have q := hbv (by omega); rw [hLoy] at q; omega) | (simp; omega)) (by first | assumption | omega | (have q := hu (by omega); omega) | (have q := hbv (by omega); rw [hLoy] at q; omega) | (simp; omega))) rfl ?_
            refine k_op0 (d := 120) (b := 260) (j' := 13) rfl rfl rfl rfl (g_ff rfl rfl rfl g12) (T_ldE D (lv := .v _) (nn := 0) (upd := []) rfl rfl rfl rfl rfl (by first | assumption | omega | (have q := hu (by omega); omega) | (have q := hbv (by omega); rw [hLoy] at q; omega) | (simp; omega)) rfl rfl rfl rfl) rfl ?_
            first | refine k_op0 (d := 121) (b := 276) (j' := 14) rfl rfl rfl rfl (g_ff rfl rfl rfl g12) (T_indexAddr D rfl rfl rfl rfl rfl rfl rfl rfl (by first | assumption | omega | (have q := hu (by omega); omega) | (have q := hbv (by omega); rw [hLoy] at q; omega) | (simp; omega))) rfl ?_ | refine k_op0 (d := 121) (b := 276) (j' := 14) rfl rfl rfl rfl (g_ff rfl rfl rfl g12) (T_indexAddrZ D rfl rfl rfl rfl rfl rfl rfl rfl (by first | assumption | omega | (have q := hu (by omega); omega) | (have q := hbv (by omega); rw [hLoy] at q; omega) | (simp; omega)) (by first | assumption | omega | (have q := hu (by omega); omega) | (have q := hbv (by omega); rw [hLoy] at q; omega) | (simp; omega))) rfl ?_
            refine k_op0 (d := 122) (b := 292) (j' := 15) rfl rfl rfl rfl (g_ff rfl rfl rfl g12) (T_ldE D (lv := .v _) (nn := 0) (upd := []) rfl rfl rfl rfl rfl (by first | assumption | omega | (have q := hu (by omega); omega) | (have q := hbv (by omega); rw [hLoy] at q; omega) | (simp; omega)) rfl rfl rfl rfl) rfl ?_
            refine k_op0 (d := 123) (b := 308) (j' := 16) rfl rfl rfl rfl (g_ff rfl rfl rfl g12) (T_not rfl rfl) rfl ?_
            refine q0 124 324 17 rfl rfl (T_pick_f rfl rfl rfl g12) rfl ?_
            refine k_done rfl ?_
            refine thenK_n ?_
            refine W_cond rfl (fun g14 => ?_) (fun g14 => ?_)
            ·have h14 := g14; (try simp only [cmpB, decide_eq_true_eq, decide_eq_false_iff_not, beq_iff_eq, beq_eq_false_iff_ne, bne_iff_ne, ne_eq, bne_eq_false_iff_eq, Bool.not_eq_true', Bool.not_eq_false', Int.not_lt, Int.not_le] at h14)
             refine W_seq ?_
             refine W_seqK (b' := 356) rfl rfl ?_
             refine q0 6 340 1 rfl rfl (T_assign rfl rfl) rfl ?_
             refine k_done rfl ?_
             refine thenK_n ?_
             refine W_ret ?_
             refine blockK_r ?_
             refine thenK_r ?_
             refine thenK_r ?_
             refine blockK_r ?_
             refine thenK_r ?_
             exact .mk [] (.inr rfl) (.tmp rfl (.nil)) (by exact absurd ((hr (by omega)).symm.trans (by assumption : _ = false)) (by decide)) (.nil) rfl
            ·have h14 := g14; (try simp only [cmpB, decide_eq_true_eq, decide_eq_false_iff_not, beq_iff_eq, beq_eq_false_iff_ne, bne_iff_ne, ne_eq, bne_eq_false_iff_eq, Bool.not_eq_true', Bool.not_eq_false', Int.not_lt, Int.not_le] at h14)
             refine W_skip ?_
             refine blockK_n ?_
             refine thenK_n ?_
             refine W_seqK (b' := 388) rfl rfl ?_
             refine q0 106 340 1 rfl rfl (T_move rfl rfl) rfl ?_
             refine q0 107 356 2 rfl rfl (T_add64 rfl rfl rfl (by first | assumption | omega | (have q := hu (by omega); omega) | (have q := hbv (by omega); rw [hLoy] at q; omega) | (simp; omega))) rfl ?_
             refine q0 14 372 3 rfl rfl (T_assign rfl rfl) rfl ?_
             refine k_done rfl ?_
             refine thenK_n ?_
             refine ⟨j + 1, by (try dsimp only); omega, by (try dsimp only); omega, ?_⟩
             exact ⟨[(2, 2), (3, 3)], .same rfl rfl (.same rfl rfl (.eq rfl (.nil) (by first | rfl | simp))), .fzE rfl (.fzE rfl (.rowE rfl (.nil) (by first | rfl | simp)) rfl) rfl, rfl⟩
          ·have h11 := c_lss_f g11
           refine W_exit ?_
           refine thenK_e ?_
           refine thenK_e ?_
           refine blockK_hit ?_
           refine thenK_n ?_
           refine W_seq ?_
           refine W_seqK (b' := 100) rfl rfl ?_
           refine q0 125 68 1 rfl rfl (T_callV (lvs := []) (L := []) (awake27_spec) body49 rfl rfl rfl rfl (.nil) rfl) rfl ?_
           refine q0 6 84 2 rfl rfl (T_assign rfl rfl) rfl ?_
           refine k_done rfl ?_
           refine thenK_n ?_
           refine W_ret ?_
           exact .mk [] (.inr rfl) (.tmp rfl (.nil)) (by rfl) (.nil) rfl
        ·have h9 := c_gtr_f g9
         refine W_skip ?_
         refine thenK_n ?_
         refine W_seq ?_
         refine W_seqK (b' := 1282) rfl rfl ?_
         refine q0 96 1170 1 rfl rfl (T_fa D (m := 0) rfl rfl rfl rfl rfl rfl) rfl ?_
         refine q0 97 1186 2 rfl rfl (T_load_b D rfl rfl rfl rfl rfl rfl) rfl ?_
         refine q0 98 1202 3 rfl rfl (T_move rfl rfl) rfl ?_
         first | refine q0 99 1218 4 rfl rfl (T_indexAddr D rfl rfl rfl rfl rfl rfl rfl rfl (by first | assumption | omega | (have q := hu (by omega); omega) | (have q := hbv (by omega); rw [hLoy] at q; omega) | (simp; omega))) rfl ?_ | refine q0 99 1218 4 rfl rfl (T_indexAddrZ D rfl rfl rfl rfl rfl rfl rfl rfl (by first | assumption | omega | (have q := hu (by omega); omega) | (have q := hbv (by omega); rw [hLoy] at q; omega) | (simp; omega)) (by first | assumption | omega | (have q := hu (by omega); omega) | (have q := hbv (by omega); rw [hLoy] at q; omega) | (simp; omega))) rfl ?_
         refine q0 100 1234 5 rfl rfl (T_ldEA D (l := [.v _, .v _, .v _, .v _, .v _, .v _, .v _, .v _]) (nn := 0) (upd := []) rfl rfl rfl rfl rfl (by first | assumption | omega | (have q := hu (by omega); omega) | (have q := hbv (by omega); rw [hLoy] at q; omega) | (simp; omega)) rfl rfl rfl rfl rfl) rfl ?_
         refine q1 101 1250 6 rfl rfl (T_callR (lvs := [_]) (L := []) (keep := false) (uses_spec ((f.blocks.getD (y % (f.blocks.length : Int)).toNat default).ins.getD (z % ((f.blocks.getD (y % (f.blocks.length : Int)).toNat default).ins.length : Int)).toNat default)) body60 rfl rfl rfl rfl (.nil) rfl (.inl rfl) rfl) rfl ?_
         refine q0 13 1266 7 rfl rfl (T_assign rfl rfl) rfl ?_
         refine k_done rfl ?_
         refine thenK_n ?_
         refine W_seq ?_
         refine W_seq ?_
         refine W_seqK (b' := 1298) rfl rfl ?_
         refine q0 14 1282 1 rfl rfl (T_assign rfl rfl) rfl ?_
         refine k_done rfl ?_
         refine thenK_n ?_
         refine W_block ?_
         refine W_loop (ι := Nat) 4 (fun j => ⟨[(11, .r 2), (13, .r 3), (14, .v (.int .i64 (j : Int)))], [(1, .fz 5 (f.blocks.map eBlock)), (2, .fz 1 (((liveL f).1.getD (y % (f.blocks.length : Int)).toNat default).map eB)), (3, .row 3 1 ((usesT ((f.blocks.getD (y % (f.blocks.length : Int)).toNat default).ins.getD (z % ((f.blocks.getD (y % (f.blocks.length : Int)).toNat default).ins.length : Int)).toNat default)).map eI))]⟩) (fun j => j ≤ (usesT ((f.blocks.getD (y % (f.blocks.length : Int)).toNat default).ins.getD (z % ((f.blocks.getD (y % (f.blocks.length : Int)).toNat default).ins.length : Int)).toNat default)).length) (fun j => (usesT ((f.blocks.getD (y % (f.blocks.length : Int)).toNat default).ins.getD (z % ((f.blocks.getD (y % (f.blocks.length : Int)).toNat default).ins.length : Int)).toNat default)).length - j) (0) (by exact Nat.zero_le _) ?_ (fun j hJ => ?_)
         ·exact ⟨[(2, 1106), (3, 1250)], .same rfl rfl (.same rfl rfl (.eq rfl (.nil) (by first | rfl | simp))), .fzE rfl (.fzE rfl (.rowE rfl (.nil) (by first | rfl | simp)) (by first | rfl | simp)) (by first | rfl | simp), rfl⟩
         have hu := fun h : j < (usesT ((f.blocks.getD (y % (f.blocks.length : Int)).toNat default).ins.getD (z % ((f.blocks.getD (y % (f.blocks.length : Int)).toNat default).ins.length : Int)).toNat default)).length => use_in hS.lf hk hI2 (getD_mem h)
         have hr := fun h : j < (usesT ((f.blocks.getD (y % (f.blocks.length : Int)).toNat default).ins.getD (z % ((f.blocks.getD (y % (f.blocks.length : Int)).toNat default).ins.length : Int)).toNat default)).length => reads_usez hS.lf hk (by omega : (z % ((f.blocks.getD (y % (f.blocks.length : Int)).toNat default).ins.length : Int)).toNat = 0) hI2 (getD_mem h)
         refine W_seq ?_
         refine W_seq ?_
         refine W_seqK (b' := 68) rfl rfl ?_
         refine q0 102 4 1 rfl rfl (T_move rfl rfl) rfl ?_
         refine q0 103 20 2 rfl rfl (T_move rfl rfl) rfl ?_
         refine q0 104 36 3 rfl rfl (T_len D rfl rfl rfl rfl rfl rfl) rfl ?_
         refine q0 105 52 4 rfl rfl (T_cmp rfl rfl rfl rfl) rfl ?_
         refine k_done rfl ?_
         refine thenK_n ?_
         refine W_cond rfl (fun g15 => ?_) (fun g15 => ?_)
         ·have h15 := c_lss_t g15
          refine W_skip ?_
          refine thenK_n ?_
          refine W_seq ?_
          refine W_block ?_
          refine W_seq ?_
          refine W_seqK (b' := 340) rfl rfl ?_
          refine q0 108 68 1 rfl rfl (T_move rfl rfl) rfl ?_
          refine q0 109 84 2 rfl rfl (T_move rfl rfl) rfl ?_
          first | refine q0 110 100 3 rfl rfl (T_indexAddr D rfl rfl rfl rfl rfl rfl rfl rfl (by first | assumption | omega | (have q := hu (by omega); omega) | (have q := hbv (by omega); rw [hLoy] at q; omega) | (simp; omega))) rfl ?_ | refine q0 110 100 3 rfl rfl (T_indexAddrZ D rfl rfl rfl rfl rfl rfl rfl rfl (by first | assumption | omega | (have q := hu (by omega); omega) | (have q := hbv (by omega); rw [hLoy] at q; omega) | (simp; omega)) (by first | assumption | omega | (have q := hu (by omega); omega) | (have q := hbv (by omega); rw [hLoy] at q; omega) | (simp; omega))) rfl ?_
          refine q0 111 116 4 rfl rfl (T_ldE D (lv := .v _) (nn := 0) (upd := []) rfl rfl rfl rfl rfl (by first | assumption | omega | (have q := hu (by omega); omega) | (have q := hbv (by omega); rw [hLoy] at q; omega) | (simp; omega)) rfl rfl rfl rfl) rfl ?_
          refine q0 112 132 5 rfl rfl (T_move rfl rfl) rfl ?_
          refine q0 113 148 6 rfl rfl (T_len D rfl rfl rfl rfl rfl rfl) rfl ?_
          refine q0 114 164 7 rfl rfl (T_cmp rfl rfl rfl rfl) rfl ?_
          refine q0 115 180 8 rfl rfl (T_move rfl rfl) rfl ?_
          refine k_split (d := 115) rfl (fun g16 => ?_) (fun g16 => ?_)
          ·have h16 := c_geq_t g16
           refine k_no (d := 116) (j' := 9) rfl rfl rfl (g_ft rfl rfl rfl g16) ?_
           refine k_no (d := 117) (j' := 10) rfl rfl rfl (g_ft rfl rfl rfl g16) ?_
           refine k_no (d := 118) (j' := 11) rfl rfl rfl (g_ft rfl rfl rfl g16) ?_
           refine k_no (d := 119) (j' := 12) rfl rfl rfl (g_ft rfl rfl rfl g16) ?_
           refine k_no (d := 120) (j' := 13) rfl rfl rfl (g_ft rfl rfl rfl g16) ?_
           refine k_no (d := 121) (j' := 14) rfl rfl rfl (g_ft rfl rfl rfl g16) ?_
           refine k_no (d := 122) (j' := 15) rfl rfl rfl (g_ft rfl rfl rfl g16) ?_
           refine k_no (d := 123) (j' := 16) rfl rfl rfl (g_ft rfl rfl rfl g16) ?_
           refine q0 124 324 17 rfl rfl (T_pick_t rfl rfl rfl g16) rfl ?_
           refine k_done rfl ?_
           refine thenK_n ?_
           refine W_cond rfl (fun g17 => ?_) (fun g17 => ?_)
           ·skip
            refine W_seq ?_
            refine W_seqK (b' := 356) rfl rfl ?_
            refine q0 6 340 1 rfl rfl (T_assign rfl rfl) rfl ?_
            refine k_done rfl ?_
            refine thenK_n ?_
            refine W_ret ?_
            refine blockK_r ?_
            refine thenK_r ?_
            refine thenK_r ?_
            refine blockK_r ?_
            refine thenK_r ?_
            exact .mk [] (.inr rfl) (.tmp rfl (.nil)) (by exfalso; have q := hu (by omega); omega) (.nil) rfl
           ·exact absurd (g17.symm.trans rfl) (by decide)
          ·have h16 := c_geq_f g16
           refine k_op0 (d := 116) (b := 196) (j' := 9) rfl rfl rfl rfl (g_ff rfl rfl rfl g16) (T_move rfl rfl) rfl ?_
           refine k_op0 (d := 117) (b := 212) (j' := 10) rfl rfl rfl rfl (g_ff rfl rfl rfl g16) (T_move rfl rfl) rfl ?_
           refine k_op0 (d := 118) (b := 228) (j' := 11) rfl rfl rfl rfl (g_ff rfl rfl rfl g16) (T_move rfl rfl) rfl ?_
           first | refine k_op0 (d := 119) (b := 244) (j' := 12) rfl rfl rfl rfl (g_ff rfl rfl rfl g16) (T_indexAddr D rfl rfl rfl rfl rfl rfl rfl rfl (by first | assumption | omega | (have q := hu (by omega); omega) | (have q := hbv (by omega); rw [hLoy] at q; omega) | (simp; omega))) rfl ?_ | refine k_op0 (d := 119) (b := 244) (j' := 12) rfl rfl rfl rfl (g_ff rfl rfl rfl g16) (T_indexAddrZ D rfl rfl rfl rfl rfl rfl rfl rfl (by first | assumption | omega | (have q := hu (by omega); omega) | (have q := hbv (by omega); rw [hLoy] at q; omega) | (simp; omega)) (by first | assumption | omega | (have q := hu (by omega); omega) | (have q := hbv (by omega); rw [hLoy] at q; omega) | (simp; omega))) rfl ?_
           refine k_op0 (d := 120) (b := 260) (j' := 13) rfl rfl rfl rfl (g_ff rfl rfl rfl g16) (T_ldE D (lv := .v _) (nn := 0) (upd := []) rfl rfl rfl rfl rfl (by first | assumption | omega | (have q := hu (by omega); omega) | (have q := hbv (by omega); rw [hLoy] at q; omega) | (simp; omega)) rfl rfl rfl rfl) rfl ?_
           first | refine k_op0 (d := 121) (b := 276) (j' := 14) rfl rfl rfl rfl (g_ff rfl rfl rfl g16) (T_indexAddr D rfl rfl rfl rfl rfl rfl rfl rfl (by first | assumption | omega | (have q := hu (by omega); omega) | (have q := hbv (by omega); rw [hLoy] at q; omega) | (simp; omega))) rfl ?_ | refine k_op0 (d := 121) (b := 276) (j' := 14) rfl rfl rfl rfl (g_ff rfl rfl rfl g16) (T_indexAddrZ D rfl rfl rfl rfl rfl rfl rfl rfl (by first | assumption | omega | (have q := hu (by omega); omega) | (have q := hbv (by omega); rw [hLoy] at q; omega) | (simp; omega)) (by first | assumption | omega | (have q := hu (by omega); omega) | (have q := hbv (by omega); rw [hLoy] at q; omega) | (simp; omega))) rfl ?_
           refine k_op0 (d := 122) (b := 292) (j' := 15) rfl rfl rfl rfl (g_ff rfl rfl rfl g16) (T_ldE D (lv := .v _) (nn := 0) (upd := []) rfl rfl rfl rfl rfl (by first | assumption | omega | (have q := hu (by omega); omega) | (have q := hbv (by omega); rw [hLoy] at q; omega) | (simp; omega)) rfl rfl rfl rfl) rfl ?_
           refine k_op0 (d := 123) (b := 308) (j' := 16) rfl rfl rfl rfl (g_ff rfl rfl rfl g16) (T_not rfl rfl) rfl ?_
           refine q0 124 324 17 rfl rfl (T_pick_f rfl rfl rfl g16) rfl ?_
           refine k_done rfl ?_
           refine thenK_n ?_
           refine W_cond rfl (fun g18 => ?_) (fun g18 => ?_)
           ·have h18 := g18; (try simp only [cmpB, decide_eq_true_eq, decide_eq_false_iff_not, beq_iff_eq, beq_eq_false_iff_ne, bne_iff_ne, ne_eq, bne_eq_false_iff_eq, Bool.not_eq_true', Bool.not_eq_false', Int.not_lt, Int.not_le] at h18)
            refine W_seq ?_
            refine W_seqK (b' := 356) rfl rfl ?_
            refine q0 6 340 1 rfl rfl (T_assign rfl rfl) rfl ?_
            refine k_done rfl ?_
            refine thenK_n ?_
            refine W_ret ?_
            refine blockK_r ?_
            refine thenK_r ?_
            refine thenK_r ?_
            refine blockK_r ?_
            refine thenK_r ?_
            exact .mk [] (.inr rfl) (.tmp rfl (.nil)) (by exact absurd ((hr (by omega)).symm.trans (by assumption : _ = false)) (by decide)) (.nil) rfl
           ·have h18 := g18; (try simp only [cmpB, decide_eq_true_eq, decide_eq_false_iff_not, beq_iff_eq, beq_eq_false_iff_ne, bne_iff_ne, ne_eq, bne_eq_false_iff_eq, Bool.not_eq_true', Bool.not_eq_false', Int.not_lt, Int.not_le] at h18)
            refine W_skip ?_
            refine blockK_n ?_
            refine thenK_n ?_
            refine W_seqK (b' := 388) rfl rfl ?_
            refine q0 106 340 1 rfl rfl (T_move rfl rfl) rfl ?_
            refine q0 107 356 2 rfl rfl (T_add64 rfl rfl rfl (by first | assumption | omega | (have q := hu (by omega); omega) | (have q := hbv (by omega); rw [hLoy] at q; omega) | (simp; omega))) rfl ?_
            refine q0 14 372 3 rfl rfl (T_assign rfl rfl) rfl ?_
            refine k_done rfl ?_
            refine thenK_n ?_
            refine ⟨j + 1, by (try dsimp only); omega, by (try dsimp only); omega, ?_⟩
            exact ⟨[(2, 2), (3, 3)], .same rfl rfl (.same rfl rfl (.eq rfl (.nil) (by first | rfl | simp))), .fzE rfl (.fzE rfl (.rowE rfl (.nil) (by first | rfl | simp)) rfl) rfl, rfl⟩
         ·have h15 := c_lss_f g15
          refine W_exit ?_
          refine thenK_e ?_
          refine thenK_e ?_
          refine blockK_hit ?_
          refine thenK_n ?_
          refine W_seq ?_
          refine W_seqK (b' := 100) rfl rfl ?_
          refine q0 125 68 1 rfl rfl (T_callV (lvs := []) (L := []) (awake27_spec) body49 rfl rfl rfl rfl (.nil) rfl) rfl ?_
          refine q0 6 84 2 rfl rfl (T_assign rfl rfl) rfl ?_
          refine k_done rfl ?_
          refine thenK_n ?_
          refine W_ret ?_
          exact .mk [] (.inr rfl) (.tmp rfl (.nil)) (by rfl) (.nil) rfl
     ·have h6 := c_eql_f g6
      refine k_no (d := 52) (j' := 11) rfl rfl rfl (g_tf rfl rfl rfl g6) ?_
      refine k_no (d := 53) (j' := 12) rfl rfl rfl (g_tf rfl rfl rfl g6) ?_
      refine k_no (d := 54) (j' := 13) rfl rfl rfl (g_tf rfl rfl rfl g6) ?_
      refine k_no (d := 55) (j' := 14) rfl rfl rfl (g_tf rfl rfl rfl g6) ?_
      refine k_no (d := 56) (j' := 15) rfl rfl rfl (g_tf rfl rfl rfl g6) ?_
      refine k_no (d := 57) (j' := 16) rfl rfl rfl (g_tf rfl rfl rfl g6) ?_
      refine k_no (d := 58) (j' := 17) rfl rfl rfl (g_tf rfl rfl rfl g6) ?_
      refine k_no (d := 59) (j' := 18) rfl rfl rfl (g_tf rfl rfl rfl g6) ?_
      refine k_no (d := 60) (j' := 19) rfl rfl rfl (g_tf rfl rfl rfl g6) ?_
      refine k_no (d := 61) (j' := 20) rfl rfl rfl (g_tf rfl rfl rfl g6) ?_
      refine q0 62 850 21 rfl rfl (T_pick_f rfl rfl rfl g6) rfl ?_
      refine k_done rfl ?_
      refine ⟨rfl, ?_⟩
      refine thenK_n ?_
      refine W_cond rfl (fun g19 => ?_) (fun g19 => ?_)
      ·exact absurd (g19.symm.trans rfl) (by decide)
      ·skip
       refine W_skip ?_
       refine thenK_n ?_
       refine W_seq ?_
       refine W_seq ?_
       refine W_seqK (b' := 930) rfl rfl ?_
       refine q0 63 866 1 rfl rfl (T_fa D (m := 0) rfl rfl rfl rfl rfl rfl) rfl ?_
       refine q0 64 882 2 rfl rfl (T_load_b D rfl rfl rfl rfl rfl rfl) rfl ?_
       refine q0 65 898 3 rfl rfl (T_len D rfl rfl rfl rfl rfl rfl) rfl ?_
       refine q0 66 914 4 rfl rfl (T_cmp rfl rfl rfl rfl) rfl ?_
       refine k_done rfl ?_
       refine thenK_n ?_
       refine W_cond rfl (fun g20 => ?_) (fun g20 => ?_)
       ·have h20 := c_eql_t g20
        refine W_seq ?_
        refine W_seqK (b' := 962) rfl rfl ?_
        refine q0 67 930 1 rfl rfl (T_callV (lvs := []) (L := []) (awake27_spec) body49 rfl rfl rfl rfl (.nil) rfl) rfl ?_
        refine q0 6 946 2 rfl rfl (T_assign rfl rfl) rfl ?_
        refine k_done rfl ?_
        refine thenK_n ?_
        refine W_ret ?_
        refine thenK_r ?_
        exact .mk [] (.inr rfl) (.tmp rfl (.nil)) (by rfl) (.nil) rfl
       ·have h20 := c_eql_f g20
        refine W_skip ?_
        refine thenK_n ?_
        refine W_seq ?_
        have hIp : 0 < (f.blocks.getD (y % (f.blocks.length : Int)).toNat default).ins.length := by omega
        refine W_seqK (b' := 1042) rfl rfl ?_
        refine q0 68 930 1 rfl rfl (T_move rfl rfl) rfl ?_
        refine q0 69 946 2 rfl rfl (T_conv64 rfl rfl (by rw [Try.underlying5]; rfl) (by first | assumption | omega | (have q := hu (by omega); omega) | (have q := hbv (by omega); rw [hLoy] at q; omega) | (simp; omega))) rfl ?_
        refine q0 70 962 3 rfl rfl (T_fa D (m := 0) rfl rfl rfl rfl rfl rfl) rfl ?_
        refine q0 71 978 4 rfl rfl (T_load_b D rfl rfl rfl rfl rfl rfl) rfl ?_
        refine q0 72 994 5 rfl rfl (T_len D rfl rfl rfl rfl rfl rfl) rfl ?_
        refine q0 73 1010 6 rfl rfl (T_remU rfl rfl rfl (by first | omega | simp; omega)) rfl ?_
        refine q0 10 1026 7 rfl rfl (T_assign rfl rfl) rfl ?_
        refine k_done rfl ?_
        refine thenK_n ?_
        refine W_seq ?_
        have hI : 0 ≤ z % ((f.blocks.getD (y % (f.blocks.length : Int)).toNat default).ins.length : Int) ∧ z % ((f.blocks.getD (y % (f.blocks.length : Int)).toNat default).ins.length : Int) < ((f.blocks.getD (y % (f.blocks.length : Int)).toNat default).ins.length : Int) := ⟨Int.emod_nonneg _ (by omega), Int.emod_lt_of_pos _ (by omega)⟩
        have hI2 : (z % ((f.blocks.getD (y % (f.blocks.length : Int)).toNat default).ins.length : Int)).toNat < (f.blocks.getD (y % (f.blocks.length : Int)).toNat default).ins.length := by omega
        have hul := usesT_le ((f.blocks.getD (y % (f.blocks.length : Int)).toNat default).ins.getD (z % ((f.blocks.getD (y % (f.blocks.length : Int)).toNat default).ins.length : Int)).toNat default)
        refine W_seqK (b' := 1138) rfl rfl ?_
        refine q0 74 1042 1 rfl rfl (T_fa D (m := 0) rfl rfl rfl rfl rfl rfl) rfl ?_
        refine q0 75 1058 2 rfl rfl (T_load_b D rfl rfl rfl rfl rfl rfl) rfl ?_
        refine q0 76 1074 3 rfl rfl (T_move rfl rfl) rfl ?_
        first | refine q0 77 1090 4 rfl rfl (T_indexAddr D rfl rfl rfl rfl rfl rfl rfl rfl (by first | assumption | omega | (have q := hu (by omega); omega) | (have q := hbv (by omega); rw [hLoy] at q; omega) | (simp; omega))) rfl ?_ | refine q0 77 1090 4 rfl rfl (T_indexAddrZ D rfl rfl rfl rfl rfl rfl rfl rfl (by first | assumption | omega | (have q := hu (by omega); omega) | (have q := hbv (by omega); rw [hLoy] at q; omega) | (simp; omega)) (by first | assumption | omega | (have q := hu (by omega); omega) | (have q := hbv (by omega); rw [hLoy] at q; omega) | (simp; omega))) rfl ?_
        refine q1 78 1106 5 rfl rfl (T_ldE D (lv := .r 1106) (nn := 1) (upd := [(1106, .fz 1 _)]) rfl rfl rfl rfl rfl (by first | assumption | omega | (have q := hu (by omega); omega) | (have q := hbv (by omega); rw [hLoy] at q; omega) | (simp; omega)) rfl rfl rfl rfl) rfl ?_
        refine q0 11 1122 6 rfl rfl (T_assign rfl rfl) rfl ?_
        refine k_done rfl ?_
        refine thenK_n ?_
        refine W_seq ?_
        refine W_seq ?_
        refine W_seqK (b' := 1170) rfl rfl ?_
        refine q0 79 1138 1 rfl rfl (T_move rfl rfl) rfl ?_
        refine q0 80 1154 2 rfl rfl (T_cmp rfl rfl rfl rfl) rfl ?_
        refine k_done rfl ?_
        refine thenK_n ?_
        refine W_cond rfl (fun g21 => ?_) (fun g21 => ?_)
        ·have h21 := c_gtr_t g21
         refine W_seq ?_
         refine W_seqK (b' := 1250) rfl rfl ?_
         refine q0 81 1170 1 rfl rfl (T_load_bA D (l := [_, _]) rfl rfl rfl rfl rfl rfl rfl) rfl ?_
         refine q0 82 1186 2 rfl rfl (T_load_bA D (l := [_, _]) rfl rfl rfl rfl rfl rfl rfl) rfl ?_
         refine q0 83 1202 3 rfl rfl (T_move rfl rfl) rfl ?_
         refine q1 84 1218 4 rfl rfl (T_call (lvs := [_, _, _]) (L := [(1, 1), (2, 194), (3, 195)]) (lv := .r 1218) (upd := [(1218, .fz 1 _)]) (nn := 1) false (beh_spec f (liveL f).1 (liveL f).2 (y % (f.blocks.length : Int)) hS.lf hKi (live_sz f).o) body58 rfl rfl rfl rfl (.fz rfl (.fz rfl (.fz rfl (.nil)))) rfl (.inl rfl) rfl rfl rfl) rfl ?_
         refine q0 12 1234 5 rfl rfl (T_assign rfl rfl) rfl ?_
         refine k_done rfl ?_
         refine thenK_n ?_
         refine W_seq ?_
         refine W_seq ?_
         refine W_seqK (b' := 1346) rfl rfl ?_
         refine q0 85 1250 1 rfl rfl (T_move rfl rfl) rfl ?_
         refine q0 86 1266 2 rfl rfl (T_len D rfl rfl rfl rfl rfl rfl) rfl ?_
         refine q0 87 1282 3 rfl rfl (T_fa D (m := 0) rfl rfl rfl rfl rfl rfl) rfl ?_
         refine q0 88 1298 4 rfl rfl (T_load_b D rfl rfl rfl rfl rfl rfl) rfl ?_
         refine q0 89 1314 5 rfl rfl (T_len D rfl rfl rfl rfl rfl rfl) rfl ?_
         refine q0 90 1330 6 rfl rfl (T_cmp rfl rfl rfl rfl) rfl ?_
         refine k_done rfl ?_
         refine thenK_n ?_
         refine W_cond rfl (fun g22 => ?_) (fun g22 => ?_)
         ·have h22 := c_neq_t g22
          refine W_seq ?_
          refine W_seqK (b' := 1362) rfl rfl ?_
          refine q0 6 1346 1 rfl rfl (T_assign rfl rfl) rfl ?_
          refine k_done rfl ?_
          refine thenK_n ?_
          refine W_ret ?_
          refine thenK_r ?_
          refine thenK_r ?_
          exact .mk [] (.inr rfl) (.tmp rfl (.nil)) (by exfalso; omega) (.nil) rfl
         ·have h22 := c_neq_f g22
          refine W_skip ?_
          refine thenK_n ?_
          refine W_seqK (b' := 1442) rfl rfl ?_
          refine q0 91 1346 1 rfl rfl (T_move rfl rfl) rfl ?_
          refine q0 92 1362 2 rfl rfl (T_move rfl rfl) rfl ?_
          refine q0 93 1378 3 rfl rfl (T_sub64 rfl rfl rfl (by first | assumption | omega | (have q := hu (by omega); omega) | (have q := hbv (by omega); rw [hLoy] at q; omega) | (simp; omega))) rfl ?_
          first | refine q0 94 1394 4 rfl rfl (T_indexAddr D rfl rfl rfl rfl rfl rfl rfl rfl (by first | assumption | omega | (have q := hu (by omega); omega) | (have q := hbv (by omega); rw [hLoy] at q; omega) | (simp; omega))) rfl ?_ | refine q0 94 1394 4 rfl rfl (T_indexAddrZ D rfl rfl rfl rfl rfl rfl rfl rfl (by first | assumption | omega | (have q := hu (by omega); omega) | (have q := hbv (by omega); rw [hLoy] at q; omega) | (simp; omega)) (by first | assumption | omega | (have q := hu (by omega); omega) | (have q := hbv (by omega); rw [hLoy] at q; omega) | (simp; omega))) rfl ?_
          refine q1 95 1410 5 rfl rfl (T_ldE D (lv := .r 1410) (nn := 1) (upd := [(1410, .fz 1 _)]) rfl rfl rfl rfl rfl (by first | assumption | omega | (have q := hu (by omega); omega) | (have q := hbv (by omega); rw [hLoy] at q; omega) | (simp; omega)) rfl rfl rfl rfl) rfl ?_
          refine q0 11 1426 6 rfl rfl (T_assign rfl rfl) rfl ?_
          refine k_done rfl ?_
          refine thenK_n ?_
          refine W_seq ?_
          refine W_seqK (b' := 1554) rfl rfl ?_
          refine q0 96 1442 1 rfl rfl (T_fa D (m := 0) rfl rfl rfl rfl rfl rfl) rfl ?_
          refine q0 97 1458 2 rfl rfl (T_load_b D rfl rfl rfl rfl rfl rfl) rfl ?_
          refine q0 98 1474 3 rfl rfl (T_move rfl rfl) rfl ?_
          first | refine q0 99 1490 4 rfl rfl (T_indexAddr D rfl rfl rfl rfl rfl rfl rfl rfl (by first | assumption | omega | (have q := hu (by omega); omega) | (have q := hbv (by omega); rw [hLoy] at q; omega) | (simp; omega))) rfl ?_ | refine q0 99 1490 4 rfl rfl (T_indexAddrZ D rfl rfl rfl rfl rfl rfl rfl rfl (by first | assumption | omega | (have q := hu (by omega); omega) | (have q := hbv (by omega); rw [hLoy] at q; omega) | (simp; omega)) (by first | assumption | omega | (have q := hu (by omega); omega) | (have q := hbv (by omega); rw [hLoy] at q; omega) | (simp; omega))) rfl ?_
          refine q0 100 1506 5 rfl rfl (T_ldEA D (l := [.v _, .v _, .v _, .v _, .v _, .v _, .v _, .v _]) (nn := 0) (upd := []) rfl rfl rfl rfl rfl (by first | assumption | omega | (have q := hu (by omega); omega) | (have q := hbv (by omega); rw [hLoy] at q; omega) | (simp; omega)) rfl rfl rfl rfl rfl) rfl ?_
          refine q1 101 1522 6 rfl rfl (T_callR (lvs := [_]) (L := []) (keep := false) (uses_spec ((f.blocks.getD (y % (f.blocks.length : Int)).toNat default).ins.getD (z % ((f.blocks.getD (y % (f.blocks.length : Int)).toNat default).ins.length : Int)).toNat default)) body60 rfl rfl rfl rfl (.nil) rfl (.inl rfl) rfl) rfl ?_
          refine q0 13 1538 7 rfl rfl (T_assign rfl rfl) rfl ?_
          refine k_done rfl ?_
          refine thenK_n ?_
          refine W_seq ?_
          refine W_seq ?_
          refine W_seqK (b' := 1570) rfl rfl ?_
          refine q0 14 1554 1 rfl rfl (T_assign rfl rfl) rfl ?_
          refine k_done rfl ?_
          refine thenK_n ?_
          refine W_block ?_
          refine W_loop (ι := Nat) 4 (fun j => ⟨[(11, .r 2), (13, .r 3), (14, .v (.int .i64 (j : Int)))], [(1, .fz 5 (f.blocks.map eBlock)), (2, .fz 1 ((thrK (f.blocks.getD (y % (f.blocks.length : Int)).toNat default) ((liveL f).2.getD (y % (f.blocks.length : Int)).toNat default) (z % ((f.blocks.getD (y % (f.blocks.length : Int)).toNat default).ins.length : Int)).toNat).map eB)), (3, .row 3 1 ((usesT ((f.blocks.getD (y % (f.blocks.length : Int)).toNat default).ins.getD (z % ((f.blocks.getD (y % (f.blocks.length : Int)).toNat default).ins.length : Int)).toNat default)).map eI))]⟩) (fun j => j ≤ (usesT ((f.blocks.getD (y % (f.blocks.length : Int)).toNat default).ins.getD (z % ((f.blocks.getD (y % (f.blocks.length : Int)).toNat default).ins.length : Int)).toNat default)).length) (fun j => (usesT ((f.blocks.getD (y % (f.blocks.length : Int)).toNat default).ins.getD (z % ((f.blocks.getD (y % (f.blocks.length : Int)).toNat default).ins.length : Int)).toNat default)).length - j) (0) (by exact Nat.zero_le _) ?_ (fun j hJ => ?_)
          ·exact ⟨[(2, 1410), (3, 1522)], .same rfl rfl (.same rfl rfl (.eq rfl (.nil) (by first | rfl | (rw [reads_row (by omega) (by omega)]; first | done | rfl)))), .fzE rfl (.fzE rfl (.rowE rfl (.nil) (by first | rfl | (rw [reads_row (by omega) (by omega)]; first | done | rfl))) (by first | rfl | (rw [reads_row (by omega) (by omega)]; first | done | rfl))) (by first | rfl | (rw [reads_row (by omega) (by omega)]; first | done | rfl)), rfl⟩
          have hu := fun h : j < (usesT ((f.blocks.getD (y % (f.blocks.length : Int)).toNat default).ins.getD (z % ((f.blocks.getD (y % (f.blocks.length : Int)).toNat default).ins.length : Int)).toNat default)).length => use_in hS.lf hk hI2 (getD_mem h)
          have hr := fun h : j < (usesT ((f.blocks.getD (y % (f.blocks.length : Int)).toNat default).ins.getD (z % ((f.blocks.getD (y % (f.blocks.length : Int)).toNat default).ins.length : Int)).toNat default)).length => reads_use hS.lf hk hI2 (getD_mem h)
          have hRl : (thrK (f.blocks.getD (y % (f.blocks.length : Int)).toNat default) ((liveL f).2.getD (y % (f.blocks.length : Int)).toNat default) (z % ((f.blocks.getD (y % (f.blocks.length : Int)).toNat default).ins.length : Int)).toNat).length = f.regs.toNat := by rw [thrK_len]; exact hLoy
          refine W_seq ?_
          refine W_seq ?_
          refine W_seqK (b' := 68) rfl rfl ?_
          refine q0 102 4 1 rfl rfl (T_move rfl rfl) rfl ?_
          refine q0 103 20 2 rfl rfl (T_move rfl rfl) rfl ?_
          refine q0 104 36 3 rfl rfl (T_len D rfl rfl rfl rfl rfl rfl) rfl ?_
          refine q0 105 52 4 rfl rfl (T_cmp rfl rfl rfl rfl) rfl ?_
          refine k_done rfl ?_
          refine thenK_n ?_
          refine W_cond rfl (fun g23 => ?_) (fun g23 => ?_)
          ·have h23 := c_lss_t g23
           refine W_skip ?_
           refine thenK_n ?_
           refine W_seq ?_
           refine W_block ?_
           refine W_seq ?_
           refine W_seqK (b' := 340) rfl rfl ?_
           refine q0 108 68 1 rfl rfl (T_move rfl rfl) rfl ?_
           refine q0 109 84 2 rfl rfl (T_move rfl rfl) rfl ?_
           first | refine q0 110 100 3 rfl rfl (T_indexAddr D rfl rfl rfl rfl rfl rfl rfl rfl (by first | assumption | omega | (have q := hu (by omega); omega) | (have q := hbv (by omega); rw [hLoy] at q; omega) | (simp; omega))) rfl ?_ | refine q0 110 100 3 rfl rfl (T_indexAddrZ D rfl rfl rfl rfl rfl rfl rfl rfl (by first | assumption | omega | (have q := hu (by omega); omega) | (have q := hbv (by omega); rw [hLoy] at q; omega) | (simp; omega)) (by first | assumption | omega | (have q := hu (by omega); omega) | (have q := hbv (by omega); rw [hLoy] at q; omega) | (simp; omega))) rfl ?_
           refine q0 111 116 4 rfl rfl (T_ldE D (lv := .v _) (nn := 0) (upd := []) rfl rfl rfl rfl rfl (by first | assumption | omega | (have q := hu (by omega); omega) | (have q := hbv (by omega); rw [hLoy] at q; omega) | (simp; omega)) rfl rfl rfl rfl) rfl ?_
           refine q0 112 132 5 rfl rfl (T_move rfl rfl) rfl ?_
           refine q0 113 148 6 rfl rfl (T_len D rfl rfl rfl rfl rfl rfl) rfl ?_
           refine q0 114 164 7 rfl rfl (T_cmp rfl rfl rfl rfl) rfl ?_
           refine q0 115 180 8 rfl rfl (T_move rfl rfl) rfl ?_
           refine k_split (d := 115) rfl (fun g24 => ?_) (fun g24 => ?_)
           ·have h24 := c_geq_t g24
            refine k_no (d := 116) (j' := 9) rfl rfl rfl (g_ft rfl rfl rfl g24) ?_
            refine k_no (d := 117) (j' := 10) rfl rfl rfl (g_ft rfl rfl rfl g24) ?_
            refine k_no (d := 118) (j' := 11) rfl rfl rfl (g_ft rfl rfl rfl g24) ?_
            refine k_no (d := 119) (j' := 12) rfl rfl rfl (g_ft rfl rfl rfl g24) ?_
            refine k_no (d := 120) (j' := 13) rfl rfl rfl (g_ft rfl rfl rfl g24) ?_
            refine k_no (d := 121) (j' := 14) rfl rfl rfl (g_ft rfl rfl rfl g24) ?_
            refine k_no (d := 122) (j' := 15) rfl rfl rfl (g_ft rfl rfl rfl g24) ?_
            refine k_no (d := 123) (j' := 16) rfl rfl rfl (g_ft rfl rfl rfl g24) ?_
            refine q0 124 324 17 rfl rfl (T_pick_t rfl rfl rfl g24) rfl ?_
            refine k_done rfl ?_
            refine thenK_n ?_
            refine W_cond rfl (fun g25 => ?_) (fun g25 => ?_)
            ·skip
             refine W_seq ?_
             refine W_seqK (b' := 356) rfl rfl ?_
             refine q0 6 340 1 rfl rfl (T_assign rfl rfl) rfl ?_
             refine k_done rfl ?_
             refine thenK_n ?_
             refine W_ret ?_
             refine blockK_r ?_
             refine thenK_r ?_
             refine thenK_r ?_
             refine blockK_r ?_
             refine thenK_r ?_
             exact .mk [] (.inr rfl) (.tmp rfl (.nil)) (by exfalso; have q := hu (by omega); omega) (.nil) rfl
            ·exact absurd (g25.symm.trans rfl) (by decide)
           ·have h24 := c_geq_f g24
            refine k_op0 (d := 116) (b := 196) (j' := 9) rfl rfl rfl rfl (g_ff rfl rfl rfl g24) (T_move rfl rfl) rfl ?_
            refine k_op0 (d := 117) (b := 212) (j' := 10) rfl rfl rfl rfl (g_ff rfl rfl rfl g24) (T_move rfl rfl) rfl ?_
            refine k_op0 (d := 118) (b := 228) (j' := 11) rfl rfl rfl rfl (g_ff rfl rfl rfl g24) (T_move rfl rfl) rfl ?_
            first | refine k_op0 (d := 119) (b := 244) (j' := 12) rfl rfl rfl rfl (g_ff rfl rfl rfl g24) (T_indexAddr D rfl rfl rfl rfl rfl rfl rfl rfl (by first | assumption | omega | (have q := hu (by omega); omega) | (have q := hbv (by omega); rw [hLoy] at q; omega) | (simp; omega))) rfl ?_ | refine k_op0 (d := 119) (b := 244) (j' := 12) rfl rfl rfl rfl (g_ff rfl rfl rfl g24) (T_indexAddrZ D rfl rfl rfl rfl rfl rfl rfl rfl (by first | assumption | omega | (have q := hu (by omega); omega) | (have q := hbv (by omega); rw [hLoy] at q; omega) | (simp; omega)) (by first | assumption | omega | (have q := hu (by omega); omega) | (have q := hbv (by omega); rw [hLoy] at q; omega) | (simp; omega))) rfl ?_
            refine k_op0 (d := 120) (b := 260) (j' := 13) rfl rfl rfl rfl (g_ff rfl rfl rfl g24) (T_ldE D (lv := .v _) (nn := 0) (upd := []) rfl rfl rfl rfl rfl (by first | assumption | omega | (have q := hu (by omega); omega) | (have q := hbv (by omega); rw [hLoy] at q; omega) | (simp; omega)) rfl rfl rfl rfl) rfl ?_
            first | refine k_op0 (d := 121) (b := 276) (j' := 14) rfl rfl rfl rfl (g_ff rfl rfl rfl g24) (T_indexAddr D rfl rfl rfl rfl rfl rfl rfl rfl (by first | assumption | omega | (have q := hu (by omega); omega) | (have q := hbv (by omega); rw [hLoy] at q; omega) | (simp; omega))) rfl ?_ | refine k_op0 (d := 121) (b := 276) (j' := 14) rfl rfl rfl rfl (g_ff rfl rfl rfl g24) (T_indexAddrZ D rfl rfl rfl rfl rfl rfl rfl rfl (by first | assumption | omega | (have q := hu (by omega); omega) | (have q := hbv (by omega); rw [hLoy] at q; omega) | (simp; omega)) (by first | assumption | omega | (have q := hu (by omega); omega) | (have q := hbv (by omega); rw [hLoy] at q; omega) | (simp; omega))) rfl ?_
            refine k_op0 (d := 122) (b := 292) (j' := 15) rfl rfl rfl rfl (g_ff rfl rfl rfl g24) (T_ldE D (lv := .v _) (nn := 0) (upd := []) rfl rfl rfl rfl rfl (by first | assumption | omega | (have q := hu (by omega); omega) | (have q := hbv (by omega); rw [hLoy] at q; omega) | (simp; omega)) rfl rfl rfl rfl) rfl ?_
            refine k_op0 (d := 123) (b := 308) (j' := 16) rfl rfl rfl rfl (g_ff rfl rfl rfl g24) (T_not rfl rfl) rfl ?_
            refine q0 124 324 17 rfl rfl (T_pick_f rfl rfl rfl g24) rfl ?_
            refine k_done rfl ?_
            refine thenK_n ?_
            refine W_cond rfl (fun g26 => ?_) (fun g26 => ?_)
            ·have h26 := g26; (try simp only [cmpB, decide_eq_true_eq, decide_eq_false_iff_not, beq_iff_eq, beq_eq_false_iff_ne, bne_iff_ne, ne_eq, bne_eq_false_iff_eq, Bool.not_eq_true', Bool.not_eq_false', Int.not_lt, Int.not_le] at h26)
             refine W_seq ?_
             refine W_seqK (b' := 356) rfl rfl ?_
             refine q0 6 340 1 rfl rfl (T_assign rfl rfl) rfl ?_
             refine k_done rfl ?_
             refine thenK_n ?_
             refine W_ret ?_
             refine blockK_r ?_
             refine thenK_r ?_
             refine thenK_r ?_
             refine blockK_r ?_
             refine thenK_r ?_
             exact .mk [] (.inr rfl) (.tmp rfl (.nil)) (by exact absurd ((hr (by omega)).symm.trans (by assumption : _ = false)) (by decide)) (.nil) rfl
            ·have h26 := g26; (try simp only [cmpB, decide_eq_true_eq, decide_eq_false_iff_not, beq_iff_eq, beq_eq_false_iff_ne, bne_iff_ne, ne_eq, bne_eq_false_iff_eq, Bool.not_eq_true', Bool.not_eq_false', Int.not_lt, Int.not_le] at h26)
             refine W_skip ?_
             refine blockK_n ?_
             refine thenK_n ?_
             refine W_seqK (b' := 388) rfl rfl ?_
             refine q0 106 340 1 rfl rfl (T_move rfl rfl) rfl ?_
             refine q0 107 356 2 rfl rfl (T_add64 rfl rfl rfl (by first | assumption | omega | (have q := hu (by omega); omega) | (have q := hbv (by omega); rw [hLoy] at q; omega) | (simp; omega))) rfl ?_
             refine q0 14 372 3 rfl rfl (T_assign rfl rfl) rfl ?_
             refine k_done rfl ?_
             refine thenK_n ?_
             refine ⟨j + 1, by (try dsimp only); omega, by (try dsimp only); omega, ?_⟩
             exact ⟨[(2, 2), (3, 3)], .same rfl rfl (.same rfl rfl (.eq rfl (.nil) (by first | rfl | simp))), .fzE rfl (.fzE rfl (.rowE rfl (.nil) (by first | rfl | simp)) rfl) rfl, rfl⟩
          ·have h23 := c_lss_f g23
           refine W_exit ?_
           refine thenK_e ?_
           refine thenK_e ?_
           refine blockK_hit ?_
           refine thenK_n ?_
           refine W_seq ?_
           refine W_seqK (b' := 100) rfl rfl ?_
           refine q0 125 68 1 rfl rfl (T_callV (lvs := []) (L := []) (awake27_spec) body49 rfl rfl rfl rfl (.nil) rfl) rfl ?_
           refine q0 6 84 2 rfl rfl (T_assign rfl rfl) rfl ?_
           refine k_done rfl ?_
           refine thenK_n ?_
           refine W_ret ?_
           exact .mk [] (.inr rfl) (.tmp rfl (.nil)) (by rfl) (.nil) rfl
        ·have h21 := c_gtr_f g21
         refine W_skip ?_
         refine thenK_n ?_
         refine W_seq ?_
         refine W_seqK (b' := 1282) rfl rfl ?_
         refine q0 96 1170 1 rfl rfl (T_fa D (m := 0) rfl rfl rfl rfl rfl rfl) rfl ?_
         refine q0 97 1186 2 rfl rfl (T_load_b D rfl rfl rfl rfl rfl rfl) rfl ?_
         refine q0 98 1202 3 rfl rfl (T_move rfl rfl) rfl ?_
         first | refine q0 99 1218 4 rfl rfl (T_indexAddr D rfl rfl rfl rfl rfl rfl rfl rfl (by first | assumption | omega | (have q := hu (by omega); omega) | (have q := hbv (by omega); rw [hLoy] at q; omega) | (simp; omega))) rfl ?_ | refine q0 99 1218 4 rfl rfl (T_indexAddrZ D rfl rfl rfl rfl rfl rfl rfl rfl (by first | assumption | omega | (have q := hu (by omega); omega) | (have q := hbv (by omega); rw [hLoy] at q; omega) | (simp; omega)) (by first | assumption | omega | (have q := hu (by omega); omega) | (have q := hbv (by omega); rw [hLoy] at q; omega) | (simp; omega))) rfl ?_
         refine q0 100 1234 5 rfl rfl (T_ldEA D (l := [.v _, .v _, .v _, .v _, .v _, .v _, .v _, .v _]) (nn := 0) (upd := []) rfl rfl rfl rfl rfl (by first | assumption | omega | (have q := hu (by omega); omega) | (have q := hbv (by omega); rw [hLoy] at q; omega) | (simp; omega)) rfl rfl rfl rfl rfl) rfl ?_
         refine q1 101 1250 6 rfl rfl (T_callR (lvs := [_]) (L := []) (keep := false) (uses_spec ((f.blocks.getD (y % (f.blocks.length : Int)).toNat default).ins.getD (z % ((f.blocks.getD (y % (f.blocks.length : Int)).toNat default).ins.length : Int)).toNat default)) body60 rfl rfl rfl rfl (.nil) rfl (.inl rfl) rfl) rfl ?_
         refine q0 13 1266 7 rfl rfl (T_assign rfl rfl) rfl ?_
         refine k_done rfl ?_
         refine thenK_n ?_
         refine W_seq ?_
         refine W_seq ?_
         refine W_seqK (b' := 1298) rfl rfl ?_
         refine q0 14 1282 1 rfl rfl (T_assign rfl rfl) rfl ?_
         refine k_done rfl ?_
         refine thenK_n ?_
         refine W_block ?_
         refine W_loop (ι := Nat) 4 (fun j => ⟨[(11, .r 2), (13, .r 3), (14, .v (.int .i64 (j : Int)))], [(1, .fz 5 (f.blocks.map eBlock)), (2, .fz 1 (((liveL f).1.getD (y % (f.blocks.length : Int)).toNat default).map eB)), (3, .row 3 1 ((usesT ((f.blocks.getD (y % (f.blocks.length : Int)).toNat default).ins.getD (z % ((f.blocks.getD (y % (f.blocks.length : Int)).toNat default).ins.length : Int)).toNat default)).map eI))]⟩) (fun j => j ≤ (usesT ((f.blocks.getD (y % (f.blocks.length : Int)).toNat default).ins.getD (z % ((f.blocks.getD (y % (f.blocks.length : Int)).toNat default).ins.length : Int)).toNat default)).length) (fun j => (usesT ((f.blocks.getD (y % (f.blocks.length : Int)).toNat default).ins.getD (z % ((f.blocks.getD (y % (f.blocks.length : Int)).toNat default).ins.length : Int)).toNat default)).length - j) (0) (by exact Nat.zero_le _) ?_ (fun j hJ => ?_)
         ·exact ⟨[(2, 1106), (3, 1250)], .same rfl rfl (.same rfl rfl (.eq rfl (.nil) (by first | rfl | simp))), .fzE rfl (.fzE rfl (.rowE rfl (.nil) (by first | rfl | simp)) (by first | rfl | simp)) (by first | rfl | simp), rfl⟩
         have hu := fun h : j < (usesT ((f.blocks.getD (y % (f.blocks.length : Int)).toNat default).ins.getD (z % ((f.blocks.getD (y % (f.blocks.length : Int)).toNat default).ins.length : Int)).toNat default)).length => use_in hS.lf hk hI2 (getD_mem h)
         have hr := fun h : j < (usesT ((f.blocks.getD (y % (f.blocks.length : Int)).toNat default).ins.getD (z % ((f.blocks.getD (y % (f.blocks.length : Int)).toNat default).ins.length : Int)).toNat default)).length => reads_usez hS.lf hk (by omega : (z % ((f.blocks.getD (y % (f.blocks.length : Int)).toNat default).ins.length : Int)).toNat = 0) hI2 (getD_mem h)
         refine W_seq ?_
         refine W_seq ?_
         refine W_seqK (b' := 68) rfl rfl ?_
         refine q0 102 4 1 rfl rfl (T_move rfl rfl) rfl ?_
         refine q0 103 20 2 rfl rfl (T_move rfl rfl) rfl ?_
         refine q0 104 36 3 rfl rfl (T_len D rfl rfl rfl rfl rfl rfl) rfl ?_
         refine q0 105 52 4 rfl rfl (T_cmp rfl rfl rfl rfl) rfl ?_
         refine k_done rfl ?_
         refine thenK_n ?_
         refine W_cond rfl (fun g27 => ?_) (fun g27 => ?_)
         ·have h27 := c_lss_t g27
          refine W_skip ?_
          refine thenK_n ?_
          refine W_seq ?_
          refine W_block ?_
          refine W_seq ?_
          refine W_seqK (b' := 340) rfl rfl ?_
          refine q0 108 68 1 rfl rfl (T_move rfl rfl) rfl ?_
          refine q0 109 84 2 rfl rfl (T_move rfl rfl) rfl ?_
          first | refine q0 110 100 3 rfl rfl (T_indexAddr D rfl rfl rfl rfl rfl rfl rfl rfl (by first | assumption | omega | (have q := hu (by omega); omega) | (have q := hbv (by omega); rw [hLoy] at q; omega) | (simp; omega))) rfl ?_ | refine q0 110 100 3 rfl rfl (T_indexAddrZ D rfl rfl rfl rfl rfl rfl rfl rfl (by first | assumption | omega | (have q := hu (by omega); omega) | (have q := hbv (by omega); rw [hLoy] at q; omega) | (simp; omega)) (by first | assumption | omega | (have q := hu (by omega); omega) | (have q := hbv (by omega); rw [hLoy] at q; omega) | (simp; omega))) rfl ?_
          refine q0 111 116 4 rfl rfl (T_ldE D (lv := .v _) (nn := 0) (upd := []) rfl rfl rfl rfl rfl (by first | assumption | omega | (have q := hu (by omega); omega) | (have q := hbv (by omega); rw [hLoy] at q; omega) | (simp; omega)) rfl rfl rfl rfl) rfl ?_
          refine q0 112 132 5 rfl rfl (T_move rfl rfl) rfl ?_
          refine q0 113 148 6 rfl rfl (T_len D rfl rfl rfl rfl rfl rfl) rfl ?_
          refine q0 114 164 7 rfl rfl (T_cmp rfl rfl rfl rfl) rfl ?_
          refine q0 115 180 8 rfl rfl (T_move rfl rfl) rfl ?_
          refine k_split (d := 115) rfl (fun g28 => ?_) (fun g28 => ?_)
          ·have h28 := c_geq_t g28
           refine k_no (d := 116) (j' := 9) rfl rfl rfl (g_ft rfl rfl rfl g28) ?_
           refine k_no (d := 117) (j' := 10) rfl rfl rfl (g_ft rfl rfl rfl g28) ?_
           refine k_no (d := 118) (j' := 11) rfl rfl rfl (g_ft rfl rfl rfl g28) ?_
           refine k_no (d := 119) (j' := 12) rfl rfl rfl (g_ft rfl rfl rfl g28) ?_
           refine k_no (d := 120) (j' := 13) rfl rfl rfl (g_ft rfl rfl rfl g28) ?_
           refine k_no (d := 121) (j' := 14) rfl rfl rfl (g_ft rfl rfl rfl g28) ?_
           refine k_no (d := 122) (j' := 15) rfl rfl rfl (g_ft rfl rfl rfl g28) ?_
           refine k_no (d := 123) (j' := 16) rfl rfl rfl (g_ft rfl rfl rfl g28) ?_
           refine q0 124 324 17 rfl rfl (T_pick_t rfl rfl rfl g28) rfl ?_
           refine k_done rfl ?_
           refine thenK_n ?_
           refine W_cond rfl (fun g29 => ?_) (fun g29 => ?_)
           ·skip
            refine W_seq ?_
            refine W_seqK (b' := 356) rfl rfl ?_
            refine q0 6 340 1 rfl rfl (T_assign rfl rfl) rfl ?_
            refine k_done rfl ?_
            refine thenK_n ?_
            refine W_ret ?_
            refine blockK_r ?_
            refine thenK_r ?_
            refine thenK_r ?_
            refine blockK_r ?_
            refine thenK_r ?_
            exact .mk [] (.inr rfl) (.tmp rfl (.nil)) (by exfalso; have q := hu (by omega); omega) (.nil) rfl
           ·exact absurd (g29.symm.trans rfl) (by decide)
          ·have h28 := c_geq_f g28
           refine k_op0 (d := 116) (b := 196) (j' := 9) rfl rfl rfl rfl (g_ff rfl rfl rfl g28) (T_move rfl rfl) rfl ?_
           refine k_op0 (d := 117) (b := 212) (j' := 10) rfl rfl rfl rfl (g_ff rfl rfl rfl g28) (T_move rfl rfl) rfl ?_
           refine k_op0 (d := 118) (b := 228) (j' := 11) rfl rfl rfl rfl (g_ff rfl rfl rfl g28) (T_move rfl rfl) rfl ?_
           first | refine k_op0 (d := 119) (b := 244) (j' := 12) rfl rfl rfl rfl (g_ff rfl rfl rfl g28) (T_indexAddr D rfl rfl rfl rfl rfl rfl rfl rfl (by first | assumption | omega | (have q := hu (by omega); omega) | (have q := hbv (by omega); rw [hLoy] at q; omega) | (simp; omega))) rfl ?_ | refine k_op0 (d := 119) (b := 244) (j' := 12) rfl rfl rfl rfl (g_ff rfl rfl rfl g28) (T_indexAddrZ D rfl rfl rfl rfl rfl rfl rfl rfl (by first | assumption | omega | (have q := hu (by omega); omega) | (have q := hbv (by omega); rw [hLoy] at q; omega) | (simp; omega)) (by first | assumption | omega | (have q := hu (by omega); omega) | (have q := hbv (by omega); rw [hLoy] at q; omega) | (simp; omega))) rfl ?_
           refine k_op0 (d := 120) (b := 260) (j' := 13) rfl rfl rfl rfl (g_ff rfl rfl rfl g28) (T_ldE D (lv := .v _) (nn := 0) (upd := []) rfl rfl rfl rfl rfl (by first | assumption | omega | (have q := hu (by omega); omega) | (have q := hbv (by omega); rw [hLoy] at q; omega) | (simp; omega)) rfl rfl rfl rfl) rfl ?_
           first | refine k_op0 (d := 121) (b := 276) (j' := 14) rfl rfl rfl rfl (g_ff rfl rfl rfl g28) (T_indexAddr D rfl rfl rfl rfl rfl rfl rfl rfl (by first | assumption | omega | (have q := hu (by omega); omega) | (have q := hbv (by omega); rw [hLoy] at q; omega) | (simp; omega))) rfl ?_ | refine k_op0 (d := 121) (b := 276) (j' := 14) rfl rfl rfl rfl (g_ff rfl rfl rfl g28) (T_indexAddrZ D rfl rfl rfl rfl rfl rfl rfl rfl (by first | assumption | omega | (have q := hu (by omega); omega) | (have q := hbv (by omega); rw [hLoy] at q; omega) | (simp; omega)) (by first | assumption | omega | (have q := hu (by omega); omega) | (have q := hbv (by omega); rw [hLoy] at q; omega) | (simp; omega))) rfl ?_
           refine k_op0 (d := 122) (b := 292) (j' := 15) rfl rfl rfl rfl (g_ff rfl rfl rfl g28) (T_ldE D (lv := .v _) (nn := 0) (upd := []) rfl rfl rfl rfl rfl (by first | assumption | omega | (have q := hu (by omega); omega) | (have q := hbv (by omega); rw [hLoy] at q; omega) | (simp; omega)) rfl rfl rfl rfl) rfl ?_
           refine k_op0 (d := 123) (b := 308) (j' := 16) rfl rfl rfl rfl (g_ff rfl rfl rfl g28) (T_not rfl rfl) rfl ?_
           refine q0 124 324 17 rfl rfl (T_pick_f rfl rfl rfl g28) rfl ?_
           refine k_done rfl ?_
           refine thenK_n ?_
           refine W_cond rfl (fun g30 => ?_) (fun g30 => ?_)
           ·have h30 := g30; (try simp only [cmpB, decide_eq_true_eq, decide_eq_false_iff_not, beq_iff_eq, beq_eq_false_iff_ne, bne_iff_ne, ne_eq, bne_eq_false_iff_eq, Bool.not_eq_true', Bool.not_eq_false', Int.not_lt, Int.not_le] at h30)
            refine W_seq ?_
            refine W_seqK (b' := 356) rfl rfl ?_
            refine q0 6 340 1 rfl rfl (T_assign rfl rfl) rfl ?_
            refine k_done rfl ?_
            refine thenK_n ?_
            refine W_ret ?_
            refine blockK_r ?_
            refine thenK_r ?_
            refine thenK_r ?_
            refine blockK_r ?_
            refine thenK_r ?_
            exact .mk [] (.inr rfl) (.tmp rfl (.nil)) (by exact absurd ((hr (by omega)).symm.trans (by assumption : _ = false)) (by decide)) (.nil) rfl
           ·have h30 := g30; (try simp only [cmpB, decide_eq_true_eq, decide_eq_false_iff_not, beq_iff_eq, beq_eq_false_iff_ne, bne_iff_ne, ne_eq, bne_eq_false_iff_eq, Bool.not_eq_true', Bool.not_eq_false', Int.not_lt, Int.not_le] at h30)
            refine W_skip ?_
            refine blockK_n ?_
            refine thenK_n ?_
            refine W_seqK (b' := 388) rfl rfl ?_
            refine q0 106 340 1 rfl rfl (T_move rfl rfl) rfl ?_
            refine q0 107 356 2 rfl rfl (T_add64 rfl rfl rfl (by first | assumption | omega | (have q := hu (by omega); omega) | (have q := hbv (by omega); rw [hLoy] at q; omega) | (simp; omega))) rfl ?_
            refine q0 14 372 3 rfl rfl (T_assign rfl rfl) rfl ?_
            refine k_done rfl ?_
            refine thenK_n ?_
            refine ⟨j + 1, by (try dsimp only); omega, by (try dsimp only); omega, ?_⟩
            exact ⟨[(2, 2), (3, 3)], .same rfl rfl (.same rfl rfl (.eq rfl (.nil) (by first | rfl | simp))), .fzE rfl (.fzE rfl (.rowE rfl (.nil) (by first | rfl | simp)) rfl) rfl, rfl⟩
         ·have h27 := c_lss_f g27
          refine W_exit ?_
          refine thenK_e ?_
          refine thenK_e ?_
          refine blockK_hit ?_
          refine thenK_n ?_
          refine W_seq ?_
          refine W_seqK (b' := 100) rfl rfl ?_
          refine q0 125 68 1 rfl rfl (T_callV (lvs := []) (L := []) (awake27_spec) body49 rfl rfl rfl rfl (.nil) rfl) rfl ?_
          refine q0 6 84 2 rfl rfl (T_assign rfl rfl) rfl ?_
          refine k_done rfl ?_
          refine thenK_n ?_
          refine W_ret ?_
          exact .mk [] (.inr rfl) (.tmp rfl (.nil)) (by rfl) (.nil) rfl
    ·have h5 := c_eql_f g5
     refine k_no (d := 46) (j' := 5) rfl rfl rfl (g_tf rfl rfl rfl g5) ?_
     refine k_no (d := 47) (j' := 6) rfl rfl rfl (g_tf rfl rfl rfl g5) ?_
     refine k_no (d := 48) (j' := 7) rfl rfl rfl (g_tf rfl rfl rfl g5) ?_
     refine k_no (d := 49) (j' := 8) rfl rfl rfl (g_tf rfl rfl rfl g5) ?_
     refine q0 50 658 9 rfl rfl (T_pick_f rfl rfl rfl g5) rfl ?_
     refine q0 51 674 10 rfl rfl (T_move rfl rfl) rfl ?_
     refine k_no (d := 52) (j' := 11) rfl rfl rfl (g_tf rfl rfl rfl rfl) ?_
     refine k_no (d := 53) (j' := 12) rfl rfl rfl (g_tf rfl rfl rfl rfl) ?_
     refine k_no (d := 54) (j' := 13) rfl rfl rfl (g_tf rfl rfl rfl rfl) ?_
     refine k_no (d := 55) (j' := 14) rfl rfl rfl (g_tf rfl rfl rfl rfl) ?_
     refine k_no (d := 56) (j' := 15) rfl rfl rfl (g_tf rfl rfl rfl rfl) ?_
     refine k_no (d := 57) (j' := 16) rfl rfl rfl (g_tf rfl rfl rfl rfl) ?_
     refine k_no (d := 58) (j' := 17) rfl rfl rfl (g_tf rfl rfl rfl rfl) ?_
     refine k_no (d := 59) (j' := 18) rfl rfl rfl (g_tf rfl rfl rfl rfl) ?_
     refine k_no (d := 60) (j' := 19) rfl rfl rfl (g_tf rfl rfl rfl rfl) ?_
     refine k_no (d := 61) (j' := 20) rfl rfl rfl (g_tf rfl rfl rfl rfl) ?_
     refine q0 62 850 21 rfl rfl (T_pick_f rfl rfl rfl rfl) rfl ?_
     refine k_done rfl ?_
     refine ⟨rfl, ?_⟩
     refine thenK_n ?_
     refine W_cond rfl (fun g31 => ?_) (fun g31 => ?_)
     ·exact absurd (g31.symm.trans rfl) (by decide)
     ·skip
      refine W_skip ?_
      refine thenK_n ?_
      refine W_seq ?_
      refine W_seq ?_
      refine W_seqK (b' := 930) rfl rfl ?_
      refine q0 63 866 1 rfl rfl (T_fa D (m := 0) rfl rfl rfl rfl rfl rfl) rfl ?_
      refine q0 64 882 2 rfl rfl (T_load_b D rfl rfl rfl rfl rfl rfl) rfl ?_
      refine q0 65 898 3 rfl rfl (T_len D rfl rfl rfl rfl rfl rfl) rfl ?_
      refine q0 66 914 4 rfl rfl (T_cmp rfl rfl rfl rfl) rfl ?_
      refine k_done rfl ?_
      refine thenK_n ?_
      refine W_cond rfl (fun g32 => ?_) (fun g32 => ?_)
      ·have h32 := c_eql_t g32
       refine W_seq ?_
       refine W_seqK (b' := 962) rfl rfl ?_
       refine q0 67 930 1 rfl rfl (T_callV (lvs := []) (L := []) (awake27_spec) body49 rfl rfl rfl rfl (.nil) rfl) rfl ?_
       refine q0 6 946 2 rfl rfl (T_assign rfl rfl) rfl ?_
       refine k_done rfl ?_
       refine thenK_n ?_
       refine W_ret ?_
       refine thenK_r ?_
       exact .mk [] (.inr rfl) (.tmp rfl (.nil)) (by rfl) (.nil) rfl
      ·have h32 := c_eql_f g32
       refine W_skip ?_
       refine thenK_n ?_
       refine W_seq ?_
       have hIp : 0 < (f.blocks.getD (y % (f.blocks.length : Int)).toNat default).ins.length := by omega
       refine W_seqK (b' := 1042) rfl rfl ?_
       refine q0 68 930 1 rfl rfl (T_move rfl rfl) rfl ?_
       refine q0 69 946 2 rfl rfl (T_conv64 rfl rfl (by rw [Try.underlying5]; rfl) (by first | assumption | omega | (have q := hu (by omega); omega) | (have q := hbv (by omega); rw [hLoy] at q; omega) | (simp; omega))) rfl ?_
       refine q0 70 962 3 rfl rfl (T_fa D (m := 0) rfl rfl rfl rfl rfl rfl) rfl ?_
       refine q0 71 978 4 rfl rfl (T_load_b D rfl rfl rfl rfl rfl rfl) rfl ?_
       refine q0 72 994 5 rfl rfl (T_len D rfl rfl rfl rfl rfl rfl) rfl ?_
       refine q0 73 1010 6 rfl rfl (T_remU rfl rfl rfl (by first | omega | simp; omega)) rfl ?_
       refine q0 10 1026 7 rfl rfl (T_assign rfl rfl) rfl ?_
       refine k_done rfl ?_
       refine thenK_n ?_
       refine W_seq ?_
       have hI : 0 ≤ z % ((f.blocks.getD (y % (f.blocks.length : Int)).toNat default).ins.length : Int) ∧ z % ((f.blocks.getD (y % (f.blocks.length : Int)).toNat default).ins.length : Int) < ((f.blocks.getD (y % (f.blocks.length : Int)).toNat default).ins.length : Int) := ⟨Int.emod_nonneg _ (by omega), Int.emod_lt_of_pos _ (by omega)⟩
       have hI2 : (z % ((f.blocks.getD (y % (f.blocks.length : Int)).toNat default).ins.length : Int)).toNat < (f.blocks.getD (y % (f.blocks.length : Int)).toNat default).ins.length := by omega
       have hul := usesT_le ((f.blocks.getD (y % (f.blocks.length : Int)).toNat default).ins.getD (z % ((f.blocks.getD (y % (f.blocks.length : Int)).toNat default).ins.length : Int)).toNat default)
       refine W_seqK (b' := 1138) rfl rfl ?_
       refine q0 74 1042 1 rfl rfl (T_fa D (m := 0) rfl rfl rfl rfl rfl rfl) rfl ?_
       refine q0 75 1058 2 rfl rfl (T_load_b D rfl rfl rfl rfl rfl rfl) rfl ?_
       refine q0 76 1074 3 rfl rfl (T_move rfl rfl) rfl ?_
       first | refine q0 77 1090 4 rfl rfl (T_indexAddr D rfl rfl rfl rfl rfl rfl rfl rfl (by first | assumption | omega | (have q := hu (by omega); omega) | (have q := hbv (by omega); rw [hLoy] at q; omega) | (simp; omega))) rfl ?_ | refine q0 77 1090 4 rfl rfl (T_indexAddrZ D rfl rfl rfl rfl rfl rfl rfl rfl (by first | assumption | omega | (have q := hu (by omega); omega) | (have q := hbv (by omega); rw [hLoy] at q; omega) | (simp; omega)) (by first | assumption | omega | (have q := hu (by omega); omega) | (have q := hbv (by omega); rw [hLoy] at q; omega) | (simp; omega))) rfl ?_
       refine q1 78 1106 5 rfl rfl (T_ldE D (lv := .r 1106) (nn := 1) (upd := [(1106, .fz 1 _)]) rfl rfl rfl rfl rfl (by first | assumption | omega | (have q := hu (by omega); omega) | (have q := hbv (by omega); rw [hLoy] at q; omega) | (simp; omega)) rfl rfl rfl rfl) rfl ?_
       refine q0 11 1122 6 rfl rfl (T_assign rfl rfl) rfl ?_
       refine k_done rfl ?_
       refine thenK_n ?_
       refine W_seq ?_
       refine W_seq ?_
       refine W_seqK (b' := 1170) rfl rfl ?_
       refine q0 79 1138 1 rfl rfl (T_move rfl rfl) rfl ?_
       refine q0 80 1154 2 rfl rfl (T_cmp rfl rfl rfl rfl) rfl ?_
       refine k_done rfl ?_
       refine thenK_n ?_
       refine W_cond rfl (fun g33 => ?_) (fun g33 => ?_)
       ·have h33 := c_gtr_t g33
        refine W_seq ?_
        refine W_seqK (b' := 1250) rfl rfl ?_
        refine q0 81 1170 1 rfl rfl (T_load_bA D (l := [_, _]) rfl rfl rfl rfl rfl rfl rfl) rfl ?_
        refine q0 82 1186 2 rfl rfl (T_load_bA D (l := [_, _]) rfl rfl rfl rfl rfl rfl rfl) rfl ?_
        refine q0 83 1202 3 rfl rfl (T_move rfl rfl) rfl ?_
        refine q1 84 1218 4 rfl rfl (T_call (lvs := [_, _, _]) (L := [(1, 1), (2, 194), (3, 195)]) (lv := .r 1218) (upd := [(1218, .fz 1 _)]) (nn := 1) false (beh_spec f (liveL f).1 (liveL f).2 (y % (f.blocks.length : Int)) hS.lf hKi (live_sz f).o) body58 rfl rfl rfl rfl (.fz rfl (.fz rfl (.fz rfl (.nil)))) rfl (.inl rfl) rfl rfl rfl) rfl ?_
        refine q0 12 1234 5 rfl rfl (T_assign rfl rfl) rfl ?_
        refine k_done rfl ?_
        refine thenK_n ?_
        refine W_seq ?_
        refine W_seq ?_
        refine W_seqK (b' := 1346) rfl rfl ?_
        refine q0 85 1250 1 rfl rfl (T_move rfl rfl) rfl ?_
        refine q0 86 1266 2 rfl rfl (T_len D rfl rfl rfl rfl rfl rfl) rfl ?_
        refine q0 87 1282 3 rfl rfl (T_fa D (m := 0) rfl rfl rfl rfl rfl rfl) rfl ?_
        refine q0 88 1298 4 rfl rfl (T_load_b D rfl rfl rfl rfl rfl rfl) rfl ?_
        refine q0 89 1314 5 rfl rfl (T_len D rfl rfl rfl rfl rfl rfl) rfl ?_
        refine q0 90 1330 6 rfl rfl (T_cmp rfl rfl rfl rfl) rfl ?_
        refine k_done rfl ?_
        refine thenK_n ?_
        refine W_cond rfl (fun g34 => ?_) (fun g34 => ?_)
        ·have h34 := c_neq_t g34
         refine W_seq ?_
         refine W_seqK (b' := 1362) rfl rfl ?_
         refine q0 6 1346 1 rfl rfl (T_assign rfl rfl) rfl ?_
         refine k_done rfl ?_
         refine thenK_n ?_
         refine W_ret ?_
         refine thenK_r ?_
         refine thenK_r ?_
         exact .mk [] (.inr rfl) (.tmp rfl (.nil)) (by exfalso; omega) (.nil) rfl
        ·have h34 := c_neq_f g34
         refine W_skip ?_
         refine thenK_n ?_
         refine W_seqK (b' := 1442) rfl rfl ?_
         refine q0 91 1346 1 rfl rfl (T_move rfl rfl) rfl ?_
         refine q0 92 1362 2 rfl rfl (T_move rfl rfl) rfl ?_
         refine q0 93 1378 3 rfl rfl (T_sub64 rfl rfl rfl (by first | assumption | omega | (have q := hu (by omega); omega) | (have q := hbv (by omega); rw [hLoy] at q; omega) | (simp; omega))) rfl ?_
         first | refine q0 94 1394 4 rfl rfl (T_indexAddr D rfl rfl rfl rfl rfl rfl rfl rfl (by first | assumption | omega | (have q := hu (by omega); omega) | (have q := hbv (by omega); rw [hLoy] at q; omega) | (simp; omega))) rfl ?_ | refine q0 94 1394 4 rfl rfl (T_indexAddrZ D rfl rfl rfl rfl rfl rfl rfl rfl (by first | assumption | omega | (have q := hu (by omega); omega) | (have q := hbv (by omega); rw [hLoy] at q; omega) | (simp; omega)) (by first | assumption | omega | (have q := hu (by omega); omega) | (have q := hbv (by omega); rw [hLoy] at q; omega) | (simp; omega))) rfl ?_
         refine q1 95 1410 5 rfl rfl (T_ldE D (lv := .r 1410) (nn := 1) (upd := [(1410, .fz 1 _)]) rfl rfl rfl rfl rfl (by first | assumption | omega | (have q := hu (by omega); omega) | (have q := hbv (by omega); rw [hLoy] at q; omega) | (simp; omega)) rfl rfl rfl rfl) rfl ?_
         refine q0 11 1426 6 rfl rfl (T_assign rfl rfl) rfl ?_
         refine k_done rfl ?_
         refine thenK_n ?_
         refine W_seq ?_
         refine W_seqK (b' := 1554) rfl rfl ?_
         refine q0 96 1442 1 rfl rfl (T_fa D (m := 0) rfl rfl rfl rfl rfl rfl) rfl ?_
         refine q0 97 1458 2 rfl rfl (T_load_b D rfl rfl rfl rfl rfl rfl) rfl ?_
         refine q0 98 1474 3 rfl rfl (T_move rfl rfl) rfl ?_
         first | refine q0 99 1490 4 rfl rfl (T_indexAddr D rfl rfl rfl rfl rfl rfl rfl rfl (by first | assumption | omega | (have q := hu (by omega); omega) | (have q := hbv (by omega); rw [hLoy] at q; omega) | (simp; omega))) rfl ?_ | refine q0 99 1490 4 rfl rfl (T_indexAddrZ D rfl rfl rfl rfl rfl rfl rfl rfl (by first | assumption | omega | (have q := hu (by omega); omega) | (have q := hbv (by omega); rw [hLoy] at q; omega) | (simp; omega)) (by first | assumption | omega | (have q := hu (by omega); omega) | (have q := hbv (by omega); rw [hLoy] at q; omega) | (simp; omega))) rfl ?_
         refine q0 100 1506 5 rfl rfl (T_ldEA D (l := [.v _, .v _, .v _, .v _, .v _, .v _, .v _, .v _]) (nn := 0) (upd := []) rfl rfl rfl rfl rfl (by first | assumption | omega | (have q := hu (by omega); omega) | (have q := hbv (by omega); rw [hLoy] at q; omega) | (simp; omega)) rfl rfl rfl rfl rfl) rfl ?_
         refine q1 101 1522 6 rfl rfl (T_callR (lvs := [_]) (L := []) (keep := false) (uses_spec ((f.blocks.getD (y % (f.blocks.length : Int)).toNat default).ins.getD (z % ((f.blocks.getD (y % (f.blocks.length : Int)).toNat default).ins.length : Int)).toNat default)) body60 rfl rfl rfl rfl (.nil) rfl (.inl rfl) rfl) rfl ?_
         refine q0 13 1538 7 rfl rfl (T_assign rfl rfl) rfl ?_
         refine k_done rfl ?_
         refine thenK_n ?_
         refine W_seq ?_
         refine W_seq ?_
         refine W_seqK (b' := 1570) rfl rfl ?_
         refine q0 14 1554 1 rfl rfl (T_assign rfl rfl) rfl ?_
         refine k_done rfl ?_
         refine thenK_n ?_
         refine W_block ?_
         refine W_loop (ι := Nat) 4 (fun j => ⟨[(11, .r 2), (13, .r 3), (14, .v (.int .i64 (j : Int)))], [(1, .fz 5 (f.blocks.map eBlock)), (2, .fz 1 ((thrK (f.blocks.getD (y % (f.blocks.length : Int)).toNat default) ((liveL f).2.getD (y % (f.blocks.length : Int)).toNat default) (z % ((f.blocks.getD (y % (f.blocks.length : Int)).toNat default).ins.length : Int)).toNat).map eB)), (3, .row 3 1 ((usesT ((f.blocks.getD (y % (f.blocks.length : Int)).toNat default).ins.getD (z % ((f.blocks.getD (y % (f.blocks.length : Int)).toNat default).ins.length : Int)).toNat default)).map eI))]⟩) (fun j => j ≤ (usesT ((f.blocks.getD (y % (f.blocks.length : Int)).toNat default).ins.getD (z % ((f.blocks.getD (y % (f.blocks.length : Int)).toNat default).ins.length : Int)).toNat default)).length) (fun j => (usesT ((f.blocks.getD (y % (f.blocks.length : Int)).toNat default).ins.getD (z % ((f.blocks.getD (y % (f.blocks.length : Int)).toNat default).ins.length : Int)).toNat default)).length - j) (0) (by exact Nat.zero_le _) ?_ (fun j hJ => ?_)
         ·exact ⟨[(2, 1410), (3, 1522)], .same rfl rfl (.same rfl rfl (.eq rfl (.nil) (by first | rfl | (rw [reads_row (by omega) (by omega)]; first | done | rfl)))), .fzE rfl (.fzE rfl (.rowE rfl (.nil) (by first | rfl | (rw [reads_row (by omega) (by omega)]; first | done | rfl))) (by first | rfl | (rw [reads_row (by omega) (by omega)]; first | done | rfl))) (by first | rfl | (rw [reads_row (by omega) (by omega)]; first | done | rfl)), rfl⟩
         have hu := fun h : j < (usesT ((f.blocks.getD (y % (f.blocks.length : Int)).toNat default).ins.getD (z % ((f.blocks.getD (y % (f.blocks.length : Int)).toNat default).ins.length : Int)).toNat default)).length => use_in hS.lf hk hI2 (getD_mem h)
         have hr := fun h : j < (usesT ((f.blocks.getD (y % (f.blocks.length : Int)).toNat default).ins.getD (z % ((f.blocks.getD (y % (f.blocks.length : Int)).toNat default).ins.length : Int)).toNat default)).length => reads_use hS.lf hk hI2 (getD_mem h)
         have hRl : (thrK (f.blocks.getD (y % (f.blocks.length : Int)).toNat default) ((liveL f).2.getD (y % (f.blocks.length : Int)).toNat default) (z % ((f.blocks.getD (y % (f.blocks.length : Int)).toNat default).ins.length : Int)).toNat).length = f.regs.toNat := by rw [thrK_len]; exact hLoy
         refine W_seq ?_
         refine W_seq ?_
         refine W_seqK (b' := 68) rfl rfl ?_
         refine q0 102 4 1 rfl rfl (T_move rfl rfl) rfl ?_
         refine q0 103 20 2 rfl rfl (T_move rfl rfl) rfl ?_
         refine q0 104 36 3 rfl rfl (T_len D rfl rfl rfl rfl rfl rfl) rfl ?_
         refine q0 105 52 4 rfl rfl (T_cmp rfl rfl rfl rfl) rfl ?_
         refine k_done rfl ?_
         refine thenK_n ?_
         refine W_cond rfl (fun g35 => ?_) (fun g35 => ?_)
         ·have h35 := c_lss_t g35
          refine W_skip ?_
          refine thenK_n ?_
          refine W_seq ?_
          refine W_block ?_
          refine W_seq ?_
          refine W_seqK (b' := 340) rfl rfl ?_
          refine q0 108 68 1 rfl rfl (T_move rfl rfl) rfl ?_
          refine q0 109 84 2 rfl rfl (T_move rfl rfl) rfl ?_
          first | refine q0 110 100 3 rfl rfl (T_indexAddr D rfl rfl rfl rfl rfl rfl rfl rfl (by first | assumption | omega | (have q := hu (by omega); omega) | (have q := hbv (by omega); rw [hLoy] at q; omega) | (simp; omega))) rfl ?_ | refine q0 110 100 3 rfl rfl (T_indexAddrZ D rfl rfl rfl rfl rfl rfl rfl rfl (by first | assumption | omega | (have q := hu (by omega); omega) | (have q := hbv (by omega); rw [hLoy] at q; omega) | (simp; omega)) (by first | assumption | omega | (have q := hu (by omega); omega) | (have q := hbv (by omega); rw [hLoy] at q; omega) | (simp; omega))) rfl ?_
          refine q0 111 116 4 rfl rfl (T_ldE D (lv := .v _) (nn := 0) (upd := []) rfl rfl rfl rfl rfl (by first | assumption | omega | (have q := hu (by omega); omega) | (have q := hbv (by omega); rw [hLoy] at q; omega) | (simp; omega)) rfl rfl rfl rfl) rfl ?_
          refine q0 112 132 5 rfl rfl (T_move rfl rfl) rfl ?_
          refine q0 113 148 6 rfl rfl (T_len D rfl rfl rfl rfl rfl rfl) rfl ?_
          refine q0 114 164 7 rfl rfl (T_cmp rfl rfl rfl rfl) rfl ?_
          refine q0 115 180 8 rfl rfl (T_move rfl rfl) rfl ?_
          refine k_split (d := 115) rfl (fun g36 => ?_) (fun g36 => ?_)
          ·have h36 := c_geq_t g36
           refine k_no (d := 116) (j' := 9) rfl rfl rfl (g_ft rfl rfl rfl g36) ?_
           refine k_no (d := 117) (j' := 10) rfl rfl rfl (g_ft rfl rfl rfl g36) ?_
           refine k_no (d := 118) (j' := 11) rfl rfl rfl (g_ft rfl rfl rfl g36) ?_
           refine k_no (d := 119) (j' := 12) rfl rfl rfl (g_ft rfl rfl rfl g36) ?_
           refine k_no (d := 120) (j' := 13) rfl rfl rfl (g_ft rfl rfl rfl g36) ?_
           refine k_no (d := 121) (j' := 14) rfl rfl rfl (g_ft rfl rfl rfl g36) ?_
           refine k_no (d := 122) (j' := 15) rfl rfl rfl (g_ft rfl rfl rfl g36) ?_
           refine k_no (d := 123) (j' := 16) rfl rfl rfl (g_ft rfl rfl rfl g36) ?_
           refine q0 124 324 17 rfl rfl (T_pick_t rfl rfl rfl g36) rfl ?_
           refine k_done rfl ?_
           refine thenK_n ?_
           refine W_cond rfl (fun g37 => ?_) (fun g37 => ?_)
           ·skip
            refine W_seq ?_
            refine W_seqK (b' := 356) rfl rfl ?_
            refine q0 6 340 1 rfl rfl (T_assign rfl rfl) rfl ?_
            refine k_done rfl ?_
            refine thenK_n ?_
            refine W_ret ?_
            refine blockK_r ?_
            refine thenK_r ?_
            refine thenK_r ?_
            refine blockK_r ?_
            refine thenK_r ?_
            exact .mk [] (.inr rfl) (.tmp rfl (.nil)) (by exfalso; have q := hu (by omega); omega) (.nil) rfl
           ·exact absurd (g37.symm.trans rfl) (by decide)
          ·have h36 := c_geq_f g36
           refine k_op0 (d := 116) (b := 196) (j' := 9) rfl rfl rfl rfl (g_ff rfl rfl rfl g36) (T_move rfl rfl) rfl ?_
           refine k_op0 (d := 117) (b := 212) (j' := 10) rfl rfl rfl rfl (g_ff rfl rfl rfl g36) (T_move rfl rfl) rfl ?_
           refine k_op0 (d := 118) (b := 228) (j' := 11) rfl rfl rfl rfl (g_ff rfl rfl rfl g36) (T_move rfl rfl) rfl ?_
           first | refine k_op0 (d := 119) (b := 244) (j' := 12) rfl rfl rfl rfl (g_ff rfl rfl rfl g36) (T_indexAddr D rfl rfl rfl rfl rfl rfl rfl rfl (by first | assumption | omega | (have q := hu (by omega); omega) | (have q := hbv (by omega); rw [hLoy] at q; omega) | (simp; omega))) rfl ?_ | refine k_op0 (d := 119) (b := 244) (j' := 12) rfl rfl rfl rfl (g_ff rfl rfl rfl g36) (T_indexAddrZ D rfl rfl rfl rfl rfl rfl rfl rfl (by first | assumption | omega | (have q := hu (by omega); omega) | (have q := hbv (by omega); rw [hLoy] at q; omega) | (simp; omega)) (by first | assumption | omega | (have q := hu (by omega); omega) | (have q := hbv (by omega); rw [hLoy] at q; omega) | (simp; omega))) rfl ?_
           refine k_op0 (d := 120) (b := 260) (j' := 13) rfl rfl rfl rfl (g_ff rfl rfl rfl g36) (T_ldE D (lv := .v _) (nn := 0) (upd := []) rfl rfl rfl rfl rfl (by first | assumption | omega | (have q := hu (by omega); omega) | (have q := hbv (by omega); rw [hLoy] at q; omega) | (simp; omega)) rfl rfl rfl rfl) rfl ?_
           first | refine k_op0 (d := 121) (b := 276) (j' := 14) rfl rfl rfl rfl (g_ff rfl rfl rfl g36) (T_indexAddr D rfl rfl rfl rfl rfl rfl rfl rfl (by first | assumption | omega | (have q := hu (by omega); omega) | (have q := hbv (by omega); rw [hLoy] at q; omega) | (simp; omega))) rfl ?_ | refine k_op0 (d := 121) (b := 276) (j' := 14) rfl rfl rfl rfl (g_ff rfl rfl rfl g36) (T_indexAddrZ D rfl rfl rfl rfl rfl rfl rfl rfl (by first | assumption | omega | (have q := hu (by omega); omega) | (have q := hbv (by omega); rw [hLoy] at q; omega) | (simp; omega)) (by first | assumption | omega | (have q := hu (by omega); omega) | (have q := hbv (by omega); rw [hLoy] at q; omega) | (simp; omega))) rfl ?_
           refine k_op0 (d := 122) (b := 292) (j' := 15) rfl rfl rfl rfl (g_ff rfl rfl rfl g36) (T_ldE D (lv := .v _) (nn := 0) (upd := []) rfl rfl rfl rfl rfl (by first | assumption | omega | (have q := hu (by omega); omega) | (have q := hbv (by omega); rw [hLoy] at q; omega) | (simp; omega)) rfl rfl rfl rfl) rfl ?_
           refine k_op0 (d := 123) (b := 308) (j' := 16) rfl rfl rfl rfl (g_ff rfl rfl rfl g36) (T_not rfl rfl) rfl ?_
           refine q0 124 324 17 rfl rfl (T_pick_f rfl rfl rfl g36) rfl ?_
           refine k_done rfl ?_
           refine thenK_n ?_
           refine W_cond rfl (fun g38 => ?_) (fun g38 => ?_)
           ·have h38 := g38; (try simp only [cmpB, decide_eq_true_eq, decide_eq_false_iff_not, beq_iff_eq, beq_eq_false_iff_ne, bne_iff_ne, ne_eq, bne_eq_false_iff_eq, Bool.not_eq_true', Bool.not_eq_false', Int.not_lt, Int.not_le] at h38)
            refine W_seq ?_
            refine W_seqK (b' := 356) rfl rfl ?_
            refine q0 6 340 1 rfl rfl (T_assign rfl rfl) rfl ?_
            refine k_done rfl ?_
            refine thenK_n ?_
            refine W_ret ?_
            refine blockK_r ?_
            refine thenK_r ?_
            refine thenK_r ?_
            refine blockK_r ?_
            refine thenK_r ?_
            exact .mk [] (.inr rfl) (.tmp rfl (.nil)) (by exact absurd ((hr (by omega)).symm.trans (by assumption : _ = false)) (by decide)) (.nil) rfl
           ·have h38 := g38; (try simp only [cmpB, decide_eq_true_eq, decide_eq_false_iff_not, beq_iff_eq, beq_eq_false_iff_ne, bne_iff_ne, ne_eq, bne_eq_false_iff_eq, Bool.not_eq_true', Bool.not_eq_false', Int.not_lt, Int.not_le] at h38)
            refine W_skip ?_
            refine blockK_n ?_
            refine thenK_n ?_
            refine W_seqK (b' := 388) rfl rfl ?_
            refine q0 106 340 1 rfl rfl (T_move rfl rfl) rfl ?_
            refine q0 107 356 2 rfl rfl (T_add64 rfl rfl rfl (by first | assumption | omega | (have q := hu (by omega); omega) | (have q := hbv (by omega); rw [hLoy] at q; omega) | (simp; omega))) rfl ?_
            refine q0 14 372 3 rfl rfl (T_assign rfl rfl) rfl ?_
            refine k_done rfl ?_
            refine thenK_n ?_
            refine ⟨j + 1, by (try dsimp only); omega, by (try dsimp only); omega, ?_⟩
            exact ⟨[(2, 2), (3, 3)], .same rfl rfl (.same rfl rfl (.eq rfl (.nil) (by first | rfl | simp))), .fzE rfl (.fzE rfl (.rowE rfl (.nil) (by first | rfl | simp)) rfl) rfl, rfl⟩
         ·have h35 := c_lss_f g35
          refine W_exit ?_
          refine thenK_e ?_
          refine thenK_e ?_
          refine blockK_hit ?_
          refine thenK_n ?_
          refine W_seq ?_
          refine W_seqK (b' := 100) rfl rfl ?_
          refine q0 125 68 1 rfl rfl (T_callV (lvs := []) (L := []) (awake27_spec) body49 rfl rfl rfl rfl (.nil) rfl) rfl ?_
          refine q0 6 84 2 rfl rfl (T_assign rfl rfl) rfl ?_
          refine k_done rfl ?_
          refine thenK_n ?_
          refine W_ret ?_
          exact .mk [] (.inr rfl) (.tmp rfl (.nil)) (by rfl) (.nil) rfl
       ·have h33 := c_gtr_f g33
        refine W_skip ?_
        refine thenK_n ?_
        refine W_seq ?_
        refine W_seqK (b' := 1282) rfl rfl ?_
        refine q0 96 1170 1 rfl rfl (T_fa D (m := 0) rfl rfl rfl rfl rfl rfl) rfl ?_
        refine q0 97 1186 2 rfl rfl (T_load_b D rfl rfl rfl rfl rfl rfl) rfl ?_
        refine q0 98 1202 3 rfl rfl (T_move rfl rfl) rfl ?_
        first | refine q0 99 1218 4 rfl rfl (T_indexAddr D rfl rfl rfl rfl rfl rfl rfl rfl (by first | assumption | omega | (have q := hu (by omega); omega) | (have q := hbv (by omega); rw [hLoy] at q; omega) | (simp; omega))) rfl ?_ | refine q0 99 1218 4 rfl rfl (T_indexAddrZ D rfl rfl rfl rfl rfl rfl rfl rfl (by first | assumption | omega | (have q := hu (by omega); omega) | (have q := hbv (by omega); rw [hLoy] at q; omega) | (simp; omega)) (by first | assumption | omega | (have q := hu (by omega); omega) | (have q := hbv (by omega); rw [hLoy] at q; omega) | (simp; omega))) rfl ?_
        refine q0 100 1234 5 rfl rfl (T_ldEA D (l := [.v _, .v _, .v _, .v _, .v _, .v _, .v _, .v _]) (nn := 0) (upd := []) rfl rfl rfl rfl rfl (by first | assumption | omega | (have q := hu (by omega); omega) | (have q := hbv (by omega); rw [hLoy] at q; omega) | (simp; omega)) rfl rfl rfl rfl rfl) rfl ?_
        refine q1 101 1250 6 rfl rfl (T_callR (lvs := [_]) (L := []) (keep := false) (uses_spec ((f.blocks.getD (y % (f.blocks.length : Int)).toNat default).ins.getD (z % ((f.blocks.getD (y % (f.blocks.length : Int)).toNat default).ins.length : Int)).toNat default)) body60 rfl rfl rfl rfl (.nil) rfl (.inl rfl) rfl) rfl ?_
        refine q0 13 1266 7 rfl rfl (T_assign rfl rfl) rfl ?_
        refine k_done rfl ?_
        refine thenK_n ?_
        refine W_seq ?_
        refine W_seq ?_
        refine W_seqK (b' := 1298) rfl rfl ?_
        refine q0 14 1282 1 rfl rfl (T_assign rfl rfl) rfl ?_
        refine k_done rfl ?_
        refine thenK_n ?_
        refine W_block ?_
        refine W_loop (ι := Nat) 4 (fun j => ⟨[(11, .r 2), (13, .r 3), (14, .v (.int .i64 (j : Int)))], [(1, .fz 5 (f.blocks.map eBlock)), (2, .fz 1 (((liveL f).1.getD (y % (f.blocks.length : Int)).toNat default).map eB)), (3, .row 3 1 ((usesT ((f.blocks.getD (y % (f.blocks.length : Int)).toNat default).ins.getD (z % ((f.blocks.getD (y % (f.blocks.length : Int)).toNat default).ins.length : Int)).toNat default)).map eI))]⟩) (fun j => j ≤ (usesT ((f.blocks.getD (y % (f.blocks.length : Int)).toNat default).ins.getD (z % ((f.blocks.getD (y % (f.blocks.length : Int)).toNat default).ins.length : Int)).toNat default)).length) (fun j => (usesT ((f.blocks.getD (y % (f.blocks.length : Int)).toNat default).ins.getD (z % ((f.blocks.getD (y % (f.blocks.length : Int)).toNat default).ins.length : Int)).toNat default)).length - j) (0) (by exact Nat.zero_le _) ?_ (fun j hJ => ?_)
        ·exact ⟨[(2, 1106), (3, 1250)], .same rfl rfl (.same rfl rfl (.eq rfl (.nil) (by first | rfl | simp))), .fzE rfl (.fzE rfl (.rowE rfl (.nil) (by first | rfl | simp)) (by first | rfl | simp)) (by first | rfl | simp), rfl⟩
        have hu := fun h : j < (usesT ((f.blocks.getD (y % (f.blocks.length : Int)).toNat default).ins.getD (z % ((f.blocks.getD (y % (f.blocks.length : Int)).toNat default).ins.length : Int)).toNat default)).length => use_in hS.lf hk hI2 (getD_mem h)
        have hr := fun h : j < (usesT ((f.blocks.getD (y % (f.blocks.length : Int)).toNat default).ins.getD (z % ((f.blocks.getD (y % (f.blocks.length : Int)).toNat default).ins.length : Int)).toNat default)).length => reads_usez hS.lf hk (by omega : (z % ((f.blocks.getD (y % (f.blocks.length : Int)).toNat default).ins.length : Int)).toNat = 0) hI2 (getD_mem h)
        refine W_seq ?_
        refine W_seq ?_
        refine W_seqK (b' := 68) rfl rfl ?_
        refine q0 102 4 1 rfl rfl (T_move rfl rfl) rfl ?_
        refine q0 103 20 2 rfl rfl (T_move rfl rfl) rfl ?_
        refine q0 104 36 3 rfl rfl (T_len D rfl rfl rfl rfl rfl rfl) rfl ?_
        refine q0 105 52 4 rfl rfl (T_cmp rfl rfl rfl rfl) rfl ?_
        refine k_done rfl ?_
        refine thenK_n ?_
        refine W_cond rfl (fun g39 => ?_) (fun g39 => ?_)
        ·have h39 := c_lss_t g39
         refine W_skip ?_
         refine thenK_n ?_
         refine W_seq ?_
         refine W_block ?_
         refine W_seq ?_
         refine W_seqK (b' := 340) rfl rfl ?_
         refine q0 108 68 1 rfl rfl (T_move rfl rfl) rfl ?_
         refine q0 109 84 2 rfl rfl (T_move rfl rfl) rfl ?_
         first | refine q0 110 100 3 rfl rfl (T_indexAddr D rfl rfl rfl rfl rfl rfl rfl rfl (by first | assumption | omega | (have q := hu (by omega); omega) | (have q := hbv (by omega); rw [hLoy] at q; omega) | (simp; omega))) rfl ?_ | refine q0 110 100 3 rfl rfl (T_indexAddrZ D rfl rfl rfl rfl rfl rfl rfl rfl (by first | assumption | omega | (have q := hu (by omega); omega) | (have q := hbv (by omega); rw [hLoy] at q; omega) | (simp; omega)) (by first | assumption | omega | (have q := hu (by omega); omega) | (have q := hbv (by omega); rw [hLoy] at q; omega) | (simp; omega))) rfl ?_
         refine q0 111 116 4 rfl rfl (T_ldE D (lv := .v _) (nn := 0) (upd := []) rfl rfl rfl rfl rfl (by first | assumption | omega | (have q := hu (by omega); omega) | (have q := hbv (by omega); rw [hLoy] at q; omega) | (simp; omega)) rfl rfl rfl rfl) rfl ?_
         refine q0 112 132 5 rfl rfl (T_move rfl rfl) rfl ?_
         refine q0 113 148 6 rfl rfl (T_len D rfl rfl rfl rfl rfl rfl) rfl ?_
         refine q0 114 164 7 rfl rfl (T_cmp rfl rfl rfl rfl) rfl ?_
         refine q0 115 180 8 rfl rfl (T_move rfl rfl) rfl ?_
         refine k_split (d := 115) rfl (fun g40 => ?_) (fun g40 => ?_)
         ·have h40 := c_geq_t g40
          refine k_no (d := 116) (j' := 9) rfl rfl rfl (g_ft rfl rfl rfl g40) ?_
          refine k_no (d := 117) (j' := 10) rfl rfl rfl (g_ft rfl rfl rfl g40) ?_
          refine k_no (d := 118) (j' := 11) rfl rfl rfl (g_ft rfl rfl rfl g40) ?_
          refine k_no (d := 119) (j' := 12) rfl rfl rfl (g_ft rfl rfl rfl g40) ?_
          refine k_no (d := 120) (j' := 13) rfl rfl rfl (g_ft rfl rfl rfl g40) ?_
          refine k_no (d := 121) (j' := 14) rfl rfl rfl (g_ft rfl rfl rfl g40) ?_
          refine k_no (d := 122) (j' := 15) rfl rfl rfl (g_ft rfl rfl rfl g40) ?_
          refine k_no (d := 123) (j' := 16) rfl rfl rfl (g_ft rfl rfl rfl g40) ?_
          refine q0 124 324 17 rfl rfl (T_pick_t rfl rfl rfl g40) rfl ?_
          refine k_done rfl ?_
          refine thenK_n ?_
          refine W_cond rfl (fun g41 => ?_) (fun g41 => ?_)
          ·skip
           refine W_seq ?_
           refine W_seqK (b' := 356) rfl rfl ?_
           refine q0 6 340 1 rfl rfl (T_assign rfl rfl) rfl ?_
           refine k_done rfl ?_
           refine thenK_n ?_
           refine W_ret ?_
           refine blockK_r ?_
           refine thenK_r ?_
           refine thenK_r ?_
           refine blockK_r ?_
           refine thenK_r ?_
           exact .mk [] (.inr rfl) (.tmp rfl (.nil)) (by exfalso; have q := hu (by omega); omega) (.nil) rfl
          ·exact absurd (g41.symm.trans rfl) (by decide)
         ·have h40 := c_geq_f g40
          refine k_op0 (d := 116) (b := 196) (j' := 9) rfl rfl rfl rfl (g_ff rfl rfl rfl g40) (T_move rfl rfl) rfl ?_
          refine k_op0 (d := 117) (b := 212) (j' := 10) rfl rfl rfl rfl (g_ff rfl rfl rfl g40) (T_move rfl rfl) rfl ?_
          refine k_op0 (d := 118) (b := 228) (j' := 11) rfl rfl rfl rfl (g_ff rfl rfl rfl g40) (T_move rfl rfl) rfl ?_
          first | refine k_op0 (d := 119) (b := 244) (j' := 12) rfl rfl rfl rfl (g_ff rfl rfl rfl g40) (T_indexAddr D rfl rfl rfl rfl rfl rfl rfl rfl (by first | assumption | omega | (have q := hu (by omega); omega) | (have q := hbv (by omega); rw [hLoy] at q; omega) | (simp; omega))) rfl ?_ | refine k_op0 (d := 119) (b := 244) (j' := 12) rfl rfl rfl rfl (g_ff rfl rfl rfl g40) (T_indexAddrZ D rfl rfl rfl rfl rfl rfl rfl rfl (by first | assumption | omega | (have q := hu (by omega); omega) | (have q := hbv (by omega); rw [hLoy] at q; omega) | (simp; omega)) (by first | assumption | omega | (have q := hu (by omega); omega) | (have q := hbv (by omega); rw [hLoy] at q; omega) | (simp; omega))) rfl ?_
          refine k_op0 (d := 120) (b := 260) (j' := 13) rfl rfl rfl rfl (g_ff rfl rfl rfl g40) (T_ldE D (lv := .v _) (nn := 0) (upd := []) rfl rfl rfl rfl rfl (by first | assumption | omega | (have q := hu (by omega); omega) | (have q := hbv (by omega); rw [hLoy] at q; omega) | (simp; omega)) rfl rfl rfl rfl) rfl ?_
          first | refine k_op0 (d := 121) (b := 276) (j' := 14) rfl rfl rfl rfl (g_ff rfl rfl rfl g40) (T_indexAddr D rfl rfl rfl rfl rfl rfl rfl rfl (by first | assumption | omega | (have q := hu (by omega); omega) | (have q := hbv (by omega); rw [hLoy] at q; omega) | (simp; omega))) rfl ?_ | refine k_op0 (d := 121) (b := 276) (j' := 14) rfl rfl rfl rfl (g_ff rfl rfl rfl g40) (T_indexAddrZ D rfl rfl rfl rfl rfl rfl rfl rfl (by first | assumption | omega | (have q := hu (by omega); omega) | (have q := hbv (by omega); rw [hLoy] at q; omega) | (simp; omega)) (by first | assumption | omega | (have q := hu (by omega); omega) | (have q := hbv (by omega); rw [hLoy] at q; omega) | (simp; omega))) rfl ?_
          refine k_op0 (d := 122) (b := 292) (j' := 15) rfl rfl rfl rfl (g_ff rfl rfl rfl g40) (T_ldE D (lv := .v _) (nn := 0) (upd := []) rfl rfl rfl rfl rfl (by first | assumption | omega | (have q := hu (by omega); omega) | (have q := hbv (by omega); rw [hLoy] at q; omega) | (simp; omega)) rfl rfl rfl rfl) rfl ?_
          refine k_op0 (d := 123) (b := 308) (j' := 16) rfl rfl rfl rfl (g_ff rfl rfl rfl g40) (T_not rfl rfl) rfl ?_
          refine q0 124 324 17 rfl rfl (T_pick_f rfl rfl rfl g40) rfl ?_
          refine k_done rfl ?_
          refine thenK_n ?_
          refine W_cond rfl (fun g42 => ?_) (fun g42 => ?_)
          ·have h42 := g42; (try simp only [cmpB, decide_eq_true_eq, decide_eq_false_iff_not, beq_iff_eq, beq_eq_false_iff_ne, bne_iff_ne, ne_eq, bne_eq_false_iff_eq, Bool.not_eq_true', Bool.not_eq_false', Int.not_lt, Int.not_le] at h42)
           refine W_seq ?_
           refine W_seqK (b' := 356) rfl rfl ?_
           refine q0 6 340 1 rfl rfl (T_assign rfl rfl) rfl ?_
           refine k_done rfl ?_
           refine thenK_n ?_
           refine W_ret ?_
           refine blockK_r ?_
           refine thenK_r ?_
           refine thenK_r ?_
           refine blockK_r ?_
           refine thenK_r ?_
           exact .mk [] (.inr rfl) (.tmp rfl (.nil)) (by exact absurd ((hr (by omega)).symm.trans (by assumption : _ = false)) (by decide)) (.nil) rfl
          ·have h42 := g42; (try simp only [cmpB, decide_eq_true_eq, decide_eq_false_iff_not, beq_iff_eq, beq_eq_false_iff_ne, bne_iff_ne, ne_eq, bne_eq_false_iff_eq, Bool.not_eq_true', Bool.not_eq_false', Int.not_lt, Int.not_le] at h42)
           refine W_skip ?_
           refine blockK_n ?_
           refine thenK_n ?_
           refine W_seqK (b' := 388) rfl rfl ?_
           refine q0 106 340 1 rfl rfl (T_move rfl rfl) rfl ?_
           refine q0 107 356 2 rfl rfl (T_add64 rfl rfl rfl (by first | assumption | omega | (have q := hu (by omega); omega) | (have q := hbv (by omega); rw [hLoy] at q; omega) | (simp; omega))) rfl ?_
           refine q0 14 372 3 rfl rfl (T_assign rfl rfl) rfl ?_
           refine k_done rfl ?_
           refine thenK_n ?_
           refine ⟨j + 1, by (try dsimp only); omega, by (try dsimp only); omega, ?_⟩
           exact ⟨[(2, 2), (3, 3)], .same rfl rfl (.same rfl rfl (.eq rfl (.nil) (by first | rfl | simp))), .fzE rfl (.fzE rfl (.rowE rfl (.nil) (by first | rfl | simp)) rfl) rfl, rfl⟩
        ·have h39 := c_lss_f g39
         refine W_exit ?_
         refine thenK_e ?_
         refine thenK_e ?_
         refine blockK_hit ?_
         refine thenK_n ?_
         refine W_seq ?_
         refine W_seqK (b' := 100) rfl rfl ?_
         refine q0 125 68 1 rfl rfl (T_callV (lvs := []) (L := []) (awake27_spec) body49 rfl rfl rfl rfl (.nil) rfl) rfl ?_
         refine q0 6 84 2 rfl rfl (T_assign rfl rfl) rfl ?_
         refine k_done rfl ?_
         refine thenK_n ?_
         refine W_ret ?_
         exact .mk [] (.inr rfl) (.tmp rfl (.nil)) (by rfl) (.nil) rfl
theorem body18 : (Try.prog.funcs[18]?).map (fun fn => (fn.name == "runtime.NumGoroutine" || fn.body.isNone)) = some false := by kernel_rfl
theorem law18 (f : GFn) (hf : FnOk f) : Spec Try.prog 18 [.agg [.v (.int .i64 f.regs), .r 1]] 2 [(1, .fz 5 (f.blocks.map eBlock))] (.v (.bool true)) 2 [] := by
 refine spec_of D (fn := Try.f18) rfl rfl (Nat.le_of_ble_eq_true rfl) ?_
 refine W_seq ?_
 refine W_seqK (b' := 34) rfl rfl ?_
 refine q1 1 2 1 rfl rfl (T_box rfl rfl flat_agg) rfl ?_
 refine q0 2 18 2 rfl rfl (T_assign rfl rfl) rfl ?_
 refine k_done rfl ?_
 refine thenK_n ?_
 refine W_seq ?_
 refine W_seq ?_
 refine W_seqK (b' := 82) rfl rfl ?_
 refine q0 9 34 1 rfl rfl (T_load_bA D (l := [_, _]) rfl rfl rfl rfl rfl rfl rfl) rfl ?_
 refine q0 10 50 2 rfl rfl (T_callV (lvs := [_, _, _]) (L := [(1, 1)]) (small27_spec f 12 60 hf (by omega) (by omega)) body48 rfl rfl rfl rfl (.fz rfl (.nil)) rfl) rfl ?_
 refine q0 11 66 3 rfl rfl (T_not rfl rfl) rfl ?_
 refine k_done rfl ?_
 refine thenK_n ?_
 refine W_cond rfl (fun g1 => ?_) (fun g1 => ?_)
 ·have h1 := g1; (try simp only [cmpB, decide_eq_true_eq, decide_eq_false_iff_not, beq_iff_eq, beq_eq_false_iff_ne, bne_iff_ne, ne_eq, bne_eq_false_iff_eq, Bool.not_eq_true', Bool.not_eq_false', Int.not_lt, Int.not_le] at h1)
  refine W_seq ?_
  refine W_seqK (b' := 114) rfl rfl ?_
  refine q0 12 82 1 rfl rfl (T_callV (lvs := []) (L := []) (awake27_spec) body49 rfl rfl rfl rfl (.nil) rfl) rfl ?_
  refine q0 2 98 2 rfl rfl (T_assign rfl rfl) rfl ?_
  refine k_done rfl ?_
  refine thenK_n ?_
  refine W_ret ?_
  refine thenK_r ?_
  exact .mk [] (.inr rfl) (.tmp rfl (.nil)) (by first | rfl | (exfalso; have k := live_sized (by assumption : small27 f 12 60 = true); simp_all; done) | (exfalso; have k := anyN_way hS.lf hjb r; have eq : q = ((nextL f).getD j default).length := (by omega); subst eq; simp_all; done)) (.nil) rfl
 ·have h1 := g1; (try simp only [cmpB, decide_eq_true_eq, decide_eq_false_iff_not, beq_iff_eq, beq_eq_false_iff_ne, bne_iff_ne, ne_eq, bne_eq_false_iff_eq, Bool.not_eq_true', Bool.not_eq_false', Int.not_lt, Int.not_le] at h1)
  refine W_skip ?_
  refine thenK_n ?_
  refine W_seq ?_
  refine W_seqK (b' := 146) rfl rfl ?_
  refine q0 13 82 1 rfl rfl (T_load_bA D (l := [_, _]) rfl rfl rfl rfl rfl rfl rfl) rfl ?_
  refine qn 14 98 2 rfl rfl (T_call (lvs := [_]) (L := [(1, 1)]) (lv := .agg [.r 98, .r 99]) (upd := [(98, .fz 1 _), (99, .fz 1 _)]) (nn := 2) false (live_spec f (small_lf (by assumption : small27 f 12 60 = true))) body50 rfl rfl rfl rfl (.fz rfl (.nil)) rfl (.inl rfl) rfl rfl rfl) rfl ?_
  refine qn 3 114 3 rfl rfl (T_nilbox [(48, 1), (48, 1)] (T_alloc D rfl rfl rfl) rfl (.cons (.nil rfl) <| .cons (.nil rfl) <| .nil) (upd' := [(114, .box 57 [.r 115, .r 116]), (115, .row 48 1 (List.map eBs ([] : List (List Bool)))), (116, .row 48 1 (List.map eBs ([] : List (List Bool))))]) (nn' := 3) rfl rfl) rfl ?_
  refine s1 130 4 rfl rfl (T_stB D (cs' := [_, _]) rfl rfl rfl rfl flat_agg rfl rfl (Nat.le_of_ble_eq_true rfl) rfl) rfl ?_
  refine k_done rfl ?_
  refine thenK_n ?_
  refine W_seq ?_
  refine W_seqK (b' := 194) rfl rfl ?_
  refine q0 15 146 1 rfl rfl (T_load_bA D (l := [_, _]) rfl rfl rfl rfl rfl rfl rfl) rfl ?_
  refine q1 16 162 2 rfl rfl (T_call (lvs := [_]) (L := [(1, 1)]) (lv := .r 162) (upd := [(162, .row 52 1 _)]) (nn := 1) false (rnext_spec f (by have := (s27 (by assumption : small27 f 12 60 = true)).len; omega)) body38 rfl rfl rfl rfl (.fz rfl (.nil)) rfl (.inl rfl) rfl rfl rfl) rfl ?_
  refine q0 4 178 3 rfl rfl (T_assign rfl rfl) rfl ?_
  refine k_done rfl ?_
  refine thenK_n ?_
  refine W_seq ?_
  refine W_seq ?_
  refine W_seqK (b' := 258) rfl rfl ?_
  refine q0 17 194 1 rfl rfl (T_load_bA D (l := [_, _]) rfl rfl rfl rfl rfl rfl rfl) rfl ?_
  refine q0 18 210 2 rfl rfl (T_load_bA D (l := [_, _]) rfl rfl rfl rfl rfl rfl rfl) rfl ?_
  refine q0 19 226 3 rfl rfl (T_callV (lvs := [_, _]) (L := [(1, 1), (2, 98), (3, 99)]) (rSized_spec f (liveL f).1 (liveL f).2 (by have := live_len1 (by assumption : small27 f 12 60 = true); omega) (by have := live_len2 (by assumption : small27 f 12 60 = true); omega)) body56 rfl rfl rfl rfl (.fz rfl (.fz rfl (.fz rfl (.nil)))) rfl) rfl ?_
  refine q0 20 242 4 rfl rfl (T_not rfl rfl) rfl ?_
  refine k_done rfl ?_
  refine thenK_n ?_
  refine W_cond rfl (fun g2 => ?_) (fun g2 => ?_)
  ·have h2 := g2; (try simp only [cmpB, decide_eq_true_eq, decide_eq_false_iff_not, beq_iff_eq, beq_eq_false_iff_ne, bne_iff_ne, ne_eq, bne_eq_false_iff_eq, Bool.not_eq_true', Bool.not_eq_false', Int.not_lt, Int.not_le] at h2)
   refine W_seq ?_
   refine W_seqK (b' := 274) rfl rfl ?_
   refine q0 2 258 1 rfl rfl (T_assign rfl rfl) rfl ?_
   refine k_done rfl ?_
   refine thenK_n ?_
   refine W_ret ?_
   refine thenK_r ?_
   exact .mk [] (.inr rfl) (.tmp rfl (.nil)) (by first | rfl | (exfalso; have k := live_sized (by assumption : small27 f 12 60 = true); simp_all; done) | (exfalso; have k := anyN_way hS.lf hjb r; have eq : q = ((nextL f).getD j default).length := (by omega); subst eq; simp_all; done)) (.nil) rfl
  ·have h2 := g2; (try simp only [cmpB, decide_eq_true_eq, decide_eq_false_iff_not, beq_iff_eq, beq_eq_false_iff_ne, bne_iff_ne, ne_eq, bne_eq_false_iff_eq, Bool.not_eq_true', Bool.not_eq_false', Int.not_lt, Int.not_le] at h2)
   refine W_skip ?_
   refine thenK_n ?_
   refine W_seq ?_
   refine W_seq ?_
   refine W_seqK (b' := 274) rfl rfl ?_
   refine q0 5 258 1 rfl rfl (T_assign rfl rfl) rfl ?_
   refine k_done rfl ?_
   refine thenK_n ?_
   refine W_block ?_
   have hS := s27 (by assumption : small27 f 12 60 = true)
   have hSl := hS.len
   have hSr := hS.regs
   have hLi := (live_sz f).i.len
   have hLo := (live_sz f).o.len
   have hnl := nextL_length f
   have hfl := follows_le f
   refine W_loop (ι := Nat) 7 (fun j => ⟨[(1, .p 2 0), (3, .p 3 0), (4, .r 6), (5, .v (.int .i64 (j : Int)))], [(1, .fz 5 (f.blocks.map eBlock)), (2, .box 29 [.v (.int .i64 f.regs), .r 1]), (3, .box 57 [.r 4, .r 5]), (4, .fz 1 ((liveL f).1.map eBs)), (5, .fz 1 ((liveL f).2.map eBs)), (6, .row 52 1 ((nextL f).map eIs))]⟩) (fun j => j ≤ f.blocks.length) (fun j => f.blocks.length - j) (0) (by exact Nat.zero_le _) ?_ (fun j hJ => ?_)
   ·exact ⟨[(2, 2), (3, 114), (4, 98), (5, 99), (6, 162)], .same rfl rfl (.same rfl rfl (.same rfl rfl (.eq rfl (.nil) (by first | rfl | simp)))), .fzE rfl (.box (by first | rfl | simp) (.box (by first | rfl | simp) (.fzE rfl (.fzE rfl (.rowE rfl (.nil) (by first | rfl | simp)) (by first | rfl | simp)) (by first | rfl | simp)))) (by first | rfl | simp), rfl⟩
   refine W_seq ?_
   refine W_seq ?_
   refine W_seqK (b' := 87) rfl rfl ?_
   refine q0 21 7 1 rfl rfl (T_move rfl rfl) rfl ?_
   refine q0 22 23 2 rfl rfl (T_fa D (m := 1) rfl rfl rfl rfl rfl rfl) rfl ?_
   refine q0 23 39 3 rfl rfl (T_load_b D rfl rfl rfl rfl rfl rfl) rfl ?_
   refine q0 24 55 4 rfl rfl (T_len D rfl rfl rfl rfl rfl rfl) rfl ?_
   refine q0 25 71 5 rfl rfl (T_cmp rfl rfl rfl rfl) rfl ?_
   refine k_done rfl ?_
   refine thenK_n ?_
   refine W_cond rfl (fun g3 => ?_) (fun g3 => ?_)
   ·have h3 := c_lss_t g3
    refine W_skip ?_
    refine thenK_n ?_
    refine W_seq ?_
    refine W_block ?_
    refine W_seq ?_
    refine W_seqK (b' := 103) rfl rfl ?_
    refine q0 6 87 1 rfl rfl (T_assign rfl rfl) rfl ?_
    refine k_done rfl ?_
    refine thenK_n ?_
    refine W_block ?_
    have hjb : j < f.blocks.length := by omega
    have e4 := (live_sz f).o.at hjb
    have hql := hfl ((nextL f).getD j default) (getD_mem (by omega))
    refine W_loop (ι := Nat) 7 (fun r => ⟨[(1, .p 2 0), (3, .p 3 0), (4, .r 6), (5, .v (.int .i64 (j : Int))), (6, .v (.int .i64 (r : Int)))], [(1, .fz 5 (f.blocks.map eBlock)), (2, .box 29 [.v (.int .i64 f.regs), .r 1]), (3, .box 57 [.r 4, .r 5]), (4, .fz 1 ((liveL f).1.map eBs)), (5, .fz 1 ((liveL f).2.map eBs)), (6, .row 52 1 ((nextL f).map eIs))]⟩) (fun r => r ≤ f.regs.toNat) (fun r => f.regs.toNat - r) (0) (by exact Nat.zero_le _) ?_ (fun r hR => ?_)
    ·exact ⟨[(2, 2), (3, 3), (4, 4), (5, 5), (6, 6)], .same rfl rfl (.same rfl rfl (.same rfl rfl (.eq rfl (.eq rfl (.nil) (by first | rfl | simp)) (by first | rfl | simp)))), .fzE rfl (.box (by first | rfl | simp) (.box (by first | rfl | simp) (.fzE rfl (.fzE rfl (.rowE rfl (.nil) (by first | rfl | simp)) (by first | rfl | simp)) (by first | rfl | simp)))) (by first | rfl | simp), rfl⟩
    refine W_seq ?_
    refine W_seq ?_
    refine W_seqK (b' := 71) rfl rfl ?_
    refine q0 28 7 1 rfl rfl (T_move rfl rfl) rfl ?_
    refine q0 29 23 2 rfl rfl (T_fa D (m := 0) rfl rfl rfl rfl rfl rfl) rfl ?_
    refine q0 30 39 3 rfl rfl (T_load_b D rfl rfl rfl rfl rfl rfl) rfl ?_
    refine q0 31 55 4 rfl rfl (T_cmp rfl rfl rfl rfl) rfl ?_
    refine k_done rfl ?_
    refine thenK_n ?_
    refine W_cond rfl (fun g4 => ?_) (fun g4 => ?_)
    ·have h4 := c_lss_t g4
     refine W_skip ?_
     refine thenK_n ?_
     refine W_seq ?_
     refine W_block ?_
     refine W_seq ?_
     refine W_seqK (b' := 87) rfl rfl ?_
     refine q0 7 71 1 rfl rfl (T_assign rfl rfl) rfl ?_
     refine k_done rfl ?_
     refine thenK_n ?_
     refine W_seq ?_
     refine W_seq ?_
     refine W_seqK (b' := 103) rfl rfl ?_
     refine q0 8 87 1 rfl rfl (T_assign rfl rfl) rfl ?_
     refine k_done rfl ?_
     refine thenK_n ?_
     refine W_block ?_
     refine W_loop (ι := Nat) 7 (fun q => ⟨[(1, .p 2 0), (3, .p 3 0), (4, .r 6), (5, .v (.int .i64 (j : Int))), (6, .v (.int .i64 (r : Int))), (7, .v (.bool (anyN f j r q))), (8, .v (.int .i64 (q : Int)))], [(1, .fz 5 (f.blocks.map eBlock)), (2, .box 29 [.v (.int .i64 f.regs), .r 1]), (3, .box 57 [.r 4, .r 5]), (4, .fz 1 ((liveL f).1.map eBs)), (5, .fz 1 ((liveL f).2.map eBs)), (6, .row 52 1 ((nextL f).map eIs))]⟩) (fun q => q ≤ ((nextL f).getD j default).length) (fun q => ((nextL f).getD j default).length - q) (0) (by exact Nat.zero_le _) ?_ (fun q hQ => ?_)
     ·exact ⟨[(2, 2), (3, 3), (4, 4), (5, 5), (6, 6)], .same rfl rfl (.same rfl rfl (.same rfl rfl (.eq rfl (.eq rfl (.eq rfl (.eq rfl (.nil) (by first | rfl | simp)) (by first | rfl | simp)) (by first | rfl | simp)) (by first | rfl | simp)))), .fzE rfl (.box (by first | rfl | simp) (.box (by first | rfl | simp) (.fzE rfl (.fzE rfl (.rowE rfl (.nil) (by first | rfl | simp)) (by first | rfl | simp)) (by first | rfl | simp)))) (by first | rfl | simp), rfl⟩
     have hm := fun h => hS.lf.follow (j := j) (m := q) hjb h
     have hmi := fun h => (live_sz f).i.at (k := (((nextL f).getD j default).getD q default).toNat) (by have := hm h; omega)
     refine W_seq ?_
     refine W_seq ?_
     refine W_seqK (b' := 119) rfl rfl ?_
     refine q0 34 7 1 rfl rfl (T_move rfl rfl) rfl ?_
     refine q0 35 23 2 rfl rfl (T_move rfl rfl) rfl ?_
     refine q0 36 39 3 rfl rfl (T_move rfl rfl) rfl ?_
     first | refine q0 37 55 4 rfl rfl (T_indexAddr D rfl rfl rfl rfl rfl rfl rfl rfl (by first | assumption | omega | (have q1 := hm (by omega); omega) | (have q1 := hm (by omega); have q2 := hmi (by omega); omega) | (simp; omega))) rfl ?_ | refine q0 37 55 4 rfl rfl (T_indexAddrZ D rfl rfl rfl rfl rfl rfl rfl rfl (by first | assumption | omega | (have q1 := hm (by omega); omega) | (have q1 := hm (by omega); have q2 := hmi (by omega); omega) | (simp; omega)) (by first | assumption | omega | (have q1 := hm (by omega); omega) | (have q1 := hm (by omega); have q2 := hmi (by omega); omega) | (simp; omega))) rfl ?_
     refine q1 38 71 5 rfl rfl (T_ldE D (lv := .r 71) (nn := 1) (upd := [(71, .fz 1 _)]) rfl rfl rfl rfl rfl (by first | assumption | omega | (have q1 := hm (by omega); omega) | (have q1 := hm (by omega); have q2 := hmi (by omega); omega) | (simp; omega)) rfl rfl rfl rfl) rfl ?_
     refine q0 39 87 6 rfl rfl (T_len D rfl rfl rfl rfl rfl rfl) rfl ?_
     refine q0 40 103 7 rfl rfl (T_cmp rfl rfl rfl rfl) rfl ?_
     refine k_done rfl ?_
     refine thenK_n ?_
     refine W_cond rfl (fun g5 => ?_) (fun g5 => ?_)
     ·have h5 := c_lss_t g5
      refine W_skip ?_
      refine thenK_n ?_
      refine W_seq ?_
      refine W_block ?_
      refine W_anyK (b' := 407) rfl rfl rfl ?_
      refine q0 43 119 1 rfl rfl (T_move rfl rfl) rfl ?_
      refine q0 44 135 2 rfl rfl (T_move rfl rfl) rfl ?_
      refine k_split (d := 44) rfl (fun g6 => ?_) (fun g6 => ?_)
      ·have h6 := g6; (try simp only [cmpB, decide_eq_true_eq, decide_eq_false_iff_not, beq_iff_eq, beq_eq_false_iff_ne, bne_iff_ne, ne_eq, bne_eq_false_iff_eq, Bool.not_eq_true', Bool.not_eq_false', Int.not_lt, Int.not_le] at h6)
       refine k_no (d := 45) (j' := 3) rfl rfl rfl (g_ft rfl rfl rfl g6) ?_
       refine k_no (d := 46) (j' := 4) rfl rfl rfl (g_ft rfl rfl rfl g6) ?_
       refine k_no (d := 47) (j' := 5) rfl rfl rfl (g_ft rfl rfl rfl g6) ?_
       refine k_no (d := 48) (j' := 6) rfl rfl rfl (g_ft rfl rfl rfl g6) ?_
       refine k_no (d := 49) (j' := 7) rfl rfl rfl (g_ft rfl rfl rfl g6) ?_
       refine k_no (d := 50) (j' := 8) rfl rfl rfl (g_ft rfl rfl rfl g6) ?_
       refine k_no (d := 51) (j' := 9) rfl rfl rfl (g_ft rfl rfl rfl g6) ?_
       refine k_no (d := 52) (j' := 10) rfl rfl rfl (g_ft rfl rfl rfl g6) ?_
       refine k_no (d := 53) (j' := 11) rfl rfl rfl (g_ft rfl rfl rfl g6) ?_
       refine k_no (d := 54) (j' := 12) rfl rfl rfl (g_ft rfl rfl rfl g6) ?_
       refine k_no (d := 55) (j' := 13) rfl rfl rfl (g_ft rfl rfl rfl g6) ?_
       refine k_no (d := 56) (j' := 14) rfl rfl rfl (g_ft rfl rfl rfl g6) ?_
       refine k_no (d := 57) (j' := 15) rfl rfl rfl (g_ft rfl rfl rfl g6) ?_
       refine k_no (d := 58) (j' := 16) rfl rfl rfl (g_ft rfl rfl rfl g6) ?_
       refine q0 59 375 17 rfl rfl (T_pick_t rfl rfl rfl g6) rfl ?_
       refine q0 7 391 18 rfl rfl (T_assign rfl rfl) rfl ?_
       refine k_done rfl ?_
       refine ⟨rfl, ?_⟩
       refine blockK_n ?_
       refine thenK_n ?_
       refine W_seqK (b' := 455) rfl rfl ?_
       refine q0 41 407 1 rfl rfl (T_move rfl rfl) rfl ?_
       refine q0 42 423 2 rfl rfl (T_add64 rfl rfl rfl (by first | assumption | omega | (have q1 := hm (by omega); omega) | (have q1 := hm (by omega); have q2 := hmi (by omega); omega) | (simp; omega))) rfl ?_
       refine q0 8 439 3 rfl rfl (T_assign rfl rfl) rfl ?_
       refine k_done rfl ?_
       refine thenK_n ?_
       refine ⟨q + 1, by (try dsimp only); omega, by (try dsimp only); omega, ?_⟩
       exact ⟨[(2, 2), (3, 3), (4, 4), (5, 5), (6, 6)], .same rfl rfl (.same rfl rfl (.same rfl rfl (.eq rfl (.eq rfl (.eq rfl (.eq rfl (.nil) (by first | rfl | (exact congrArg Value.bool (anyN_t (by assumption))) | (exact congrArg Value.bool (anyN_f (by assumption))) | (rw [anyN_f (by assumption)]; first | done | rfl) | (rw [← anyN_t (by assumption)]; first | done | rfl))) (by first | rfl | (exact congrArg Value.bool (anyN_t (by assumption))) | (exact congrArg Value.bool (anyN_f (by assumption))) | (rw [anyN_f (by assumption)]; first | done | rfl) | (rw [← anyN_t (by assumption)]; first | done | rfl))) rfl) rfl))), .fzE rfl (.box (by first | rfl | (exact congrArg Value.bool (anyN_t (by assumption))) | (exact congrArg Value.bool (anyN_f (by assumption))) | (rw [anyN_f (by assumption)]; first | done | rfl) | (rw [← anyN_t (by assumption)]; first | done | rfl)) (.box (by first | rfl | (exact congrArg Value.bool (anyN_t (by assumption))) | (exact congrArg Value.bool (anyN_f (by assumption))) | (rw [anyN_f (by assumption)]; first | done | rfl) | (rw [← anyN_t (by assumption)]; first | done | rfl)) (.fzE rfl (.fzE rfl (.rowE rfl (.nil) (by first | rfl | (exact congrArg Value.bool (anyN_t (by assumption))) | (exact congrArg Value.bool (anyN_f (by assumption))) | (rw [anyN_f (by assumption)]; first | done | rfl) | (rw [← anyN_t (by assumption)]; first | done | rfl))) rfl) rfl))) rfl, rfl⟩
      ·have h6 := g6; (try simp only [cmpB, decide_eq_true_eq, decide_eq_false_iff_not, beq_iff_eq, beq_eq_false_iff_ne, bne_iff_ne, ne_eq, bne_eq_false_iff_eq, Bool.not_eq_true', Bool.not_eq_false', Int.not_lt, Int.not_le] at h6)
       refine k_op0 (d := 45) (b := 151) (j' := 3) rfl rfl rfl rfl (g_ff rfl rfl rfl g6) (T_fa D (m := 0) rfl rfl rfl rfl rfl rfl) rfl ?_
       refine k_op0 (d := 46) (b := 167) (j' := 4) rfl rfl rfl rfl (g_ff rfl rfl rfl g6) (T_load_b D rfl rfl rfl rfl rfl rfl) rfl ?_
       refine k_op0 (d := 47) (b := 183) (j' := 5) rfl rfl rfl rfl (g_ff rfl rfl rfl g6) (T_move rfl rfl) rfl ?_
       refine k_op0 (d := 48) (b := 199) (j' := 6) rfl rfl rfl rfl (g_ff rfl rfl rfl g6) (T_move rfl rfl) rfl ?_
       first | refine k_op0 (d := 49) (b := 215) (j' := 7) rfl rfl rfl rfl (g_ff rfl rfl rfl g6) (T_indexAddr D rfl rfl rfl rfl rfl rfl rfl rfl (by first | assumption | omega | (have q1 := hm (by omega); omega) | (have q1 := hm (by omega); have q2 := hmi (by omega); omega) | (simp; omega))) rfl ?_ | refine k_op0 (d := 49) (b := 215) (j' := 7) rfl rfl rfl rfl (g_ff rfl rfl rfl g6) (T_indexAddrZ D rfl rfl rfl rfl rfl rfl rfl rfl (by first | assumption | omega | (have q1 := hm (by omega); omega) | (have q1 := hm (by omega); have q2 := hmi (by omega); omega) | (simp; omega)) (by first | assumption | omega | (have q1 := hm (by omega); omega) | (have q1 := hm (by omega); have q2 := hmi (by omega); omega) | (simp; omega))) rfl ?_
       refine k_op1 (d := 50) (b := 231) (j' := 8) rfl rfl rfl rfl (g_ff rfl rfl rfl g6) (T_ldE D (lv := .r 231) (nn := 1) (upd := [(231, .fz 1 _)]) rfl rfl rfl rfl rfl (by first | assumption | omega | (have q1 := hm (by omega); omega) | (have q1 := hm (by omega); have q2 := hmi (by omega); omega) | (simp; omega)) rfl rfl rfl rfl) rfl ?_
       refine k_op0 (d := 51) (b := 247) (j' := 9) rfl rfl rfl rfl (g_ff rfl rfl rfl g6) (T_move rfl rfl) rfl ?_
       first | refine k_op0 (d := 52) (b := 263) (j' := 10) rfl rfl rfl rfl (g_ff rfl rfl rfl g6) (T_indexAddr D rfl rfl rfl rfl rfl rfl rfl rfl (by first | assumption | omega | (have q1 := hm (by omega); omega) | (have q1 := hm (by omega); have q2 := hmi (by omega); omega) | (simp; omega))) rfl ?_ | refine k_op0 (d := 52) (b := 263) (j' := 10) rfl rfl rfl rfl (g_ff rfl rfl rfl g6) (T_indexAddrZ D rfl rfl rfl rfl rfl rfl rfl rfl (by first | assumption | omega | (have q1 := hm (by omega); omega) | (have q1 := hm (by omega); have q2 := hmi (by omega); omega) | (simp; omega)) (by first | assumption | omega | (have q1 := hm (by omega); omega) | (have q1 := hm (by omega); have q2 := hmi (by omega); omega) | (simp; omega))) rfl ?_
       refine k_op0 (d := 53) (b := 279) (j' := 11) rfl rfl rfl rfl (g_ff rfl rfl rfl g6) (T_ldE D (lv := .v _) (nn := 0) (upd := []) rfl rfl rfl rfl rfl (by first | assumption | omega | (have q1 := hm (by omega); omega) | (have q1 := hm (by omega); have q2 := hmi (by omega); omega) | (simp; omega)) rfl rfl rfl rfl) rfl ?_
       first | refine k_op0 (d := 54) (b := 295) (j' := 12) rfl rfl rfl rfl (g_ff rfl rfl rfl g6) (T_indexAddr D rfl rfl rfl rfl rfl rfl rfl rfl (by first | assumption | omega | (have q1 := hm (by omega); omega) | (have q1 := hm (by omega); have q2 := hmi (by omega); omega) | (simp; omega))) rfl ?_ | refine k_op0 (d := 54) (b := 295) (j' := 12) rfl rfl rfl rfl (g_ff rfl rfl rfl g6) (T_indexAddrZ D rfl rfl rfl rfl rfl rfl rfl rfl (by first | assumption | omega | (have q1 := hm (by omega); omega) | (have q1 := hm (by omega); have q2 := hmi (by omega); omega) | (simp; omega)) (by first | assumption | omega | (have q1 := hm (by omega); omega) | (have q1 := hm (by omega); have q2 := hmi (by omega); omega) | (simp; omega))) rfl ?_
       refine k_op1 (d := 55) (b := 311) (j' := 13) rfl rfl rfl rfl (g_ff rfl rfl rfl g6) (T_ldE D (lv := .r 311) (nn := 1) (upd := [(311, .fz 1 _)]) rfl rfl rfl rfl rfl (by first | assumption | omega | (have q1 := hm (by omega); omega) | (have q1 := hm (by omega); have q2 := hmi (by omega); omega) | (simp; omega)) rfl rfl rfl rfl) rfl ?_
       refine k_op0 (d := 56) (b := 327) (j' := 14) rfl rfl rfl rfl (g_ff rfl rfl rfl g6) (T_move rfl rfl) rfl ?_
       first | refine k_op0 (d := 57) (b := 343) (j' := 15) rfl rfl rfl rfl (g_ff rfl rfl rfl g6) (T_indexAddr D rfl rfl rfl rfl rfl rfl rfl rfl (by first | assumption | omega | (have q1 := hm (by omega); omega) | (have q1 := hm (by omega); have q2 := hmi (by omega); omega) | (simp; omega))) rfl ?_ | refine k_op0 (d := 57) (b := 343) (j' := 15) rfl rfl rfl rfl (g_ff rfl rfl rfl g6) (T_indexAddrZ D rfl rfl rfl rfl rfl rfl rfl rfl (by first | assumption | omega | (have q1 := hm (by omega); omega) | (have q1 := hm (by omega); have q2 := hmi (by omega); omega) | (simp; omega)) (by first | assumption | omega | (have q1 := hm (by omega); omega) | (have q1 := hm (by omega); have q2 := hmi (by omega); omega) | (simp; omega))) rfl ?_
       refine k_op0 (d := 58) (b := 359) (j' := 16) rfl rfl rfl rfl (g_ff rfl rfl rfl g6) (T_ldE D (lv := .v _) (nn := 0) (upd := []) rfl rfl rfl rfl rfl (by first | assumption | omega | (have q1 := hm (by omega); omega) | (have q1 := hm (by omega); have q2 := hmi (by omega); omega) | (simp; omega)) rfl rfl rfl rfl) rfl ?_
       refine q0 59 375 17 rfl rfl (T_pick_f rfl rfl rfl g6) rfl ?_
       refine q0 7 391 18 rfl rfl (T_assign rfl rfl) rfl ?_
       refine k_done rfl ?_
       refine ⟨rfl, ?_⟩
       refine blockK_n ?_
       refine thenK_n ?_
       refine W_seqK (b' := 455) rfl rfl ?_
       refine q0 41 407 1 rfl rfl (T_move rfl rfl) rfl ?_
       refine q0 42 423 2 rfl rfl (T_add64 rfl rfl rfl (by first | assumption | omega | (have q1 := hm (by omega); omega) | (have q1 := hm (by omega); have q2 := hmi (by omega); omega) | (simp; omega))) rfl ?_
       refine q0 8 439 3 rfl rfl (T_assign rfl rfl) rfl ?_
       refine k_done rfl ?_
       refine thenK_n ?_
       refine ⟨q + 1, by (try dsimp only); omega, by (try dsimp only); omega, ?_⟩
       exact ⟨[(2, 2), (3, 3), (4, 4), (5, 5), (6, 6)], .same rfl rfl (.same rfl rfl (.same rfl rfl (.eq rfl (.eq rfl (.eq rfl (.eq rfl (.nil) (by first | rfl | (exact congrArg Value.bool (anyN_t (by assumption))) | (exact congrArg Value.bool (anyN_f (by assumption))) | (rw [anyN_f (by assumption)]; first | done | rfl) | (rw [← anyN_t (by assumption)]; first | done | rfl))) (by first | rfl | (exact congrArg Value.bool (anyN_t (by assumption))) | (exact congrArg Value.bool (anyN_f (by assumption))) | (rw [anyN_f (by assumption)]; first | done | rfl) | (rw [← anyN_t (by assumption)]; first | done | rfl))) rfl) rfl))), .fzE rfl (.box (by first | rfl | (exact congrArg Value.bool (anyN_t (by assumption))) | (exact congrArg Value.bool (anyN_f (by assumption))) | (rw [anyN_f (by assumption)]; first | done | rfl) | (rw [← anyN_t (by assumption)]; first | done | rfl)) (.box (by first | rfl | (exact congrArg Value.bool (anyN_t (by assumption))) | (exact congrArg Value.bool (anyN_f (by assumption))) | (rw [anyN_f (by assumption)]; first | done | rfl) | (rw [← anyN_t (by assumption)]; first | done | rfl)) (.fzE rfl (.fzE rfl (.rowE rfl (.nil) (by first | rfl | (exact congrArg Value.bool (anyN_t (by assumption))) | (exact congrArg Value.bool (anyN_f (by assumption))) | (rw [anyN_f (by assumption)]; first | done | rfl) | (rw [← anyN_t (by assumption)]; first | done | rfl))) rfl) rfl))) rfl, rfl⟩
     ·have h5 := c_lss_f g5
      refine W_exit ?_
      refine thenK_e ?_
      refine thenK_e ?_
      refine blockK_hit ?_
      refine thenK_n ?_
      refine W_seq ?_
      refine W_seqK (b' := 279) rfl rfl ?_
      refine q0 60 119 1 rfl rfl (T_fa D (m := 1) rfl rfl rfl rfl rfl rfl) rfl ?_
      refine q0 61 135 2 rfl rfl (T_load_b D rfl rfl rfl rfl rfl rfl) rfl ?_
      refine q0 62 151 3 rfl rfl (T_move rfl rfl) rfl ?_
      first | refine q0 63 167 4 rfl rfl (T_indexAddr D rfl rfl rfl rfl rfl rfl rfl rfl (by first | assumption | omega | (have q1 := hm (by omega); omega) | (have q1 := hm (by omega); have q2 := hmi (by omega); omega) | (simp; omega))) rfl ?_ | refine q0 63 167 4 rfl rfl (T_indexAddrZ D rfl rfl rfl rfl rfl rfl rfl rfl (by first | assumption | omega | (have q1 := hm (by omega); omega) | (have q1 := hm (by omega); have q2 := hmi (by omega); omega) | (simp; omega)) (by first | assumption | omega | (have q1 := hm (by omega); omega) | (have q1 := hm (by omega); have q2 := hmi (by omega); omega) | (simp; omega))) rfl ?_
      refine q1 64 183 5 rfl rfl (T_ldE D (lv := .r 183) (nn := 1) (upd := [(183, .fz 1 _)]) rfl rfl rfl rfl rfl (by first | assumption | omega | (have q1 := hm (by omega); omega) | (have q1 := hm (by omega); have q2 := hmi (by omega); omega) | (simp; omega)) rfl rfl rfl rfl) rfl ?_
      refine q0 65 199 6 rfl rfl (T_move rfl rfl) rfl ?_
      first | refine q0 66 215 7 rfl rfl (T_indexAddr D rfl rfl rfl rfl rfl rfl rfl rfl (by first | assumption | omega | (have q1 := hm (by omega); omega) | (have q1 := hm (by omega); have q2 := hmi (by omega); omega) | (simp; omega))) rfl ?_ | refine q0 66 215 7 rfl rfl (T_indexAddrZ D rfl rfl rfl rfl rfl rfl rfl rfl (by first | assumption | omega | (have q1 := hm (by omega); omega) | (have q1 := hm (by omega); have q2 := hmi (by omega); omega) | (simp; omega)) (by first | assumption | omega | (have q1 := hm (by omega); omega) | (have q1 := hm (by omega); have q2 := hmi (by omega); omega) | (simp; omega))) rfl ?_
      refine q0 67 231 8 rfl rfl (T_ldE D (lv := .v _) (nn := 0) (upd := []) rfl rfl rfl rfl rfl (by first | assumption | omega | (have q1 := hm (by omega); omega) | (have q1 := hm (by omega); have q2 := hmi (by omega); omega) | (simp; omega)) rfl rfl rfl rfl) rfl ?_
      refine q0 68 247 9 rfl rfl (T_move rfl rfl) rfl ?_
      refine q0 69 263 10 rfl rfl (T_eqBN rfl rfl rfl) rfl ?_
      refine k_done rfl ?_
      refine thenK_n ?_
      refine W_cond rfl (fun g7 => ?_) (fun g7 => ?_)
      ·have h7 := g7; (try simp only [cmpB, decide_eq_true_eq, decide_eq_false_iff_not, beq_iff_eq, beq_eq_false_iff_ne, bne_iff_ne, ne_eq, bne_eq_false_iff_eq, Bool.not_eq_true', Bool.not_eq_false', Int.not_lt, Int.not_le] at h7)
       refine W_seq ?_
       refine W_seqK (b' := 295) rfl rfl ?_
       refine q0 2 279 1 rfl rfl (T_assign rfl rfl) rfl ?_
       refine k_done rfl ?_
       refine thenK_n ?_
       refine W_ret ?_
       refine blockK_r ?_
       refine thenK_r ?_
       refine thenK_r ?_
       refine blockK_r ?_
       refine blockK_r ?_
       refine thenK_r ?_
       refine thenK_r ?_
       refine blockK_r ?_
       refine thenK_r ?_
       exact .mk [] (.inr rfl) (.tmp rfl (.nil)) (by first | rfl | (exfalso; have k := live_sized (by assumption : small27 f 12 60 = true); simp_all; done) | (exfalso; have k := anyN_way hS.lf hjb r; have eq : q = ((nextL f).getD j default).length := (by omega); subst eq; simp_all; done)) (.nil) rfl
      ·have h7 := g7; (try simp only [cmpB, decide_eq_true_eq, decide_eq_false_iff_not, beq_iff_eq, beq_eq_false_iff_ne, bne_iff_ne, ne_eq, bne_eq_false_iff_eq, Bool.not_eq_true', Bool.not_eq_false', Int.not_lt, Int.not_le] at h7)
       refine W_skip ?_
       refine blockK_n ?_
       refine thenK_n ?_
       refine W_seqK (b' := 327) rfl rfl ?_
       refine q0 32 279 1 rfl rfl (T_move rfl rfl) rfl ?_
       refine q0 33 295 2 rfl rfl (T_add64 rfl rfl rfl (by first | assumption | omega | (have q1 := hm (by omega); omega) | (have q1 := hm (by omega); have q2 := hmi (by omega); omega) | (simp; omega))) rfl ?_
       refine q0 6 311 3 rfl rfl (T_assign rfl rfl) rfl ?_
       refine k_done rfl ?_
       refine thenK_n ?_
       refine ⟨r + 1, by (try dsimp only); omega, by (try dsimp only); omega, ?_⟩
       exact ⟨[(2, 2), (3, 3), (4, 4), (5, 5), (6, 6)], .same rfl rfl (.same rfl rfl (.same rfl rfl (.eq rfl (.eq rfl (.nil) (by first | rfl | simp)) rfl))), .fzE rfl (.box (by first | rfl | simp) (.box (by first | rfl | simp) (.fzE rfl (.fzE rfl (.rowE rfl (.nil) (by first | rfl | simp)) rfl) rfl))) rfl, rfl⟩
    ·have h4 := c_lss_f g4
     refine W_exit ?_
     refine thenK_e ?_
     refine thenK_e ?_
     refine blockK_hit ?_
     refine blockK_n ?_
     refine thenK_n ?_
     refine W_seqK (b' := 119) rfl rfl ?_
     refine q0 26 71 1 rfl rfl (T_move rfl rfl) rfl ?_
     refine q0 27 87 2 rfl rfl (T_add64 rfl rfl rfl (by first | assumption | omega | (have q1 := hm (by omega); omega) | (have q1 := hm (by omega); have q2 := hmi (by omega); omega) | (simp; omega))) rfl ?_
     refine q0 5 103 3 rfl rfl (T_assign rfl rfl) rfl ?_
     refine k_done rfl ?_
     refine thenK_n ?_
     refine ⟨j + 1, by (try dsimp only); omega, by (try dsimp only); omega, ?_⟩
     exact ⟨[(2, 2), (3, 3), (4, 4), (5, 5), (6, 6)], .same rfl rfl (.same rfl rfl (.same rfl rfl (.eq rfl (.nil) (by first | rfl | simp)))), .fzE rfl (.box (by first | rfl | simp) (.box (by first | rfl | simp) (.fzE rfl (.fzE rfl (.rowE rfl (.nil) (by first | rfl | simp)) rfl) rfl))) rfl, rfl⟩
   ·have h3 := c_lss_f g3
    refine W_exit ?_
    refine thenK_e ?_
    refine thenK_e ?_
    refine blockK_hit ?_
    refine thenK_n ?_
    refine W_seq ?_
    refine W_seqK (b' := 119) rfl rfl ?_
    refine q0 70 87 1 rfl rfl (T_callV (lvs := []) (L := []) (awake27_spec) body49 rfl rfl rfl rfl (.nil) rfl) rfl ?_
    refine q0 2 103 2 rfl rfl (T_assign rfl rfl) rfl ?_
    refine k_done rfl ?_
    refine thenK_n ?_
    refine W_ret ?_
    exact .mk [] (.inr rfl) (.tmp rfl (.nil)) (by first | rfl | (exfalso; have k := live_sized (by assumption : small27 f 12 60 = true); simp_all; done) | (exfalso; have k := anyN_way hS.lf hjb r; have eq : q = ((nextL f).getD j default).length := (by omega); subst eq; simp_all; done)) (.nil) rfl
theorem body19 : (Try.prog.funcs[19]?).map (fun fn => (fn.name == "runtime.NumGoroutine" || fn.body.isNone)) = some false := by kernel_rfl
theorem law19 (f : GFn) (mi mo ni no : List (List Bool)) (hf : FnOk f) (hb1 : mi.length ≤ 1000000000000000) (hb2 : mo.length ≤ 1000000000000000) (hb3 : ni.length ≤ 1000000000000000) (hb4 : no.length ≤ 1000000000000000) : Spec Try.prog 19 [.agg [.v (.int .i64 f.regs), .r 1], .agg [.r 2, .r 3], .agg [.r 4, .r 5]] 6 [(1, .fz 5 (f.blocks.map eBlock)), (2, .fz 1 (mi.map eBs)), (3, .fz 1 (mo.map eBs)), (4, .fz 1 (ni.map eBs)), (5, .fz 1 (no.map eBs))] (.v (.bool true)) 6 [] := by
 refine spec_of D (fn := Try.f19) rfl rfl (Nat.le_of_ble_eq_true rfl) ?_
 refine W_seq ?_
 refine W_seqK (b' := 70) rfl rfl ?_
 refine q1 3 6 1 rfl rfl (T_box rfl rfl flat_agg) rfl ?_
 refine q1 4 22 2 rfl rfl (T_box rfl rfl flat_agg) rfl ?_
 refine q1 5 38 3 rfl rfl (T_box rfl rfl flat_agg) rfl ?_
 refine q0 6 54 4 rfl rfl (T_assign rfl rfl) rfl ?_
 refine k_done rfl ?_
 refine thenK_n ?_
 refine W_seq ?_
 refine W_seq ?_
 refine W_seqK (b' := 310) rfl rfl ?_
 refine q0 9 70 1 rfl rfl (T_load_bA D (l := [_, _]) rfl rfl rfl rfl rfl rfl rfl) rfl ?_
 refine q0 10 86 2 rfl rfl (T_callV (lvs := [_, _, _]) (L := [(1, 1)]) (small27_spec f 12 60 hf (by omega) (by omega)) body48 rfl rfl rfl rfl (.fz rfl (.nil)) rfl) rfl ?_
 refine q0 11 102 3 rfl rfl (T_not rfl rfl) rfl ?_
 refine q0 12 118 4 rfl rfl (T_move rfl rfl) rfl ?_
 refine k_split (d := 12) rfl (fun g1 => ?_) (fun g1 => ?_)
 ·have h1 := g1; (try simp only [cmpB, decide_eq_true_eq, decide_eq_false_iff_not, beq_iff_eq, beq_eq_false_iff_ne, bne_iff_ne, ne_eq, bne_eq_false_iff_eq, Bool.not_eq_true', Bool.not_eq_false', Int.not_lt, Int.not_le] at h1)
  refine k_no (d := 13) (j' := 5) rfl rfl rfl (g_ft rfl rfl rfl g1) ?_
  refine k_no (d := 14) (j' := 6) rfl rfl rfl (g_ft rfl rfl rfl g1) ?_
  refine k_no (d := 15) (j' := 7) rfl rfl rfl (g_ft rfl rfl rfl g1) ?_
  refine k_no (d := 16) (j' := 8) rfl rfl rfl (g_ft rfl rfl rfl g1) ?_
  refine q0 17 198 9 rfl rfl (T_pick_t rfl rfl rfl g1) rfl ?_
  refine q0 18 214 10 rfl rfl (T_move rfl rfl) rfl ?_
  refine k_no (d := 19) (j' := 11) rfl rfl rfl (g_ft rfl rfl rfl rfl) ?_
  refine k_no (d := 20) (j' := 12) rfl rfl rfl (g_ft rfl rfl rfl rfl) ?_
  refine k_no (d := 21) (j' := 13) rfl rfl rfl (g_ft rfl rfl rfl rfl) ?_
  refine k_no (d := 22) (j' := 14) rfl rfl rfl (g_ft rfl rfl rfl rfl) ?_
  refine q0 23 294 15 rfl rfl (T_pick_t rfl rfl rfl rfl) rfl ?_
  refine k_done rfl ?_
  refine thenK_n ?_
  refine W_cond rfl (fun g2 => ?_) (fun g2 => ?_)
  ·skip
   refine W_seq ?_
   refine W_seqK (b' := 342) rfl rfl ?_
   refine q0 24 310 1 rfl rfl (T_callV (lvs := []) (L := []) (awake27_spec) body49 rfl rfl rfl rfl (.nil) rfl) rfl ?_
   refine q0 6 326 2 rfl rfl (T_assign rfl rfl) rfl ?_
   refine k_done rfl ?_
   refine thenK_n ?_
   refine W_ret ?_
   refine thenK_r ?_
   exact .mk [] (.inr rfl) (.tmp rfl (.nil)) (by first | rfl | (simp only [resLV, LV.ren, LV.v.injEq, Value.bool.injEq]; exact both_closed (small_lf (by assumption : small27 f 12 60 = true)) (by assumption) (by assumption) _) | (exfalso; have k1 := both_closed (small_lf (by assumption : small27 f 12 60 = true)) (by assumption : checkL f mi mo = true) (by assumption : checkL f ni no = true); simp_all; done)) (.nil) rfl
  ·exact absurd (g2.symm.trans rfl) (by decide)
 ·have h1 := g1; (try simp only [cmpB, decide_eq_true_eq, decide_eq_false_iff_not, beq_iff_eq, beq_eq_false_iff_ne, bne_iff_ne, ne_eq, bne_eq_false_iff_eq, Bool.not_eq_true', Bool.not_eq_false', Int.not_lt, Int.not_le] at h1)
  refine k_op0 (d := 13) (b := 134) (j' := 5) rfl rfl rfl rfl (g_ff rfl rfl rfl g1) (T_load_bA D (l := [_, _]) rfl rfl rfl rfl rfl rfl rfl) rfl ?_
  refine k_op0 (d := 14) (b := 150) (j' := 6) rfl rfl rfl rfl (g_ff rfl rfl rfl g1) (T_load_bA D (l := [_, _]) rfl rfl rfl rfl rfl rfl rfl) rfl ?_
  refine k_op0 (d := 15) (b := 166) (j' := 7) rfl rfl rfl rfl (g_ff rfl rfl rfl g1) (T_callV (lvs := [_, _]) (L := [(1, 1), (2, 2), (3, 3)]) (rlcheck_spec f mi mo (small_lf (by assumption : small27 f 12 60 = true)) hb1 hb2) body52 rfl rfl rfl rfl (.fz rfl (.fz rfl (.fz rfl (.nil)))) rfl) rfl ?_
  refine k_op0 (d := 16) (b := 182) (j' := 8) rfl rfl rfl rfl (g_ff rfl rfl rfl g1) (T_not rfl rfl) rfl ?_
  refine q0 17 198 9 rfl rfl (T_pick_f rfl rfl rfl g1) rfl ?_
  refine q0 18 214 10 rfl rfl (T_move rfl rfl) rfl ?_
  refine k_split (d := 18) rfl (fun g3 => ?_) (fun g3 => ?_)
  ·have h3 := g3; (try simp only [cmpB, decide_eq_true_eq, decide_eq_false_iff_not, beq_iff_eq, beq_eq_false_iff_ne, bne_iff_ne, ne_eq, bne_eq_false_iff_eq, Bool.not_eq_true', Bool.not_eq_false', Int.not_lt, Int.not_le] at h3)
   refine k_no (d := 19) (j' := 11) rfl rfl rfl (g_ft rfl rfl rfl g3) ?_
   refine k_no (d := 20) (j' := 12) rfl rfl rfl (g_ft rfl rfl rfl g3) ?_
   refine k_no (d := 21) (j' := 13) rfl rfl rfl (g_ft rfl rfl rfl g3) ?_
   refine k_no (d := 22) (j' := 14) rfl rfl rfl (g_ft rfl rfl rfl g3) ?_
   refine q0 23 294 15 rfl rfl (T_pick_t rfl rfl rfl g3) rfl ?_
   refine k_done rfl ?_
   refine thenK_n ?_
   refine W_cond rfl (fun g4 => ?_) (fun g4 => ?_)
   ·skip
    refine W_seq ?_
    refine W_seqK (b' := 342) rfl rfl ?_
    refine q0 24 310 1 rfl rfl (T_callV (lvs := []) (L := []) (awake27_spec) body49 rfl rfl rfl rfl (.nil) rfl) rfl ?_
    refine q0 6 326 2 rfl rfl (T_assign rfl rfl) rfl ?_
    refine k_done rfl ?_
    refine thenK_n ?_
    refine W_ret ?_
    refine thenK_r ?_
    exact .mk [] (.inr rfl) (.tmp rfl (.nil)) (by first | rfl | (simp only [resLV, LV.ren, LV.v.injEq, Value.bool.injEq]; exact both_closed (small_lf (by assumption : small27 f 12 60 = true)) (by assumption) (by assumption) _) | (exfalso; have k1 := both_closed (small_lf (by assumption : small27 f 12 60 = true)) (by assumption : checkL f mi mo = true) (by assumption : checkL f ni no = true); simp_all; done)) (.nil) rfl
   ·exact absurd (g4.symm.trans rfl) (by decide)
  ·have h3 := g3; (try simp only [cmpB, decide_eq_true_eq, decide_eq_false_iff_not, beq_iff_eq, beq_eq_false_iff_ne, bne_iff_ne, ne_eq, bne_eq_false_iff_eq, Bool.not_eq_true', Bool.not_eq_false', Int.not_lt, Int.not_le] at h3)
   refine k_op0 (d := 19) (b := 230) (j' := 11) rfl rfl rfl rfl (g_ff rfl rfl rfl g3) (T_load_bA D (l := [_, _]) rfl rfl rfl rfl rfl rfl rfl) rfl ?_
   refine k_op0 (d := 20) (b := 246) (j' := 12) rfl rfl rfl rfl (g_ff rfl rfl rfl g3) (T_load_bA D (l := [_, _]) rfl rfl rfl rfl rfl rfl rfl) rfl ?_
   refine k_op0 (d := 21) (b := 262) (j' := 13) rfl rfl rfl rfl (g_ff rfl rfl rfl g3) (T_callV (lvs := [_, _]) (L := [(1, 1), (2, 4), (3, 5)]) (rlcheck_spec f ni no (small_lf (by assumption : small27 f 12 60 = true)) hb3 hb4) body52 rfl rfl rfl rfl (.fz rfl (.fz rfl (.fz rfl (.nil)))) rfl) rfl ?_
   refine k_op0 (d := 22) (b := 278) (j' := 14) rfl rfl rfl rfl (g_ff rfl rfl rfl g3) (T_not rfl rfl) rfl ?_
   refine q0 23 294 15 rfl rfl (T_pick_f rfl rfl rfl g3) rfl ?_
   refine k_done rfl ?_
   refine thenK_n ?_
   refine W_cond rfl (fun g5 => ?_) (fun g5 => ?_)
   ·have h5 := g5; (try simp only [cmpB, decide_eq_true_eq, decide_eq_false_iff_not, beq_iff_eq, beq_eq_false_iff_ne, bne_iff_ne, ne_eq, bne_eq_false_iff_eq, Bool.not_eq_true', Bool.not_eq_false', Int.not_lt, Int.not_le] at h5)
    refine W_seq ?_
    refine W_seqK (b' := 342) rfl rfl ?_
    refine q0 24 310 1 rfl rfl (T_callV (lvs := []) (L := []) (awake27_spec) body49 rfl rfl rfl rfl (.nil) rfl) rfl ?_
    refine q0 6 326 2 rfl rfl (T_assign rfl rfl) rfl ?_
    refine k_done rfl ?_
    refine thenK_n ?_
    refine W_ret ?_
    refine thenK_r ?_
    exact .mk [] (.inr rfl) (.tmp rfl (.nil)) (by first | rfl | (simp only [resLV, LV.ren, LV.v.injEq, Value.bool.injEq]; exact both_closed (small_lf (by assumption : small27 f 12 60 = true)) (by assumption) (by assumption) _) | (exfalso; have k1 := both_closed (small_lf (by assumption : small27 f 12 60 = true)) (by assumption : checkL f mi mo = true) (by assumption : checkL f ni no = true); simp_all; done)) (.nil) rfl
   ·have h5 := g5; (try simp only [cmpB, decide_eq_true_eq, decide_eq_false_iff_not, beq_iff_eq, beq_eq_false_iff_ne, bne_iff_ne, ne_eq, bne_eq_false_iff_eq, Bool.not_eq_true', Bool.not_eq_false', Int.not_lt, Int.not_le] at h5)
    refine W_skip ?_
    refine thenK_n ?_
    refine W_seq ?_
    refine W_anyK (b' := 518) rfl rfl rfl ?_
    refine q0 25 310 1 rfl rfl (T_fa D (m := 0) rfl rfl rfl rfl rfl rfl) rfl ?_
    refine q0 26 326 2 rfl rfl (T_load_b D rfl rfl rfl rfl rfl rfl) rfl ?_
    refine q0 27 342 3 rfl rfl (T_fa D (m := 0) rfl rfl rfl rfl rfl rfl) rfl ?_
    refine q0 28 358 4 rfl rfl (T_load_b D rfl rfl rfl rfl rfl rfl) rfl ?_
    refine q1 29 374 5 rfl rfl (T_call (lvs := [_, _, _]) (L := [(1, 2), (2, 4)]) (lv := .r 374) (upd := [(374, .fz 1 _)]) (nn := 1) false (both_spec mi ni true (by have := chk_i (by assumption : small27 f 12 60 = true) (by assumption : checkL f mi mo = true); omega) (chk_ei (by assumption : small27 f 12 60 = true) (by assumption : checkL f mi mo = true)) (chk_li (by assumption : checkL f mi mo = true) (by assumption)) (chk_qi (by assumption : checkL f mi mo = true) (by assumption))) body61 rfl rfl rfl rfl (.fz rfl (.fz rfl (.nil))) rfl (.inl rfl) rfl rfl rfl) rfl ?_
    refine q0 30 390 6 rfl rfl (T_fa D (m := 1) rfl rfl rfl rfl rfl rfl) rfl ?_
    refine q0 31 406 7 rfl rfl (T_load_b D rfl rfl rfl rfl rfl rfl) rfl ?_
    refine q0 32 422 8 rfl rfl (T_fa D (m := 1) rfl rfl rfl rfl rfl rfl) rfl ?_
    refine q0 33 438 9 rfl rfl (T_load_b D rfl rfl rfl rfl rfl rfl) rfl ?_
    refine q1 34 454 10 rfl rfl (T_call (lvs := [_, _, _]) (L := [(1, 3), (2, 5)]) (lv := .r 454) (upd := [(454, .fz 1 _)]) (nn := 1) false (both_spec mo no true (by have := chk_o (by assumption : small27 f 12 60 = true) (by assumption : checkL f mi mo = true); omega) (chk_eo (by assumption : small27 f 12 60 = true) (by assumption : checkL f mi mo = true)) (chk_lo (by assumption : checkL f mi mo = true) (by assumption)) (chk_qo (by assumption : checkL f mi mo = true) (by assumption))) body61 rfl rfl rfl rfl (.fz rfl (.fz rfl (.nil))) rfl (.inl rfl) rfl rfl rfl) rfl ?_
    refine q0 35 470 11 rfl rfl (T_build D (l := [_, _]) rfl rfl rfl rfl (.cons rfl (flat_sl rfl) (.cons rfl (flat_sl rfl) (.nil))) rfl rfl) rfl ?_
    refine qn 7 486 12 rfl rfl (T_nilbox [(48, 1), (48, 1)] (T_alloc D rfl rfl rfl) rfl (.cons (.nil rfl) <| .cons (.nil rfl) <| .nil) (upd' := [(486, .box 57 [.r 487, .r 488]), (487, .row 48 1 (List.map eBs ([] : List (List Bool)))), (488, .row 48 1 (List.map eBs ([] : List (List Bool))))]) (nn' := 3) rfl rfl) rfl ?_
    refine s1 502 13 rfl rfl (T_stB D (cs' := [_, _]) rfl rfl rfl rfl flat_agg rfl rfl (Nat.le_of_ble_eq_true rfl) rfl) rfl ?_
    refine k_done rfl ?_
    refine ⟨rfl, ?_⟩
    refine thenK_n ?_
    refine W_seq ?_
    refine W_anyK (b' := 726) rfl rfl rfl ?_
    refine q0 36 518 1 rfl rfl (T_fa D (m := 0) rfl rfl rfl rfl rfl rfl) rfl ?_
    refine q0 37 534 2 rfl rfl (T_load_b D rfl rfl rfl rfl rfl rfl) rfl ?_
    refine q0 38 550 3 rfl rfl (T_fa D (m := 0) rfl rfl rfl rfl rfl rfl) rfl ?_
    refine q0 39 566 4 rfl rfl (T_load_b D rfl rfl rfl rfl rfl rfl) rfl ?_
    refine q1 40 582 5 rfl rfl (T_call (lvs := [_, _, _]) (L := [(1, 2), (2, 4)]) (lv := .r 582) (upd := [(582, .fz 1 _)]) (nn := 1) false (both_spec mi ni false (by have := chk_i (by assumption : small27 f 12 60 = true) (by assumption : checkL f mi mo = true); omega) (chk_ei (by assumption : small27 f 12 60 = true) (by assumption : checkL f mi mo = true)) (chk_li (by assumption : checkL f mi mo = true) (by assumption)) (chk_qi (by assumption : checkL f mi mo = true) (by assumption))) body61 rfl rfl rfl rfl (.fz rfl (.fz rfl (.nil))) rfl (.inl rfl) rfl rfl rfl) rfl ?_
    refine q0 41 598 6 rfl rfl (T_fa D (m := 1) rfl rfl rfl rfl rfl rfl) rfl ?_
    refine q0 42 614 7 rfl rfl (T_load_b D rfl rfl rfl rfl rfl rfl) rfl ?_
    refine q0 43 630 8 rfl rfl (T_fa D (m := 1) rfl rfl rfl rfl rfl rfl) rfl ?_
    refine q0 44 646 9 rfl rfl (T_load_b D rfl rfl rfl rfl rfl rfl) rfl ?_
    refine q1 45 662 10 rfl rfl (T_call (lvs := [_, _, _]) (L := [(1, 3), (2, 5)]) (lv := .r 662) (upd := [(662, .fz 1 _)]) (nn := 1) false (both_spec mo no false (by have := chk_o (by assumption : small27 f 12 60 = true) (by assumption : checkL f mi mo = true); omega) (chk_eo (by assumption : small27 f 12 60 = true) (by assumption : checkL f mi mo = true)) (chk_lo (by assumption : checkL f mi mo = true) (by assumption)) (chk_qo (by assumption : checkL f mi mo = true) (by assumption))) body61 rfl rfl rfl rfl (.fz rfl (.fz rfl (.nil))) rfl (.inl rfl) rfl rfl rfl) rfl ?_
    refine q0 46 678 11 rfl rfl (T_build D (l := [_, _]) rfl rfl rfl rfl (.cons rfl (flat_sl rfl) (.cons rfl (flat_sl rfl) (.nil))) rfl rfl) rfl ?_
    refine qn 8 694 12 rfl rfl (T_nilbox [(48, 1), (48, 1)] (T_alloc D rfl rfl rfl) rfl (.cons (.nil rfl) <| .cons (.nil rfl) <| .nil) (upd' := [(694, .box 57 [.r 695, .r 696]), (695, .row 48 1 (List.map eBs ([] : List (List Bool)))), (696, .row 48 1 (List.map eBs ([] : List (List Bool))))]) (nn' := 3) rfl rfl) rfl ?_
    refine s1 710 13 rfl rfl (T_stB D (cs' := [_, _]) rfl rfl rfl rfl flat_agg rfl rfl (Nat.le_of_ble_eq_true rfl) rfl) rfl ?_
    refine k_done rfl ?_
    refine ⟨rfl, ?_⟩
    refine thenK_n ?_
    refine W_seq ?_
    refine W_seqK (b' := 918) rfl rfl ?_
    refine q0 47 726 1 rfl rfl (T_callV (lvs := []) (L := []) (awake27_spec) body49 rfl rfl rfl rfl (.nil) rfl) rfl ?_
    refine q0 48 742 2 rfl rfl (T_move rfl rfl) rfl ?_
    refine k_op0 (d := 49) (b := 758) (j' := 3) rfl rfl rfl rfl (g_tt rfl rfl rfl rfl) (T_load_bA D (l := [_, _]) rfl rfl rfl rfl rfl rfl rfl) rfl ?_
    refine k_op0 (d := 50) (b := 774) (j' := 4) rfl rfl rfl rfl (g_tt rfl rfl rfl rfl) (T_load_bA D (l := [_, _]) rfl rfl rfl rfl rfl rfl rfl) rfl ?_
    refine k_op0 (d := 51) (b := 790) (j' := 5) rfl rfl rfl rfl (g_tt rfl rfl rfl rfl) (T_callV (lvs := [_, _]) (L := [(1, 1), (2, 374), (3, 454)]) (lcheck_spec f (bothL mi ni true) (bothL mo no true) (small_lf (by assumption : small27 f 12 60 = true)) (by have := chk_i (by assumption : small27 f 12 60 = true) (by assumption : checkL f mi mo = true); rw [bothL_len]; omega) (by have := chk_o (by assumption : small27 f 12 60 = true) (by assumption : checkL f mi mo = true); rw [bothL_len]; omega)) body53 rfl rfl rfl rfl (.fz rfl (.fz rfl (.fz rfl (.nil)))) rfl) rfl ?_
    refine q0 52 806 6 rfl rfl (T_pick_t rfl rfl rfl rfl) rfl ?_
    refine q0 53 822 7 rfl rfl (T_move rfl rfl) rfl ?_
    refine k_split (d := 53) rfl (fun g6 => ?_) (fun g6 => ?_)
    ·have h6 := g6; (try simp only [cmpB, decide_eq_true_eq, decide_eq_false_iff_not, beq_iff_eq, beq_eq_false_iff_ne, bne_iff_ne, ne_eq, bne_eq_false_iff_eq, Bool.not_eq_true', Bool.not_eq_false', Int.not_lt, Int.not_le] at h6)
     refine k_op0 (d := 54) (b := 838) (j' := 8) rfl rfl rfl rfl (g_tt rfl rfl rfl g6) (T_load_bA D (l := [_, _]) rfl rfl rfl rfl rfl rfl rfl) rfl ?_
     refine k_op0 (d := 55) (b := 854) (j' := 9) rfl rfl rfl rfl (g_tt rfl rfl rfl g6) (T_load_bA D (l := [_, _]) rfl rfl rfl rfl rfl rfl rfl) rfl ?_
     refine k_op0 (d := 56) (b := 870) (j' := 10) rfl rfl rfl rfl (g_tt rfl rfl rfl g6) (T_callV (lvs := [_, _]) (L := [(1, 1), (2, 582), (3, 662)]) (lcheck_spec f (bothL mi ni false) (bothL mo no false) (small_lf (by assumption : small27 f 12 60 = true)) (by have := chk_i (by assumption : small27 f 12 60 = true) (by assumption : checkL f mi mo = true); rw [bothL_len]; omega) (by have := chk_o (by assumption : small27 f 12 60 = true) (by assumption : checkL f mi mo = true); rw [bothL_len]; omega)) body53 rfl rfl rfl rfl (.fz rfl (.fz rfl (.fz rfl (.nil)))) rfl) rfl ?_
     refine q0 57 886 11 rfl rfl (T_pick_t rfl rfl rfl g6) rfl ?_
     refine q0 6 902 12 rfl rfl (T_assign rfl rfl) rfl ?_
     refine k_done rfl ?_
     refine thenK_n ?_
     refine W_ret ?_
     exact .mk [] (.inr rfl) (.tmp rfl (.nil)) (by first | rfl | (simp only [resLV, LV.ren, LV.v.injEq, Value.bool.injEq]; exact both_closed (small_lf (by assumption : small27 f 12 60 = true)) (by assumption) (by assumption) _) | (exfalso; have k1 := both_closed (small_lf (by assumption : small27 f 12 60 = true)) (by assumption : checkL f mi mo = true) (by assumption : checkL f ni no = true); simp_all; done)) (.nil) rfl
    ·have h6 := g6; (try simp only [cmpB, decide_eq_true_eq, decide_eq_false_iff_not, beq_iff_eq, beq_eq_false_iff_ne, bne_iff_ne, ne_eq, bne_eq_false_iff_eq, Bool.not_eq_true', Bool.not_eq_false', Int.not_lt, Int.not_le] at h6)
     refine k_no (d := 54) (j' := 8) rfl rfl rfl (g_tf rfl rfl rfl g6) ?_
     refine k_no (d := 55) (j' := 9) rfl rfl rfl (g_tf rfl rfl rfl g6) ?_
     refine k_no (d := 56) (j' := 10) rfl rfl rfl (g_tf rfl rfl rfl g6) ?_
     refine q0 57 886 11 rfl rfl (T_pick_f rfl rfl rfl g6) rfl ?_
     refine q0 6 902 12 rfl rfl (T_assign rfl rfl) rfl ?_
     refine k_done rfl ?_
     refine thenK_n ?_
     refine W_ret ?_
     exact .mk [] (.inr rfl) (.tmp rfl (.nil)) (by first | rfl | (simp only [resLV, LV.ren, LV.v.injEq, Value.bool.injEq]; exact both_closed (small_lf (by assumption : small27 f 12 60 = true)) (by assumption) (by assumption) _) | (exfalso; have k1 := both_closed (small_lf (by assumption : small27 f 12 60 = true)) (by assumption : checkL f mi mo = true) (by assumption : checkL f ni no = true); simp_all; done)) (.nil) rfl
end Lg
end Go.Proofs.Ytpfhmodjjljpjaa
