import Derived.Test.YtpfhmodjjljpjaaAlm5
set_option linter.unusedVariables false
set_option linter.unusedSimpArgs false
namespace Go.Proofs.Ytpfhmodjjljpjaa
open Go.RowKit
namespace Lg
set_option maxRecDepth 100000
set_option linter.unusedVariables false
set_option linter.unusedSimpArgs false
theorem body41 : (Try.prog.funcs[41]?).map (fun fn => (fn.name == "runtime.NumGoroutine" || fn.body.isNone)) = some false := by kernel_rfl
theorem small28_spec (f : GFn) (hf : FnOk f) : Spec Try.prog 41 [.agg [.v (.int .i64 f.regs), .r 1]] 2 [(1, .fz 5 (f.blocks.map eBlock))] (.v (.bool (small28 f))) 2 [] := by
 have hf1 := hf.1
 refine spec_of D (fn := Try.f41) rfl rfl (Nat.le_of_ble_eq_true rfl) ?_
 refine W_seq ?_
 refine W_seqK (b' := 34) rfl rfl ?_
 refine q1 1 2 1 rfl rfl (T_box rfl rfl flat_agg) rfl ?_
 refine q0 2 18 2 rfl rfl (T_assign rfl rfl) rfl ?_
 refine k_done rfl ?_
 refine thenK_n ?_
 refine W_seq ?_
 refine W_seqK (b' := 338) rfl rfl ?_
 refine q0 3 34 1 rfl rfl (T_fa D (m := 1) rfl rfl rfl rfl rfl rfl) rfl ?_
 refine q0 4 50 2 rfl rfl (T_load_b D rfl rfl rfl rfl rfl rfl) rfl ?_
 refine q0 5 66 3 rfl rfl (T_len D rfl rfl rfl rfl rfl rfl) rfl ?_
 refine q0 6 82 4 rfl rfl (T_cmp rfl rfl rfl rfl) rfl ?_
 refine q0 7 98 5 rfl rfl (T_move rfl rfl) rfl ?_
 refine k_split (d := 7) rfl (fun g1 => ?_) (fun g1 => ?_)
 ·have h1 := c_leq_t g1
  refine k_op0 (d := 8) (b := 114) (j' := 6) rfl rfl rfl rfl (g_tt rfl rfl rfl g1) (T_fa D (m := 0) rfl rfl rfl rfl rfl rfl) rfl ?_
  refine k_op0 (d := 9) (b := 130) (j' := 7) rfl rfl rfl rfl (g_tt rfl rfl rfl g1) (T_load_b D rfl rfl rfl rfl rfl rfl) rfl ?_
  refine k_op0 (d := 10) (b := 146) (j' := 8) rfl rfl rfl rfl (g_tt rfl rfl rfl g1) (T_cmp rfl rfl rfl rfl) rfl ?_
  refine q0 11 162 9 rfl rfl (T_pick_t rfl rfl rfl g1) rfl ?_
  refine q0 12 178 10 rfl rfl (T_move rfl rfl) rfl ?_
  refine k_split (d := 12) rfl (fun g2 => ?_) (fun g2 => ?_)
  ·have h2 := c_leq_t g2
   refine k_op0 (d := 13) (b := 194) (j' := 11) rfl rfl rfl rfl (g_tt rfl rfl rfl g2) (T_load_bA D (l := [_, _]) rfl rfl rfl rfl rfl rfl rfl) rfl ?_
   refine k_op0 (d := 14) (b := 210) (j' := 12) rfl rfl rfl rfl (g_tt rfl rfl rfl g2) (T_callV (lvs := [_]) (L := [(1, 1)]) (sizef_spec f hf (sum28 hf (by omega))) body79 rfl rfl rfl rfl (.fz rfl (.nil)) rfl) rfl ?_
   refine k_op0 (d := 15) (b := 226) (j' := 13) rfl rfl rfl rfl (g_tt rfl rfl rfl g2) (T_cmp rfl rfl rfl rfl) rfl ?_
   refine q0 16 242 14 rfl rfl (T_pick_t rfl rfl rfl g2) rfl ?_
   refine q0 17 258 15 rfl rfl (T_move rfl rfl) rfl ?_
   refine k_split (d := 17) rfl (fun g3 => ?_) (fun g3 => ?_)
   ·have h3 := c_leq_t g3
    refine k_op0 (d := 18) (b := 274) (j' := 16) rfl rfl rfl rfl (g_tt rfl rfl rfl g3) (T_load_bA D (l := [_, _]) rfl rfl rfl rfl rfl rfl rfl) rfl ?_
    refine k_op0 (d := 19) (b := 290) (j' := 17) rfl rfl rfl rfl (g_tt rfl rfl rfl g3) (T_callV (lvs := [_, _, _]) (L := [(1, 1)]) (one_fn_spec f 64 2000 hf (by omega)) body47 rfl rfl rfl rfl (.fz rfl (.nil)) rfl) rfl ?_
    refine q0 20 306 18 rfl rfl (T_pick_t rfl rfl rfl g3) rfl ?_
    refine q0 2 322 19 rfl rfl (T_assign rfl rfl) rfl ?_
    refine k_done rfl ?_
    refine thenK_n ?_
    refine W_ret ?_
    exact .mk [] (.inr rfl) (.tmp rfl (.nil)) (by (simp only [resLV, LV.ren, LV.v.injEq, Value.bool.injEq]; exact small28_eq (by omega) (by omega) (by omega))) (.nil) rfl
   ·have h3 := c_leq_f g3
    refine k_no (d := 18) (j' := 16) rfl rfl rfl (g_tf rfl rfl rfl g3) ?_
    refine k_no (d := 19) (j' := 17) rfl rfl rfl (g_tf rfl rfl rfl g3) ?_
    refine q0 20 306 18 rfl rfl (T_pick_f rfl rfl rfl g3) rfl ?_
    refine q0 2 322 19 rfl rfl (T_assign rfl rfl) rfl ?_
    refine k_done rfl ?_
    refine thenK_n ?_
    refine W_ret ?_
    exact .mk [] (.inr rfl) (.tmp rfl (.nil)) (by (simp only [resLV, LV.ren, LV.v.injEq, Value.bool.injEq]; exact small28_no (by omega))) (.nil) rfl
  ·have h2 := c_leq_f g2
   refine k_no (d := 13) (j' := 11) rfl rfl rfl (g_tf rfl rfl rfl g2) ?_
   refine k_no (d := 14) (j' := 12) rfl rfl rfl (g_tf rfl rfl rfl g2) ?_
   refine k_no (d := 15) (j' := 13) rfl rfl rfl (g_tf rfl rfl rfl g2) ?_
   refine q0 16 242 14 rfl rfl (T_pick_f rfl rfl rfl g2) rfl ?_
   refine q0 17 258 15 rfl rfl (T_move rfl rfl) rfl ?_
   refine k_no (d := 18) (j' := 16) rfl rfl rfl (g_tf rfl rfl rfl rfl) ?_
   refine k_no (d := 19) (j' := 17) rfl rfl rfl (g_tf rfl rfl rfl rfl) ?_
   refine q0 20 306 18 rfl rfl (T_pick_f rfl rfl rfl rfl) rfl ?_
   refine q0 2 322 19 rfl rfl (T_assign rfl rfl) rfl ?_
   refine k_done rfl ?_
   refine thenK_n ?_
   refine W_ret ?_
   exact .mk [] (.inr rfl) (.tmp rfl (.nil)) (by (simp only [resLV, LV.ren, LV.v.injEq, Value.bool.injEq]; exact small28_no (by omega))) (.nil) rfl
 ·have h1 := c_leq_f g1
  refine k_no (d := 8) (j' := 6) rfl rfl rfl (g_tf rfl rfl rfl g1) ?_
  refine k_no (d := 9) (j' := 7) rfl rfl rfl (g_tf rfl rfl rfl g1) ?_
  refine k_no (d := 10) (j' := 8) rfl rfl rfl (g_tf rfl rfl rfl g1) ?_
  refine q0 11 162 9 rfl rfl (T_pick_f rfl rfl rfl g1) rfl ?_
  refine q0 12 178 10 rfl rfl (T_move rfl rfl) rfl ?_
  refine k_no (d := 13) (j' := 11) rfl rfl rfl (g_tf rfl rfl rfl rfl) ?_
  refine k_no (d := 14) (j' := 12) rfl rfl rfl (g_tf rfl rfl rfl rfl) ?_
  refine k_no (d := 15) (j' := 13) rfl rfl rfl (g_tf rfl rfl rfl rfl) ?_
  refine q0 16 242 14 rfl rfl (T_pick_f rfl rfl rfl rfl) rfl ?_
  refine q0 17 258 15 rfl rfl (T_move rfl rfl) rfl ?_
  refine k_no (d := 18) (j' := 16) rfl rfl rfl (g_tf rfl rfl rfl rfl) ?_
  refine k_no (d := 19) (j' := 17) rfl rfl rfl (g_tf rfl rfl rfl rfl) ?_
  refine q0 20 306 18 rfl rfl (T_pick_f rfl rfl rfl rfl) rfl ?_
  refine q0 2 322 19 rfl rfl (T_assign rfl rfl) rfl ?_
  refine k_done rfl ?_
  refine thenK_n ?_
  refine W_ret ?_
  exact .mk [] (.inr rfl) (.tmp rfl (.nil)) (by (simp only [resLV, LV.ren, LV.v.injEq, Value.bool.injEq]; exact small28_no (by omega))) (.nil) rfl
theorem body64 : (Try.prog.funcs[64]?).map (fun fn => (fn.name == "runtime.NumGoroutine" || fn.body.isNone)) = some false := by kernel_rfl
theorem rcheck28_spec (f : GFn) (li lo : List (List Bool)) (ps : List Int) (k : Int) (hF : LF f) (hb1 : li.length ≤ 1000000000000000) (hb2 : lo.length ≤ 1000000000000000) (hb : 0 < f.blocks.length) (hp : ps.length ≤ 1000000000) : Spec Try.prog 64 [.agg [.v (.int .i64 f.regs), .r 1], .agg [.r 2, .r 3], .agg [.r 4], .v (.int .i64 k)] 5 [(1, .fz 5 (f.blocks.map eBlock)), (2, .fz 1 (li.map eBs)), (3, .fz 1 (lo.map eBs)), (4, .fz 1 (ps.map eI))] (.v (.bool (rcheckP f li lo ps k))) 5 [] := by
 refine spec_of D (fn := Try.f64) rfl rfl (Nat.le_of_ble_eq_true rfl) ?_
 refine W_seq ?_
 refine W_seqK (b' := 69) rfl rfl ?_
 refine q1 4 5 1 rfl rfl (T_box rfl rfl flat_agg) rfl ?_
 refine q1 5 21 2 rfl rfl (T_box rfl rfl flat_agg) rfl ?_
 refine q1 6 37 3 rfl rfl (T_box rfl rfl flat_agg) rfl ?_
 refine q0 8 53 4 rfl rfl (T_assign rfl rfl) rfl ?_
 refine k_done rfl ?_
 refine thenK_n ?_
 refine W_seq ?_
 refine W_seq ?_
 refine W_anyK (b' := 405) rfl rfl rfl ?_
 refine q0 12 69 1 rfl rfl (T_load_bA D (l := [_, _]) rfl rfl rfl rfl rfl rfl rfl) rfl ?_
 refine q0 13 85 2 rfl rfl (T_load_bA D (l := [_, _]) rfl rfl rfl rfl rfl rfl rfl) rfl ?_
 refine q0 14 101 3 rfl rfl (T_callV (lvs := [_, _]) (L := [(1, 1), (2, 2), (3, 3)]) (rlcheck_spec f li lo hF hb1 hb2) body52 rfl rfl rfl rfl (.fz rfl (.fz rfl (.fz rfl (.nil)))) rfl) rfl ?_
 refine q0 15 117 4 rfl rfl (T_not rfl rfl) rfl ?_
 refine q0 16 133 5 rfl rfl (T_move rfl rfl) rfl ?_
 refine k_split (d := 16) rfl (fun g1 => ?_) (fun g1 => ?_)
 ·have h1 := g1; (try simp only [cmpB, decide_eq_true_eq, decide_eq_false_iff_not, beq_iff_eq, beq_eq_false_iff_ne, bne_iff_ne, ne_eq, bne_eq_false_iff_eq, Bool.not_eq_true', Bool.not_eq_false', Int.not_lt, Int.not_le] at h1)
  refine k_no (d := 17) (j' := 6) rfl rfl rfl (g_ft rfl rfl rfl g1) ?_
  refine k_no (d := 18) (j' := 7) rfl rfl rfl (g_ft rfl rfl rfl g1) ?_
  refine k_no (d := 19) (j' := 8) rfl rfl rfl (g_ft rfl rfl rfl g1) ?_
  refine k_no (d := 20) (j' := 9) rfl rfl rfl (g_ft rfl rfl rfl g1) ?_
  refine k_no (d := 21) (j' := 10) rfl rfl rfl (g_ft rfl rfl rfl g1) ?_
  refine k_no (d := 22) (j' := 11) rfl rfl rfl (g_ft rfl rfl rfl g1) ?_
  refine q0 23 245 12 rfl rfl (T_pick_t rfl rfl rfl g1) rfl ?_
  refine q0 24 261 13 rfl rfl (T_move rfl rfl) rfl ?_
  refine k_no (d := 25) (j' := 14) rfl rfl rfl (g_ft rfl rfl rfl rfl) ?_
  refine k_no (d := 26) (j' := 15) rfl rfl rfl (g_ft rfl rfl rfl rfl) ?_
  refine k_no (d := 27) (j' := 16) rfl rfl rfl (g_ft rfl rfl rfl rfl) ?_
  refine k_no (d := 28) (j' := 17) rfl rfl rfl (g_ft rfl rfl rfl rfl) ?_
  refine k_no (d := 29) (j' := 18) rfl rfl rfl (g_ft rfl rfl rfl rfl) ?_
  refine k_no (d := 30) (j' := 19) rfl rfl rfl (g_ft rfl rfl rfl rfl) ?_
  refine k_no (d := 31) (j' := 20) rfl rfl rfl (g_ft rfl rfl rfl rfl) ?_
  refine q0 32 389 21 rfl rfl (T_pick_t rfl rfl rfl rfl) rfl ?_
  refine k_done rfl ?_
  refine ⟨rfl, ?_⟩
  refine thenK_n ?_
  refine W_cond rfl (fun g2 => ?_) (fun g2 => ?_)
  ·skip
   refine W_seq ?_
   refine W_seqK (b' := 421) rfl rfl ?_
   refine q0 8 405 1 rfl rfl (T_assign rfl rfl) rfl ?_
   refine k_done rfl ?_
   refine thenK_n ?_
   refine W_ret ?_
   refine thenK_r ?_
   exact .mk [] (.inr rfl) (.tmp rfl (.nil)) (by (simp only [resLV, LV.ren, LV.v.injEq, Value.bool.injEq]; exact rck_no1 (by assumption))) (.nil) rfl
  ·exact absurd (g2.symm.trans rfl) (by decide)
 ·have h1 := g1; (try simp only [cmpB, decide_eq_true_eq, decide_eq_false_iff_not, beq_iff_eq, beq_eq_false_iff_ne, bne_iff_ne, ne_eq, bne_eq_false_iff_eq, Bool.not_eq_true', Bool.not_eq_false', Int.not_lt, Int.not_le] at h1)
  refine k_op0 (d := 17) (b := 149) (j' := 6) rfl rfl rfl rfl (g_ff rfl rfl rfl g1) (T_load_bA D (l := [_]) rfl rfl rfl rfl rfl rfl rfl) rfl ?_
  refine k_op0 (d := 18) (b := 165) (j' := 7) rfl rfl rfl rfl (g_ff rfl rfl rfl g1) (T_fa D (m := 0) rfl rfl rfl rfl rfl rfl) rfl ?_
  refine k_op0 (d := 19) (b := 181) (j' := 8) rfl rfl rfl rfl (g_ff rfl rfl rfl g1) (T_load_b D rfl rfl rfl rfl rfl rfl) rfl ?_
  refine k_op0 (d := 20) (b := 197) (j' := 9) rfl rfl rfl rfl (g_ff rfl rfl rfl g1) (T_move rfl rfl) rfl ?_
  refine k_op0 (d := 21) (b := 213) (j' := 10) rfl rfl rfl rfl (g_ff rfl rfl rfl g1) (T_callV (lvs := [_, _, _]) (L := [(1, 4)]) (places_spec ps f.regs k hp) body108 rfl rfl rfl rfl (.fz rfl (.nil)) rfl) rfl ?_
  refine k_op0 (d := 22) (b := 229) (j' := 11) rfl rfl rfl rfl (g_ff rfl rfl rfl g1) (T_not rfl rfl) rfl ?_
  refine q0 23 245 12 rfl rfl (T_pick_f rfl rfl rfl g1) rfl ?_
  refine q0 24 261 13 rfl rfl (T_move rfl rfl) rfl ?_
  refine k_split (d := 24) rfl (fun g3 => ?_) (fun g3 => ?_)
  ·have h3 := g3; (try simp only [cmpB, decide_eq_true_eq, decide_eq_false_iff_not, beq_iff_eq, beq_eq_false_iff_ne, bne_iff_ne, ne_eq, bne_eq_false_iff_eq, Bool.not_eq_true', Bool.not_eq_false', Int.not_lt, Int.not_le] at h3)
   refine k_no (d := 25) (j' := 14) rfl rfl rfl (g_ft rfl rfl rfl g3) ?_
   refine k_no (d := 26) (j' := 15) rfl rfl rfl (g_ft rfl rfl rfl g3) ?_
   refine k_no (d := 27) (j' := 16) rfl rfl rfl (g_ft rfl rfl rfl g3) ?_
   refine k_no (d := 28) (j' := 17) rfl rfl rfl (g_ft rfl rfl rfl g3) ?_
   refine k_no (d := 29) (j' := 18) rfl rfl rfl (g_ft rfl rfl rfl g3) ?_
   refine k_no (d := 30) (j' := 19) rfl rfl rfl (g_ft rfl rfl rfl g3) ?_
   refine k_no (d := 31) (j' := 20) rfl rfl rfl (g_ft rfl rfl rfl g3) ?_
   refine q0 32 389 21 rfl rfl (T_pick_t rfl rfl rfl g3) rfl ?_
   refine k_done rfl ?_
   refine ⟨rfl, ?_⟩
   refine thenK_n ?_
   refine W_cond rfl (fun g4 => ?_) (fun g4 => ?_)
   ·skip
    refine W_seq ?_
    refine W_seqK (b' := 421) rfl rfl ?_
    refine q0 8 405 1 rfl rfl (T_assign rfl rfl) rfl ?_
    refine k_done rfl ?_
    refine thenK_n ?_
    refine W_ret ?_
    refine thenK_r ?_
    exact .mk [] (.inr rfl) (.tmp rfl (.nil)) (by (simp only [resLV, LV.ren, LV.v.injEq, Value.bool.injEq]; exact rck_no2 (by assumption))) (.nil) rfl
   ·exact absurd (g4.symm.trans rfl) (by decide)
  ·have h3 := g3; (try simp only [cmpB, decide_eq_true_eq, decide_eq_false_iff_not, beq_iff_eq, beq_eq_false_iff_ne, bne_iff_ne, ne_eq, bne_eq_false_iff_eq, Bool.not_eq_true', Bool.not_eq_false', Int.not_lt, Int.not_le] at h3)
   refine k_op0 (d := 25) (b := 277) (j' := 14) rfl rfl rfl rfl (g_ff rfl rfl rfl g3) (T_load_bA D (l := [_]) rfl rfl rfl rfl rfl rfl rfl) rfl ?_
   refine k_op0 (d := 26) (b := 293) (j' := 15) rfl rfl rfl rfl (g_ff rfl rfl rfl g3) (T_fa D (m := 0) rfl rfl rfl rfl rfl rfl) rfl ?_
   refine k_op0 (d := 27) (b := 309) (j' := 16) rfl rfl rfl rfl (g_ff rfl rfl rfl g3) (T_load_b D rfl rfl rfl rfl rfl rfl) rfl ?_
   refine k_op0 (d := 28) (b := 325) (j' := 17) rfl rfl rfl rfl (g_ff rfl rfl rfl g3) (T_indexAddrZ D rfl rfl rfl rfl rfl rfl rfl rfl (by omega) (by (have q := (closed_iff (by assumption : checkL f li lo = true)).1.len; omega))) rfl ?_
   refine k_op1 (d := 29) (b := 341) (j' := 18) rfl rfl rfl rfl (g_ff rfl rfl rfl g3) (T_ldE D (lv := .r 341) (nn := 1) (upd := [(341, .fz 1 _)]) rfl rfl rfl rfl rfl (by (have q := (closed_iff (by assumption : checkL f li lo = true)).1.len; omega)) rfl rfl rfl rfl) rfl ?_
   refine k_op0 (d := 30) (b := 357) (j' := 19) rfl rfl rfl rfl (g_ff rfl rfl rfl g3) (T_callV (lvs := [_, _]) (L := [(1, 4), (2, 341)]) (apart_spec ps (li.getD 0 default) (by have q := (closed_iff (by assumption : checkL f li lo = true)).1.at (k := 0) hb; have q2 := places_len (by assumption : placesP ps f.regs k = true); have q3 := hF.regs; omega) hp) body109 rfl rfl rfl rfl (.fz rfl (.fz rfl (.nil))) rfl) rfl ?_
   refine k_op0 (d := 31) (b := 373) (j' := 20) rfl rfl rfl rfl (g_ff rfl rfl rfl g3) (T_not rfl rfl) rfl ?_
   refine q0 32 389 21 rfl rfl (T_pick_f rfl rfl rfl g3) rfl ?_
   refine k_done rfl ?_
   refine ⟨rfl, ?_⟩
   refine thenK_n ?_
   refine W_cond rfl (fun g5 => ?_) (fun g5 => ?_)
   ·have h5 := g5; (try simp only [cmpB, decide_eq_true_eq, decide_eq_false_iff_not, beq_iff_eq, beq_eq_false_iff_ne, bne_iff_ne, ne_eq, bne_eq_false_iff_eq, Bool.not_eq_true', Bool.not_eq_false', Int.not_lt, Int.not_le] at h5)
    refine W_seq ?_
    refine W_seqK (b' := 421) rfl rfl ?_
    refine q0 8 405 1 rfl rfl (T_assign rfl rfl) rfl ?_
    refine k_done rfl ?_
    refine thenK_n ?_
    refine W_ret ?_
    refine thenK_r ?_
    exact .mk [] (.inr rfl) (.tmp rfl (.nil)) (by (simp only [resLV, LV.ren, LV.v.injEq, Value.bool.injEq]; exact rck_no3 (by assumption))) (.nil) rfl
   ·have h5 := g5; (try simp only [cmpB, decide_eq_true_eq, decide_eq_false_iff_not, beq_iff_eq, beq_eq_false_iff_ne, bne_iff_ne, ne_eq, bne_eq_false_iff_eq, Bool.not_eq_true', Bool.not_eq_false', Int.not_lt, Int.not_le] at h5)
    refine W_skip ?_
    refine thenK_n ?_
    refine W_seq ?_
    refine W_seq ?_
    refine W_seqK (b' := 421) rfl rfl ?_
    refine q0 9 405 1 rfl rfl (T_assign rfl rfl) rfl ?_
    refine k_done rfl ?_
    refine thenK_n ?_
    refine W_block ?_
    have hC := closed_iff (by assumption : checkL f li lo = true)
    have hSo := hC.2.1
    have hFr := hF.regs
    have hFl := hF.len
    have hpl := places_len (by assumption : placesP ps f.regs k = true)
    refine W_loop (ι := Nat) 8 (fun j => ⟨[(4, .p 5 0), (5, .p 6 0), (6, .p 7 0), (9, .v (.int .i64 (j : Int)))], [(1, .fz 5 (f.blocks.map eBlock)), (2, .fz 1 (li.map eBs)), (3, .fz 1 (lo.map eBs)), (4, .fz 1 (ps.map eI)), (5, .box 29 [.v (.int .i64 f.regs), .r 1]), (6, .box 57 [.r 2, .r 3]), (7, .box 60 [.r 4])]⟩) (fun j => j ≤ f.blocks.length ∧ ∀ i, i < j → roneB (f.blocks.getD i default) (lo.getD i default) ps = true) (fun j => f.blocks.length - j) (0) (by exact ⟨Nat.zero_le _, fun i h => absurd h (Nat.not_lt_zero _)⟩) ?_ (fun j hJ => ?_)
    ·exact ⟨[(5, 5), (6, 21), (7, 37)], .same rfl rfl (.same rfl rfl (.same rfl rfl (.eq rfl (.nil) (by rfl)))), .fzE rfl (.fzE rfl (.fzE rfl (.fzE rfl (.box (by rfl) (.box (by rfl) (.box (by rfl) (.nil)))) (by rfl)) (by rfl)) (by rfl)) (by rfl), rfl⟩
    refine W_seq ?_
    refine W_seq ?_
    refine W_seqK (b' := 88) rfl rfl ?_
    refine q0 33 8 1 rfl rfl (T_move rfl rfl) rfl ?_
    refine q0 34 24 2 rfl rfl (T_fa D (m := 1) rfl rfl rfl rfl rfl rfl) rfl ?_
    refine q0 35 40 3 rfl rfl (T_load_b D rfl rfl rfl rfl rfl rfl) rfl ?_
    refine q0 36 56 4 rfl rfl (T_len D rfl rfl rfl rfl rfl rfl) rfl ?_
    refine q0 37 72 5 rfl rfl (T_cmp rfl rfl rfl rfl) rfl ?_
    refine k_done rfl ?_
    refine thenK_n ?_
    refine W_cond rfl (fun g6 => ?_) (fun g6 => ?_)
    ·have h6 := c_lss_t g6
     refine W_skip ?_
     refine thenK_n ?_
     refine W_seq ?_
     refine W_block ?_
     refine W_seq ?_
     refine W_seqK (b' := 168) rfl rfl ?_
     refine q0 40 88 1 rfl rfl (T_load_bA D (l := [_, _]) rfl rfl rfl rfl rfl rfl rfl) rfl ?_
     refine q0 41 104 2 rfl rfl (T_load_bA D (l := [_, _]) rfl rfl rfl rfl rfl rfl rfl) rfl ?_
     refine q0 42 120 3 rfl rfl (T_move rfl rfl) rfl ?_
     refine q1 43 136 4 rfl rfl (T_call (lvs := [_, _, _]) (L := [(1, 1), (2, 2), (3, 3)]) (lv := .r 136) (upd := [(136, .fz 1 _)]) (nn := 1) false (rbeh_spec f li lo (j : Int) hF ⟨by omega, by omega⟩ hSo) body59 rfl rfl rfl rfl (.fz rfl (.fz rfl (.fz rfl (.nil)))) rfl (.inl rfl) rfl rfl rfl) rfl ?_
     refine q0 10 152 5 rfl rfl (T_assign rfl rfl) rfl ?_
     refine k_done rfl ?_
     refine thenK_n ?_
     refine W_seq ?_
     refine W_seqK (b' := 184) rfl rfl ?_
     refine q0 11 168 1 rfl rfl (T_assign rfl rfl) rfl ?_
     refine k_done rfl ?_
     refine thenK_n ?_
     refine W_block ?_
     have hjb : j < f.blocks.length := by omega
     have hins := hF.ins _ (getD_mem hjb)
     have hoj := hSo.at hjb
     have hbl := behL_len (f.blocks.getD j default) (lo.getD j default)
     refine W_loop (ι := Nat) 9 (fun m => ⟨[(4, .p 5 0), (5, .p 6 0), (6, .p 7 0), (9, .v (.int .i64 (j : Int))), (10, .r 8), (11, .v (.int .i64 (m : Int)))], [(1, .fz 5 (f.blocks.map eBlock)), (2, .fz 1 (li.map eBs)), (3, .fz 1 (lo.map eBs)), (4, .fz 1 (ps.map eI)), (5, .box 29 [.v (.int .i64 f.regs), .r 1]), (6, .box 57 [.r 2, .r 3]), (7, .box 60 [.r 4]), (8, .fz 1 ((behL (f.blocks.getD j default) (lo.getD j default)).map eBs))]⟩) (fun m => m ≤ (f.blocks.getD j default).ins.length ∧ ∀ q, q < m → rone ((f.blocks.getD j default).ins.getD q default) ps ((behL (f.blocks.getD j default) (lo.getD j default)).getD q default) = true) (fun m => (f.blocks.getD j default).ins.length - m) (0) (by exact ⟨Nat.zero_le _, fun i h => absurd h (Nat.not_lt_zero _)⟩) ?_ (fun m hM => ?_)
     ·exact ⟨[(5, 5), (6, 6), (7, 7), (8, 136)], .same rfl rfl (.same rfl rfl (.same rfl rfl (.eq rfl (.same rfl rfl (.eq rfl (.nil) (by rfl))) (by rfl)))), .fzE rfl (.fzE rfl (.fzE rfl (.fzE rfl (.box (by rfl) (.box (by rfl) (.box (by rfl) (.fzE rfl (.nil) (by rfl))))) (by rfl)) (by rfl)) (by rfl)) (by rfl), rfl⟩
     have hbd : m < (f.blocks.getD j default).ins.length → ((behL (f.blocks.getD j default) (lo.getD j default)).getD m default).length = f.regs.toNat := fun h => by rw [behL_getD _ _ h, thrK_len]; exact hoj
     have hdd : m < (f.blocks.getD j default).ins.length → 0 ≤ setsT ((f.blocks.getD j default).ins.getD m default) → setsT ((f.blocks.getD j default).ins.getD m default) < (ps.length : Int) := fun h h0 => by have q := ((hF.ok _ (getD_mem hjb)).1 _ (getD_mem h)).1 h0; omega
     refine W_seq ?_
     refine W_seq ?_
     refine W_seqK (b' := 153) rfl rfl ?_
     refine q0 44 9 1 rfl rfl (T_move rfl rfl) rfl ?_
     refine q0 45 25 2 rfl rfl (T_fa D (m := 1) rfl rfl rfl rfl rfl rfl) rfl ?_
     refine q0 46 41 3 rfl rfl (T_load_b D rfl rfl rfl rfl rfl rfl) rfl ?_
     refine q0 47 57 4 rfl rfl (T_move rfl rfl) rfl ?_
     refine q0 48 73 5 rfl rfl (T_indexAddr D rfl rfl rfl rfl rfl rfl rfl rfl (by assumption)) rfl ?_
     refine q0 49 89 6 rfl rfl (T_fae D (m := 0) rfl rfl rfl rfl rfl rfl) rfl ?_
     refine q1 50 105 7 rfl rfl (T_ldE D (lv := .r 105) (nn := 1) (upd := [(105, .fz 8 _)]) rfl rfl rfl rfl rfl (by assumption) rfl rfl rfl rfl) rfl ?_
     refine q0 51 121 8 rfl rfl (T_len D rfl rfl rfl rfl rfl rfl) rfl ?_
     refine q0 52 137 9 rfl rfl (T_cmp rfl rfl rfl rfl) rfl ?_
     refine k_done rfl ?_
     refine thenK_n ?_
     refine W_cond rfl (fun g7 => ?_) (fun g7 => ?_)
     ·have h7 := c_lss_t g7
      refine W_skip ?_
      refine thenK_n ?_
      refine W_seq ?_
      refine W_block ?_
      refine W_seq ?_
      refine W_anyK (b' := 409) rfl rfl rfl ?_
      refine q0 55 153 1 rfl rfl (T_fa D (m := 1) rfl rfl rfl rfl rfl rfl) rfl ?_
      refine q0 56 169 2 rfl rfl (T_load_b D rfl rfl rfl rfl rfl rfl) rfl ?_
      refine q0 57 185 3 rfl rfl (T_move rfl rfl) rfl ?_
      refine q0 58 201 4 rfl rfl (T_indexAddr D rfl rfl rfl rfl rfl rfl rfl rfl (by assumption)) rfl ?_
      refine q0 59 217 5 rfl rfl (T_fae D (m := 0) rfl rfl rfl rfl rfl rfl) rfl ?_
      refine q1 60 233 6 rfl rfl (T_ldE D (lv := .r 233) (nn := 1) (upd := [(233, .fz 8 _)]) rfl rfl rfl rfl rfl (by assumption) rfl rfl rfl rfl) rfl ?_
      refine q0 61 249 7 rfl rfl (T_move rfl rfl) rfl ?_
      refine q0 62 265 8 rfl rfl (T_indexAddr D rfl rfl rfl rfl rfl rfl rfl rfl (by omega)) rfl ?_
      refine q0 63 281 9 rfl rfl (T_ldEA D (l := [.v _, .v _, .v _, .v _, .v _, .v _, .v _, .v _]) (nn := 0) (upd := []) rfl rfl rfl rfl rfl (by omega) rfl rfl rfl rfl rfl) rfl ?_
      refine q0 64 297 10 rfl rfl (T_load_bA D (l := [_]) rfl rfl rfl rfl rfl rfl rfl) rfl ?_
      refine q0 65 313 11 rfl rfl (T_move rfl rfl) rfl ?_
      refine q0 66 329 12 rfl rfl (T_move rfl rfl) rfl ?_
      refine q0 67 345 13 rfl rfl (T_indexAddr D rfl rfl rfl rfl rfl rfl rfl rfl (by omega)) rfl ?_
      refine q1 68 361 14 rfl rfl (T_ldE D (lv := .r 361) (nn := 1) (upd := [(361, .fz 1 _)]) rfl rfl rfl rfl rfl (by omega) rfl rfl rfl rfl) rfl ?_
      refine q0 69 377 15 rfl rfl (T_callV (lvs := [_, _, _]) (L := [(1, 4), (2, 361)]) (rone_spec ((f.blocks.getD j default).ins.getD m default) ps ((behL (f.blocks.getD j default) (lo.getD j default)).getD m default) (by have q := hbd (by omega); omega) hp (hdd (by omega))) body110 rfl rfl rfl rfl (.fz rfl (.fz rfl (.nil))) rfl) rfl ?_
      refine q0 70 393 16 rfl rfl (T_not rfl rfl) rfl ?_
      refine k_done rfl ?_
      refine ⟨rfl, ?_⟩
      refine thenK_n ?_
      refine W_cond rfl (fun g8 => ?_) (fun g8 => ?_)
      ·have h8 := g8; (try simp only [cmpB, decide_eq_true_eq, decide_eq_false_iff_not, beq_iff_eq, beq_eq_false_iff_ne, bne_iff_ne, ne_eq, bne_eq_false_iff_eq, Bool.not_eq_true', Bool.not_eq_false', Int.not_lt, Int.not_le] at h8)
       refine W_seq ?_
       refine W_seqK (b' := 425) rfl rfl ?_
       refine q0 8 409 1 rfl rfl (T_assign rfl rfl) rfl ?_
       refine k_done rfl ?_
       refine thenK_n ?_
       refine W_ret ?_
       refine blockK_r ?_
       refine thenK_r ?_
       refine thenK_r ?_
       refine blockK_r ?_
       refine blockK_r ?_
       refine thenK_r ?_
       refine thenK_r ?_
       refine blockK_r ?_
       refine thenK_r ?_
       exact .mk [] (.inr rfl) (.tmp rfl (.nil)) (by (simp only [resLV, LV.ren, LV.v.injEq, Value.bool.injEq]; exact rck_no4 (b := j) (i := m) (by omega) (by omega) (by assumption))) (.nil) rfl
      ·have h8 := g8; (try simp only [cmpB, decide_eq_true_eq, decide_eq_false_iff_not, beq_iff_eq, beq_eq_false_iff_ne, bne_iff_ne, ne_eq, bne_eq_false_iff_eq, Bool.not_eq_true', Bool.not_eq_false', Int.not_lt, Int.not_le] at h8)
       refine W_skip ?_
       refine blockK_n ?_
       refine thenK_n ?_
       refine W_seqK (b' := 457) rfl rfl ?_
       refine q0 53 409 1 rfl rfl (T_move rfl rfl) rfl ?_
       refine q0 54 425 2 rfl rfl (T_add64 rfl rfl rfl (by omega)) rfl ?_
       refine q0 11 441 3 rfl rfl (T_assign rfl rfl) rfl ?_
       refine k_done rfl ?_
       refine thenK_n ?_
       refine ⟨m + 1, by (try dsimp only); exact ⟨by omega, fun q hq => by rcases Nat.lt_or_ge q m with h | h; exact hM.2 q h; rw [show q = m by omega]; assumption⟩, by (try dsimp only); omega, ?_⟩
       exact ⟨[(5, 5), (6, 6), (7, 7), (8, 8)], .same rfl rfl (.same rfl rfl (.same rfl rfl (.eq rfl (.same rfl rfl (.eq rfl (.nil) (by rfl))) rfl))), .fzE rfl (.fzE rfl (.fzE rfl (.fzE rfl (.box (by rfl) (.box (by rfl) (.box (by rfl) (.fzE rfl (.nil) rfl)))) rfl) rfl) rfl) rfl, rfl⟩
     ·have h7 := c_lss_f g7
      refine W_exit ?_
      refine thenK_e ?_
      refine thenK_e ?_
      refine blockK_hit ?_
      refine blockK_n ?_
      refine thenK_n ?_
      refine W_seqK (b' := 201) rfl rfl ?_
      refine q0 38 153 1 rfl rfl (T_move rfl rfl) rfl ?_
      refine q0 39 169 2 rfl rfl (T_add64 rfl rfl rfl (by omega)) rfl ?_
      refine q0 9 185 3 rfl rfl (T_assign rfl rfl) rfl ?_
      refine k_done rfl ?_
      refine thenK_n ?_
      refine ⟨j + 1, by (try dsimp only); exact ⟨by omega, fun i hi => by rcases Nat.lt_or_ge i j with h | h; exact hJ.2 i h; rw [show i = j by omega]; exact all_yes (fun q hq => hM.2 q (by omega))⟩, by (try dsimp only); omega, ?_⟩
      exact ⟨[(5, 5), (6, 6), (7, 7)], .same rfl rfl (.same rfl rfl (.same rfl rfl (.eq rfl (.nil) (by rfl)))), .fzE rfl (.fzE rfl (.fzE rfl (.fzE rfl (.box (by rfl) (.box (by rfl) (.box (by rfl) (.nil)))) rfl) rfl) rfl) rfl, rfl⟩
    ·have h6 := c_lss_f g6
     refine W_exit ?_
     refine thenK_e ?_
     refine thenK_e ?_
     refine blockK_hit ?_
     refine thenK_n ?_
     refine W_seq ?_
     refine W_seqK (b' := 104) rfl rfl ?_
     refine q0 8 88 1 rfl rfl (T_assign rfl rfl) rfl ?_
     refine k_done rfl ?_
     refine thenK_n ?_
     refine W_ret ?_
     exact .mk [] (.inr rfl) (.tmp rfl (.nil)) (by (simp only [resLV, LV.ren, LV.v.injEq, Value.bool.injEq]; exact rck_yes (by assumption) (by assumption) (by assumption) (fun i h => hJ.2 i (by omega)))) (.nil) rfl
end Lg
end Go.Proofs.Ytpfhmodjjljpjaa

namespace Go.Proofs.Ytpfhmodjjljpjaa
open Go.RowKit
namespace Lg
set_option linter.unusedSimpArgs false
set_option linter.unusedVariables false
def regAt (m : List (Int × Int)) (ps : List Int) (r : Int) : Nat → Int
  | 0 => 0
  | j + 1 => if regAt m ps r j = 0 then (if freeB m ps r ((j : Int) + 1) = true then (j : Int) + 1 else 0) else regAt m ps r j
def memAt (m : List (Int × Int)) (ps : List Int) (r : Int) : Nat → Int
  | 0 => 0
  | j + 1 => if memAt m ps r j = 0 then (if freeB m ps r (-1 - (j : Int)) = true then -1 - (j : Int) else 0) else memAt m ps r j
def regOf (c : Cf) (ps : List Int) (k : Int) (r : Nat) : Int := if c.2.getD r default = true then 0 else regAt c.1 ps r k.toNat
def memOf (c : Cf) (ps : List Int) (k : Int) (r : Nat) (j : Nat) : Int := if regOf c ps k r = 0 then memAt c.1 ps r j else regOf c ps k r
def placeOne (c : Cf) (ps : List Int) (k : Int) (r : Nat) : Int := memOf c ps k r (ps.length + 1)
def ofJ (c : Cf) (k : Int) : Nat → List Int
  | 0 => []
  | r + 1 => ofJ c k r ++ [placeOne c (ofJ c k r) k r]
def allocP (f : GFn) (li lo : List (List Bool)) (k : Int) : List Int := ofJ (confl f li lo) k f.regs.toNat
theorem ofJ_len (c : Cf) (k : Int) : ∀ r, (ofJ c k r).length = r
  | 0 => rfl
  | r + 1 => by rw [ofJ, List.length_append, ofJ_len c k r]; rfl
section
variable {m : List (Int × Int)} {ps : List Int} {r k : Int} {c : Cf} {j n : Nat}
theorem regAt_t (h : regAt m ps r j = 0) (h2 : freeB m ps r ((j : Int) + 1) = true) : (j : Int) + 1 = regAt m ps r (j + 1) := by rw [regAt, if_pos h, if_pos h2]
theorem regAt_f (h : regAt m ps r j = 0) (h2 : freeB m ps r ((j : Int) + 1) = false) : regAt m ps r j = regAt m ps r (j + 1) := by rw [regAt, if_pos h, if_neg (by rw [h2]; decide), h]
theorem regAt_stay (h : regAt m ps r j ≠ 0) : ∀ d, regAt m ps r (j + d) = regAt m ps r j
  | 0 => rfl
  | d + 1 => by
    have ih := regAt_stay h d
    rw [← Nat.add_assoc, regAt, ih, if_neg h]
theorem regOf_of {q : Nat} (hj : j = 0 ∨ (j : Int) ≤ k) (hb : 0 < j → c.2.getD q default = false) (h : (j : Int) + 1 > k ∨ ¬ regAt c.1 ps q j = 0 ∨ c.2.getD q default = true) : regAt c.1 ps q j = regOf c ps k q := by
  unfold regOf
  by_cases hc : c.2.getD q default = true
  · rw [if_pos hc]
    rcases Nat.eq_zero_or_pos j with h0 | h0
    · subst h0; rfl
    · rw [hb h0] at hc; cases hc
  · rw [if_neg hc]
    rcases h with h | h | h
    · have : k.toNat = j := by omega
      rw [this]
    · have h0 : 0 < j := by
        rcases Nat.eq_zero_or_pos j with h0 | h0
        · subst h0; exact absurd rfl h
        · exact h0
      have : k.toNat = j + (k.toNat - j) := by omega
      rw [this, regAt_stay h]
    · exact absurd h hc
theorem memAt_stay (h : memAt m ps r j ≠ 0) : ∀ d, memAt m ps r (j + d) = memAt m ps r j
  | 0 => rfl
  | d + 1 => by
    have ih := memAt_stay h d
    rw [← Nat.add_assoc, memAt, ih, if_neg h]
theorem free_out {x : Int} (h : x ∉ ps) : freeB m ps r x = true := (free_yes (fun i hi => by
  rw [decide_eq_false (fun e => h (by rw [← e]; exact getD_mem hi))]; rfl)).symm
theorem all_in_len : ∀ (n : Nat) (l : List Int), (∀ j : Nat, j < n → (-1 - (j : Int)) ∈ l) → n ≤ l.length
  | 0, l, _ => Nat.zero_le _
  | n + 1, l, h => by
    have h1 : (-1 - (n : Int)) ∈ l := h n (by omega)
    have h2 := all_in_len n (l.erase (-1 - (n : Int))) (fun j hj => (List.mem_erase_of_ne (by omega)).2 (h j (by omega)))
    have h3 := List.length_erase_of_mem h1
    have h4 := List.length_pos_of_mem h1
    omega
theorem memAt_hit (h : freeB m ps r (-1 - (j : Int)) = true) : memAt m ps r (j + 1) ≠ 0 := by
  rw [memAt]
  by_cases h0 : memAt m ps r j = 0
  · rw [if_pos h0, if_pos h]; omega
  · rw [if_neg h0]; exact h0
theorem memAt_end (ps : List Int) : memAt m ps r (ps.length + 1) ≠ 0 := by
  by_cases h : ∀ j : Nat, j < ps.length + 1 → (-1 - (j : Int)) ∈ ps
  · have := all_in_len _ ps h; omega
  · obtain ⟨j, hj⟩ := Classical.not_forall.1 h
    obtain ⟨h1, h2⟩ := Classical.not_imp.1 hj
    have h3 := memAt_hit (free_out (m := m) (r := r) h2)
    have h4 := memAt_stay h3 (ps.length - j)
    rw [show j + 1 + (ps.length - j) = ps.length + 1 by omega] at h4
    rw [h4]; exact h3
theorem memOf_end {q : Nat} : memOf c ps k q (ps.length + 1) ≠ 0 := by
  unfold memOf
  split
  · exact memAt_end ps
  · assumption
theorem memOf_zero {q : Nat} : regOf c ps k q = memOf c ps k q 0 := by
  unfold memOf
  split
  · rename_i h; rw [h]; rfl
  · rfl
theorem memOf_lt {q : Nat} (h : memOf c ps k q j = 0) (hj : j ≤ ps.length + 1) : j + 1 ≤ ps.length + 1 := by
  rcases Nat.lt_or_ge j (ps.length + 1) with h1 | h1
  · omega
  · have : j = ps.length + 1 := by omega
    subst this
    exact absurd h memOf_end
theorem memOf_parts {q : Nat} (h : memOf c ps k q j = 0) : regOf c ps k q = 0 ∧ memAt c.1 ps q j = 0 := by
  unfold memOf at h
  split at h
  · exact ⟨by assumption, h⟩
  · exact absurd h (by assumption)
theorem memOf_t {q : Nat} (h : memOf c ps k q j = 0) (h2 : freeB c.1 ps q (-1 - (j : Int)) = true) : -1 - (j : Int) = memOf c ps k q (j + 1) := by
  obtain ⟨h3, h4⟩ := memOf_parts h
  unfold memOf; rw [if_pos h3, memAt, if_pos h4, if_pos h2]
theorem memOf_f {q : Nat} (h : memOf c ps k q j = 0) (h2 : freeB c.1 ps q (-1 - (j : Int)) = false) : memOf c ps k q j = memOf c ps k q (j + 1) := by
  obtain ⟨h3, h4⟩ := memOf_parts h
  rw [h]
  unfold memOf; rw [if_pos h3, memAt, if_pos h4, if_neg (by rw [h2]; decide)]
theorem memOf_fin {q : Nat} (h : ¬ memOf c ps k q j = 0) (hj : j ≤ ps.length + 1) : memOf c ps k q j = placeOne c ps k q := by
  unfold placeOne
  unfold memOf at h ⊢
  split
  · rename_i h1
    rw [if_pos h1] at h
    have := memAt_stay h (ps.length + 1 - j)
    rw [show j + (ps.length + 1 - j) = ps.length + 1 by omega] at this
    exact this.symm
  · rfl
end
end Lg
end Go.Proofs.Ytpfhmodjjljpjaa

namespace Go.Proofs.Ytpfhmodjjljpjaa
open Go.RowKit
namespace Lg
set_option maxRecDepth 100000
set_option linter.unusedVariables false
set_option linter.unusedSimpArgs false
theorem body43 : (Try.prog.funcs[43]?).map (fun fn => (fn.name == "runtime.NumGoroutine" || fn.body.isNone)) = some false := by kernel_rfl
theorem allocOf_spec (f : GFn) (li lo : List (List Bool)) (k : Int) (hF : LF f) (hi : SzL f li) (ho : SzL f lo) (hb : 0 < f.blocks.length) (hk : k ≤ 1000000) : Spec Try.prog 43 [.agg [.v (.int .i64 f.regs), .r 1], .agg [.r 2, .r 3], .v (.int .i64 k)] 4 [(1, .fz 5 (f.blocks.map eBlock)), (2, .fz 1 (li.map eBs)), (3, .fz 1 (lo.map eBs))] (.agg [.r 4]) 5 [(4, .row 3 1 ((allocP f li lo k).map eI))] := by
 have hFr := hF.regs
 have hcl : (confl f li lo).2.length = f.regs.toNat := ofC_len f li lo _
 refine spec_of D (fn := Try.f43) rfl rfl (Nat.le_of_ble_eq_true rfl) ?_
 refine W_seq ?_
 refine W_seqK (b' := 52) rfl rfl ?_
 refine q1 3 4 1 rfl rfl (T_box rfl rfl flat_agg) rfl ?_
 refine q1 4 20 2 rfl rfl (T_box rfl rfl flat_agg) rfl ?_
 refine qn 6 36 3 rfl rfl (T_nilbox [(3, 1)] (T_alloc D rfl rfl rfl) rfl (.cons (.nil rfl) <| .nil) (upd' := [(36, .box 60 [.r 37]), (37, .row 3 1 (List.map eI ([] : List (Int))))]) (nn' := 2) rfl rfl) rfl ?_
 refine k_done rfl ?_
 refine thenK_n ?_
 refine W_seq ?_
 refine W_seqK (b' := 116) rfl rfl ?_
 refine q0 13 52 1 rfl rfl (T_load_bA D (l := [_, _]) rfl rfl rfl rfl rfl rfl rfl) rfl ?_
 refine q0 14 68 2 rfl rfl (T_load_bA D (l := [_, _]) rfl rfl rfl rfl rfl rfl rfl) rfl ?_
 refine qn 15 84 3 rfl rfl (T_call (lvs := [_, _]) (L := [(1, 1), (2, 2), (3, 3)]) (lv := .p 84 0) (upd := [(84, .box 117 [.r 85, .r 86]), (85, .map _), (86, .row 4 1 _)]) (nn := 3) false (of28_spec f li lo hF hi ho hb) body82 rfl rfl rfl rfl (.fz rfl (.fz rfl (.fz rfl (.nil)))) rfl (.inl rfl) rfl rfl rfl) rfl ?_
 refine q0 7 100 4 rfl rfl (T_assign rfl rfl) rfl ?_
 refine k_done rfl ?_
 refine thenK_n ?_
 refine W_seq ?_
 refine W_seqK (b' := 132) rfl rfl ?_
 refine qn 8 116 1 rfl rfl (T_nilbox [(3, 1)] (T_alloc D rfl rfl rfl) rfl (.cons (.nil rfl) <| .nil) (upd' := [(116, .box 60 [.r 117]), (117, .row 3 1 (List.map eI ([] : List (Int))))]) (nn' := 2) rfl rfl) rfl ?_
 refine k_done rfl ?_
 refine thenK_n ?_
 refine W_seq ?_
 refine W_seq ?_
 refine W_seqK (b' := 180) rfl rfl ?_
 refine q0 16 132 1 rfl rfl (T_fa D (m := 0) rfl rfl rfl rfl rfl rfl) rfl ?_
 refine q0 17 148 2 rfl rfl (T_load_b D rfl rfl rfl rfl rfl rfl) rfl ?_
 refine q0 18 164 3 rfl rfl (T_move rfl rfl) rfl ?_
 refine k_done rfl ?_
 refine thenK_n ?_
 refine W_block ?_
 refine W_loop (ι := Nat) 11 (fun r => ⟨[(2, .v (.int .i64 k)), (6, .p 4 0), (7, .p 6 0), (8, .p 9 0), (17, .v (.int .i64 f.regs)), (18, .v (.int .i64 (r : Int)))], [(1, .fz 5 (f.blocks.map eBlock)), (2, .fz 1 (li.map eBs)), (3, .fz 1 (lo.map eBs)), (4, .box 60 [.r 5]), (5, .row 3 1 (([] : List Int).map eI)), (6, .box 117 [.r 7, .r 8]), (7, .map ((confl f li lo).1)), (8, .row 4 1 ((confl f li lo).2.map eB)), (9, .box 60 [.r 10]), (10, .row 3 1 ((ofJ (confl f li lo) k r).map eI))]⟩) (fun r => r ≤ f.regs.toNat) (fun r => f.regs.toNat - r) (0) (by exact Nat.zero_le _) ?_ (fun r hR => ?_)
 ·exact ⟨[(4, 36), (5, 37), (6, 84), (7, 85), (8, 86), (9, 116), (10, 117)], .eq rfl (.same rfl rfl (.same rfl rfl (.same rfl rfl (.eq rfl (.eq rfl (.nil) (by rfl)) (by rfl))))) (by rfl), .fzE rfl (.fzE rfl (.fzE rfl (.box (by rfl) (.rowE rfl (.box (by rfl) (.mapE rfl (.rowE rfl (.box (by rfl) (.rowE rfl (.nil) (by rfl))) (by rfl)) (by rfl))) (by rfl))) (by rfl)) (by rfl)) (by rfl), rfl⟩
 have hol := ofJ_len (confl f li lo) k r
 refine W_seq ?_
 refine W_seqK (b' := 27) rfl rfl ?_
 refine q0 19 11 1 rfl rfl (T_cmp rfl rfl rfl rfl) rfl ?_
 refine k_done rfl ?_
 refine thenK_n ?_
 refine W_seq ?_
 refine W_cond rfl (fun g1 => ?_) (fun g1 => ?_)
 ·have h1 := c_lss_t g1
  refine W_skip ?_
  refine thenK_n ?_
  refine W_seq ?_
  refine W_block ?_
  refine W_seq ?_
  refine W_seqK (b' := 59) rfl rfl ?_
  refine q0 20 27 1 rfl rfl (T_move rfl rfl) rfl ?_
  refine q0 9 43 2 rfl rfl (T_assign rfl rfl) rfl ?_
  refine k_done rfl ?_
  refine thenK_n ?_
  refine W_seq ?_
  refine W_seqK (b' := 75) rfl rfl ?_
  refine q0 10 59 1 rfl rfl (T_assign rfl rfl) rfl ?_
  refine k_done rfl ?_
  refine thenK_n ?_
  refine W_join (ι := Unit) 11 (fun _u => ⟨[(2, .v (.int .i64 k)), (6, .p 4 0), (7, .p 6 0), (8, .p 9 0), (9, .v (.int .i64 (r : Int))), (10, .v (.int .i64 (regOf (confl f li lo) (ofJ (confl f li lo) k r) k r))), (17, .v (.int .i64 f.regs)), (18, .v (.int .i64 (r : Int)))], [(1, .fz 5 (f.blocks.map eBlock)), (2, .fz 1 (li.map eBs)), (3, .fz 1 (lo.map eBs)), (4, .box 60 [.r 5]), (5, .row 3 1 (([] : List Int).map eI)), (6, .box 117 [.r 7, .r 8]), (7, .map ((confl f li lo).1)), (8, .row 4 1 ((confl f li lo).2.map eB)), (9, .box 60 [.r 10]), (10, .row 3 1 ((ofJ (confl f li lo) k r).map eI))]⟩) (fun _ => True) ?_ (fun _u hJ => ?_)
  ·skip
   refine W_seq ?_
   refine W_seqK (b' := 91) rfl rfl ?_
   refine q0 11 75 1 rfl rfl (T_assign rfl rfl) rfl ?_
   refine k_done rfl ?_
   refine thenK_n ?_
   refine W_block ?_
   refine W_loop (ι := Nat) 11 (fun j => ⟨[(2, .v (.int .i64 k)), (6, .p 4 0), (7, .p 6 0), (8, .p 9 0), (9, .v (.int .i64 (r : Int))), (10, .v (.int .i64 (regAt (confl f li lo).1 (ofJ (confl f li lo) k r) r j))), (11, .v (.int .i64 ((j : Int) + 1))), (17, .v (.int .i64 f.regs)), (18, .v (.int .i64 (r : Int)))], [(1, .fz 5 (f.blocks.map eBlock)), (2, .fz 1 (li.map eBs)), (3, .fz 1 (lo.map eBs)), (4, .box 60 [.r 5]), (5, .row 3 1 (([] : List Int).map eI)), (6, .box 117 [.r 7, .r 8]), (7, .map ((confl f li lo).1)), (8, .row 4 1 ((confl f li lo).2.map eB)), (9, .box 60 [.r 10]), (10, .row 3 1 ((ofJ (confl f li lo) k r).map eI))]⟩) (fun j => (j = 0 ∨ (j : Int) ≤ k) ∧ (0 < j → (confl f li lo).2.getD r default = false)) (fun j => k.toNat - j) (0) (by exact ⟨.inl rfl, fun h => absurd h (Nat.lt_irrefl _)⟩) ?_ (fun j hM => ?_)
   ·exact ⟨[(4, 4), (5, 5), (6, 6), (7, 7), (8, 8), (9, 9), (10, 10)], .eq rfl (.same rfl rfl (.same rfl rfl (.same rfl rfl (.eq rfl (.eq rfl (.eq rfl (.eq rfl (.eq rfl (.nil) (by rfl)) (by rfl)) (by rfl)) (by rfl)) (by rfl))))) (by rfl), .fzE rfl (.fzE rfl (.fzE rfl (.box (by rfl) (.rowE rfl (.box (by rfl) (.mapE rfl (.rowE rfl (.box (by rfl) (.rowE rfl (.nil) (by rfl))) (by rfl)) (by rfl))) (by rfl))) (by rfl)) (by rfl)) (by rfl), rfl⟩
   refine W_seq ?_
   refine W_seq ?_
   refine W_seqK (b' := 283) rfl rfl ?_
   refine q0 21 11 1 rfl rfl (T_move rfl rfl) rfl ?_
   refine q0 22 27 2 rfl rfl (T_move rfl rfl) rfl ?_
   refine q0 23 43 3 rfl rfl (T_cmp rfl rfl rfl rfl) rfl ?_
   refine q0 24 59 4 rfl rfl (T_move rfl rfl) rfl ?_
   refine k_split (d := 24) rfl (fun g2 => ?_) (fun g2 => ?_)
   ·have h2 := c_leq_t g2
    refine k_op0 (d := 25) (b := 75) (j' := 5) rfl rfl rfl rfl (g_tt rfl rfl rfl g2) (T_move rfl rfl) rfl ?_
    refine k_op0 (d := 26) (b := 91) (j' := 6) rfl rfl rfl rfl (g_tt rfl rfl rfl g2) (T_cmp rfl rfl rfl rfl) rfl ?_
    refine q0 27 107 7 rfl rfl (T_pick_t rfl rfl rfl g2) rfl ?_
    refine q0 28 123 8 rfl rfl (T_move rfl rfl) rfl ?_
    refine k_split (d := 28) rfl (fun g3 => ?_) (fun g3 => ?_)
    ·have h3 := c_eql_t g3
     refine k_op0 (d := 29) (b := 139) (j' := 9) rfl rfl rfl rfl (g_tt rfl rfl rfl g3) (T_move rfl rfl) rfl ?_
     refine k_op0 (d := 30) (b := 155) (j' := 10) rfl rfl rfl rfl (g_tt rfl rfl rfl g3) (T_nilCheck rfl rfl) rfl ?_
     refine k_op0 (d := 31) (b := 171) (j' := 11) rfl rfl rfl rfl (g_tt rfl rfl rfl g3) (T_fa D (m := 1) rfl rfl rfl rfl rfl rfl) rfl ?_
     refine k_op0 (d := 32) (b := 187) (j' := 12) rfl rfl rfl rfl (g_tt rfl rfl rfl g3) (T_load_b D rfl rfl rfl rfl rfl rfl) rfl ?_
     refine k_op0 (d := 33) (b := 203) (j' := 13) rfl rfl rfl rfl (g_tt rfl rfl rfl g3) (T_move rfl rfl) rfl ?_
     refine k_op0 (d := 34) (b := 219) (j' := 14) rfl rfl rfl rfl (g_tt rfl rfl rfl g3) (T_indexAddr D rfl rfl rfl rfl rfl rfl rfl rfl (by omega)) rfl ?_
     refine k_op0 (d := 35) (b := 235) (j' := 15) rfl rfl rfl rfl (g_tt rfl rfl rfl g3) (T_ldE D (lv := .v _) (nn := 0) (upd := []) rfl rfl rfl rfl rfl (by omega) rfl rfl rfl rfl) rfl ?_
     refine k_op0 (d := 36) (b := 251) (j' := 16) rfl rfl rfl rfl (g_tt rfl rfl rfl g3) (T_not rfl rfl) rfl ?_
     refine q0 37 267 17 rfl rfl (T_pick_t rfl rfl rfl g3) rfl ?_
     refine k_done rfl ?_
     refine thenK_n ?_
     refine W_cond rfl (fun g4 => ?_) (fun g4 => ?_)
     ·have h4 := g4; (try simp only [cmpB, decide_eq_true_eq, decide_eq_false_iff_not, beq_iff_eq, beq_eq_false_iff_ne, bne_iff_ne, ne_eq, bne_eq_false_iff_eq, Bool.not_eq_true', Bool.not_eq_false', Int.not_lt, Int.not_le] at h4)
      refine W_skip ?_
      refine thenK_n ?_
      refine W_seq ?_
      refine W_block ?_
      refine W_seq ?_
      refine W_seqK (b' := 379) rfl rfl ?_
      refine q0 40 283 1 rfl rfl (T_move rfl rfl) rfl ?_
      refine q0 41 299 2 rfl rfl (T_fa D (m := 0) rfl rfl rfl rfl rfl rfl) rfl ?_
      refine q0 42 315 3 rfl rfl (T_load_b D rfl rfl rfl rfl rfl rfl) rfl ?_
      refine q0 43 331 4 rfl rfl (T_move rfl rfl) rfl ?_
      refine q0 44 347 5 rfl rfl (T_move rfl rfl) rfl ?_
      refine qn 45 363 6 rfl rfl (T_call (lvs := [_, _, _, _]) (L := [(1, 6), (2, 7), (3, 8), (4, 10)]) (lv := .v _) (upd := [(6, .box 117 [.r 7, .r 8]), (7, .map _), (8, .row 4 1 _)]) (nn := 0) true (free_spec (confl f li lo).1 (confl f li lo).2 (ofJ (confl f li lo) k r) (r : Int) ((j : Int) + 1) (by omega)) body83 rfl rfl rfl rfl (.box rfl (.map rfl (.row rfl (.lend rfl (.nil))))) rfl (.inr (fun p hp => by simp at hp; rcases hp with rfl | rfl | rfl <;> first | exact trivial | exact flat_eB _)) rfl rfl rfl) rfl ?_
      refine k_done rfl ?_
      refine thenK_n ?_
      refine W_cond rfl (fun g5 => ?_) (fun g5 => ?_)
      ·have h5 := g5; (try simp only [cmpB, decide_eq_true_eq, decide_eq_false_iff_not, beq_iff_eq, beq_eq_false_iff_ne, bne_iff_ne, ne_eq, bne_eq_false_iff_eq, Bool.not_eq_true', Bool.not_eq_false', Int.not_lt, Int.not_le] at h5)
       refine W_seqK (b' := 411) rfl rfl ?_
       refine q0 46 379 1 rfl rfl (T_move rfl rfl) rfl ?_
       refine q0 10 395 2 rfl rfl (T_assign rfl rfl) rfl ?_
       refine k_done rfl ?_
       refine blockK_n ?_
       refine thenK_n ?_
       refine W_seqK (b' := 459) rfl rfl ?_
       refine q0 38 411 1 rfl rfl (T_move rfl rfl) rfl ?_
       refine q0 39 427 2 rfl rfl (T_add64 rfl rfl rfl (by omega)) rfl ?_
       refine q0 11 443 3 rfl rfl (T_assign rfl rfl) rfl ?_
       refine k_done rfl ?_
       refine thenK_n ?_
       refine ⟨j + 1, by (try dsimp only); exact ⟨by omega, fun _ => by assumption⟩, by (try dsimp only); omega, ?_⟩
       exact ⟨[(4, 4), (5, 5), (6, 6), (7, 7), (8, 8), (9, 9), (10, 10)], .eq rfl (.same rfl rfl (.same rfl rfl (.same rfl rfl (.eq rfl (.eq rfl (.eq rfl (.eq rfl (.eq rfl (.nil) rfl) rfl) (by rfl)) (by (rw [← regAt_t (by omega) (by assumption)]; done))) rfl)))) rfl, .fzE rfl (.fzE rfl (.fzE rfl (.box (by rfl) (.rowE rfl (.box (by rfl) (.mapE rfl (.rowE rfl (.box (by rfl) (.rowE rfl (.nil) (by rfl))) (by rfl)) (by rfl))) (by rfl))) rfl) rfl) rfl, rfl⟩
      ·have h5 := g5; (try simp only [cmpB, decide_eq_true_eq, decide_eq_false_iff_not, beq_iff_eq, beq_eq_false_iff_ne, bne_iff_ne, ne_eq, bne_eq_false_iff_eq, Bool.not_eq_true', Bool.not_eq_false', Int.not_lt, Int.not_le] at h5)
       refine W_skip ?_
       refine blockK_n ?_
       refine thenK_n ?_
       refine W_seqK (b' := 427) rfl rfl ?_
       refine q0 38 379 1 rfl rfl (T_move rfl rfl) rfl ?_
       refine q0 39 395 2 rfl rfl (T_add64 rfl rfl rfl (by omega)) rfl ?_
       refine q0 11 411 3 rfl rfl (T_assign rfl rfl) rfl ?_
       refine k_done rfl ?_
       refine thenK_n ?_
       refine ⟨j + 1, by (try dsimp only); exact ⟨by omega, fun _ => by assumption⟩, by (try dsimp only); omega, ?_⟩
       exact ⟨[(4, 4), (5, 5), (6, 6), (7, 7), (8, 8), (9, 9), (10, 10)], .eq rfl (.same rfl rfl (.same rfl rfl (.same rfl rfl (.eq rfl (.eq rfl (.eq rfl (.eq rfl (.eq rfl (.nil) rfl) rfl) (by rfl)) (by (rw [← regAt_f (by omega) (by assumption)]; done))) rfl)))) rfl, .fzE rfl (.fzE rfl (.fzE rfl (.box (by rfl) (.rowE rfl (.box (by rfl) (.mapE rfl (.rowE rfl (.box (by rfl) (.rowE rfl (.nil) (by rfl))) (by rfl)) (by rfl))) (by rfl))) rfl) rfl) rfl, rfl⟩
     ·have h4 := g4; (try simp only [cmpB, decide_eq_true_eq, decide_eq_false_iff_not, beq_iff_eq, beq_eq_false_iff_ne, bne_iff_ne, ne_eq, bne_eq_false_iff_eq, Bool.not_eq_true', Bool.not_eq_false', Int.not_lt, Int.not_le] at h4)
      refine W_exit ?_
      refine thenK_e ?_
      refine thenK_e ?_
      refine blockK_hit ?_
      refine thenK_n ?_
      refine ⟨(), by (try dsimp only); all_goals trivial, ?_⟩
      exact ⟨[(4, 4), (5, 5), (6, 6), (7, 7), (8, 8), (9, 9), (10, 10)], .eq rfl (.same rfl rfl (.same rfl rfl (.same rfl rfl (.eq rfl (.eq rfl (.eq rfl (.eq rfl (.nil) (by rfl)) (by rfl)) (by (rw [regOf_of (k := k) hM.1 hM.2 (.inr (.inr (by assumption)))]; done))) (by rfl))))) (by rfl), .fzE rfl (.fzE rfl (.fzE rfl (.box (by rfl) (.rowE rfl (.box (by rfl) (.mapE rfl (.rowE rfl (.box (by rfl) (.rowE rfl (.nil) (by rfl))) (by rfl)) (by rfl))) (by rfl))) (by rfl)) (by rfl)) (by rfl), rfl⟩
    ·have h3 := c_eql_f g3
     refine k_no (d := 29) (j' := 9) rfl rfl rfl (g_tf rfl rfl rfl g3) ?_
     refine k_no (d := 30) (j' := 10) rfl rfl rfl (g_tf rfl rfl rfl g3) ?_
     refine k_no (d := 31) (j' := 11) rfl rfl rfl (g_tf rfl rfl rfl g3) ?_
     refine k_no (d := 32) (j' := 12) rfl rfl rfl (g_tf rfl rfl rfl g3) ?_
     refine k_no (d := 33) (j' := 13) rfl rfl rfl (g_tf rfl rfl rfl g3) ?_
     refine k_no (d := 34) (j' := 14) rfl rfl rfl (g_tf rfl rfl rfl g3) ?_
     refine k_no (d := 35) (j' := 15) rfl rfl rfl (g_tf rfl rfl rfl g3) ?_
     refine k_no (d := 36) (j' := 16) rfl rfl rfl (g_tf rfl rfl rfl g3) ?_
     refine q0 37 267 17 rfl rfl (T_pick_f rfl rfl rfl g3) rfl ?_
     refine k_done rfl ?_
     refine thenK_n ?_
     refine W_cond rfl (fun g6 => ?_) (fun g6 => ?_)
     ·exact absurd (g6.symm.trans rfl) (by decide)
     ·skip
      refine W_exit ?_
      refine thenK_e ?_
      refine thenK_e ?_
      refine blockK_hit ?_
      refine thenK_n ?_
      refine ⟨(), by (try dsimp only); all_goals trivial, ?_⟩
      exact ⟨[(4, 4), (5, 5), (6, 6), (7, 7), (8, 8), (9, 9), (10, 10)], .eq rfl (.same rfl rfl (.same rfl rfl (.same rfl rfl (.eq rfl (.eq rfl (.eq rfl (.eq rfl (.nil) (by rfl)) (by rfl)) (by (rw [regOf_of (k := k) hM.1 hM.2 (.inr (.inl (by omega)))]; done))) (by rfl))))) (by rfl), .fzE rfl (.fzE rfl (.fzE rfl (.box (by rfl) (.rowE rfl (.box (by rfl) (.mapE rfl (.rowE rfl (.box (by rfl) (.rowE rfl (.nil) (by rfl))) (by rfl)) (by rfl))) (by rfl))) (by rfl)) (by rfl)) (by rfl), rfl⟩
   ·have h2 := c_leq_f g2
    refine k_no (d := 25) (j' := 5) rfl rfl rfl (g_tf rfl rfl rfl g2) ?_
    refine k_no (d := 26) (j' := 6) rfl rfl rfl (g_tf rfl rfl rfl g2) ?_
    refine q0 27 107 7 rfl rfl (T_pick_f rfl rfl rfl g2) rfl ?_
    refine q0 28 123 8 rfl rfl (T_move rfl rfl) rfl ?_
    refine k_no (d := 29) (j' := 9) rfl rfl rfl (g_tf rfl rfl rfl rfl) ?_
    refine k_no (d := 30) (j' := 10) rfl rfl rfl (g_tf rfl rfl rfl rfl) ?_
    refine k_no (d := 31) (j' := 11) rfl rfl rfl (g_tf rfl rfl rfl rfl) ?_
    refine k_no (d := 32) (j' := 12) rfl rfl rfl (g_tf rfl rfl rfl rfl) ?_
    refine k_no (d := 33) (j' := 13) rfl rfl rfl (g_tf rfl rfl rfl rfl) ?_
    refine k_no (d := 34) (j' := 14) rfl rfl rfl (g_tf rfl rfl rfl rfl) ?_
    refine k_no (d := 35) (j' := 15) rfl rfl rfl (g_tf rfl rfl rfl rfl) ?_
    refine k_no (d := 36) (j' := 16) rfl rfl rfl (g_tf rfl rfl rfl rfl) ?_
    refine q0 37 267 17 rfl rfl (T_pick_f rfl rfl rfl rfl) rfl ?_
    refine k_done rfl ?_
    refine thenK_n ?_
    refine W_cond rfl (fun g7 => ?_) (fun g7 => ?_)
    ·exact absurd (g7.symm.trans rfl) (by decide)
    ·skip
     refine W_exit ?_
     refine thenK_e ?_
     refine thenK_e ?_
     refine blockK_hit ?_
     refine thenK_n ?_
     refine ⟨(), by (try dsimp only); all_goals trivial, ?_⟩
     exact ⟨[(4, 4), (5, 5), (6, 6), (7, 7), (8, 8), (9, 9), (10, 10)], .eq rfl (.same rfl rfl (.same rfl rfl (.same rfl rfl (.eq rfl (.eq rfl (.eq rfl (.eq rfl (.nil) (by rfl)) (by rfl)) (by (rw [regOf_of (k := k) hM.1 hM.2 (.inl (by omega))]; done))) (by rfl))))) (by rfl), .fzE rfl (.fzE rfl (.fzE rfl (.box (by rfl) (.rowE rfl (.box (by rfl) (.mapE rfl (.rowE rfl (.box (by rfl) (.rowE rfl (.nil) (by rfl))) (by rfl)) (by rfl))) (by rfl))) (by rfl)) (by rfl)) (by rfl), rfl⟩
  refine W_seq ?_
  refine W_seq ?_
  refine W_seqK (b' := 27) rfl rfl ?_
  refine q0 12 11 1 rfl rfl (T_assign rfl rfl) rfl ?_
  refine k_done rfl ?_
  refine thenK_n ?_
  refine W_block ?_
  refine W_loop (ι := Nat) 11 (fun j => ⟨[(2, .v (.int .i64 k)), (6, .p 4 0), (7, .p 6 0), (8, .p 9 0), (9, .v (.int .i64 (r : Int))), (10, .v (.int .i64 (memOf (confl f li lo) (ofJ (confl f li lo) k r) k r j))), (12, .v (.int .i64 (-1 - (j : Int)))), (17, .v (.int .i64 f.regs)), (18, .v (.int .i64 (r : Int)))], [(1, .fz 5 (f.blocks.map eBlock)), (2, .fz 1 (li.map eBs)), (3, .fz 1 (lo.map eBs)), (4, .box 60 [.r 5]), (5, .row 3 1 (([] : List Int).map eI)), (6, .box 117 [.r 7, .r 8]), (7, .map ((confl f li lo).1)), (8, .row 4 1 ((confl f li lo).2.map eB)), (9, .box 60 [.r 10]), (10, .row 3 1 ((ofJ (confl f li lo) k r).map eI))]⟩) (fun j => j ≤ (ofJ (confl f li lo) k r).length + 1) (fun j => (ofJ (confl f li lo) k r).length + 1 - j) (0) (by exact Nat.zero_le _) ?_ (fun j hJ => ?_)
  ·exact ⟨[(4, 4), (5, 5), (6, 6), (7, 7), (8, 8), (9, 9), (10, 10)], .eq rfl (.same rfl rfl (.same rfl rfl (.same rfl rfl (.eq rfl (.eq rfl (.eq rfl (.eq rfl (.eq rfl (.nil) (by rfl)) (by rfl)) (by rfl)) (by (rw [memOf_zero]; done))) (by rfl))))) (by rfl), .fzE rfl (.fzE rfl (.fzE rfl (.box (by rfl) (.rowE rfl (.box (by rfl) (.mapE rfl (.rowE rfl (.box (by rfl) (.rowE rfl (.nil) (by rfl))) (by rfl)) (by rfl))) (by rfl))) (by rfl)) (by rfl)) (by rfl), rfl⟩
  refine W_seq ?_
  refine W_seq ?_
  refine W_seqK (b' := 43) rfl rfl ?_
  refine q0 47 11 1 rfl rfl (T_move rfl rfl) rfl ?_
  refine q0 48 27 2 rfl rfl (T_cmp rfl rfl rfl rfl) rfl ?_
  refine k_done rfl ?_
  refine thenK_n ?_
  refine W_cond rfl (fun g8 => ?_) (fun g8 => ?_)
  ·have h8 := c_eql_t g8
   refine W_skip ?_
   refine thenK_n ?_
   refine W_seq ?_
   refine W_block ?_
   refine W_seq ?_
   refine W_seqK (b' := 139) rfl rfl ?_
   refine q0 51 43 1 rfl rfl (T_move rfl rfl) rfl ?_
   refine q0 52 59 2 rfl rfl (T_fa D (m := 0) rfl rfl rfl rfl rfl rfl) rfl ?_
   refine q0 53 75 3 rfl rfl (T_load_b D rfl rfl rfl rfl rfl rfl) rfl ?_
   refine q0 54 91 4 rfl rfl (T_move rfl rfl) rfl ?_
   refine q0 55 107 5 rfl rfl (T_move rfl rfl) rfl ?_
   refine qn 56 123 6 rfl rfl (T_call (lvs := [_, _, _, _]) (L := [(1, 6), (2, 7), (3, 8), (4, 10)]) (lv := .v _) (upd := [(6, .box 117 [.r 7, .r 8]), (7, .map _), (8, .row 4 1 _)]) (nn := 0) true (free_spec (confl f li lo).1 (confl f li lo).2 (ofJ (confl f li lo) k r) (r : Int) (-1 - (j : Int)) (by omega)) body83 rfl rfl rfl rfl (.box rfl (.map rfl (.row rfl (.lend rfl (.nil))))) rfl (.inr (fun p hp => by simp at hp; rcases hp with rfl | rfl | rfl <;> first | exact trivial | exact flat_eB _)) rfl rfl rfl) rfl ?_
   refine k_done rfl ?_
   refine thenK_n ?_
   refine W_cond rfl (fun g9 => ?_) (fun g9 => ?_)
   ·have h9 := g9; (try simp only [cmpB, decide_eq_true_eq, decide_eq_false_iff_not, beq_iff_eq, beq_eq_false_iff_ne, bne_iff_ne, ne_eq, bne_eq_false_iff_eq, Bool.not_eq_true', Bool.not_eq_false', Int.not_lt, Int.not_le] at h9)
    refine W_seqK (b' := 171) rfl rfl ?_
    refine q0 57 139 1 rfl rfl (T_move rfl rfl) rfl ?_
    refine q0 10 155 2 rfl rfl (T_assign rfl rfl) rfl ?_
    refine k_done rfl ?_
    refine blockK_n ?_
    refine thenK_n ?_
    refine W_seqK (b' := 219) rfl rfl ?_
    refine q0 49 171 1 rfl rfl (T_move rfl rfl) rfl ?_
    refine q0 50 187 2 rfl rfl (T_sub64 rfl rfl rfl (by omega)) rfl ?_
    refine q0 12 203 3 rfl rfl (T_assign rfl rfl) rfl ?_
    refine k_done rfl ?_
    refine thenK_n ?_
    have ejx : (-1 : Int) - ((j + 1 : Nat) : Int) = -1 - (j : Int) - 1 := by omega
    have hlt := memOf_lt (by assumption) hJ
    refine ⟨j + 1, by (try dsimp only); exact hlt, by (try dsimp only); omega, ?_⟩
    exact ⟨[(4, 4), (5, 5), (6, 6), (7, 7), (8, 8), (9, 9), (10, 10)], .eq rfl (.same rfl rfl (.same rfl rfl (.same rfl rfl (.eq rfl (.eq rfl (.eq rfl (.eq rfl (.eq rfl (.nil) rfl) rfl) (by (rw [ejx]; done))) (by (rw [← memOf_t (by omega) (by assumption)]; done))) rfl)))) rfl, .fzE rfl (.fzE rfl (.fzE rfl (.box (by rfl) (.rowE rfl (.box (by rfl) (.mapE rfl (.rowE rfl (.box (by rfl) (.rowE rfl (.nil) (by rfl))) (by rfl)) (by rfl))) (by rfl))) rfl) rfl) rfl, rfl⟩
   ·have h9 := g9; (try simp only [cmpB, decide_eq_true_eq, decide_eq_false_iff_not, beq_iff_eq, beq_eq_false_iff_ne, bne_iff_ne, ne_eq, bne_eq_false_iff_eq, Bool.not_eq_true', Bool.not_eq_false', Int.not_lt, Int.not_le] at h9)
    refine W_skip ?_
    refine blockK_n ?_
    refine thenK_n ?_
    refine W_seqK (b' := 187) rfl rfl ?_
    refine q0 49 139 1 rfl rfl (T_move rfl rfl) rfl ?_
    refine q0 50 155 2 rfl rfl (T_sub64 rfl rfl rfl (by omega)) rfl ?_
    refine q0 12 171 3 rfl rfl (T_assign rfl rfl) rfl ?_
    refine k_done rfl ?_
    refine thenK_n ?_
    have ejx : (-1 : Int) - ((j + 1 : Nat) : Int) = -1 - (j : Int) - 1 := by omega
    have hlt := memOf_lt (by assumption) hJ
    refine ⟨j + 1, by (try dsimp only); exact hlt, by (try dsimp only); omega, ?_⟩
    exact ⟨[(4, 4), (5, 5), (6, 6), (7, 7), (8, 8), (9, 9), (10, 10)], .eq rfl (.same rfl rfl (.same rfl rfl (.same rfl rfl (.eq rfl (.eq rfl (.eq rfl (.eq rfl (.eq rfl (.nil) rfl) rfl) (by (rw [ejx]; done))) (by (rw [← memOf_f (by omega) (by assumption)]; done))) rfl)))) rfl, .fzE rfl (.fzE rfl (.fzE rfl (.box (by rfl) (.rowE rfl (.box (by rfl) (.mapE rfl (.rowE rfl (.box (by rfl) (.rowE rfl (.nil) (by rfl))) (by rfl)) (by rfl))) (by rfl))) rfl) rfl) rfl, rfl⟩
  ·have h8 := c_eql_f g8
   refine W_exit ?_
   refine thenK_e ?_
   refine thenK_e ?_
   refine blockK_hit ?_
   refine thenK_n ?_
   refine W_seqK (b' := 155) rfl rfl ?_
   refine q0 58 43 1 rfl rfl (T_fa D (m := 0) rfl rfl rfl rfl rfl rfl) rfl ?_
   refine q0 59 59 2 rfl rfl (T_load_b D rfl rfl rfl rfl rfl rfl) rfl ?_
   refine q0 60 75 3 rfl rfl (T_move rfl rfl) rfl ?_
   refine q1 61 91 4 rfl rfl (T_bs D (ys := [_]) (enc := eI) (l := [_]) rfl rfl rfl rfl rfl rfl (.cons rfl (flat_v rfl) (.nil)) rfl rfl rfl rfl (.v rfl (.nil)) rfl rfl) rfl ?_
   refine qn 62 107 5 rfl rfl (T_append D rfl rfl rfl rfl rfl rfl rfl rfl rfl rfl rfl rfl (by (try simp only [ty3]); (simp; omega)) (by (try simp only [ty3]); (simp; omega))) rfl ?_
   refine q0 63 123 6 rfl rfl (T_fa D (m := 0) rfl rfl rfl rfl rfl rfl) rfl ?_
   refine s1 139 7 rfl rfl (T_stB D (cs' := [_]) rfl rfl rfl rfl (flat_sl rfl) rfl rfl (Nat.le_of_ble_eq_true rfl) rfl) rfl ?_
   refine k_done rfl ?_
   refine blockK_n ?_
   refine thenK_n ?_
   refine W_seqK (b' := 187) rfl rfl ?_
   refine q0 64 155 1 rfl rfl (T_add64 rfl rfl rfl (by omega)) rfl ?_
   refine q0 18 171 2 rfl rfl (T_move rfl rfl) rfl ?_
   refine k_done rfl ?_
   refine thenK_n ?_
   refine ⟨r + 1, by (try dsimp only); omega, by (try dsimp only); omega, ?_⟩
   exact ⟨[(4, 4), (5, 5), (6, 6), (7, 7), (8, 8), (9, 9), (10, 107)], .eq rfl (.same rfl rfl (.same rfl rfl (.same rfl rfl (.eq rfl (.eq rfl (.nil) (by rfl)) rfl)))) rfl, .fzE rfl (.fzE rfl (.fzE rfl (.box (by rfl) (.rowE rfl (.box (by rfl) (.mapE rfl (.rowE rfl (.box (by rfl) (.rowE rfl (.nil) (by (rw [memOf_fin (by omega) hJ]; rfl)))) (by rfl)) (by rfl))) (by rfl))) rfl) rfl) rfl, rfl⟩
 ·have h1 := c_lss_f g1
  refine W_exit ?_
  refine thenK_e ?_
  refine thenK_e ?_
  refine blockK_hit ?_
  refine thenK_n ?_
  refine W_seq ?_
  refine W_seqK (b' := 59) rfl rfl ?_
  refine q0 65 27 1 rfl rfl (T_load_bA D (l := [_]) rfl rfl rfl rfl rfl rfl rfl) rfl ?_
  refine s1 43 2 rfl rfl (T_stB D (cs' := [_]) rfl rfl rfl rfl flat_agg rfl rfl (Nat.le_of_ble_eq_true rfl) rfl) rfl ?_
  refine k_done rfl ?_
  refine thenK_n ?_
  refine W_ret ?_
  exact .mk [(4, 10)] (.inr rfl) (.cellA rfl rfl rfl rfl rfl (.nil)) (by rfl) (.rowE rfl (.nil) (by (have er : r = f.regs.toNat := (by omega); subst er; rfl))) rfl
end Lg
end Go.Proofs.Ytpfhmodjjljpjaa

namespace Go.Proofs.Ytpfhmodjjljpjaa
open Go.RowKit
namespace Lg
set_option linter.unusedSimpArgs false
set_option linter.unusedVariables false
def wF : GFn := ⟨2, [⟨[⟨1, 0, 0, 0, 0, 0, 0, 1⟩, ⟨1, 1, 0, 0, 0, 0, 0, 2⟩, ⟨9, 0, 0, 0, 0, 0, 0, 0⟩, ⟨9, 0, 1, 0, 0, 0, 0, 0⟩], 3, 0, 0, 0⟩]⟩
theorem wF_lf : LF wF := lf_of (f := wF) (i := 0) (w := 16) (by decide +kernel) (by decide) (by decide)
theorem getD_take {l : List Int} {i j : Nat} (h : j < i) : (l.take i).getD j default = l.getD j default := by
  simp only [List.getD]; rw [List.getElem?_take_of_lt h]
theorem small28_lf {f : GFn} (h : small28 f = true) : LF f := (s28 h).lf
end Lg
end Go.Proofs.Ytpfhmodjjljpjaa

namespace Go.Proofs.Ytpfhmodjjljpjaa
open Go.RowKit
namespace Lg
set_option maxRecDepth 100000
set_option linter.unusedVariables false
set_option linter.unusedSimpArgs false
theorem body40 : (Try.prog.funcs[40]?).map (fun fn => (fn.name == "runtime.NumGoroutine" || fn.body.isNone)) = some false := by kernel_rfl
theorem awake28_spec  : Spec Try.prog 40 [] 1 [] (.v (.bool true)) 1 [] := by
 refine spec_of D (fn := Try.f40) rfl rfl (Nat.le_of_ble_eq_true rfl) ?_
 refine W_seq ?_
 refine W_seqK (b' := 17) rfl rfl ?_
 refine q0 0 1 1 rfl rfl (T_assign rfl rfl) rfl ?_
 refine k_done rfl ?_
 refine thenK_n ?_
 refine W_seq ?_
 refine W_seqK (b' := 145) rfl rfl ?_
 refine q0 5 17 1 rfl rfl (T_build D (l := [_, _, _, _, _, _, _, _]) rfl rfl rfl rfl (.cons rfl (flat_v rfl) (.cons rfl (flat_v rfl) (.nil))) rfl rfl) rfl ?_
 refine q0 6 33 2 rfl rfl (T_build D (l := [_, _, _, _, _, _, _, _]) rfl rfl rfl rfl (.cons rfl (flat_v rfl) (.cons rfl (flat_v rfl) (.cons rfl (flat_v rfl) (.nil)))) rfl rfl) rfl ?_
 refine q0 7 49 3 rfl rfl (T_build D (l := [_, _, _, _, _, _, _, _]) rfl rfl rfl rfl (.cons rfl (flat_v rfl) (.nil)) rfl rfl) rfl ?_
 refine q0 8 65 4 rfl rfl (T_build D (l := [_, _, _, _, _, _, _, _]) rfl rfl rfl rfl (.cons rfl (flat_v rfl) (.cons rfl (flat_v rfl) (.nil))) rfl rfl) rfl ?_
 refine q1 9 81 5 rfl rfl (T_bs D (ys := [⟨_, _, _, _, _, _, _, _⟩, ⟨_, _, _, _, _, _, _, _⟩, ⟨_, _, _, _, _, _, _, _⟩, ⟨_, _, _, _, _, _, _, _⟩]) (enc := eTac) (l := [_, _, _, _, _, _, _, _, _, _, _, _, _, _, _, _, _, _, _, _, _, _, _, _, _, _, _, _, _, _, _, _]) rfl rfl rfl rfl rfl rfl (.cons rfl flat_agg (.cons rfl flat_agg (.cons rfl flat_agg (.cons rfl flat_agg (.nil))))) rfl rfl rfl rfl (.v rfl (.v rfl (.v rfl (.v rfl (.v rfl (.v rfl (.v rfl (.v rfl (.v rfl (.v rfl (.v rfl (.v rfl (.v rfl (.v rfl (.v rfl (.v rfl (.v rfl (.v rfl (.v rfl (.v rfl (.v rfl (.v rfl (.v rfl (.v rfl (.v rfl (.v rfl (.v rfl (.v rfl (.v rfl (.v rfl (.v rfl (.v rfl (.nil))))))))))))))))))))))))))))))))) rfl rfl) rfl ?_
 refine q0 10 97 6 rfl rfl (T_build D (l := [_, _, _, _, _]) rfl rfl rfl rfl (.cons rfl (flat_sl rfl) (.cons rfl (flat_v rfl) (.nil))) rfl rfl) rfl ?_
 refine qn 1 113 7 rfl rfl (T_nilbox [(70, 8)] (T_alloc D rfl rfl rfl) rfl (.cons (.nil rfl) <| .cons (.same _) <| .cons (.same _) <| .cons (.same _) <| .cons (.same _) <| .nil) (upd' := [(113, .box 72 [.r 114, .v (.int .i64 0), .v (.int .i64 0), .v (.int .i64 0), .v (.int .i64 0)]), (114, .row 70 8 (List.map eTac ([] : List (GTac))))]) (nn' := 2) rfl rfl) rfl ?_
 refine s1 129 8 rfl rfl (T_stB D (cs' := [_, _, _, _, _]) rfl rfl rfl rfl flat_agg rfl rfl (Nat.le_of_ble_eq_true rfl) rfl) rfl ?_
 refine k_done rfl ?_
 refine thenK_n ?_
 refine W_seq ?_
 refine W_seqK (b' := 225) rfl rfl ?_
 refine q0 11 145 1 rfl rfl (T_load_bA D (l := [_, _, _, _, _]) rfl rfl rfl rfl rfl rfl rfl) rfl ?_
 refine qn 12 161 2 rfl rfl (T_bs D (ys := [⟨_, _, _, _, _⟩]) (enc := eBlock) (l := [_, _, _, _, _]) rfl rfl rfl rfl rfl rfl (.cons rfl flat_agg (.nil)) rfl rfl rfl rfl (.row rfl (.v rfl (.v rfl (.v rfl (.v rfl (.nil))))) (by rfl)) rfl rfl) rfl ?_
 refine q0 13 177 3 rfl rfl (T_build D (l := [_, _]) rfl rfl rfl rfl (.cons rfl (flat_v rfl) (.cons rfl (flat_sl rfl) (.nil))) rfl rfl) rfl ?_
 refine qn 2 193 4 rfl rfl (T_nilbox [(72, 5)] (T_alloc D rfl rfl rfl) rfl (.cons (.same _) <| .cons (.nil rfl) <| .nil) (upd' := [(193, .box 29 [.v (.int .i64 0), .r 194]), (194, .row 72 5 (List.map eBlock ([] : List (GBlock))))]) (nn' := 2) rfl rfl) rfl ?_
 refine s1 209 5 rfl rfl (T_stB D (cs' := [_, _]) rfl rfl rfl rfl flat_agg rfl rfl (Nat.le_of_ble_eq_true rfl) rfl) rfl ?_
 refine k_done rfl ?_
 refine thenK_n ?_
 refine W_seq ?_
 refine W_seqK (b' := 289) rfl rfl ?_
 refine q0 14 225 1 rfl rfl (T_load_bA D (l := [_, _]) rfl rfl rfl rfl rfl rfl rfl) rfl ?_
 refine qn 15 241 2 rfl rfl (T_call (lvs := [_]) (L := [(1, 161)]) (lv := .agg [.r 241, .r 242]) (upd := [(241, .fz 1 _), (242, .fz 1 _), (161, .fz 5 _)]) (nn := 2) false (rlive_spec wF wF_lf) body42 rfl rfl rfl rfl (.lend rfl (.nil)) rfl (.inl rfl) rfl rfl rfl) rfl ?_
 refine qn 3 257 3 rfl rfl (T_nilbox [(48, 1), (48, 1)] (T_alloc D rfl rfl rfl) rfl (.cons (.nil rfl) <| .cons (.nil rfl) <| .nil) (upd' := [(257, .box 57 [.r 258, .r 259]), (258, .row 48 1 (List.map eBs ([] : List (List Bool)))), (259, .row 48 1 (List.map eBs ([] : List (List Bool))))]) (nn' := 3) rfl rfl) rfl ?_
 refine s1 273 4 rfl rfl (T_stB D (cs' := [_, _]) rfl rfl rfl rfl flat_agg rfl rfl (Nat.le_of_ble_eq_true rfl) rfl) rfl ?_
 refine k_done rfl ?_
 refine thenK_n ?_
 refine W_seq ?_
 refine W_seqK (b' := 369) rfl rfl ?_
 refine q0 16 289 1 rfl rfl (T_load_bA D (l := [_, _]) rfl rfl rfl rfl rfl rfl rfl) rfl ?_
 refine q0 17 305 2 rfl rfl (T_load_bA D (l := [_, _]) rfl rfl rfl rfl rfl rfl rfl) rfl ?_
 refine q1 18 321 3 rfl rfl (T_call (lvs := [_, _, _]) (L := [(1, 161), (2, 241), (3, 242)]) (lv := .agg [.r 321]) (upd := [(321, .row 3 1 _)]) (nn := 1) false (allocOf_spec wF (liveL wF).1 (liveL wF).2 2 wF_lf (live_sz wF).i (live_sz wF).o (by decide) (by decide)) body43 rfl rfl rfl rfl (.fz rfl (.fz rfl (.fz rfl (.nil)))) rfl (.inl rfl) rfl rfl rfl) rfl ?_
 refine qn 4 337 4 rfl rfl (T_nilbox [(3, 1)] (T_alloc D rfl rfl rfl) rfl (.cons (.nil rfl) <| .nil) (upd' := [(337, .box 60 [.r 338]), (338, .row 3 1 (List.map eI ([] : List (Int))))]) (nn' := 2) rfl rfl) rfl ?_
 refine s1 353 5 rfl rfl (T_stB D (cs' := [_]) rfl rfl rfl rfl flat_agg rfl rfl (Nat.le_of_ble_eq_true rfl) rfl) rfl ?_
 refine k_done rfl ?_
 refine thenK_n ?_
 refine W_seq ?_
 refine W_seqK (b' := 881) rfl rfl ?_
 refine q0 19 369 1 rfl rfl (T_load_bA D (l := [_, _]) rfl rfl rfl rfl rfl rfl rfl) rfl ?_
 refine q0 20 385 2 rfl rfl (T_load_bA D (l := [_, _]) rfl rfl rfl rfl rfl rfl rfl) rfl ?_
 refine q0 21 401 3 rfl rfl (T_load_bA D (l := [_]) rfl rfl rfl rfl rfl rfl rfl) rfl ?_
 refine q0 22 417 4 rfl rfl (T_callV (lvs := [_, _, _, _]) (L := [(1, 161), (2, 241), (3, 242), (4, 321)]) (rcheck28_spec wF (liveL wF).1 (liveL wF).2 (allocP wF (liveL wF).1 (liveL wF).2 2) 2 wF_lf (by decide +kernel) (by decide +kernel) (by decide +kernel) (by decide +kernel)) body64 rfl rfl rfl rfl (.fz rfl (.fz rfl (.fz rfl (.lend rfl (.nil))))) rfl) rfl ?_
 refine q0 23 433 5 rfl rfl (T_move rfl rfl) rfl ?_
 refine k_split (d := 23) rfl (fun g1 => ?_) (fun g1 => ?_)
 ·have h1 := g1; (try simp only [cmpB, decide_eq_true_eq, decide_eq_false_iff_not, beq_iff_eq, beq_eq_false_iff_ne, bne_iff_ne, ne_eq, bne_eq_false_iff_eq, Bool.not_eq_true', Bool.not_eq_false', Int.not_lt, Int.not_le] at h1)
  refine k_op0 (d := 24) (b := 449) (j' := 6) rfl rfl rfl rfl (g_tt rfl rfl rfl g1) (T_load_bA D (l := [_, _]) rfl rfl rfl rfl rfl rfl rfl) rfl ?_
  refine k_op0 (d := 25) (b := 465) (j' := 7) rfl rfl rfl rfl (g_tt rfl rfl rfl g1) (T_load_bA D (l := [_, _]) rfl rfl rfl rfl rfl rfl rfl) rfl ?_
  refine k_op0 (d := 26) (b := 481) (j' := 8) rfl rfl rfl rfl (g_tt rfl rfl rfl g1) (T_load_bA D (l := [_]) rfl rfl rfl rfl rfl rfl rfl) rfl ?_
  refine k_op0 (d := 27) (b := 497) (j' := 9) rfl rfl rfl rfl (g_tt rfl rfl rfl g1) (T_callV (lvs := [_, _, _, _]) (L := [(1, 161), (2, 241), (3, 242), (4, 321)]) (acheck_spec wF (liveL wF).1 (liveL wF).2 (allocP wF (liveL wF).1 (liveL wF).2 2) 2 wF_lf (by decide +kernel) (by decide +kernel) (by decide +kernel) (by decide +kernel)) body44 rfl rfl rfl rfl (.fz rfl (.fz rfl (.fz rfl (.lend rfl (.nil))))) rfl) rfl ?_
  refine q0 28 513 10 rfl rfl (T_pick_t rfl rfl rfl g1) rfl ?_
  refine q0 29 529 11 rfl rfl (T_move rfl rfl) rfl ?_
  refine k_split (d := 29) rfl (fun g2 => ?_) (fun g2 => ?_)
  ·have h2 := g2; (try simp only [cmpB, decide_eq_true_eq, decide_eq_false_iff_not, beq_iff_eq, beq_eq_false_iff_ne, bne_iff_ne, ne_eq, bne_eq_false_iff_eq, Bool.not_eq_true', Bool.not_eq_false', Int.not_lt, Int.not_le] at h2)
   refine k_op0 (d := 30) (b := 545) (j' := 12) rfl rfl rfl rfl (g_tt rfl rfl rfl g2) (T_load_bA D (l := [_, _]) rfl rfl rfl rfl rfl rfl rfl) rfl ?_
   refine k_op0 (d := 31) (b := 561) (j' := 13) rfl rfl rfl rfl (g_tt rfl rfl rfl g2) (T_load_bA D (l := [_, _]) rfl rfl rfl rfl rfl rfl rfl) rfl ?_
   refine k_op1 (d := 32) (b := 577) (j' := 14) rfl rfl rfl rfl (g_tt rfl rfl rfl g2) (T_bs D (ys := [_, _]) (enc := eI) (l := [_, _]) rfl rfl rfl rfl rfl rfl (.cons rfl (flat_v rfl) (.cons rfl (flat_v rfl) (.nil))) rfl rfl rfl rfl (.v rfl (.v rfl (.nil))) rfl rfl) rfl ?_
   refine k_op0 (d := 33) (b := 593) (j' := 15) rfl rfl rfl rfl (g_tt rfl rfl rfl g2) (T_build D (l := [_]) rfl rfl rfl rfl (.cons rfl (flat_sl rfl) (.nil)) rfl rfl) rfl ?_
   refine k_op0 (d := 34) (b := 609) (j' := 16) rfl rfl rfl rfl (g_tt rfl rfl rfl g2) (T_callV (lvs := [_, _, _, _]) (L := [(1, 161), (2, 241), (3, 242), (4, 577)]) (acheck_spec wF (liveL wF).1 (liveL wF).2 [1, 1] 2 wF_lf (by decide +kernel) (by decide +kernel) (by decide +kernel) (by decide +kernel)) body44 rfl rfl rfl rfl (.fz rfl (.fz rfl (.fz rfl (.lend rfl (.nil))))) rfl) rfl ?_
   refine k_op0 (d := 35) (b := 625) (j' := 17) rfl rfl rfl rfl (g_tt rfl rfl rfl g2) (T_not rfl rfl) rfl ?_
   refine q0 36 641 18 rfl rfl (T_pick_t rfl rfl rfl g2) rfl ?_
   refine q0 37 657 19 rfl rfl (T_move rfl rfl) rfl ?_
   refine k_split (d := 37) rfl (fun g3 => ?_) (fun g3 => ?_)
   ·have h3 := g3; (try simp only [cmpB, decide_eq_true_eq, decide_eq_false_iff_not, beq_iff_eq, beq_eq_false_iff_ne, bne_iff_ne, ne_eq, bne_eq_false_iff_eq, Bool.not_eq_true', Bool.not_eq_false', Int.not_lt, Int.not_le] at h3)
    refine k_op0 (d := 38) (b := 673) (j' := 20) rfl rfl rfl rfl (g_tt rfl rfl rfl g3) (T_load_bA D (l := [_, _]) rfl rfl rfl rfl rfl rfl rfl) rfl ?_
    refine k_op0 (d := 39) (b := 689) (j' := 21) rfl rfl rfl rfl (g_tt rfl rfl rfl g3) (T_load_bA D (l := [_, _]) rfl rfl rfl rfl rfl rfl rfl) rfl ?_
    refine k_op1 (d := 40) (b := 705) (j' := 22) rfl rfl rfl rfl (g_tt rfl rfl rfl g3) (T_bs D (ys := [_, _]) (enc := eI) (l := [_, _]) rfl rfl rfl rfl rfl rfl (.cons rfl (flat_v rfl) (.cons rfl (flat_v rfl) (.nil))) rfl rfl rfl rfl (.v rfl (.v rfl (.nil))) rfl rfl) rfl ?_
    refine k_op0 (d := 41) (b := 721) (j' := 23) rfl rfl rfl rfl (g_tt rfl rfl rfl g3) (T_build D (l := [_]) rfl rfl rfl rfl (.cons rfl (flat_sl rfl) (.nil)) rfl rfl) rfl ?_
    refine k_op0 (d := 42) (b := 737) (j' := 24) rfl rfl rfl rfl (g_tt rfl rfl rfl g3) (T_callV (lvs := [_, _, _, _]) (L := [(1, 161), (2, 241), (3, 242), (4, 705)]) (acheck_spec wF (liveL wF).1 (liveL wF).2 [2, -5] 2 wF_lf (by decide +kernel) (by decide +kernel) (by decide +kernel) (by decide +kernel)) body44 rfl rfl rfl rfl (.fz rfl (.fz rfl (.fz rfl (.lend rfl (.nil))))) rfl) rfl ?_
    refine q0 43 753 25 rfl rfl (T_pick_t rfl rfl rfl g3) rfl ?_
    refine q0 44 769 26 rfl rfl (T_move rfl rfl) rfl ?_
    refine k_split (d := 44) rfl (fun g4 => ?_) (fun g4 => ?_)
    ·have h4 := g4; (try simp only [cmpB, decide_eq_true_eq, decide_eq_false_iff_not, beq_iff_eq, beq_eq_false_iff_ne, bne_iff_ne, ne_eq, bne_eq_false_iff_eq, Bool.not_eq_true', Bool.not_eq_false', Int.not_lt, Int.not_le] at h4)
     refine k_op1 (d := 45) (b := 785) (j' := 27) rfl rfl rfl rfl (g_tt rfl rfl rfl g4) (T_bs D (ys := [_, _]) (enc := eI) (l := [_, _]) rfl rfl rfl rfl rfl rfl (.cons rfl (flat_v rfl) (.cons rfl (flat_v rfl) (.nil))) rfl rfl rfl rfl (.v rfl (.v rfl (.nil))) rfl rfl) rfl ?_
     refine k_op0 (d := 46) (b := 801) (j' := 28) rfl rfl rfl rfl (g_tt rfl rfl rfl g4) (T_build D (l := [_]) rfl rfl rfl rfl (.cons rfl (flat_sl rfl) (.nil)) rfl rfl) rfl ?_
     refine k_op0 (d := 47) (b := 817) (j' := 29) rfl rfl rfl rfl (g_tt rfl rfl rfl g4) (T_callV (lvs := [_]) (L := [(1, 785)]) (words_spec [2, -5] (by decide) (by decide)) body65 rfl rfl rfl rfl (.lend rfl (.nil)) rfl) rfl ?_
     refine k_op0 (d := 48) (b := 833) (j' := 30) rfl rfl rfl rfl (g_tt rfl rfl rfl g4) (T_cmp rfl rfl rfl rfl) rfl ?_
     refine q0 49 849 31 rfl rfl (T_pick_t rfl rfl rfl g4) rfl ?_
     refine q0 0 865 32 rfl rfl (T_assign rfl rfl) rfl ?_
     refine k_done rfl ?_
     refine thenK_n ?_
     refine W_ret ?_
     exact .mk [] (.inr rfl) (.tmp rfl (.nil)) (by rfl) (.nil) rfl
    ·have h4 := g4; (try simp only [cmpB, decide_eq_true_eq, decide_eq_false_iff_not, beq_iff_eq, beq_eq_false_iff_ne, bne_iff_ne, ne_eq, bne_eq_false_iff_eq, Bool.not_eq_true', Bool.not_eq_false', Int.not_lt, Int.not_le] at h4)
     refine k_no (d := 45) (j' := 27) rfl rfl rfl (g_tf rfl rfl rfl g4) ?_
     refine k_no (d := 46) (j' := 28) rfl rfl rfl (g_tf rfl rfl rfl g4) ?_
     refine k_no (d := 47) (j' := 29) rfl rfl rfl (g_tf rfl rfl rfl g4) ?_
     refine k_no (d := 48) (j' := 30) rfl rfl rfl (g_tf rfl rfl rfl g4) ?_
     refine q0 49 849 31 rfl rfl (T_pick_f rfl rfl rfl g4) rfl ?_
     refine q0 0 865 32 rfl rfl (T_assign rfl rfl) rfl ?_
     refine k_done rfl ?_
     refine thenK_n ?_
     refine W_ret ?_
     exact .mk [] (.inr rfl) (.tmp rfl (.nil)) (by exact absurd g4 (by decide +kernel)) (.nil) rfl
   ·have h3 := g3; (try simp only [cmpB, decide_eq_true_eq, decide_eq_false_iff_not, beq_iff_eq, beq_eq_false_iff_ne, bne_iff_ne, ne_eq, bne_eq_false_iff_eq, Bool.not_eq_true', Bool.not_eq_false', Int.not_lt, Int.not_le] at h3)
    refine k_no (d := 38) (j' := 20) rfl rfl rfl (g_tf rfl rfl rfl g3) ?_
    refine k_no (d := 39) (j' := 21) rfl rfl rfl (g_tf rfl rfl rfl g3) ?_
    refine k_no (d := 40) (j' := 22) rfl rfl rfl (g_tf rfl rfl rfl g3) ?_
    refine k_no (d := 41) (j' := 23) rfl rfl rfl (g_tf rfl rfl rfl g3) ?_
    refine k_no (d := 42) (j' := 24) rfl rfl rfl (g_tf rfl rfl rfl g3) ?_
    refine q0 43 753 25 rfl rfl (T_pick_f rfl rfl rfl g3) rfl ?_
    refine q0 44 769 26 rfl rfl (T_move rfl rfl) rfl ?_
    refine k_no (d := 45) (j' := 27) rfl rfl rfl (g_tf rfl rfl rfl rfl) ?_
    refine k_no (d := 46) (j' := 28) rfl rfl rfl (g_tf rfl rfl rfl rfl) ?_
    refine k_no (d := 47) (j' := 29) rfl rfl rfl (g_tf rfl rfl rfl rfl) ?_
    refine k_no (d := 48) (j' := 30) rfl rfl rfl (g_tf rfl rfl rfl rfl) ?_
    refine q0 49 849 31 rfl rfl (T_pick_f rfl rfl rfl rfl) rfl ?_
    refine q0 0 865 32 rfl rfl (T_assign rfl rfl) rfl ?_
    refine k_done rfl ?_
    refine thenK_n ?_
    refine W_ret ?_
    exact .mk [] (.inr rfl) (.tmp rfl (.nil)) (by exact absurd g3 (by decide +kernel)) (.nil) rfl
  ·have h2 := g2; (try simp only [cmpB, decide_eq_true_eq, decide_eq_false_iff_not, beq_iff_eq, beq_eq_false_iff_ne, bne_iff_ne, ne_eq, bne_eq_false_iff_eq, Bool.not_eq_true', Bool.not_eq_false', Int.not_lt, Int.not_le] at h2)
   refine k_no (d := 30) (j' := 12) rfl rfl rfl (g_tf rfl rfl rfl g2) ?_
   refine k_no (d := 31) (j' := 13) rfl rfl rfl (g_tf rfl rfl rfl g2) ?_
   refine k_no (d := 32) (j' := 14) rfl rfl rfl (g_tf rfl rfl rfl g2) ?_
   refine k_no (d := 33) (j' := 15) rfl rfl rfl (g_tf rfl rfl rfl g2) ?_
   refine k_no (d := 34) (j' := 16) rfl rfl rfl (g_tf rfl rfl rfl g2) ?_
   refine k_no (d := 35) (j' := 17) rfl rfl rfl (g_tf rfl rfl rfl g2) ?_
   refine q0 36 641 18 rfl rfl (T_pick_f rfl rfl rfl g2) rfl ?_
   refine q0 37 657 19 rfl rfl (T_move rfl rfl) rfl ?_
   refine k_no (d := 38) (j' := 20) rfl rfl rfl (g_tf rfl rfl rfl rfl) ?_
   refine k_no (d := 39) (j' := 21) rfl rfl rfl (g_tf rfl rfl rfl rfl) ?_
   refine k_no (d := 40) (j' := 22) rfl rfl rfl (g_tf rfl rfl rfl rfl) ?_
   refine k_no (d := 41) (j' := 23) rfl rfl rfl (g_tf rfl rfl rfl rfl) ?_
   refine k_no (d := 42) (j' := 24) rfl rfl rfl (g_tf rfl rfl rfl rfl) ?_
   refine q0 43 753 25 rfl rfl (T_pick_f rfl rfl rfl rfl) rfl ?_
   refine q0 44 769 26 rfl rfl (T_move rfl rfl) rfl ?_
   refine k_no (d := 45) (j' := 27) rfl rfl rfl (g_tf rfl rfl rfl rfl) ?_
   refine k_no (d := 46) (j' := 28) rfl rfl rfl (g_tf rfl rfl rfl rfl) ?_
   refine k_no (d := 47) (j' := 29) rfl rfl rfl (g_tf rfl rfl rfl rfl) ?_
   refine k_no (d := 48) (j' := 30) rfl rfl rfl (g_tf rfl rfl rfl rfl) ?_
   refine q0 49 849 31 rfl rfl (T_pick_f rfl rfl rfl rfl) rfl ?_
   refine q0 0 865 32 rfl rfl (T_assign rfl rfl) rfl ?_
   refine k_done rfl ?_
   refine thenK_n ?_
   refine W_ret ?_
   exact .mk [] (.inr rfl) (.tmp rfl (.nil)) (by exact absurd g2 (by decide +kernel)) (.nil) rfl
 ·have h1 := g1; (try simp only [cmpB, decide_eq_true_eq, decide_eq_false_iff_not, beq_iff_eq, beq_eq_false_iff_ne, bne_iff_ne, ne_eq, bne_eq_false_iff_eq, Bool.not_eq_true', Bool.not_eq_false', Int.not_lt, Int.not_le] at h1)
  refine k_no (d := 24) (j' := 6) rfl rfl rfl (g_tf rfl rfl rfl g1) ?_
  refine k_no (d := 25) (j' := 7) rfl rfl rfl (g_tf rfl rfl rfl g1) ?_
  refine k_no (d := 26) (j' := 8) rfl rfl rfl (g_tf rfl rfl rfl g1) ?_
  refine k_no (d := 27) (j' := 9) rfl rfl rfl (g_tf rfl rfl rfl g1) ?_
  refine q0 28 513 10 rfl rfl (T_pick_f rfl rfl rfl g1) rfl ?_
  refine q0 29 529 11 rfl rfl (T_move rfl rfl) rfl ?_
  refine k_no (d := 30) (j' := 12) rfl rfl rfl (g_tf rfl rfl rfl rfl) ?_
  refine k_no (d := 31) (j' := 13) rfl rfl rfl (g_tf rfl rfl rfl rfl) ?_
  refine k_no (d := 32) (j' := 14) rfl rfl rfl (g_tf rfl rfl rfl rfl) ?_
  refine k_no (d := 33) (j' := 15) rfl rfl rfl (g_tf rfl rfl rfl rfl) ?_
  refine k_no (d := 34) (j' := 16) rfl rfl rfl (g_tf rfl rfl rfl rfl) ?_
  refine k_no (d := 35) (j' := 17) rfl rfl rfl (g_tf rfl rfl rfl rfl) ?_
  refine q0 36 641 18 rfl rfl (T_pick_f rfl rfl rfl rfl) rfl ?_
  refine q0 37 657 19 rfl rfl (T_move rfl rfl) rfl ?_
  refine k_no (d := 38) (j' := 20) rfl rfl rfl (g_tf rfl rfl rfl rfl) ?_
  refine k_no (d := 39) (j' := 21) rfl rfl rfl (g_tf rfl rfl rfl rfl) ?_
  refine k_no (d := 40) (j' := 22) rfl rfl rfl (g_tf rfl rfl rfl rfl) ?_
  refine k_no (d := 41) (j' := 23) rfl rfl rfl (g_tf rfl rfl rfl rfl) ?_
  refine k_no (d := 42) (j' := 24) rfl rfl rfl (g_tf rfl rfl rfl rfl) ?_
  refine q0 43 753 25 rfl rfl (T_pick_f rfl rfl rfl rfl) rfl ?_
  refine q0 44 769 26 rfl rfl (T_move rfl rfl) rfl ?_
  refine k_no (d := 45) (j' := 27) rfl rfl rfl (g_tf rfl rfl rfl rfl) ?_
  refine k_no (d := 46) (j' := 28) rfl rfl rfl (g_tf rfl rfl rfl rfl) ?_
  refine k_no (d := 47) (j' := 29) rfl rfl rfl (g_tf rfl rfl rfl rfl) ?_
  refine k_no (d := 48) (j' := 30) rfl rfl rfl (g_tf rfl rfl rfl rfl) ?_
  refine q0 49 849 31 rfl rfl (T_pick_f rfl rfl rfl rfl) rfl ?_
  refine q0 0 865 32 rfl rfl (T_assign rfl rfl) rfl ?_
  refine k_done rfl ?_
  refine thenK_n ?_
  refine W_ret ?_
  exact .mk [] (.inr rfl) (.tmp rfl (.nil)) (by exact absurd g1 (by decide +kernel)) (.nil) rfl
end Lg
end Go.Proofs.Ytpfhmodjjljpjaa

namespace Go.Proofs.Ytpfhmodjjljpjaa
open Go.RowKit
namespace Lg
set_option linter.unusedSimpArgs false
set_option linter.unusedVariables false
def wordsR (ps : List Int) : Nat → Int
  | 0 => 0
  | j + 1 => if ps.getD j default < 0 ∧ -(ps.getD j default) > wordsR ps j then -(ps.getD j default) else wordsR ps j
theorem wordsR_t {ps : List Int} {j : Nat} (h : ps.getD j default < 0 ∧ -(ps.getD j default) > wordsR ps j) : -(ps.getD j default) = wordsR ps (j + 1) := by rw [wordsR, if_pos h]
theorem wordsR_f {ps : List Int} {j : Nat} (h : ¬ (ps.getD j default < 0 ∧ -(ps.getD j default) > wordsR ps j)) : wordsR ps j = wordsR ps (j + 1) := by rw [wordsR, if_neg h]
theorem wordsR_nn (ps : List Int) : ∀ j, 0 ≤ wordsR ps j
  | 0 => Int.le_refl _
  | j + 1 => by rw [wordsR]; have := wordsR_nn ps j; split <;> omega
theorem wordsR_eq (ps : List Int) : ∀ j, wordsR ps j = wordsJ ps j
  | 0 => rfl
  | j + 1 => by
    have h := wordsR_nn ps j
    rw [wordsR, wordsJ, ← wordsR_eq ps j]
    unfold mxI
    split <;> split <;> omega
def atP (k x : Int) : Int := if x > 0 then x - 1 else k - x - 1
def atL (ps : List Int) (k : Int) : List Int := ps.map (atP k)
theorem atL_len (ps : List Int) (k : Int) : (atL ps k).length = ps.length := by simp [atL]
theorem atL_get {ps : List Int} {k : Int} {i : Nat} (h : i < ps.length) : (atL ps k).getD i default = atP k (ps.getD i default) := by simp [atL, List.getD, h]
theorem atL_step {ps : List Int} {k : Int} {j : Nat} (hj : j < ps.length) : (atL ps k).take (j + 1) = (atL ps k).take j ++ [atP k (ps.getD j default)] := by
  have e : ps[j] = ps.getD j default := by simp [List.getD, hj]
  unfold atL
  rw [← List.map_take, ← List.map_take, List.take_add_one, List.getElem?_eq_getElem hj, List.map_append, e]
  rfl
theorem atL_t {ps : List Int} {k : Int} {j : Nat} (hj : j < ps.length) (h : ps.getD j default > 0) : (atL ps k).take (j + 1) = (atL ps k).take j ++ [ps.getD j default - 1] := by rw [atL_step hj, atP, if_pos h]
theorem atL_f {ps : List Int} {k : Int} {j : Nat} (hj : j < ps.length) (h : ¬ ps.getD j default > 0) : (atL ps k).take (j + 1) = (atL ps k).take j ++ [k - ps.getD j default - 1] := by rw [atL_step hj, atP, if_neg h]
def mapT (at_ : List Int) (t : GTac) : GTac := { t with d := if setsT t ≥ 0 then at_.getD t.d.toNat default else t.d, a := if 0 < (usesT t).length then at_.getD t.a.toNat default else t.a, b := if 1 < (usesT t).length then at_.getD t.b.toNat default else t.b }
def mapB (at_ : List Int) (b : GBlock) : GBlock := { b with ins := b.ins.map (mapT at_), v := if b.fin = 2 then at_.getD b.v.toNat default else b.v }
def otherP (f : GFn) (ps : List Int) (k : Int) : GFn := ⟨k + wordsP ps, f.blocks.map (mapB (atL ps k))⟩
theorem map_step {α β : Type} [Inhabited α] (g : α → β) {l : List α} {j : Nat} (hj : j < l.length) {z : β} (hz : z = g (l.getD j default)) : (l.take j).map g ++ [z] = (l.take (j + 1)).map g := by
  subst hz
  have e : l[j] = l.getD j default := by simp [List.getD, hj]
  rw [List.take_add_one, List.getElem?_eq_getElem hj, List.map_append, e]
  rfl
theorem sets_d {t : GTac} (h : setsT t ≥ 0) : setsT t = t.d := by
  have h3 := setsT_ge h
  unfold setsT; rw [if_pos h3]
theorem len_a {t : GTac} (h : 0 < (usesT t).length) : t.a ∈ usesT t := by
  unfold usesT at h ⊢
  by_cases h1 : t.op = 2 ∨ t.op = 5 ∨ t.op = 6 ∨ t.op = 9
  · rw [if_pos h1]; simp
  · rw [if_neg h1] at h ⊢
    by_cases h2 : t.op = 3 ∨ t.op = 7
    · rw [if_pos h2]; simp
    · rw [if_neg h2] at h; exact absurd h (Nat.lt_irrefl _)
theorem len_b {t : GTac} (h : 1 < (usesT t).length) : t.b ∈ usesT t := by
  unfold usesT at h ⊢
  by_cases h1 : t.op = 2 ∨ t.op = 5 ∨ t.op = 6 ∨ t.op = 9
  · rw [if_pos h1] at h; simp at h
  · rw [if_neg h1] at h ⊢
    by_cases h2 : t.op = 3 ∨ t.op = 7
    · rw [if_pos h2]; simp
    · rw [if_neg h2] at h; simp at h
end Lg
end Go.Proofs.Ytpfhmodjjljpjaa

namespace Go.Proofs.Ytpfhmodjjljpjaa
open Go.RowKit
namespace Lg
set_option maxRecDepth 100000
set_option linter.unusedVariables false
set_option linter.unusedSimpArgs false
theorem body45 : (Try.prog.funcs[45]?).map (fun fn => (fn.name == "runtime.NumGoroutine" || fn.body.isNone)) = some false := by kernel_rfl
theorem rwords_spec (ps : List Int) (hl : ps.length ≤ 1000000000) (h : ∀ x ∈ ps, -9223372036854775807 ≤ x ∧ x ≤ 9223372036854775807) : Spec Try.prog 45 [.agg [.r 1]] 2 [(1, .fz 1 (ps.map eI))] (.v (.int .i64 (wordsP ps))) 2 [] := by
 refine spec_of D (fn := Try.f45) rfl rfl (Nat.le_of_ble_eq_true rfl) ?_
 refine W_seq ?_
 refine W_seqK (b' := 34) rfl rfl ?_
 refine q1 1 2 1 rfl rfl (T_box rfl rfl flat_agg) rfl ?_
 refine q0 2 18 2 rfl rfl (T_assign rfl rfl) rfl ?_
 refine k_done rfl ?_
 refine thenK_n ?_
 refine W_seq ?_
 refine W_seqK (b' := 50) rfl rfl ?_
 refine q0 3 34 1 rfl rfl (T_assign rfl rfl) rfl ?_
 refine k_done rfl ?_
 refine thenK_n ?_
 refine W_seq ?_
 refine W_seq ?_
 refine W_seqK (b' := 66) rfl rfl ?_
 refine q0 4 50 1 rfl rfl (T_assign rfl rfl) rfl ?_
 refine k_done rfl ?_
 refine thenK_n ?_
 refine W_block ?_
 refine W_loop (ι := Nat) 3 (fun j => ⟨[(1, .p 2 0), (3, .v (.int .i64 (wordsR ps j))), (4, .v (.int .i64 (j : Int)))], [(1, .fz 1 (ps.map eI)), (2, .box 60 [.r 1])]⟩) (fun j => j ≤ ps.length) (fun j => ps.length - j) (0) (by exact Nat.zero_le _) ?_ (fun j hJ => ?_)
 ·exact ⟨[(2, 2)], .same rfl rfl (.eq rfl (.eq rfl (.nil) (by rfl)) (by rfl)), .fzE rfl (.box (by rfl) (.nil)) (by rfl), rfl⟩
 have hj := fun q : j < ps.length => h _ (getD_mem q)
 refine W_seq ?_
 refine W_seq ?_
 refine W_seqK (b' := 83) rfl rfl ?_
 refine q0 5 3 1 rfl rfl (T_move rfl rfl) rfl ?_
 refine q0 6 19 2 rfl rfl (T_fa D (m := 0) rfl rfl rfl rfl rfl rfl) rfl ?_
 refine q0 7 35 3 rfl rfl (T_load_b D rfl rfl rfl rfl rfl rfl) rfl ?_
 refine q0 8 51 4 rfl rfl (T_len D rfl rfl rfl rfl rfl rfl) rfl ?_
 refine q0 9 67 5 rfl rfl (T_cmp rfl rfl rfl rfl) rfl ?_
 refine k_done rfl ?_
 refine thenK_n ?_
 refine W_cond rfl (fun g1 => ?_) (fun g1 => ?_)
 ·have h1 := c_lss_t g1
  refine W_skip ?_
  refine thenK_n ?_
  refine W_seq ?_
  refine W_block ?_
  refine W_seq ?_
  refine W_seqK (b' := 339) rfl rfl ?_
  refine q0 12 83 1 rfl rfl (T_fa D (m := 0) rfl rfl rfl rfl rfl rfl) rfl ?_
  refine q0 13 99 2 rfl rfl (T_load_b D rfl rfl rfl rfl rfl rfl) rfl ?_
  refine q0 14 115 3 rfl rfl (T_move rfl rfl) rfl ?_
  refine q0 15 131 4 rfl rfl (T_indexAddr D rfl rfl rfl rfl rfl rfl rfl rfl (by omega)) rfl ?_
  refine q0 16 147 5 rfl rfl (T_ldE D (lv := .v _) (nn := 0) (upd := []) rfl rfl rfl rfl rfl (by omega) rfl rfl rfl rfl) rfl ?_
  refine q0 17 163 6 rfl rfl (T_cmp rfl rfl rfl rfl) rfl ?_
  refine q0 18 179 7 rfl rfl (T_move rfl rfl) rfl ?_
  refine k_split (d := 18) rfl (fun g2 => ?_) (fun g2 => ?_)
  ·have h2 := c_lss_t g2
   refine k_op0 (d := 19) (b := 195) (j' := 8) rfl rfl rfl rfl (g_tt rfl rfl rfl g2) (T_fa D (m := 0) rfl rfl rfl rfl rfl rfl) rfl ?_
   refine k_op0 (d := 20) (b := 211) (j' := 9) rfl rfl rfl rfl (g_tt rfl rfl rfl g2) (T_load_b D rfl rfl rfl rfl rfl rfl) rfl ?_
   refine k_op0 (d := 21) (b := 227) (j' := 10) rfl rfl rfl rfl (g_tt rfl rfl rfl g2) (T_move rfl rfl) rfl ?_
   refine k_op0 (d := 22) (b := 243) (j' := 11) rfl rfl rfl rfl (g_tt rfl rfl rfl g2) (T_indexAddr D rfl rfl rfl rfl rfl rfl rfl rfl (by omega)) rfl ?_
   refine k_op0 (d := 23) (b := 259) (j' := 12) rfl rfl rfl rfl (g_tt rfl rfl rfl g2) (T_ldE D (lv := .v _) (nn := 0) (upd := []) rfl rfl rfl rfl rfl (by omega) rfl rfl rfl rfl) rfl ?_
   refine k_op0 (d := 24) (b := 275) (j' := 13) rfl rfl rfl rfl (g_tt rfl rfl rfl g2) (T_neg64 rfl rfl (by omega)) rfl ?_
   refine k_op0 (d := 25) (b := 291) (j' := 14) rfl rfl rfl rfl (g_tt rfl rfl rfl g2) (T_move rfl rfl) rfl ?_
   refine k_op0 (d := 26) (b := 307) (j' := 15) rfl rfl rfl rfl (g_tt rfl rfl rfl g2) (T_cmp rfl rfl rfl rfl) rfl ?_
   refine q0 27 323 16 rfl rfl (T_pick_t rfl rfl rfl g2) rfl ?_
   refine k_done rfl ?_
   refine thenK_n ?_
   refine W_cond rfl (fun g3 => ?_) (fun g3 => ?_)
   ·have h3 := c_gtr_t g3
    refine W_seqK (b' := 451) rfl rfl ?_
    refine q0 28 339 1 rfl rfl (T_fa D (m := 0) rfl rfl rfl rfl rfl rfl) rfl ?_
    refine q0 29 355 2 rfl rfl (T_load_b D rfl rfl rfl rfl rfl rfl) rfl ?_
    refine q0 30 371 3 rfl rfl (T_move rfl rfl) rfl ?_
    refine q0 31 387 4 rfl rfl (T_indexAddr D rfl rfl rfl rfl rfl rfl rfl rfl (by omega)) rfl ?_
    refine q0 32 403 5 rfl rfl (T_ldE D (lv := .v _) (nn := 0) (upd := []) rfl rfl rfl rfl rfl (by omega) rfl rfl rfl rfl) rfl ?_
    refine q0 33 419 6 rfl rfl (T_neg64 rfl rfl (by omega)) rfl ?_
    refine q0 3 435 7 rfl rfl (T_assign rfl rfl) rfl ?_
    refine k_done rfl ?_
    refine blockK_n ?_
    refine thenK_n ?_
    refine W_seqK (b' := 499) rfl rfl ?_
    refine q0 10 451 1 rfl rfl (T_move rfl rfl) rfl ?_
    refine q0 11 467 2 rfl rfl (T_add64 rfl rfl rfl (by omega)) rfl ?_
    refine q0 4 483 3 rfl rfl (T_assign rfl rfl) rfl ?_
    refine k_done rfl ?_
    refine thenK_n ?_
    refine ⟨j + 1, by (try dsimp only); omega, by (try dsimp only); omega, ?_⟩
    exact ⟨[(2, 2)], .same rfl rfl (.eq rfl (.eq rfl (.nil) (by rfl)) (by (rw [← wordsR_t (by omega)]; done))), .fzE rfl (.box (by rfl) (.nil)) rfl, rfl⟩
   ·have h3 := c_gtr_f g3
    refine W_skip ?_
    refine blockK_n ?_
    refine thenK_n ?_
    refine W_seqK (b' := 387) rfl rfl ?_
    refine q0 10 339 1 rfl rfl (T_move rfl rfl) rfl ?_
    refine q0 11 355 2 rfl rfl (T_add64 rfl rfl rfl (by omega)) rfl ?_
    refine q0 4 371 3 rfl rfl (T_assign rfl rfl) rfl ?_
    refine k_done rfl ?_
    refine thenK_n ?_
    refine ⟨j + 1, by (try dsimp only); omega, by (try dsimp only); omega, ?_⟩
    exact ⟨[(2, 2)], .same rfl rfl (.eq rfl (.eq rfl (.nil) (by rfl)) (by (rw [← wordsR_f (by omega)]; done))), .fzE rfl (.box (by rfl) (.nil)) rfl, rfl⟩
  ·have h2 := c_lss_f g2
   refine k_no (d := 19) (j' := 8) rfl rfl rfl (g_tf rfl rfl rfl g2) ?_
   refine k_no (d := 20) (j' := 9) rfl rfl rfl (g_tf rfl rfl rfl g2) ?_
   refine k_no (d := 21) (j' := 10) rfl rfl rfl (g_tf rfl rfl rfl g2) ?_
   refine k_no (d := 22) (j' := 11) rfl rfl rfl (g_tf rfl rfl rfl g2) ?_
   refine k_no (d := 23) (j' := 12) rfl rfl rfl (g_tf rfl rfl rfl g2) ?_
   refine k_no (d := 24) (j' := 13) rfl rfl rfl (g_tf rfl rfl rfl g2) ?_
   refine k_no (d := 25) (j' := 14) rfl rfl rfl (g_tf rfl rfl rfl g2) ?_
   refine k_no (d := 26) (j' := 15) rfl rfl rfl (g_tf rfl rfl rfl g2) ?_
   refine q0 27 323 16 rfl rfl (T_pick_f rfl rfl rfl g2) rfl ?_
   refine k_done rfl ?_
   refine thenK_n ?_
   refine W_cond rfl (fun g4 => ?_) (fun g4 => ?_)
   ·exact absurd (g4.symm.trans rfl) (by decide)
   ·skip
    refine W_skip ?_
    refine blockK_n ?_
    refine thenK_n ?_
    refine W_seqK (b' := 387) rfl rfl ?_
    refine q0 10 339 1 rfl rfl (T_move rfl rfl) rfl ?_
    refine q0 11 355 2 rfl rfl (T_add64 rfl rfl rfl (by omega)) rfl ?_
    refine q0 4 371 3 rfl rfl (T_assign rfl rfl) rfl ?_
    refine k_done rfl ?_
    refine thenK_n ?_
    refine ⟨j + 1, by (try dsimp only); omega, by (try dsimp only); omega, ?_⟩
    exact ⟨[(2, 2)], .same rfl rfl (.eq rfl (.eq rfl (.nil) (by rfl)) (by (rw [← wordsR_f (by omega)]; done))), .fzE rfl (.box (by rfl) (.nil)) rfl, rfl⟩
 ·have h1 := c_lss_f g1
  refine W_exit ?_
  refine thenK_e ?_
  refine thenK_e ?_
  refine blockK_hit ?_
  refine thenK_n ?_
  refine W_seq ?_
  refine W_seqK (b' := 115) rfl rfl ?_
  refine q0 34 83 1 rfl rfl (T_move rfl rfl) rfl ?_
  refine q0 2 99 2 rfl rfl (T_assign rfl rfl) rfl ?_
  refine k_done rfl ?_
  refine thenK_n ?_
  refine W_ret ?_
  exact .mk [] (.inr rfl) (.tmp rfl (.nil)) (by (have e : j = ps.length := (by omega); subst e; rw [wordsR_eq]; rfl)) (.nil) rfl
theorem body46 : (Try.prog.funcs[46]?).map (fun fn => (fn.name == "runtime.NumGoroutine" || fn.body.isNone)) = some false := by kernel_rfl
theorem other_spec (f : GFn) (ps : List Int) (k : Int) (hF : LF f) (hl : (ps.length : Int) = f.regs) (hx : ∀ x ∈ ps, -4000 ≤ x ∧ x ≤ 1000) (hk : 0 ≤ k ∧ k ≤ 1000) (hw : 0 ≤ wordsP ps ∧ wordsP ps ≤ 4000) : Spec Try.prog 46 [.agg [.v (.int .i64 f.regs), .r 1], .agg [.r 2], .v (.int .i64 k)] 3 [(1, .fz 5 (f.blocks.map eBlock)), (2, .fz 1 (ps.map eI))] (.agg [.v (.int .i64 (otherP f ps k).regs), .r 3]) 4 [(3, .row 72 5 ((otherP f ps k).blocks.map eBlock))] := by
 have hFr := hF.regs
 have hFl := hF.len
 have hal := atL_len ps k
 refine spec_of D (fn := Try.f46) rfl rfl (Nat.le_of_ble_eq_true rfl) ?_
 refine W_seq ?_
 refine W_seqK (b' := 51) rfl rfl ?_
 refine q1 3 3 1 rfl rfl (T_box rfl rfl flat_agg) rfl ?_
 refine q1 4 19 2 rfl rfl (T_box rfl rfl flat_agg) rfl ?_
 refine qn 6 35 3 rfl rfl (T_nilbox [(72, 5)] (T_alloc D rfl rfl rfl) rfl (.cons (.same _) <| .cons (.nil rfl) <| .nil) (upd' := [(35, .box 29 [.v (.int .i64 0), .r 36]), (36, .row 72 5 (List.map eBlock ([] : List (GBlock))))]) (nn' := 2) rfl rfl) rfl ?_
 refine k_done rfl ?_
 refine thenK_n ?_
 refine W_seq ?_
 refine W_seqK (b' := 67) rfl rfl ?_
 refine q1 7 51 1 rfl rfl (T_nils [(3, 1)] (T_assign rfl rfl) rfl (.inr ⟨rfl, rfl⟩) (.cons (.nil rfl) .nil) (lv' := .r 51) (upd' := [(51, .row 3 1 (List.map eI ([] : List (Int))))]) (nn' := 1) rfl rfl) rfl ?_
 refine k_done rfl ?_
 refine thenK_n ?_
 refine W_seq ?_
 refine W_seq ?_
 refine W_seqK (b' := 83) rfl rfl ?_
 refine q0 8 67 1 rfl rfl (T_assign rfl rfl) rfl ?_
 refine k_done rfl ?_
 refine thenK_n ?_
 refine W_block ?_
 refine W_loop (ι := Nat) 8 (fun j => ⟨[(2, .v (.int .i64 k)), (3, .p 3 0), (4, .p 4 0), (6, .p 5 0), (7, .r 7), (8, .v (.int .i64 (j : Int)))], [(1, .fz 5 (f.blocks.map eBlock)), (2, .fz 1 (ps.map eI)), (3, .box 29 [.v (.int .i64 f.regs), .r 1]), (4, .box 60 [.r 2]), (5, .box 29 [.v (.int .i64 0), .r 6]), (6, .row 72 5 (([] : List GBlock).map eBlock)), (7, .row 3 1 (((atL ps k).take j).map eI))]⟩) (fun j => j ≤ ps.length) (fun j => ps.length - j) (0) (by exact Nat.zero_le _) ?_ (fun j hJ => ?_)
 ·exact ⟨[(3, 3), (4, 19), (5, 35), (6, 36), (7, 51)], .eq rfl (.same rfl rfl (.same rfl rfl (.same rfl rfl (.same rfl rfl (.eq rfl (.nil) (by rfl)))))) (by rfl), .fzE rfl (.fzE rfl (.box (by rfl) (.box (by rfl) (.box (by rfl) (.rowE rfl (.rowE rfl (.nil) (by rfl)) (by rfl))))) (by rfl)) (by rfl), rfl⟩
 have hxj := fun h : j < ps.length => hx _ (getD_mem h)
 refine W_seq ?_
 refine W_seq ?_
 refine W_seqK (b' := 88) rfl rfl ?_
 refine q0 16 8 1 rfl rfl (T_move rfl rfl) rfl ?_
 refine q0 17 24 2 rfl rfl (T_fa D (m := 0) rfl rfl rfl rfl rfl rfl) rfl ?_
 refine q0 18 40 3 rfl rfl (T_load_b D rfl rfl rfl rfl rfl rfl) rfl ?_
 refine q0 19 56 4 rfl rfl (T_len D rfl rfl rfl rfl rfl rfl) rfl ?_
 refine q0 20 72 5 rfl rfl (T_cmp rfl rfl rfl rfl) rfl ?_
 refine k_done rfl ?_
 refine thenK_n ?_
 refine W_cond rfl (fun g1 => ?_) (fun g1 => ?_)
 ·have h1 := c_lss_t g1
  refine W_skip ?_
  refine thenK_n ?_
  refine W_seq ?_
  refine W_block ?_
  refine W_seq ?_
  refine W_seqK (b' := 184) rfl rfl ?_
  refine q0 23 88 1 rfl rfl (T_fa D (m := 0) rfl rfl rfl rfl rfl rfl) rfl ?_
  refine q0 24 104 2 rfl rfl (T_load_b D rfl rfl rfl rfl rfl rfl) rfl ?_
  refine q0 25 120 3 rfl rfl (T_move rfl rfl) rfl ?_
  refine q0 26 136 4 rfl rfl (T_indexAddr D rfl rfl rfl rfl rfl rfl rfl rfl (by omega)) rfl ?_
  refine q0 27 152 5 rfl rfl (T_ldE D (lv := .v _) (nn := 0) (upd := []) rfl rfl rfl rfl rfl (by omega) rfl rfl rfl rfl) rfl ?_
  refine q0 28 168 6 rfl rfl (T_cmp rfl rfl rfl rfl) rfl ?_
  refine k_done rfl ?_
  refine thenK_n ?_
  refine W_cond rfl (fun g2 => ?_) (fun g2 => ?_)
  ·have h2 := c_gtr_t g2
   refine W_seqK (b' := 344) rfl rfl ?_
   refine q0 29 184 1 rfl rfl (T_move rfl rfl) rfl ?_
   refine q0 30 200 2 rfl rfl (T_fa D (m := 0) rfl rfl rfl rfl rfl rfl) rfl ?_
   refine q0 31 216 3 rfl rfl (T_load_b D rfl rfl rfl rfl rfl rfl) rfl ?_
   refine q0 32 232 4 rfl rfl (T_move rfl rfl) rfl ?_
   refine q0 33 248 5 rfl rfl (T_indexAddr D rfl rfl rfl rfl rfl rfl rfl rfl (by omega)) rfl ?_
   refine q0 34 264 6 rfl rfl (T_ldE D (lv := .v _) (nn := 0) (upd := []) rfl rfl rfl rfl rfl (by omega) rfl rfl rfl rfl) rfl ?_
   refine q0 35 280 7 rfl rfl (T_sub64 rfl rfl rfl (by omega)) rfl ?_
   refine q1 36 296 8 rfl rfl (T_bs D (ys := [_]) (enc := eI) (l := [_]) rfl rfl rfl rfl rfl rfl (.cons rfl (flat_v rfl) (.nil)) rfl rfl rfl rfl (.v rfl (.nil)) rfl rfl) rfl ?_
   refine qn 37 312 9 rfl rfl (T_append D rfl rfl rfl rfl rfl rfl rfl rfl rfl rfl rfl rfl (by (try simp only [ty3]); (simp; omega)) (by (try simp only [ty3]); (simp; omega))) rfl ?_
   refine q0 7 328 10 rfl rfl (T_assign rfl rfl) rfl ?_
   refine k_done rfl ?_
   refine blockK_n ?_
   refine thenK_n ?_
   refine W_seqK (b' := 392) rfl rfl ?_
   refine q0 21 344 1 rfl rfl (T_move rfl rfl) rfl ?_
   refine q0 22 360 2 rfl rfl (T_add64 rfl rfl rfl (by omega)) rfl ?_
   refine q0 8 376 3 rfl rfl (T_assign rfl rfl) rfl ?_
   refine k_done rfl ?_
   refine thenK_n ?_
   refine ⟨j + 1, by (try dsimp only); omega, by (try dsimp only); omega, ?_⟩
   exact ⟨[(3, 3), (4, 4), (5, 5), (6, 6), (7, 312)], .eq rfl (.same rfl rfl (.same rfl rfl (.same rfl rfl (.same rfl rfl (.eq rfl (.nil) (by rfl)))))) rfl, .fzE rfl (.fzE rfl (.box (by rfl) (.box (by rfl) (.box (by rfl) (.rowE rfl (.rowE rfl (.nil) (by (rw [atL_t (by omega) (by omega)]; done))) (by rfl))))) rfl) rfl, rfl⟩
  ·have h2 := c_gtr_f g2
   refine W_seqK (b' := 376) rfl rfl ?_
   refine q0 38 184 1 rfl rfl (T_move rfl rfl) rfl ?_
   refine q0 39 200 2 rfl rfl (T_move rfl rfl) rfl ?_
   refine q0 40 216 3 rfl rfl (T_fa D (m := 0) rfl rfl rfl rfl rfl rfl) rfl ?_
   refine q0 41 232 4 rfl rfl (T_load_b D rfl rfl rfl rfl rfl rfl) rfl ?_
   refine q0 42 248 5 rfl rfl (T_move rfl rfl) rfl ?_
   refine q0 43 264 6 rfl rfl (T_indexAddr D rfl rfl rfl rfl rfl rfl rfl rfl (by omega)) rfl ?_
   refine q0 44 280 7 rfl rfl (T_ldE D (lv := .v _) (nn := 0) (upd := []) rfl rfl rfl rfl rfl (by omega) rfl rfl rfl rfl) rfl ?_
   refine q0 45 296 8 rfl rfl (T_sub64 rfl rfl rfl (by omega)) rfl ?_
   refine q0 46 312 9 rfl rfl (T_sub64 rfl rfl rfl (by omega)) rfl ?_
   refine q1 47 328 10 rfl rfl (T_bs D (ys := [_]) (enc := eI) (l := [_]) rfl rfl rfl rfl rfl rfl (.cons rfl (flat_v rfl) (.nil)) rfl rfl rfl rfl (.v rfl (.nil)) rfl rfl) rfl ?_
   refine qn 48 344 11 rfl rfl (T_append D rfl rfl rfl rfl rfl rfl rfl rfl rfl rfl rfl rfl (by (try simp only [ty3]); (simp; omega)) (by (try simp only [ty3]); (simp; omega))) rfl ?_
   refine q0 7 360 12 rfl rfl (T_assign rfl rfl) rfl ?_
   refine k_done rfl ?_
   refine blockK_n ?_
   refine thenK_n ?_
   refine W_seqK (b' := 424) rfl rfl ?_
   refine q0 21 376 1 rfl rfl (T_move rfl rfl) rfl ?_
   refine q0 22 392 2 rfl rfl (T_add64 rfl rfl rfl (by omega)) rfl ?_
   refine q0 8 408 3 rfl rfl (T_assign rfl rfl) rfl ?_
   refine k_done rfl ?_
   refine thenK_n ?_
   refine ⟨j + 1, by (try dsimp only); omega, by (try dsimp only); omega, ?_⟩
   exact ⟨[(3, 3), (4, 4), (5, 5), (6, 6), (7, 344)], .eq rfl (.same rfl rfl (.same rfl rfl (.same rfl rfl (.same rfl rfl (.eq rfl (.nil) (by rfl)))))) rfl, .fzE rfl (.fzE rfl (.box (by rfl) (.box (by rfl) (.box (by rfl) (.rowE rfl (.rowE rfl (.nil) (by (rw [atL_f (by omega) (by omega)]; done))) (by rfl))))) rfl) rfl, rfl⟩
 ·have h1 := c_lss_f g1
  refine W_exit ?_
  refine thenK_e ?_
  refine thenK_e ?_
  refine blockK_hit ?_
  refine thenK_n ?_
  refine W_seq ?_
  refine W_seqK (b' := 200) rfl rfl ?_
  refine q0 49 88 1 rfl rfl (T_move rfl rfl) rfl ?_
  refine q0 50 104 2 rfl rfl (T_load_bA D (l := [_]) rfl rfl rfl rfl rfl rfl rfl) rfl ?_
  refine q0 51 120 3 rfl rfl (T_callV (lvs := [_]) (L := [(1, 2)]) (rwords_spec ps (by omega) (fun x h => by have := hx x h; omega)) body45 rfl rfl rfl rfl (.fz rfl (.nil)) rfl) rfl ?_
  refine q0 52 136 4 rfl rfl (T_add64 rfl rfl rfl (by omega)) rfl ?_
  refine q1 53 152 5 rfl rfl (T_nils [(72, 5)] (T_build D (l := [_, _]) rfl rfl rfl rfl (.cons rfl (flat_v rfl) (.nil)) rfl rfl) rfl (.inl ⟨rfl, rfl⟩) (.cons (.same _) <| .cons (.nil rfl) <| .nil) (lv' := .agg [_, .r 152]) (upd' := [(152, .row 72 5 (List.map eBlock ([] : List (GBlock))))]) (nn' := 1) rfl rfl) rfl ?_
  refine qn 9 168 6 rfl rfl (T_nilbox [(72, 5)] (T_alloc D rfl rfl rfl) rfl (.cons (.same _) <| .cons (.nil rfl) <| .nil) (upd' := [(168, .box 29 [.v (.int .i64 0), .r 169]), (169, .row 72 5 (List.map eBlock ([] : List (GBlock))))]) (nn' := 2) rfl rfl) rfl ?_
  refine s1 184 7 rfl rfl (T_stB D (cs' := [_, _]) rfl rfl rfl rfl flat_agg rfl rfl (Nat.le_of_ble_eq_true rfl) rfl) rfl ?_
  refine k_done rfl ?_
  refine thenK_n ?_
  refine W_seq ?_
  refine W_seq ?_
  refine W_seqK (b' := 216) rfl rfl ?_
  refine q0 10 200 1 rfl rfl (T_assign rfl rfl) rfl ?_
  refine k_done rfl ?_
  refine thenK_n ?_
  refine W_block ?_
  refine W_loop (ι := Nat) 9 (fun j => ⟨[(3, .p 3 0), (6, .p 4 0), (7, .r 6), (9, .p 7 0), (10, .v (.int .i64 (j : Int)))], [(1, .fz 5 (f.blocks.map eBlock)), (2, .fz 1 (ps.map eI)), (3, .box 29 [.v (.int .i64 f.regs), .r 1]), (4, .box 29 [.v (.int .i64 0), .r 5]), (5, .row 72 5 (([] : List GBlock).map eBlock)), (6, .row 3 1 ((atL ps k).map eI)), (7, .box 29 [.v (.int .i64 (k + wordsP ps)), .r 8]), (8, .row 72 5 (((f.blocks.take j).map (mapB (atL ps k))).map eBlock))]⟩) (fun j => j ≤ f.blocks.length) (fun j => f.blocks.length - j) (0) (by exact Nat.zero_le _) ?_ (fun j hJ => ?_)
  ·exact ⟨[(3, 3), (4, 5), (5, 6), (6, 7), (7, 168), (8, 152)], .same rfl rfl (.same rfl rfl (.same rfl rfl (.same rfl rfl (.eq rfl (.nil) (by rfl))))), .fzE rfl (.fzE rfl (.box (by rfl) (.box (by rfl) (.rowE rfl (.rowE rfl (.box (by rfl) (.rowE rfl (.nil) (by rfl))) (by (rw [List.take_of_length_le (by omega)]; done))) (by rfl)))) (by rfl)) (by rfl), rfl⟩
  have hbo := fun h : j < f.blocks.length => hF.ok _ (getD_mem h)
  have hbi := fun h : j < f.blocks.length => hF.ins _ (getD_mem h)
  refine W_seq ?_
  refine W_seq ?_
  refine W_seqK (b' := 89) rfl rfl ?_
  refine q0 54 9 1 rfl rfl (T_move rfl rfl) rfl ?_
  refine q0 55 25 2 rfl rfl (T_fa D (m := 1) rfl rfl rfl rfl rfl rfl) rfl ?_
  refine q0 56 41 3 rfl rfl (T_load_b D rfl rfl rfl rfl rfl rfl) rfl ?_
  refine q0 57 57 4 rfl rfl (T_len D rfl rfl rfl rfl rfl rfl) rfl ?_
  refine q0 58 73 5 rfl rfl (T_cmp rfl rfl rfl rfl) rfl ?_
  refine k_done rfl ?_
  refine thenK_n ?_
  refine W_cond rfl (fun g3 => ?_) (fun g3 => ?_)
  ·have h3 := c_lss_t g3
   refine W_skip ?_
   refine thenK_n ?_
   refine W_seq ?_
   refine W_block ?_
   refine W_seq ?_
   refine W_seqK (b' := 201) rfl rfl ?_
   refine q0 61 89 1 rfl rfl (T_fa D (m := 1) rfl rfl rfl rfl rfl rfl) rfl ?_
   refine q0 62 105 2 rfl rfl (T_load_b D rfl rfl rfl rfl rfl rfl) rfl ?_
   refine q0 63 121 3 rfl rfl (T_move rfl rfl) rfl ?_
   refine q0 64 137 4 rfl rfl (T_indexAddr D rfl rfl rfl rfl rfl rfl rfl rfl (by omega)) rfl ?_
   refine q1 65 153 5 rfl rfl (T_ldEA D (l := [.r 153, .v _, .v _, .v _, .v _]) (nn := 1) (upd := [(153, .fz 8 _)]) rfl rfl rfl rfl rfl (by omega) rfl rfl rfl rfl rfl) rfl ?_
   refine qn 11 169 6 rfl rfl (T_nilbox [(70, 8)] (T_alloc D rfl rfl rfl) rfl (.cons (.nil rfl) <| .cons (.same _) <| .cons (.same _) <| .cons (.same _) <| .cons (.same _) <| .nil) (upd' := [(169, .box 72 [.r 170, .v (.int .i64 0), .v (.int .i64 0), .v (.int .i64 0), .v (.int .i64 0)]), (170, .row 70 8 (List.map eTac ([] : List (GTac))))]) (nn' := 2) rfl rfl) rfl ?_
   refine s1 185 7 rfl rfl (T_stB D (cs' := [_, _, _, _, _]) rfl rfl rfl rfl flat_agg rfl rfl (Nat.le_of_ble_eq_true rfl) rfl) rfl ?_
   refine k_done rfl ?_
   refine thenK_n ?_
   refine W_join (ι := Unit) 11 (fun _u => ⟨[(3, .p 3 0), (6, .p 4 0), (7, .r 6), (9, .p 7 0), (10, .v (.int .i64 (j : Int))), (11, .p 9 0)], [(1, .fz 5 (f.blocks.map eBlock)), (2, .fz 1 (ps.map eI)), (3, .box 29 [.v (.int .i64 f.regs), .r 1]), (4, .box 29 [.v (.int .i64 0), .r 5]), (5, .row 72 5 (([] : List GBlock).map eBlock)), (6, .row 3 1 ((atL ps k).map eI)), (7, .box 29 [.v (.int .i64 (k + wordsP ps)), .r 8]), (8, .row 72 5 (((f.blocks.take j).map (mapB (atL ps k))).map eBlock)), (9, .box 72 [.r 10, .v (.int .i64 (f.blocks.getD j default).fin), .v (.int .i64 (if (f.blocks.getD j default).fin = 2 then (atL ps k).getD (f.blocks.getD j default).v.toNat default else (f.blocks.getD j default).v)), .v (.int .i64 (f.blocks.getD j default).to), .v (.int .i64 (f.blocks.getD j default).els)]), (10, .fz 8 ((f.blocks.getD j default).ins.map eTac))]⟩) (fun _ => True) ?_ (fun _u hJ => ?_)
   ·skip
    refine W_seq ?_
    refine W_seqK (b' := 249) rfl rfl ?_
    refine q0 66 201 1 rfl rfl (T_fa D (m := 1) rfl rfl rfl rfl rfl rfl) rfl ?_
    refine q0 67 217 2 rfl rfl (T_load_b D rfl rfl rfl rfl rfl rfl) rfl ?_
    refine q0 68 233 3 rfl rfl (T_cmp rfl rfl rfl rfl) rfl ?_
    refine k_done rfl ?_
    refine thenK_n ?_
    refine W_cond rfl (fun g4 => ?_) (fun g4 => ?_)
    ·have h4 := c_eql_t g4
     refine W_seqK (b' := 361) rfl rfl ?_
     refine q0 69 249 1 rfl rfl (T_move rfl rfl) rfl ?_
     refine q0 70 265 2 rfl rfl (T_fa D (m := 2) rfl rfl rfl rfl rfl rfl) rfl ?_
     refine q0 71 281 3 rfl rfl (T_load_b D rfl rfl rfl rfl rfl rfl) rfl ?_
     refine q0 72 297 4 rfl rfl (T_indexAddrZ D rfl rfl rfl rfl rfl rfl rfl rfl (by (have q := (hbo (by omega)).2 (by omega); omega)) (by (have q := (hbo (by omega)).2 (by omega); omega))) rfl ?_
     refine q0 73 313 5 rfl rfl (T_ldE D (lv := .v _) (nn := 0) (upd := []) rfl rfl rfl rfl rfl (by (have q := (hbo (by omega)).2 (by omega); omega)) rfl rfl rfl rfl) rfl ?_
     refine q0 74 329 6 rfl rfl (T_fa D (m := 2) rfl rfl rfl rfl rfl rfl) rfl ?_
     refine s1 345 7 rfl rfl (T_stB D (cs' := [_, _, _, _, _]) rfl rfl rfl rfl (flat_v rfl) rfl rfl (Nat.le_of_ble_eq_true rfl) rfl) rfl ?_
     refine k_done rfl ?_
     refine thenK_n ?_
     refine ⟨(), by (try dsimp only); all_goals trivial, ?_⟩
     exact ⟨[(3, 3), (4, 4), (5, 5), (6, 6), (7, 7), (8, 8), (9, 169), (10, 153)], .same rfl rfl (.same rfl rfl (.same rfl rfl (.same rfl rfl (.eq rfl (.same rfl rfl (.nil)) (by rfl))))), .fzE rfl (.fzE rfl (.box (by rfl) (.box (by rfl) (.rowE rfl (.rowE rfl (.box (by rfl) (.rowE rfl (.box (by (rw [if_pos (by omega)]; rfl)) (.fzE rfl (.nil) (by rfl))) (by rfl))) (by rfl)) (by rfl)))) (by rfl)) (by rfl), rfl⟩
    ·have h4 := c_eql_f g4
     refine W_skip ?_
     refine thenK_n ?_
     refine ⟨(), by (try dsimp only); all_goals trivial, ?_⟩
     exact ⟨[(3, 3), (4, 4), (5, 5), (6, 6), (7, 7), (8, 8), (9, 169), (10, 153)], .same rfl rfl (.same rfl rfl (.same rfl rfl (.same rfl rfl (.eq rfl (.same rfl rfl (.nil)) (by rfl))))), .fzE rfl (.fzE rfl (.box (by rfl) (.box (by rfl) (.rowE rfl (.rowE rfl (.box (by rfl) (.rowE rfl (.box (by (rw [if_neg (by omega)]; rfl)) (.fzE rfl (.nil) (by rfl))) (by rfl))) (by rfl)) (by rfl)))) (by rfl)) (by rfl), rfl⟩
   refine W_seq ?_
   refine W_seqK (b' := 27) rfl rfl ?_
   refine q1 12 11 1 rfl rfl (T_nils [(70, 8)] (T_assign rfl rfl) rfl (.inr ⟨rfl, rfl⟩) (.cons (.nil rfl) .nil) (lv' := .r 11) (upd' := [(11, .row 70 8 (List.map eTac ([] : List (GTac))))]) (nn' := 1) rfl rfl) rfl ?_
   refine k_done rfl ?_
   refine thenK_n ?_
   refine W_seq ?_
   refine W_seq ?_
   refine W_seqK (b' := 43) rfl rfl ?_
   refine q0 13 27 1 rfl rfl (T_assign rfl rfl) rfl ?_
   refine k_done rfl ?_
   refine thenK_n ?_
   refine W_block ?_
   have hBO := hbo (by omega)
   have hBI := hbi (by omega)
   refine W_loop (ι := Nat) 12 (fun m => ⟨[(3, .p 3 0), (6, .p 4 0), (7, .r 6), (9, .p 7 0), (10, .v (.int .i64 (j : Int))), (11, .p 9 0), (12, .r 11), (13, .v (.int .i64 (m : Int)))], [(1, .fz 5 (f.blocks.map eBlock)), (2, .fz 1 (ps.map eI)), (3, .box 29 [.v (.int .i64 f.regs), .r 1]), (4, .box 29 [.v (.int .i64 0), .r 5]), (5, .row 72 5 (([] : List GBlock).map eBlock)), (6, .row 3 1 ((atL ps k).map eI)), (7, .box 29 [.v (.int .i64 (k + wordsP ps)), .r 8]), (8, .row 72 5 (((f.blocks.take j).map (mapB (atL ps k))).map eBlock)), (9, .box 72 [.r 10, .v (.int .i64 (f.blocks.getD j default).fin), .v (.int .i64 (if (f.blocks.getD j default).fin = 2 then (atL ps k).getD (f.blocks.getD j default).v.toNat default else (f.blocks.getD j default).v)), .v (.int .i64 (f.blocks.getD j default).to), .v (.int .i64 (f.blocks.getD j default).els)]), (10, .fz 8 ((f.blocks.getD j default).ins.map eTac)), (11, .row 70 8 ((((f.blocks.getD j default).ins.take m).map (mapT (atL ps k))).map eTac))]⟩) (fun m => m ≤ (f.blocks.getD j default).ins.length) (fun m => (f.blocks.getD j default).ins.length - m) (0) (by exact Nat.zero_le _) ?_ (fun m hM => ?_)
   ·exact ⟨[(3, 3), (4, 4), (5, 5), (6, 6), (7, 7), (8, 8), (9, 9), (10, 10), (11, 11)], .same rfl rfl (.same rfl rfl (.same rfl rfl (.same rfl rfl (.eq rfl (.same rfl rfl (.same rfl rfl (.eq rfl (.nil) (by rfl)))) (by rfl))))), .fzE rfl (.fzE rfl (.box (by rfl) (.box (by rfl) (.rowE rfl (.rowE rfl (.box (by rfl) (.rowE rfl (.box (by rfl) (.fzE rfl (.rowE rfl (.nil) (by rfl)) (by rfl))) (by rfl))) (by rfl)) (by rfl)))) (by rfl)) (by rfl), rfl⟩
   have hTO := fun h : m < (f.blocks.getD j default).ins.length => hBO.1 _ (getD_mem h)
   have hul := usesT_le ((f.blocks.getD j default).ins.getD m default)
   have hsd := fun (h : m < (f.blocks.getD j default).ins.length) (h0 : setsT ((f.blocks.getD j default).ins.getD m default) ≥ 0) => (And.intro (sets_d h0) ((hTO h).1 h0) : setsT ((f.blocks.getD j default).ins.getD m default) = ((f.blocks.getD j default).ins.getD m default).d ∧ setsT ((f.blocks.getD j default).ins.getD m default) < _)
   have hsa := fun (h : m < (f.blocks.getD j default).ins.length) (h0 : 0 < (usesT ((f.blocks.getD j default).ins.getD m default)).length) => (hTO h).2 _ (len_a h0)
   have hsb := fun (h : m < (f.blocks.getD j default).ins.length) (h0 : 1 < (usesT ((f.blocks.getD j default).ins.getD m default)).length) => (hTO h).2 _ (len_b h0)
   refine W_seq ?_
   refine W_seq ?_
   refine W_seqK (b' := 92) rfl rfl ?_
   refine q0 75 12 1 rfl rfl (T_move rfl rfl) rfl ?_
   refine q0 76 28 2 rfl rfl (T_fa D (m := 0) rfl rfl rfl rfl rfl rfl) rfl ?_
   refine q0 77 44 3 rfl rfl (T_load_b D rfl rfl rfl rfl rfl rfl) rfl ?_
   refine q0 78 60 4 rfl rfl (T_len D rfl rfl rfl rfl rfl rfl) rfl ?_
   refine q0 79 76 5 rfl rfl (T_cmp rfl rfl rfl rfl) rfl ?_
   refine k_done rfl ?_
   refine thenK_n ?_
   refine W_cond rfl (fun g5 => ?_) (fun g5 => ?_)
   ·have h5 := c_lss_t g5
    refine W_skip ?_
    refine thenK_n ?_
    refine W_seq ?_
    refine W_block ?_
    refine W_seq ?_
    refine W_seqK (b' := 204) rfl rfl ?_
    refine q0 82 92 1 rfl rfl (T_fa D (m := 0) rfl rfl rfl rfl rfl rfl) rfl ?_
    refine q0 83 108 2 rfl rfl (T_load_b D rfl rfl rfl rfl rfl rfl) rfl ?_
    refine q0 84 124 3 rfl rfl (T_move rfl rfl) rfl ?_
    refine q0 85 140 4 rfl rfl (T_indexAddr D rfl rfl rfl rfl rfl rfl rfl rfl (by omega)) rfl ?_
    refine q0 86 156 5 rfl rfl (T_ldEA D (l := [.v _, .v _, .v _, .v _, .v _, .v _, .v _, .v _]) (nn := 0) (upd := []) rfl rfl rfl rfl rfl (by omega) rfl rfl rfl rfl rfl) rfl ?_
    refine q1 14 172 6 rfl rfl (T_alloc D rfl rfl rfl) rfl ?_
    refine s1 188 7 rfl rfl (T_stB D (cs' := [_, _, _, _, _, _, _, _]) rfl rfl rfl rfl flat_agg rfl rfl (Nat.le_of_ble_eq_true rfl) rfl) rfl ?_
    refine k_done rfl ?_
    refine thenK_n ?_
    refine W_seq ?_
    refine W_seqK (b' := 252) rfl rfl ?_
    refine q0 87 204 1 rfl rfl (T_load_bA D (l := [_, _, _, _, _, _, _, _]) rfl rfl rfl rfl rfl rfl rfl) rfl ?_
    refine q1 88 220 2 rfl rfl (T_callR (lvs := [_]) (L := []) (keep := false) (uses_spec ((f.blocks.getD j default).ins.getD m default)) body60 rfl rfl rfl rfl (.nil) rfl (.inl rfl) rfl) rfl ?_
    refine q0 15 236 3 rfl rfl (T_assign rfl rfl) rfl ?_
    refine k_done rfl ?_
    refine thenK_n ?_
    refine W_join (ι := Unit) 14 (fun _u => ⟨[(3, .p 3 0), (6, .p 4 0), (7, .r 6), (9, .p 7 0), (10, .v (.int .i64 (j : Int))), (11, .p 9 0), (12, .r 11), (13, .v (.int .i64 (m : Int))), (14, .p 12 0), (15, .r 13)], [(1, .fz 5 (f.blocks.map eBlock)), (2, .fz 1 (ps.map eI)), (3, .box 29 [.v (.int .i64 f.regs), .r 1]), (4, .box 29 [.v (.int .i64 0), .r 5]), (5, .row 72 5 (([] : List GBlock).map eBlock)), (6, .row 3 1 ((atL ps k).map eI)), (7, .box 29 [.v (.int .i64 (k + wordsP ps)), .r 8]), (8, .row 72 5 (((f.blocks.take j).map (mapB (atL ps k))).map eBlock)), (9, .box 72 [.r 10, .v (.int .i64 (f.blocks.getD j default).fin), .v (.int .i64 (if (f.blocks.getD j default).fin = 2 then (atL ps k).getD (f.blocks.getD j default).v.toNat default else (f.blocks.getD j default).v)), .v (.int .i64 (f.blocks.getD j default).to), .v (.int .i64 (f.blocks.getD j default).els)]), (10, .fz 8 ((f.blocks.getD j default).ins.map eTac)), (11, .row 70 8 ((((f.blocks.getD j default).ins.take m).map (mapT (atL ps k))).map eTac)), (12, .box 70 [.v (.int .i64 ((f.blocks.getD j default).ins.getD m default).op), .v (.int .i64 (if setsT ((f.blocks.getD j default).ins.getD m default) ≥ 0 then (atL ps k).getD ((f.blocks.getD j default).ins.getD m default).d.toNat default else ((f.blocks.getD j default).ins.getD m default).d)), .v (.int .i64 ((f.blocks.getD j default).ins.getD m default).a), .v (.int .i64 ((f.blocks.getD j default).ins.getD m default).b), .v (.int .i64 ((f.blocks.getD j default).ins.getD m default).k), .v (.int .i64 ((f.blocks.getD j default).ins.getD m default).base), .v (.int .i64 ((f.blocks.getD j default).ins.getD m default).size), .v (.int .u32 ((f.blocks.getD j default).ins.getD m default).n)]), (13, .row 3 1 ((usesT ((f.blocks.getD j default).ins.getD m default)).map eI))]⟩) (fun _ => True) ?_ (fun _u hJ => ?_)
    ·skip
     refine W_seq ?_
     refine W_seqK (b' := 300) rfl rfl ?_
     refine q0 89 252 1 rfl rfl (T_load_bA D (l := [_, _, _, _, _, _, _, _]) rfl rfl rfl rfl rfl rfl rfl) rfl ?_
     refine q0 90 268 2 rfl rfl (T_callV (lvs := [_]) (L := []) (sets_spec ((f.blocks.getD j default).ins.getD m default)) body86 rfl rfl rfl rfl (.nil) rfl) rfl ?_
     refine q0 91 284 3 rfl rfl (T_cmp rfl rfl rfl rfl) rfl ?_
     refine k_done rfl ?_
     refine thenK_n ?_
     refine W_cond rfl (fun g6 => ?_) (fun g6 => ?_)
     ·have h6 := c_geq_t g6
      refine W_seqK (b' := 412) rfl rfl ?_
      refine q0 92 300 1 rfl rfl (T_move rfl rfl) rfl ?_
      refine q0 93 316 2 rfl rfl (T_fa D (m := 1) rfl rfl rfl rfl rfl rfl) rfl ?_
      refine q0 94 332 3 rfl rfl (T_load_b D rfl rfl rfl rfl rfl rfl) rfl ?_
      refine q0 95 348 4 rfl rfl (T_indexAddrZ D rfl rfl rfl rfl rfl rfl rfl rfl (by omega) (by omega)) rfl ?_
      refine q0 96 364 5 rfl rfl (T_ldE D (lv := .v _) (nn := 0) (upd := []) rfl rfl rfl rfl rfl (by omega) rfl rfl rfl rfl) rfl ?_
      refine q0 97 380 6 rfl rfl (T_fa D (m := 1) rfl rfl rfl rfl rfl rfl) rfl ?_
      refine s1 396 7 rfl rfl (T_stB D (cs' := [_, _, _, _, _, _, _, _]) rfl rfl rfl rfl (flat_v rfl) rfl rfl (Nat.le_of_ble_eq_true rfl) rfl) rfl ?_
      refine k_done rfl ?_
      refine thenK_n ?_
      refine ⟨(), by (try dsimp only); all_goals trivial, ?_⟩
      exact ⟨[(3, 3), (4, 4), (5, 5), (6, 6), (7, 7), (8, 8), (9, 9), (10, 10), (11, 11), (12, 172), (13, 220)], .same rfl rfl (.same rfl rfl (.same rfl rfl (.same rfl rfl (.eq rfl (.same rfl rfl (.same rfl rfl (.eq rfl (.same rfl rfl (.same rfl rfl (.nil))) (by rfl)))) (by rfl))))), .fzE rfl (.fzE rfl (.box (by rfl) (.box (by rfl) (.rowE rfl (.rowE rfl (.box (by rfl) (.rowE rfl (.box (by rfl) (.fzE rfl (.rowE rfl (.box (by (rw [if_pos (show setsT ((f.blocks.getD j default).ins.getD m default) ≥ 0 by omega)]; rfl)) (.rowE rfl (.nil) (by rfl))) (by rfl)) (by rfl))) (by rfl))) (by rfl)) (by rfl)))) (by rfl)) (by rfl), rfl⟩
     ·have h6 := c_geq_f g6
      refine W_skip ?_
      refine thenK_n ?_
      refine ⟨(), by (try dsimp only); all_goals trivial, ?_⟩
      exact ⟨[(3, 3), (4, 4), (5, 5), (6, 6), (7, 7), (8, 8), (9, 9), (10, 10), (11, 11), (12, 172), (13, 220)], .same rfl rfl (.same rfl rfl (.same rfl rfl (.same rfl rfl (.eq rfl (.same rfl rfl (.same rfl rfl (.eq rfl (.same rfl rfl (.same rfl rfl (.nil))) (by rfl)))) (by rfl))))), .fzE rfl (.fzE rfl (.box (by rfl) (.box (by rfl) (.rowE rfl (.rowE rfl (.box (by rfl) (.rowE rfl (.box (by rfl) (.fzE rfl (.rowE rfl (.box (by (rw [if_neg (show ¬ setsT ((f.blocks.getD j default).ins.getD m default) ≥ 0 by omega)]; rfl)) (.rowE rfl (.nil) (by rfl))) (by rfl)) (by rfl))) (by rfl))) (by rfl)) (by rfl)))) (by rfl)) (by rfl), rfl⟩
    refine W_join (ι := Unit) 14 (fun _u => ⟨[(3, .p 3 0), (6, .p 4 0), (7, .r 6), (9, .p 7 0), (10, .v (.int .i64 (j : Int))), (11, .p 9 0), (12, .r 11), (13, .v (.int .i64 (m : Int))), (14, .p 12 0), (15, .r 13)], [(1, .fz 5 (f.blocks.map eBlock)), (2, .fz 1 (ps.map eI)), (3, .box 29 [.v (.int .i64 f.regs), .r 1]), (4, .box 29 [.v (.int .i64 0), .r 5]), (5, .row 72 5 (([] : List GBlock).map eBlock)), (6, .row 3 1 ((atL ps k).map eI)), (7, .box 29 [.v (.int .i64 (k + wordsP ps)), .r 8]), (8, .row 72 5 (((f.blocks.take j).map (mapB (atL ps k))).map eBlock)), (9, .box 72 [.r 10, .v (.int .i64 (f.blocks.getD j default).fin), .v (.int .i64 (if (f.blocks.getD j default).fin = 2 then (atL ps k).getD (f.blocks.getD j default).v.toNat default else (f.blocks.getD j default).v)), .v (.int .i64 (f.blocks.getD j default).to), .v (.int .i64 (f.blocks.getD j default).els)]), (10, .fz 8 ((f.blocks.getD j default).ins.map eTac)), (11, .row 70 8 ((((f.blocks.getD j default).ins.take m).map (mapT (atL ps k))).map eTac)), (12, .box 70 [.v (.int .i64 ((f.blocks.getD j default).ins.getD m default).op), .v (.int .i64 (if setsT ((f.blocks.getD j default).ins.getD m default) ≥ 0 then (atL ps k).getD ((f.blocks.getD j default).ins.getD m default).d.toNat default else ((f.blocks.getD j default).ins.getD m default).d)), .v (.int .i64 (if 0 < (usesT ((f.blocks.getD j default).ins.getD m default)).length then (atL ps k).getD ((f.blocks.getD j default).ins.getD m default).a.toNat default else ((f.blocks.getD j default).ins.getD m default).a)), .v (.int .i64 ((f.blocks.getD j default).ins.getD m default).b), .v (.int .i64 ((f.blocks.getD j default).ins.getD m default).k), .v (.int .i64 ((f.blocks.getD j default).ins.getD m default).base), .v (.int .i64 ((f.blocks.getD j default).ins.getD m default).size), .v (.int .u32 ((f.blocks.getD j default).ins.getD m default).n)]), (13, .row 3 1 ((usesT ((f.blocks.getD j default).ins.getD m default)).map eI))]⟩) (fun _ => True) ?_ (fun _u hJ => ?_)
    ·skip
     refine W_seq ?_
     refine W_seqK (b' := 62) rfl rfl ?_
     refine q0 98 14 1 rfl rfl (T_move rfl rfl) rfl ?_
     refine q0 99 30 2 rfl rfl (T_len D rfl rfl rfl rfl rfl rfl) rfl ?_
     refine q0 100 46 3 rfl rfl (T_cmp rfl rfl rfl rfl) rfl ?_
     refine k_done rfl ?_
     refine thenK_n ?_
     refine W_cond rfl (fun g7 => ?_) (fun g7 => ?_)
     ·have h7 := c_gtr_t g7
      refine W_seqK (b' := 174) rfl rfl ?_
      refine q0 101 62 1 rfl rfl (T_move rfl rfl) rfl ?_
      refine q0 102 78 2 rfl rfl (T_fa D (m := 2) rfl rfl rfl rfl rfl rfl) rfl ?_
      refine q0 103 94 3 rfl rfl (T_load_b D rfl rfl rfl rfl rfl rfl) rfl ?_
      refine q0 104 110 4 rfl rfl (T_indexAddrZ D rfl rfl rfl rfl rfl rfl rfl rfl (by omega) (by omega)) rfl ?_
      refine q0 105 126 5 rfl rfl (T_ldE D (lv := .v _) (nn := 0) (upd := []) rfl rfl rfl rfl rfl (by omega) rfl rfl rfl rfl) rfl ?_
      refine q0 106 142 6 rfl rfl (T_fa D (m := 2) rfl rfl rfl rfl rfl rfl) rfl ?_
      refine s1 158 7 rfl rfl (T_stB D (cs' := [_, _, _, _, _, _, _, _]) rfl rfl rfl rfl (flat_v rfl) rfl rfl (Nat.le_of_ble_eq_true rfl) rfl) rfl ?_
      refine k_done rfl ?_
      refine thenK_n ?_
      refine ⟨(), by (try dsimp only); all_goals trivial, ?_⟩
      exact ⟨[(3, 3), (4, 4), (5, 5), (6, 6), (7, 7), (8, 8), (9, 9), (10, 10), (11, 11), (12, 12), (13, 13)], .same rfl rfl (.same rfl rfl (.same rfl rfl (.same rfl rfl (.eq rfl (.same rfl rfl (.same rfl rfl (.eq rfl (.same rfl rfl (.same rfl rfl (.nil))) (by rfl)))) (by rfl))))), .fzE rfl (.fzE rfl (.box (by rfl) (.box (by rfl) (.rowE rfl (.rowE rfl (.box (by rfl) (.rowE rfl (.box (by rfl) (.fzE rfl (.rowE rfl (.box (by (rw [if_pos (show 0 < (usesT _).length by omega)]; rfl)) (.rowE rfl (.nil) (by rfl))) (by rfl)) (by rfl))) (by rfl))) (by rfl)) (by rfl)))) (by rfl)) (by rfl), rfl⟩
     ·have h7 := c_gtr_f g7
      refine W_skip ?_
      refine thenK_n ?_
      refine ⟨(), by (try dsimp only); all_goals trivial, ?_⟩
      exact ⟨[(3, 3), (4, 4), (5, 5), (6, 6), (7, 7), (8, 8), (9, 9), (10, 10), (11, 11), (12, 12), (13, 13)], .same rfl rfl (.same rfl rfl (.same rfl rfl (.same rfl rfl (.eq rfl (.same rfl rfl (.same rfl rfl (.eq rfl (.same rfl rfl (.same rfl rfl (.nil))) (by rfl)))) (by rfl))))), .fzE rfl (.fzE rfl (.box (by rfl) (.box (by rfl) (.rowE rfl (.rowE rfl (.box (by rfl) (.rowE rfl (.box (by rfl) (.fzE rfl (.rowE rfl (.box (by (rw [if_neg (show ¬ 0 < (usesT _).length by omega)]; rfl)) (.rowE rfl (.nil) (by rfl))) (by rfl)) (by rfl))) (by rfl))) (by rfl)) (by rfl)))) (by rfl)) (by rfl), rfl⟩
    refine W_join (ι := Unit) 13 (fun _u => ⟨[(3, .p 3 0), (6, .p 4 0), (7, .r 6), (9, .p 7 0), (10, .v (.int .i64 (j : Int))), (11, .p 9 0), (12, .r 11), (13, .v (.int .i64 (m : Int))), (14, .p 12 0)], [(1, .fz 5 (f.blocks.map eBlock)), (2, .fz 1 (ps.map eI)), (3, .box 29 [.v (.int .i64 f.regs), .r 1]), (4, .box 29 [.v (.int .i64 0), .r 5]), (5, .row 72 5 (([] : List GBlock).map eBlock)), (6, .row 3 1 ((atL ps k).map eI)), (7, .box 29 [.v (.int .i64 (k + wordsP ps)), .r 8]), (8, .row 72 5 (((f.blocks.take j).map (mapB (atL ps k))).map eBlock)), (9, .box 72 [.r 10, .v (.int .i64 (f.blocks.getD j default).fin), .v (.int .i64 (if (f.blocks.getD j default).fin = 2 then (atL ps k).getD (f.blocks.getD j default).v.toNat default else (f.blocks.getD j default).v)), .v (.int .i64 (f.blocks.getD j default).to), .v (.int .i64 (f.blocks.getD j default).els)]), (10, .fz 8 ((f.blocks.getD j default).ins.map eTac)), (11, .row 70 8 ((((f.blocks.getD j default).ins.take m).map (mapT (atL ps k))).map eTac)), (12, .box 70 [.v (.int .i64 ((f.blocks.getD j default).ins.getD m default).op), .v (.int .i64 (if setsT ((f.blocks.getD j default).ins.getD m default) ≥ 0 then (atL ps k).getD ((f.blocks.getD j default).ins.getD m default).d.toNat default else ((f.blocks.getD j default).ins.getD m default).d)), .v (.int .i64 (if 0 < (usesT ((f.blocks.getD j default).ins.getD m default)).length then (atL ps k).getD ((f.blocks.getD j default).ins.getD m default).a.toNat default else ((f.blocks.getD j default).ins.getD m default).a)), .v (.int .i64 (if 1 < (usesT ((f.blocks.getD j default).ins.getD m default)).length then (atL ps k).getD ((f.blocks.getD j default).ins.getD m default).b.toNat default else ((f.blocks.getD j default).ins.getD m default).b)), .v (.int .i64 ((f.blocks.getD j default).ins.getD m default).k), .v (.int .i64 ((f.blocks.getD j default).ins.getD m default).base), .v (.int .i64 ((f.blocks.getD j default).ins.getD m default).size), .v (.int .u32 ((f.blocks.getD j default).ins.getD m default).n)])]⟩) (fun _ => True) ?_ (fun _u hJ => ?_)
    ·skip
     refine W_seq ?_
     refine W_seqK (b' := 62) rfl rfl ?_
     refine q0 107 14 1 rfl rfl (T_move rfl rfl) rfl ?_
     refine q0 108 30 2 rfl rfl (T_len D rfl rfl rfl rfl rfl rfl) rfl ?_
     refine q0 109 46 3 rfl rfl (T_cmp rfl rfl rfl rfl) rfl ?_
     refine k_done rfl ?_
     refine thenK_n ?_
     refine W_cond rfl (fun g8 => ?_) (fun g8 => ?_)
     ·have h8 := c_gtr_t g8
      refine W_seqK (b' := 174) rfl rfl ?_
      refine q0 110 62 1 rfl rfl (T_move rfl rfl) rfl ?_
      refine q0 111 78 2 rfl rfl (T_fa D (m := 3) rfl rfl rfl rfl rfl rfl) rfl ?_
      refine q0 112 94 3 rfl rfl (T_load_b D rfl rfl rfl rfl rfl rfl) rfl ?_
      refine q0 113 110 4 rfl rfl (T_indexAddrZ D rfl rfl rfl rfl rfl rfl rfl rfl (by omega) (by omega)) rfl ?_
      refine q0 114 126 5 rfl rfl (T_ldE D (lv := .v _) (nn := 0) (upd := []) rfl rfl rfl rfl rfl (by omega) rfl rfl rfl rfl) rfl ?_
      refine q0 115 142 6 rfl rfl (T_fa D (m := 3) rfl rfl rfl rfl rfl rfl) rfl ?_
      refine s1 158 7 rfl rfl (T_stB D (cs' := [_, _, _, _, _, _, _, _]) rfl rfl rfl rfl (flat_v rfl) rfl rfl (Nat.le_of_ble_eq_true rfl) rfl) rfl ?_
      refine k_done rfl ?_
      refine thenK_n ?_
      refine ⟨(), by (try dsimp only); all_goals trivial, ?_⟩
      exact ⟨[(3, 3), (4, 4), (5, 5), (6, 6), (7, 7), (8, 8), (9, 9), (10, 10), (11, 11), (12, 12)], .same rfl rfl (.same rfl rfl (.same rfl rfl (.same rfl rfl (.eq rfl (.same rfl rfl (.same rfl rfl (.eq rfl (.same rfl rfl (.nil)) (by rfl)))) (by rfl))))), .fzE rfl (.fzE rfl (.box (by rfl) (.box (by rfl) (.rowE rfl (.rowE rfl (.box (by rfl) (.rowE rfl (.box (by rfl) (.fzE rfl (.rowE rfl (.box (by (rw [if_pos (show 1 < (usesT _).length by omega)]; rfl)) (.nil)) (by rfl)) (by rfl))) (by rfl))) (by rfl)) (by rfl)))) (by rfl)) (by rfl), rfl⟩
     ·have h8 := c_gtr_f g8
      refine W_skip ?_
      refine thenK_n ?_
      refine ⟨(), by (try dsimp only); all_goals trivial, ?_⟩
      exact ⟨[(3, 3), (4, 4), (5, 5), (6, 6), (7, 7), (8, 8), (9, 9), (10, 10), (11, 11), (12, 12)], .same rfl rfl (.same rfl rfl (.same rfl rfl (.same rfl rfl (.eq rfl (.same rfl rfl (.same rfl rfl (.eq rfl (.same rfl rfl (.nil)) (by rfl)))) (by rfl))))), .fzE rfl (.fzE rfl (.box (by rfl) (.box (by rfl) (.rowE rfl (.rowE rfl (.box (by rfl) (.rowE rfl (.box (by rfl) (.fzE rfl (.rowE rfl (.box (by (rw [if_neg (show ¬ 1 < (usesT _).length by omega)]; rfl)) (.nil)) (by rfl)) (by rfl))) (by rfl))) (by rfl)) (by rfl)))) (by rfl)) (by rfl), rfl⟩
    refine W_seqK (b' := 93) rfl rfl ?_
    refine q0 116 13 1 rfl rfl (T_move rfl rfl) rfl ?_
    refine q0 117 29 2 rfl rfl (T_load_bA D (l := [_, _, _, _, _, _, _, _]) rfl rfl rfl rfl rfl rfl rfl) rfl ?_
    refine q1 118 45 3 rfl rfl (T_bs D (ys := [(mapT (atL ps k) ((f.blocks.getD j default).ins.getD m default))]) (enc := eTac) (l := [_, _, _, _, _, _, _, _]) rfl rfl rfl rfl rfl rfl (.cons rfl flat_agg (.nil)) rfl rfl rfl rfl (.v rfl (.v rfl (.v rfl (.v rfl (.v rfl (.v rfl (.v rfl (.v rfl (.nil))))))))) rfl rfl) rfl ?_
    refine qn 119 61 4 rfl rfl (T_append D rfl rfl rfl rfl rfl rfl rfl rfl rfl rfl rfl rfl (by (try simp only [ty70]); (simp; omega)) (by (try simp only [ty70]); (simp; omega))) rfl ?_
    refine q0 12 77 5 rfl rfl (T_assign rfl rfl) rfl ?_
    refine k_done rfl ?_
    refine blockK_n ?_
    refine thenK_n ?_
    refine W_seqK (b' := 141) rfl rfl ?_
    refine q0 80 93 1 rfl rfl (T_move rfl rfl) rfl ?_
    refine q0 81 109 2 rfl rfl (T_add64 rfl rfl rfl (by omega)) rfl ?_
    refine q0 13 125 3 rfl rfl (T_assign rfl rfl) rfl ?_
    refine k_done rfl ?_
    refine thenK_n ?_
    refine ⟨m + 1, by (try dsimp only); omega, by (try dsimp only); omega, ?_⟩
    exact ⟨[(3, 3), (4, 4), (5, 5), (6, 6), (7, 7), (8, 8), (9, 9), (10, 10), (11, 61)], .same rfl rfl (.same rfl rfl (.same rfl rfl (.same rfl rfl (.eq rfl (.same rfl rfl (.same rfl rfl (.eq rfl (.nil) (by rfl)))) rfl)))), .fzE rfl (.fzE rfl (.box (by rfl) (.box (by rfl) (.rowE rfl (.rowE rfl (.box (by rfl) (.rowE rfl (.box (by rfl) (.fzE rfl (.rowE rfl (.nil) (by (exact congrArg (List.map eTac) (map_step _ (by omega) rfl)))) rfl)) (by rfl))) (by rfl)) (by rfl)))) rfl) rfl, rfl⟩
   ·have h5 := c_lss_f g5
    refine W_exit ?_
    refine thenK_e ?_
    refine thenK_e ?_
    refine blockK_hit ?_
    refine thenK_n ?_
    refine W_seq ?_
    refine W_seqK (b' := 140) rfl rfl ?_
    refine q0 120 92 1 rfl rfl (T_move rfl rfl) rfl ?_
    refine q0 121 108 2 rfl rfl (T_fa D (m := 0) rfl rfl rfl rfl rfl rfl) rfl ?_
    refine s1 124 3 rfl rfl (T_stB D (cs' := [_, _, _, _, _]) rfl rfl rfl rfl (flat_sl rfl) rfl rfl (Nat.le_of_ble_eq_true rfl) rfl) rfl ?_
    refine k_done rfl ?_
    refine thenK_n ?_
    refine W_seqK (b' := 252) rfl rfl ?_
    refine q0 122 140 1 rfl rfl (T_fa D (m := 1) rfl rfl rfl rfl rfl rfl) rfl ?_
    refine q0 123 156 2 rfl rfl (T_load_b D rfl rfl rfl rfl rfl rfl) rfl ?_
    refine q0 124 172 3 rfl rfl (T_load_bA D (l := [_, _, _, _, _]) rfl rfl rfl rfl rfl rfl rfl) rfl ?_
    refine qn 125 188 4 rfl rfl (T_bs D (ys := [⟨((f.blocks.getD j default).ins.take m).map (mapT (atL ps k)), (f.blocks.getD j default).fin, (if (f.blocks.getD j default).fin = 2 then (atL ps k).getD (f.blocks.getD j default).v.toNat default else (f.blocks.getD j default).v), (f.blocks.getD j default).to, (f.blocks.getD j default).els⟩]) (enc := eBlock) (l := [_, _, _, _, _]) rfl rfl rfl rfl rfl rfl (.cons rfl flat_agg (.nil)) rfl rfl rfl rfl (.row rfl (.v rfl (.v rfl (.v rfl (.v rfl (.nil))))) (by rfl)) rfl rfl) rfl ?_
    refine qn 126 204 5 rfl rfl (T_append D rfl rfl rfl rfl rfl rfl rfl rfl rfl rfl rfl rfl (by (try simp only [ty72]); (simp; omega)) (by (try simp only [ty72]); (simp; omega))) rfl ?_
    refine q0 127 220 6 rfl rfl (T_fa D (m := 1) rfl rfl rfl rfl rfl rfl) rfl ?_
    refine s1 236 7 rfl rfl (T_stB D (cs' := [_, _]) rfl rfl rfl rfl (flat_sl rfl) rfl rfl (Nat.le_of_ble_eq_true rfl) rfl) rfl ?_
    refine k_done rfl ?_
    refine blockK_n ?_
    refine thenK_n ?_
    refine W_seqK (b' := 300) rfl rfl ?_
    refine q0 59 252 1 rfl rfl (T_move rfl rfl) rfl ?_
    refine q0 60 268 2 rfl rfl (T_add64 rfl rfl rfl (by omega)) rfl ?_
    refine q0 10 284 3 rfl rfl (T_assign rfl rfl) rfl ?_
    refine k_done rfl ?_
    refine thenK_n ?_
    refine ⟨j + 1, by (try dsimp only); omega, by (try dsimp only); omega, ?_⟩
    exact ⟨[(3, 3), (4, 4), (5, 5), (6, 6), (7, 7), (8, 204)], .same rfl rfl (.same rfl rfl (.same rfl rfl (.same rfl rfl (.eq rfl (.nil) (by rfl))))), .fzE rfl (.fzE rfl (.box (by rfl) (.box (by rfl) (.rowE rfl (.rowE rfl (.box (by rfl) (.rowE rfl (.nil) (by (have em : m = (f.blocks.getD j default).ins.length := (by omega); subst em; exact congrArg (List.map eBlock) (map_step _ (by omega) (by unfold mapB; rw [List.take_of_length_le (Nat.le_refl _)])))))) (by rfl)) (by rfl)))) rfl) rfl, rfl⟩
  ·have h3 := c_lss_f g3
   refine W_exit ?_
   refine thenK_e ?_
   refine thenK_e ?_
   refine blockK_hit ?_
   refine thenK_n ?_
   refine W_seq ?_
   refine W_seqK (b' := 121) rfl rfl ?_
   refine q0 128 89 1 rfl rfl (T_load_bA D (l := [_, _]) rfl rfl rfl rfl rfl rfl rfl) rfl ?_
   refine s1 105 2 rfl rfl (T_stB D (cs' := [_, _]) rfl rfl rfl rfl flat_agg rfl rfl (Nat.le_of_ble_eq_true rfl) rfl) rfl ?_
   refine k_done rfl ?_
   refine thenK_n ?_
   refine W_ret ?_
   exact .mk [(3, 8)] (.inr rfl) (.cellA rfl rfl rfl rfl rfl (.nil)) (by rfl) (.rowE rfl (.nil) (by (have ej : j = f.blocks.length := (by omega); subst ej; rw [List.take_of_length_le (Nat.le_refl _)]; rfl))) rfl
end Lg
end Go.Proofs.Ytpfhmodjjljpjaa

namespace Go.Proofs.Ytpfhmodjjljpjaa
open Go.RowKit
namespace Lg
set_option maxRecDepth 100000
set_option linter.unusedVariables false
set_option linter.unusedSimpArgs false
theorem body120 : (Try.prog.funcs[120]?).map (fun fn => (fn.name == "runtime.NumGoroutine" || fn.body.isNone)) = some false := by kernel_rfl
theorem step_yes (fs : List GFn) (ws out : List Int) (words fuel rd steps fin : Int) (inp : ByteArray) (hb : -9000000000000000000 ≤ steps ∧ steps ≤ 9000000000000000000) (hs : steps < fuel) : Spec Try.prog 120 [.p 1 0] 5 [(1, .box 107 [.v (.int .i64 words), .r 2, .v (.string inp), .v (.int .i64 fuel), .r 3, .r 4, .v (.int .i64 rd), .v (.int .i64 steps), .v (.int .i64 fin)]), (2, .fz 2 (fs.map eFn)), (3, .row 68 1 (ws.map eU32)), (4, .row 5 1 (out.map eU8))] (.v (.bool true)) 5 [(1, .box 107 [.v (.int .i64 words), .r 2, .v (.string inp), .v (.int .i64 fuel), .r 3, .r 4, .v (.int .i64 rd), .v (.int .i64 (steps + 1)), .v (.int .i64 fin)]), (3, .row 68 1 (ws.map eU32)), (4, .row 5 1 (out.map eU8))] := by
 refine spec_of D (fn := Try.f120) rfl rfl (Nat.le_of_ble_eq_true rfl) ?_
 refine W_seq ?_
 refine W_seqK (b' := 21) rfl rfl ?_
 refine q0 2 5 1 rfl rfl (T_assign rfl rfl) rfl ?_
 refine k_done rfl ?_
 refine thenK_n ?_
 refine W_seq ?_
 refine W_seq ?_
 refine W_anyK (b' := 165) rfl rfl rfl ?_
 refine q0 3 21 1 rfl rfl (T_move rfl rfl) rfl ?_
 refine q0 4 37 2 rfl rfl (T_nilCheck rfl rfl) rfl ?_
 refine q0 5 53 3 rfl rfl (T_fa D (m := 7) rfl rfl rfl rfl rfl rfl) rfl ?_
 refine q0 6 69 4 rfl rfl (T_load_b D rfl rfl rfl rfl rfl rfl) rfl ?_
 refine q0 7 85 5 rfl rfl (T_move rfl rfl) rfl ?_
 refine q0 8 101 6 rfl rfl (T_nilCheck rfl rfl) rfl ?_
 refine q0 9 117 7 rfl rfl (T_fa D (m := 3) rfl rfl rfl rfl rfl rfl) rfl ?_
 refine q0 10 133 8 rfl rfl (T_load_b D rfl rfl rfl rfl rfl rfl) rfl ?_
 refine q0 11 149 9 rfl rfl (T_cmp rfl rfl rfl rfl) rfl ?_
 refine k_done rfl ?_
 refine ⟨rfl, ?_⟩
 refine thenK_n ?_
 refine W_cond rfl (fun g1 => ?_) (fun g1 => ?_)
 ·have h1 := c_geq_t g1
  refine W_seq ?_
  refine W_seqK (b' := 229) rfl rfl ?_
  refine q0 12 165 1 rfl rfl (T_move rfl rfl) rfl ?_
  refine q0 13 181 2 rfl rfl (T_nilCheck rfl rfl) rfl ?_
  refine q0 14 197 3 rfl rfl (T_fa D (m := 8) rfl rfl rfl rfl rfl rfl) rfl ?_
  refine s1 213 4 rfl rfl (T_stB D (cs' := [_, _, _, _, _, _, _, _, _]) rfl rfl rfl rfl (flat_v rfl) rfl rfl (Nat.le_of_ble_eq_true rfl) rfl) rfl ?_
  refine k_done rfl ?_
  refine thenK_n ?_
  refine W_seq ?_
  refine W_seqK (b' := 245) rfl rfl ?_
  refine q0 2 229 1 rfl rfl (T_assign rfl rfl) rfl ?_
  refine k_done rfl ?_
  refine thenK_n ?_
  refine W_ret ?_
  refine thenK_r ?_
  exact .mk [] (.inr rfl) (.tmp rfl (.nil)) (by (exfalso; omega)) (.box (by (exfalso; omega)) (.rowE rfl (.rowE rfl (.nil) (by rfl)) (by rfl))) rfl
 ·have h1 := c_geq_f g1
  refine W_skip ?_
  refine thenK_n ?_
  refine W_seq ?_
  refine W_seqK (b' := 293) rfl rfl ?_
  refine q0 15 165 1 rfl rfl (T_move rfl rfl) rfl ?_
  refine q0 16 181 2 rfl rfl (T_nilCheck rfl rfl) rfl ?_
  refine q0 17 197 3 rfl rfl (T_fa D (m := 7) rfl rfl rfl rfl rfl rfl) rfl ?_
  refine q0 18 213 4 rfl rfl (T_load_b D rfl rfl rfl rfl rfl rfl) rfl ?_
  refine q0 19 229 5 rfl rfl (T_add64 rfl rfl rfl (by omega)) rfl ?_
  refine q0 20 245 6 rfl rfl (T_nilCheck rfl rfl) rfl ?_
  refine q0 21 261 7 rfl rfl (T_fa D (m := 7) rfl rfl rfl rfl rfl rfl) rfl ?_
  refine s1 277 8 rfl rfl (T_stB D (cs' := [_, _, _, _, _, _, _, _, _]) rfl rfl rfl rfl (flat_v rfl) rfl rfl (Nat.le_of_ble_eq_true rfl) rfl) rfl ?_
  refine k_done rfl ?_
  refine thenK_n ?_
  refine W_seq ?_
  refine W_seqK (b' := 309) rfl rfl ?_
  refine q0 2 293 1 rfl rfl (T_assign rfl rfl) rfl ?_
  refine k_done rfl ?_
  refine thenK_n ?_
  refine W_ret ?_
  exact .mk [] (.inr rfl) (.tmp rfl (.nil)) (by rfl) (.box (by rfl) (.rowE rfl (.rowE rfl (.nil) (by rfl)) (by rfl))) rfl
theorem step_no (fs : List GFn) (ws out : List Int) (words fuel rd steps fin : Int) (inp : ByteArray) (hb : -9000000000000000000 ≤ steps ∧ steps ≤ 9000000000000000000) (hs : ¬ steps < fuel) : Spec Try.prog 120 [.p 1 0] 5 [(1, .box 107 [.v (.int .i64 words), .r 2, .v (.string inp), .v (.int .i64 fuel), .r 3, .r 4, .v (.int .i64 rd), .v (.int .i64 steps), .v (.int .i64 fin)]), (2, .fz 2 (fs.map eFn)), (3, .row 68 1 (ws.map eU32)), (4, .row 5 1 (out.map eU8))] (.v (.bool false)) 5 [(1, .box 107 [.v (.int .i64 words), .r 2, .v (.string inp), .v (.int .i64 fuel), .r 3, .r 4, .v (.int .i64 rd), .v (.int .i64 steps), .v (.int .i64 5)]), (3, .row 68 1 (ws.map eU32)), (4, .row 5 1 (out.map eU8))] := by
 refine spec_of D (fn := Try.f120) rfl rfl (Nat.le_of_ble_eq_true rfl) ?_
 refine W_seq ?_
 refine W_seqK (b' := 21) rfl rfl ?_
 refine q0 2 5 1 rfl rfl (T_assign rfl rfl) rfl ?_
 refine k_done rfl ?_
 refine thenK_n ?_
 refine W_seq ?_
 refine W_seq ?_
 refine W_anyK (b' := 165) rfl rfl rfl ?_
 refine q0 3 21 1 rfl rfl (T_move rfl rfl) rfl ?_
 refine q0 4 37 2 rfl rfl (T_nilCheck rfl rfl) rfl ?_
 refine q0 5 53 3 rfl rfl (T_fa D (m := 7) rfl rfl rfl rfl rfl rfl) rfl ?_
 refine q0 6 69 4 rfl rfl (T_load_b D rfl rfl rfl rfl rfl rfl) rfl ?_
 refine q0 7 85 5 rfl rfl (T_move rfl rfl) rfl ?_
 refine q0 8 101 6 rfl rfl (T_nilCheck rfl rfl) rfl ?_
 refine q0 9 117 7 rfl rfl (T_fa D (m := 3) rfl rfl rfl rfl rfl rfl) rfl ?_
 refine q0 10 133 8 rfl rfl (T_load_b D rfl rfl rfl rfl rfl rfl) rfl ?_
 refine q0 11 149 9 rfl rfl (T_cmp rfl rfl rfl rfl) rfl ?_
 refine k_done rfl ?_
 refine ⟨rfl, ?_⟩
 refine thenK_n ?_
 refine W_cond rfl (fun g1 => ?_) (fun g1 => ?_)
 ·have h1 := c_geq_t g1
  refine W_seq ?_
  refine W_seqK (b' := 229) rfl rfl ?_
  refine q0 12 165 1 rfl rfl (T_move rfl rfl) rfl ?_
  refine q0 13 181 2 rfl rfl (T_nilCheck rfl rfl) rfl ?_
  refine q0 14 197 3 rfl rfl (T_fa D (m := 8) rfl rfl rfl rfl rfl rfl) rfl ?_
  refine s1 213 4 rfl rfl (T_stB D (cs' := [_, _, _, _, _, _, _, _, _]) rfl rfl rfl rfl (flat_v rfl) rfl rfl (Nat.le_of_ble_eq_true rfl) rfl) rfl ?_
  refine k_done rfl ?_
  refine thenK_n ?_
  refine W_seq ?_
  refine W_seqK (b' := 245) rfl rfl ?_
  refine q0 2 229 1 rfl rfl (T_assign rfl rfl) rfl ?_
  refine k_done rfl ?_
  refine thenK_n ?_
  refine W_ret ?_
  refine thenK_r ?_
  exact .mk [] (.inr rfl) (.tmp rfl (.nil)) (by rfl) (.box (by rfl) (.rowE rfl (.rowE rfl (.nil) (by rfl)) (by rfl))) rfl
 ·have h1 := c_geq_f g1
  refine W_skip ?_
  refine thenK_n ?_
  refine W_seq ?_
  refine W_seqK (b' := 293) rfl rfl ?_
  refine q0 15 165 1 rfl rfl (T_move rfl rfl) rfl ?_
  refine q0 16 181 2 rfl rfl (T_nilCheck rfl rfl) rfl ?_
  refine q0 17 197 3 rfl rfl (T_fa D (m := 7) rfl rfl rfl rfl rfl rfl) rfl ?_
  refine q0 18 213 4 rfl rfl (T_load_b D rfl rfl rfl rfl rfl rfl) rfl ?_
  refine q0 19 229 5 rfl rfl (T_add64 rfl rfl rfl (by omega)) rfl ?_
  refine q0 20 245 6 rfl rfl (T_nilCheck rfl rfl) rfl ?_
  refine q0 21 261 7 rfl rfl (T_fa D (m := 7) rfl rfl rfl rfl rfl rfl) rfl ?_
  refine s1 277 8 rfl rfl (T_stB D (cs' := [_, _, _, _, _, _, _, _, _]) rfl rfl rfl rfl (flat_v rfl) rfl rfl (Nat.le_of_ble_eq_true rfl) rfl) rfl ?_
  refine k_done rfl ?_
  refine thenK_n ?_
  refine W_seq ?_
  refine W_seqK (b' := 309) rfl rfl ?_
  refine q0 2 293 1 rfl rfl (T_assign rfl rfl) rfl ?_
  refine k_done rfl ?_
  refine thenK_n ?_
  refine W_ret ?_
  exact .mk [] (.inr rfl) (.tmp rfl (.nil)) (by (exfalso; omega)) (.box (by (exfalso; omega)) (.rowE rfl (.rowE rfl (.nil) (by rfl)) (by rfl))) rfl
end Lg
end Go.Proofs.Ytpfhmodjjljpjaa

namespace Go.Proofs.Ytpfhmodjjljpjaa
open Go.RowKit
namespace Lg
set_option maxRecDepth 100000
set_option linter.unusedVariables false
set_option linter.unusedSimpArgs false
theorem body139 : (Try.prog.funcs[139]?).map (fun fn => (fn.name == "runtime.NumGoroutine" || fn.body.isNone)) = some false := by kernel_rfl
theorem flag_spec (c : Bool) : Spec Try.prog 139 [.v (.bool c)] 1 [] (.v (.int .u32 (flagU c))) 1 [] := by
 refine spec_of D (fn := Try.f139) rfl rfl (Nat.le_of_ble_eq_true rfl) ?_
 refine W_seq ?_
 refine W_seqK (b' := 17) rfl rfl ?_
 refine q0 2 1 1 rfl rfl (T_assign rfl rfl) rfl ?_
 refine k_done rfl ?_
 refine thenK_n ?_
 refine W_seq ?_
 refine W_seq ?_
 refine W_seqK (b' := 33) rfl rfl ?_
 refine q0 3 17 1 rfl rfl (T_move rfl rfl) rfl ?_
 refine k_done rfl ?_
 refine thenK_n ?_
 refine W_cond rfl (fun g1 => ?_) (fun g1 => ?_)
 ·have h1 := g1; (try simp only [cmpB, decide_eq_true_eq, decide_eq_false_iff_not, beq_iff_eq, beq_eq_false_iff_ne, bne_iff_ne, ne_eq, bne_eq_false_iff_eq, Bool.not_eq_true', Bool.not_eq_false', Int.not_lt, Int.not_le] at h1)
  refine W_seq ?_
  refine W_seqK (b' := 49) rfl rfl ?_
  refine q0 2 33 1 rfl rfl (T_assign rfl rfl) rfl ?_
  refine k_done rfl ?_
  refine thenK_n ?_
  refine W_ret ?_
  refine thenK_r ?_
  exact .mk [] (.inr rfl) (.tmp rfl (.nil)) (by (cases c <;> first | rfl | simp_all)) (.nil) rfl
 ·have h1 := g1; (try simp only [cmpB, decide_eq_true_eq, decide_eq_false_iff_not, beq_iff_eq, beq_eq_false_iff_ne, bne_iff_ne, ne_eq, bne_eq_false_iff_eq, Bool.not_eq_true', Bool.not_eq_false', Int.not_lt, Int.not_le] at h1)
  refine W_skip ?_
  refine thenK_n ?_
  refine W_seq ?_
  refine W_seqK (b' := 49) rfl rfl ?_
  refine q0 2 33 1 rfl rfl (T_assign rfl rfl) rfl ?_
  refine k_done rfl ?_
  refine thenK_n ?_
  refine W_ret ?_
  exact .mk [] (.inr rfl) (.tmp rfl (.nil)) (by (cases c <;> first | rfl | simp_all)) (.nil) rfl
theorem body140 : (Try.prog.funcs[140]?).map (fun fn => (fn.name == "runtime.NumGoroutine" || fn.body.isNone)) = some false := by kernel_rfl
theorem bits_spec (a : Int) (ha : isW a) : Spec Try.prog 140 [.v (.int .u32 a)] 1 [] (.r 1) 2 [(1, .row 3 1 ((bitsR 32 a).map eI))] := by
 refine spec_of D (fn := Try.f140) rfl rfl (Nat.le_of_ble_eq_true rfl) ?_
 refine W_seq ?_
 refine W_seqK (b' := 17) rfl rfl ?_
 refine q1 2 1 1 rfl rfl (T_nils [(3, 1)] (T_assign rfl rfl) rfl (.inr ⟨rfl, rfl⟩) (.cons (.nil rfl) .nil) (lv' := .r 1) (upd' := [(1, .row 3 1 (List.map eI ([] : List (Int))))]) (nn' := 1) rfl rfl) rfl ?_
 refine k_done rfl ?_
 refine thenK_n ?_
 refine W_seq ?_
 refine W_seqK (b' := 33) rfl rfl ?_
 refine q1 3 17 1 rfl rfl (T_nils [(3, 1)] (T_assign rfl rfl) rfl (.inr ⟨rfl, rfl⟩) (.cons (.nil rfl) .nil) (lv' := .r 17) (upd' := [(17, .row 3 1 (List.map eI ([] : List (Int))))]) (nn' := 1) rfl rfl) rfl ?_
 refine k_done rfl ?_
 refine thenK_n ?_
 refine W_seq ?_
 refine W_seq ?_
 refine W_seqK (b' := 49) rfl rfl ?_
 refine q0 4 33 1 rfl rfl (T_assign rfl rfl) rfl ?_
 refine k_done rfl ?_
 refine thenK_n ?_
 refine W_block ?_
 refine W_loop (ι := Nat × Int × List Int) 2 (fun x => ⟨[(0, .v (.int .u32 x.2.1)), (3, .r 1), (4, .v (.int .i64 (x.1 : Int)))], [(1, .row 3 1 (x.2.2.map eI))]⟩) (fun x => x.1 ≤ 32 ∧ x.2.2 ++ bitsR (32 - x.1) x.2.1 = bitsR 32 a ∧ isW x.2.1 ∧ x.2.2.length = x.1) (fun x => 32 - x.1) ((0, a, [])) (by exact ⟨by omega, rfl, ha, rfl⟩) ?_ (fun x hJ => ?_)
 ·exact ⟨[(1, 17)], .eq rfl (.same rfl rfl (.eq rfl (.nil) (by rfl))) (by rfl), .rowE rfl (.nil) (by rfl), rfl⟩
 have k1 := hJ.2.2.1.1
 have k2 := hJ.2.2.1.2
 have k3 := hJ.2.2.2
 refine W_seq ?_
 refine W_seq ?_
 refine W_seqK (b' := 34) rfl rfl ?_
 refine q0 5 2 1 rfl rfl (T_move rfl rfl) rfl ?_
 refine q0 6 18 2 rfl rfl (T_cmp rfl rfl rfl rfl) rfl ?_
 refine k_done rfl ?_
 refine thenK_n ?_
 refine W_cond rfl (fun g1 => ?_) (fun g1 => ?_)
 ·have h1 := c_lss_t g1
  refine W_skip ?_
  refine thenK_n ?_
  refine W_seq ?_
  refine W_block ?_
  refine W_seq ?_
  refine W_seqK (b' := 146) rfl rfl ?_
  refine q0 9 34 1 rfl rfl (T_move rfl rfl) rfl ?_
  refine q0 10 50 2 rfl rfl (T_move rfl rfl) rfl ?_
  refine q0 11 66 3 rfl rfl (T_remU rfl rfl rfl (by omega)) rfl ?_
  refine q0 12 82 4 rfl rfl (T_conv64 rfl rfl (by rw [Try.underlying68]; rfl) (by omega)) rfl ?_
  refine q1 13 98 5 rfl rfl (T_bs D (ys := [_]) (enc := eI) (l := [_]) rfl rfl rfl rfl rfl rfl (.cons rfl (flat_v rfl) (.nil)) rfl rfl rfl rfl (.v rfl (.nil)) rfl rfl) rfl ?_
  refine qn 14 114 6 rfl rfl (T_append D rfl rfl rfl rfl rfl rfl rfl rfl rfl rfl rfl rfl (by (try simp only [ty3]); (simp; omega)) (by (try simp only [ty3]); (simp; omega))) rfl ?_
  refine q0 3 130 7 rfl rfl (T_assign rfl rfl) rfl ?_
  refine k_done rfl ?_
  refine thenK_n ?_
  refine W_seqK (b' := 194) rfl rfl ?_
  refine q0 15 146 1 rfl rfl (T_move rfl rfl) rfl ?_
  refine q0 16 162 2 rfl rfl (T_quoU (top := 4294967296) rfl rfl rfl rfl rfl (by omega)) rfl ?_
  refine q0 0 178 3 rfl rfl (T_assign rfl rfl) rfl ?_
  refine k_done rfl ?_
  refine blockK_n ?_
  refine thenK_n ?_
  refine W_seqK (b' := 242) rfl rfl ?_
  refine q0 7 194 1 rfl rfl (T_move rfl rfl) rfl ?_
  refine q0 8 210 2 rfl rfl (T_add64 rfl rfl rfl (by omega)) rfl ?_
  refine q0 4 226 3 rfl rfl (T_assign rfl rfl) rfl ?_
  refine k_done rfl ?_
  refine thenK_n ?_
  refine ⟨(x.1 + 1, x.2.1 / 2, x.2.2 ++ [x.2.1 % 2]), by (try dsimp only); exact ⟨by omega, by rw [← hJ.2.1, show 32 - x.1 = (32 - (x.1 + 1)) + 1 by omega]; simp [bitsR], ⟨by omega, by omega⟩, by simp [k3]⟩, by (try dsimp only); omega, ?_⟩
  exact ⟨[(1, 114)], .eq rfl (.same rfl rfl (.eq rfl (.nil) (by rfl))) (by rfl), .rowE rfl (.nil) (by rfl), rfl⟩
 ·have h1 := c_lss_f g1
  refine W_exit ?_
  refine thenK_e ?_
  refine thenK_e ?_
  refine blockK_hit ?_
  refine thenK_n ?_
  refine W_seq ?_
  refine W_seqK (b' := 66) rfl rfl ?_
  refine q0 17 34 1 rfl rfl (T_move rfl rfl) rfl ?_
  refine q0 2 50 2 rfl rfl (T_assign rfl rfl) rfl ?_
  refine k_done rfl ?_
  refine thenK_n ?_
  refine W_ret ?_
  exact .mk [(1, 1)] (.inr rfl) (.tmp rfl (.nil)) rfl (.rowE rfl (.nil) (by (rw [bits_fin hJ.1 (by omega) hJ.2.1]))) rfl
theorem body141 : (Try.prog.funcs[141]?).map (fun fn => (fn.name == "runtime.NumGoroutine" || fn.body.isNone)) = some false := by kernel_rfl
theorem of_word_spec (l : List Int) (hb : ∀ x ∈ l, x = 0 ∨ x = 1) (hl : l.length ≤ 32) : Spec Try.prog 141 [.r 1] 2 [(1, .fz 1 (l.map eI))] (.v (.int .u32 (ofR l % 4294967296))) 2 [] := by
 refine spec_of D (fn := Try.f141) rfl rfl (Nat.le_of_ble_eq_true rfl) ?_
 refine W_seq ?_
 refine W_seqK (b' := 18) rfl rfl ?_
 refine q0 2 2 1 rfl rfl (T_assign rfl rfl) rfl ?_
 refine k_done rfl ?_
 refine thenK_n ?_
 refine W_seq ?_
 refine W_seqK (b' := 34) rfl rfl ?_
 refine q0 3 18 1 rfl rfl (T_assign rfl rfl) rfl ?_
 refine k_done rfl ?_
 refine thenK_n ?_
 refine W_seq ?_
 refine W_seq ?_
 refine W_seqK (b' := 98) rfl rfl ?_
 refine q0 5 34 1 rfl rfl (T_move rfl rfl) rfl ?_
 refine q0 6 50 2 rfl rfl (T_len D rfl rfl rfl rfl rfl rfl) rfl ?_
 refine q0 7 66 3 rfl rfl (T_sub64 rfl rfl rfl (by omega)) rfl ?_
 refine q0 4 82 4 rfl rfl (T_assign rfl rfl) rfl ?_
 refine k_done rfl ?_
 refine thenK_n ?_
 refine W_block ?_
 refine W_loop (ι := Nat) 2 (fun j => ⟨[(0, .r 1), (3, .v (.int .u64 (ofR (l.drop j)))), (4, .v (.int .i64 ((j : Int) - 1)))], [(1, .fz 1 (l.map eI))]⟩) (fun j => j ≤ l.length) (fun j => j) (l.length) (by exact Nat.le_refl _) ?_ (fun j hJ => ?_)
 ·exact ⟨[], .same rfl rfl (.eq rfl (.eq rfl (.nil) (by rfl)) (by simp [ofR])), .fzE rfl (.nil) (by rfl), rfl⟩
 have k1 := ofR_bd32 hb hl j
 have k2 : 0 < j → l.getD (j - 1) default = 0 ∨ l.getD (j - 1) default = 1 := fun h => hb _ (getD_mem (by omega))
 have k3 : 0 < j → ((j : Int) - 1).toNat = j - 1 := fun h => by omega
 refine W_seq ?_
 refine W_seq ?_
 refine W_seqK (b' := 34) rfl rfl ?_
 refine q0 8 2 1 rfl rfl (T_move rfl rfl) rfl ?_
 refine q0 9 18 2 rfl rfl (T_cmp rfl rfl rfl rfl) rfl ?_
 refine k_done rfl ?_
 refine thenK_n ?_
 refine W_cond rfl (fun g1 => ?_) (fun g1 => ?_)
 ·have h1 := c_geq_t g1
  refine W_skip ?_
  refine thenK_n ?_
  refine W_seq ?_
  refine W_block ?_
  refine W_seqK (b' := 178) rfl rfl ?_
  refine q0 12 34 1 rfl rfl (T_move rfl rfl) rfl ?_
  refine q0 13 50 2 rfl rfl (T_mulU (top := 18446744073709551616) rfl rfl rfl rfl rfl (by omega)) rfl ?_
  refine q0 14 66 3 rfl rfl (T_move rfl rfl) rfl ?_
  refine q0 15 82 4 rfl rfl (T_move rfl rfl) rfl ?_
  refine q0 16 98 5 rfl rfl (T_indexAddrZ D rfl rfl rfl rfl rfl rfl rfl rfl (by assumption) (by omega)) rfl ?_
  refine q0 17 114 6 rfl rfl (T_ldE D (lv := .v _) (nn := 0) (upd := []) rfl rfl rfl rfl rfl (by omega) rfl rfl rfl rfl) rfl ?_
  refine q0 18 130 7 rfl rfl (T_convU (top := 18446744073709551616) rfl rfl (by rw [Try.underlying3]; rfl) Try.underlying164 rfl rfl (by (rw [k3 (by omega)]; have q := k2 (by omega); omega))) rfl ?_
  refine q0 19 146 8 rfl rfl (T_addU (top := 18446744073709551616) rfl rfl rfl rfl rfl (by (rw [k3 (by omega)]; have q := k2 (by omega); omega))) rfl ?_
  refine q0 3 162 9 rfl rfl (T_assign rfl rfl) rfl ?_
  refine k_done rfl ?_
  refine blockK_n ?_
  refine thenK_n ?_
  refine W_seqK (b' := 226) rfl rfl ?_
  refine q0 10 178 1 rfl rfl (T_move rfl rfl) rfl ?_
  refine q0 11 194 2 rfl rfl (T_sub64 rfl rfl rfl (by omega)) rfl ?_
  refine q0 4 210 3 rfl rfl (T_assign rfl rfl) rfl ?_
  refine k_done rfl ?_
  refine thenK_n ?_
  refine ⟨j - 1, by (try dsimp only); omega, by (try dsimp only); omega, ?_⟩
  exact ⟨[], .same rfl rfl (.eq rfl (.eq rfl (.nil) (by (show Value.int _ _ = Value.int _ _; congr 1; omega))) (by (rw [k3 (by omega), ofR_drop (l := l) (j := j - 1) (by omega), show j - 1 + 1 = j by omega]; done))), .fzE rfl (.nil) rfl, rfl⟩
 ·have h1 := c_geq_f g1
  refine W_exit ?_
  refine thenK_e ?_
  refine thenK_e ?_
  refine blockK_hit ?_
  refine thenK_n ?_
  refine W_seq ?_
  refine W_seqK (b' := 98) rfl rfl ?_
  refine q0 20 34 1 rfl rfl (T_move rfl rfl) rfl ?_
  refine q0 21 50 2 rfl rfl (T_remU rfl rfl rfl (by omega)) rfl ?_
  refine q0 22 66 3 rfl rfl (T_convU (top := 4294967296) rfl rfl (by rw [Try.underlying164]; rfl) Try.underlying68 rfl rfl (by omega)) rfl ?_
  refine q0 2 82 4 rfl rfl (T_assign rfl rfl) rfl ?_
  refine k_done rfl ?_
  refine thenK_n ?_
  refine W_ret ?_
  exact .mk [] (.inr rfl) (.tmp rfl (.nil)) (by (have e : j = 0 := (by omega); subst e; rfl)) (.nil) rfl
theorem body137 : (Try.prog.funcs[137]?).map (fun fn => (fn.name == "runtime.NumGoroutine" || fn.body.isNone)) = some false := by kernel_rfl
theorem both_spec (op a b : Int) (ha : isW a) (hb : isW b) : Spec Try.prog 137 [.v (.int .i64 op), .v (.int .u32 a), .v (.int .u32 b)] 1 [] (.v (.int .u32 (bothU op a b))) 1 [] := by
 have hla := bitsR_len 32 a
 have hlb := bitsR_len 32 b
 have hba := bitsR_bit 32 a
 have hbb := bitsR_bit 32 b
 refine spec_of D (fn := Try.f137) rfl rfl (Nat.le_of_ble_eq_true rfl) ?_
 refine W_seq ?_
 refine W_seqK (b' := 17) rfl rfl ?_
 refine q0 6 1 1 rfl rfl (T_assign rfl rfl) rfl ?_
 refine k_done rfl ?_
 refine thenK_n ?_
 refine W_seq ?_
 refine W_seqK (b' := 113) rfl rfl ?_
 refine q0 11 17 1 rfl rfl (T_move rfl rfl) rfl ?_
 refine q1 12 33 2 rfl rfl (T_callR (lvs := [_]) (L := []) (keep := false) (bits_spec _ ha) body140 rfl rfl rfl rfl (.nil) rfl (.inl rfl) rfl) rfl ?_
 refine q0 13 49 3 rfl rfl (T_move rfl rfl) rfl ?_
 refine q1 14 65 4 rfl rfl (T_callR (lvs := [_]) (L := []) (keep := false) (bits_spec _ hb) body140 rfl rfl rfl rfl (.nil) rfl (.inl rfl) rfl) rfl ?_
 refine q0 7 81 5 rfl rfl (T_assign rfl rfl) rfl ?_
 refine q0 8 97 6 rfl rfl (T_assign rfl rfl) rfl ?_
 refine k_done rfl ?_
 refine thenK_n ?_
 refine W_seq ?_
 refine W_seq ?_
 refine W_seqK (b' := 129) rfl rfl ?_
 refine q0 9 113 1 rfl rfl (T_assign rfl rfl) rfl ?_
 refine k_done rfl ?_
 refine thenK_n ?_
 refine W_block ?_
 refine W_loop (ι := Nat) 3 (fun j => ⟨[(0, .v (.int .i64 op)), (7, .r 1), (8, .r 2), (9, .v (.int .i64 (j : Int)))], [(1, .row 3 1 ((mixB op (bitsR 32 a) (bitsR 32 b) j).map eI)), (2, .row 3 1 ((bitsR 32 b).map eI))]⟩) (fun j => j ≤ 32) (fun j => 32 - j) (0) (by exact Nat.zero_le _) ?_ (fun j hJ => ?_)
 ·exact ⟨[(1, 33), (2, 65)], .eq rfl (.same rfl rfl (.same rfl rfl (.eq rfl (.nil) (by rfl)))) (by rfl), .rowE rfl (.rowE rfl (.nil) (by rfl)) (by rfl), rfl⟩
 have k1 := mixB_len (op := op) (j := j) hla hlb hJ
 refine W_seq ?_
 refine W_seq ?_
 refine W_seqK (b' := 35) rfl rfl ?_
 refine q0 15 3 1 rfl rfl (T_move rfl rfl) rfl ?_
 refine q0 16 19 2 rfl rfl (T_cmp rfl rfl rfl rfl) rfl ?_
 refine k_done rfl ?_
 refine thenK_n ?_
 refine W_cond rfl (fun g1 => ?_) (fun g1 => ?_)
 ·have h1 := c_lss_t g1
  refine W_skip ?_
  refine thenK_n ?_
  refine W_seq ?_
  refine W_block ?_
  refine W_seq ?_
  refine W_anyK (b' := 195) rfl rfl rfl ?_
  refine q0 19 35 1 rfl rfl (T_move rfl rfl) rfl ?_
  refine q0 20 51 2 rfl rfl (T_move rfl rfl) rfl ?_
  refine q0 21 67 3 rfl rfl (T_indexAddr D rfl rfl rfl rfl rfl rfl rfl rfl (by omega)) rfl ?_
  refine q0 22 83 4 rfl rfl (T_ldE D (lv := .v _) (nn := 0) (upd := []) rfl rfl rfl rfl rfl (by omega) rfl rfl rfl rfl) rfl ?_
  refine q0 23 99 5 rfl rfl (T_move rfl rfl) rfl ?_
  refine q0 24 115 6 rfl rfl (T_move rfl rfl) rfl ?_
  refine q0 25 131 7 rfl rfl (T_indexAddr D rfl rfl rfl rfl rfl rfl rfl rfl (by omega)) rfl ?_
  refine q0 26 147 8 rfl rfl (T_ldE D (lv := .v _) (nn := 0) (upd := []) rfl rfl rfl rfl rfl (by omega) rfl rfl rfl rfl) rfl ?_
  refine q0 27 163 9 rfl rfl (T_add64 rfl rfl rfl (by (have q := mix_bd (op := op) hla hlb (show j < 32 by omega) hba hbb; omega))) rfl ?_
  refine q0 10 179 10 rfl rfl (T_assign rfl rfl) rfl ?_
  refine k_done rfl ?_
  refine ⟨rfl, ?_⟩
  refine thenK_n ?_
  refine W_seq ?_
  refine W_seqK (b' := 259) rfl rfl ?_
  refine q0 28 195 1 rfl rfl (T_move rfl rfl) rfl ?_
  refine q0 29 211 2 rfl rfl (T_move rfl rfl) rfl ?_
  refine q0 30 227 3 rfl rfl (T_indexAddr D rfl rfl rfl rfl rfl rfl rfl rfl (by omega)) rfl ?_
  refine s1 243 4 rfl rfl (T_store_e D (z := _) rfl rfl rfl rfl (flat_v rfl) rfl rfl (by omega) (.v rfl (.nil)) rfl (Nat.le_of_ble_eq_true rfl) rfl) rfl ?_
  refine k_done rfl ?_
  refine thenK_n ?_
  refine W_seq ?_
  refine W_seqK (b' := 483) rfl rfl ?_
  refine q0 31 259 1 rfl rfl (T_move rfl rfl) rfl ?_
  refine q0 32 275 2 rfl rfl (T_cmp rfl rfl rfl rfl) rfl ?_
  refine q0 33 291 3 rfl rfl (T_move rfl rfl) rfl ?_
  refine k_split (d := 33) rfl (fun g2 => ?_) (fun g2 => ?_)
  ·have h2 := c_eql_t g2
   refine k_op0 (d := 34) (b := 307) (j' := 4) rfl rfl rfl rfl (g_tt rfl rfl rfl g2) (T_move rfl rfl) rfl ?_
   refine k_op0 (d := 35) (b := 323) (j' := 5) rfl rfl rfl rfl (g_tt rfl rfl rfl g2) (T_cmp rfl rfl rfl rfl) rfl ?_
   refine q0 36 339 6 rfl rfl (T_pick_t rfl rfl rfl g2) rfl ?_
   refine q0 37 355 7 rfl rfl (T_move rfl rfl) rfl ?_
   refine k_split (d := 37) rfl (fun g3 => ?_) (fun g3 => ?_)
   ·have h3 := c_neq_t g3
    refine k_no (d := 38) (j' := 8) rfl rfl rfl (g_ft rfl rfl rfl g3) ?_
    refine k_no (d := 39) (j' := 9) rfl rfl rfl (g_ft rfl rfl rfl g3) ?_
    refine k_no (d := 40) (j' := 10) rfl rfl rfl (g_ft rfl rfl rfl g3) ?_
    refine k_no (d := 41) (j' := 11) rfl rfl rfl (.und rfl rfl rfl) ?_
    refine k_no (d := 42) (j' := 12) rfl rfl rfl (.und rfl rfl rfl) ?_
    refine k_no (d := 43) (j' := 13) rfl rfl rfl (g_ft rfl rfl rfl g3) ?_
    refine q0 44 467 14 rfl rfl (T_pick_t rfl rfl rfl g3) rfl ?_
    refine k_done rfl ?_
    refine thenK_n ?_
    refine W_cond rfl (fun g4 => ?_) (fun g4 => ?_)
    ·skip
     refine W_seqK (b' := 547) rfl rfl ?_
     refine q0 45 483 1 rfl rfl (T_move rfl rfl) rfl ?_
     refine q0 46 499 2 rfl rfl (T_move rfl rfl) rfl ?_
     refine q0 47 515 3 rfl rfl (T_indexAddr D rfl rfl rfl rfl rfl rfl rfl rfl (by (have q := mixB_len (op := op) (j := j) hla hlb (by omega); simp only [List.length_set]; omega))) rfl ?_
     refine s1 531 4 rfl rfl (T_store_e D (z := _) rfl rfl rfl rfl (flat_v rfl) rfl rfl (by (have q := mixB_len (op := op) (j := j) hla hlb (by omega); simp only [List.length_set]; omega)) (.v rfl (.nil)) rfl (Nat.le_of_ble_eq_true rfl) rfl) rfl ?_
     refine k_done rfl ?_
     refine blockK_n ?_
     refine thenK_n ?_
     refine W_seqK (b' := 595) rfl rfl ?_
     refine q0 17 547 1 rfl rfl (T_move rfl rfl) rfl ?_
     refine q0 18 563 2 rfl rfl (T_add64 rfl rfl rfl (by omega)) rfl ?_
     refine q0 9 579 3 rfl rfl (T_assign rfl rfl) rfl ?_
     refine k_done rfl ?_
     refine thenK_n ?_
     refine ⟨j + 1, by (try dsimp only); omega, by (try dsimp only); omega, ?_⟩
     exact ⟨[(1, 1), (2, 2)], .eq rfl (.same rfl rfl (.same rfl rfl (.eq rfl (.nil) (by rfl)))) rfl, .rowE rfl (.rowE rfl (.nil) (by rfl)) (by (rw [mix_one hla hlb (by omega) (by omega)])), rfl⟩
    ·exact absurd (g4.symm.trans rfl) (by decide)
   ·have h3 := c_neq_f g3
    refine k_op0 (d := 38) (b := 371) (j' := 8) rfl rfl rfl rfl (g_ff rfl rfl rfl g3) (T_move rfl rfl) rfl ?_
    refine k_op0 (d := 39) (b := 387) (j' := 9) rfl rfl rfl rfl (g_ff rfl rfl rfl g3) (T_cmp rfl rfl rfl rfl) rfl ?_
    refine k_op0 (d := 40) (b := 403) (j' := 10) rfl rfl rfl rfl (g_ff rfl rfl rfl g3) (T_move rfl rfl) rfl ?_
    refine k_split (d := 40) rfl (fun g5 => ?_) (fun g5 => ?_)
    ·have h5 := c_eql_t g5
     refine k_op0 (d := 41) (b := 419) (j' := 11) rfl rfl rfl rfl (g_tt rfl rfl rfl g5) (T_move rfl rfl) rfl ?_
     refine k_op0 (d := 42) (b := 435) (j' := 12) rfl rfl rfl rfl (g_tt rfl rfl rfl g5) (T_cmp rfl rfl rfl rfl) rfl ?_
     refine k_op0 (d := 43) (b := 451) (j' := 13) rfl rfl rfl rfl (g_ff rfl rfl rfl g3) (T_pick_t rfl rfl rfl g5) rfl ?_
     refine q0 44 467 14 rfl rfl (T_pick_f rfl rfl rfl g3) rfl ?_
     refine k_done rfl ?_
     refine thenK_n ?_
     refine W_cond rfl (fun g6 => ?_) (fun g6 => ?_)
     ·have h6 := c_neq_t g6
      refine W_seqK (b' := 547) rfl rfl ?_
      refine q0 45 483 1 rfl rfl (T_move rfl rfl) rfl ?_
      refine q0 46 499 2 rfl rfl (T_move rfl rfl) rfl ?_
      refine q0 47 515 3 rfl rfl (T_indexAddr D rfl rfl rfl rfl rfl rfl rfl rfl (by omega)) rfl ?_
      refine s1 531 4 rfl rfl (T_store_e D (z := _) rfl rfl rfl rfl (flat_v rfl) rfl rfl (by omega) (.v rfl (.nil)) rfl (Nat.le_of_ble_eq_true rfl) rfl) rfl ?_
      refine k_done rfl ?_
      refine blockK_n ?_
      refine thenK_n ?_
      refine W_seqK (b' := 595) rfl rfl ?_
      refine q0 17 547 1 rfl rfl (T_move rfl rfl) rfl ?_
      refine q0 18 563 2 rfl rfl (T_add64 rfl rfl rfl (by omega)) rfl ?_
      refine q0 9 579 3 rfl rfl (T_assign rfl rfl) rfl ?_
      refine k_done rfl ?_
      refine thenK_n ?_
      refine ⟨j + 1, by (try dsimp only); omega, by (try dsimp only); omega, ?_⟩
      exact ⟨[(1, 1), (2, 2)], .eq rfl (.same rfl rfl (.same rfl rfl (.eq rfl (.nil) (by rfl)))) rfl, .rowE rfl (.rowE rfl (.nil) (by rfl)) (by (rw [mix_one hla hlb (by omega) (by omega)])), rfl⟩
     ·have h6 := c_neq_f g6
      refine W_skip ?_
      refine blockK_n ?_
      refine thenK_n ?_
      refine W_seqK (b' := 531) rfl rfl ?_
      refine q0 17 483 1 rfl rfl (T_move rfl rfl) rfl ?_
      refine q0 18 499 2 rfl rfl (T_add64 rfl rfl rfl (by omega)) rfl ?_
      refine q0 9 515 3 rfl rfl (T_assign rfl rfl) rfl ?_
      refine k_done rfl ?_
      refine thenK_n ?_
      refine ⟨j + 1, by (try dsimp only); omega, by (try dsimp only); omega, ?_⟩
      exact ⟨[(1, 1), (2, 2)], .eq rfl (.same rfl rfl (.same rfl rfl (.eq rfl (.nil) (by rfl)))) rfl, .rowE rfl (.rowE rfl (.nil) (by rfl)) (by (rw [mix_zero hla hlb (by omega) (by omega)])), rfl⟩
    ·have h5 := c_eql_f g5
     refine k_no (d := 41) (j' := 11) rfl rfl rfl (g_tf rfl rfl rfl g5) ?_
     refine k_no (d := 42) (j' := 12) rfl rfl rfl (g_tf rfl rfl rfl g5) ?_
     refine k_op0 (d := 43) (b := 451) (j' := 13) rfl rfl rfl rfl (g_ff rfl rfl rfl g3) (T_pick_f rfl rfl rfl g5) rfl ?_
     refine q0 44 467 14 rfl rfl (T_pick_f rfl rfl rfl g3) rfl ?_
     refine k_done rfl ?_
     refine thenK_n ?_
     refine W_cond rfl (fun g7 => ?_) (fun g7 => ?_)
     ·exact absurd (g7.symm.trans rfl) (by decide)
     ·skip
      refine W_skip ?_
      refine blockK_n ?_
      refine thenK_n ?_
      refine W_seqK (b' := 531) rfl rfl ?_
      refine q0 17 483 1 rfl rfl (T_move rfl rfl) rfl ?_
      refine q0 18 499 2 rfl rfl (T_add64 rfl rfl rfl (by omega)) rfl ?_
      refine q0 9 515 3 rfl rfl (T_assign rfl rfl) rfl ?_
      refine k_done rfl ?_
      refine thenK_n ?_
      refine ⟨j + 1, by (try dsimp only); omega, by (try dsimp only); omega, ?_⟩
      exact ⟨[(1, 1), (2, 2)], .eq rfl (.same rfl rfl (.same rfl rfl (.eq rfl (.nil) (by rfl)))) rfl, .rowE rfl (.rowE rfl (.nil) (by rfl)) (by (rw [mix_zero hla hlb (by omega) (by omega)])), rfl⟩
  ·have h2 := c_eql_f g2
   refine k_no (d := 34) (j' := 4) rfl rfl rfl (g_tf rfl rfl rfl g2) ?_
   refine k_no (d := 35) (j' := 5) rfl rfl rfl (g_tf rfl rfl rfl g2) ?_
   refine q0 36 339 6 rfl rfl (T_pick_f rfl rfl rfl g2) rfl ?_
   refine q0 37 355 7 rfl rfl (T_move rfl rfl) rfl ?_
   refine k_op0 (d := 38) (b := 371) (j' := 8) rfl rfl rfl rfl (g_ff rfl rfl rfl rfl) (T_move rfl rfl) rfl ?_
   refine k_op0 (d := 39) (b := 387) (j' := 9) rfl rfl rfl rfl (g_ff rfl rfl rfl rfl) (T_cmp rfl rfl rfl rfl) rfl ?_
   refine k_op0 (d := 40) (b := 403) (j' := 10) rfl rfl rfl rfl (g_ff rfl rfl rfl rfl) (T_move rfl rfl) rfl ?_
   refine k_split (d := 40) rfl (fun g8 => ?_) (fun g8 => ?_)
   ·have h8 := c_eql_t g8
    refine k_op0 (d := 41) (b := 419) (j' := 11) rfl rfl rfl rfl (g_tt rfl rfl rfl g8) (T_move rfl rfl) rfl ?_
    refine k_op0 (d := 42) (b := 435) (j' := 12) rfl rfl rfl rfl (g_tt rfl rfl rfl g8) (T_cmp rfl rfl rfl rfl) rfl ?_
    refine k_op0 (d := 43) (b := 451) (j' := 13) rfl rfl rfl rfl (g_ff rfl rfl rfl rfl) (T_pick_t rfl rfl rfl g8) rfl ?_
    refine q0 44 467 14 rfl rfl (T_pick_f rfl rfl rfl rfl) rfl ?_
    refine k_done rfl ?_
    refine thenK_n ?_
    refine W_cond rfl (fun g9 => ?_) (fun g9 => ?_)
    ·have h9 := c_neq_t g9
     refine W_seqK (b' := 547) rfl rfl ?_
     refine q0 45 483 1 rfl rfl (T_move rfl rfl) rfl ?_
     refine q0 46 499 2 rfl rfl (T_move rfl rfl) rfl ?_
     refine q0 47 515 3 rfl rfl (T_indexAddr D rfl rfl rfl rfl rfl rfl rfl rfl (by (have q := mixB_len (op := op) (j := j) hla hlb (by omega); simp only [List.length_set]; omega))) rfl ?_
     refine s1 531 4 rfl rfl (T_store_e D (z := _) rfl rfl rfl rfl (flat_v rfl) rfl rfl (by (have q := mixB_len (op := op) (j := j) hla hlb (by omega); simp only [List.length_set]; omega)) (.v rfl (.nil)) rfl (Nat.le_of_ble_eq_true rfl) rfl) rfl ?_
     refine k_done rfl ?_
     refine blockK_n ?_
     refine thenK_n ?_
     refine W_seqK (b' := 595) rfl rfl ?_
     refine q0 17 547 1 rfl rfl (T_move rfl rfl) rfl ?_
     refine q0 18 563 2 rfl rfl (T_add64 rfl rfl rfl (by omega)) rfl ?_
     refine q0 9 579 3 rfl rfl (T_assign rfl rfl) rfl ?_
     refine k_done rfl ?_
     refine thenK_n ?_
     refine ⟨j + 1, by (try dsimp only); omega, by (try dsimp only); omega, ?_⟩
     exact ⟨[(1, 1), (2, 2)], .eq rfl (.same rfl rfl (.same rfl rfl (.eq rfl (.nil) (by rfl)))) rfl, .rowE rfl (.rowE rfl (.nil) (by rfl)) (by (rw [mix_one hla hlb (by omega) (by omega)])), rfl⟩
    ·have h9 := c_neq_f g9
     refine W_skip ?_
     refine blockK_n ?_
     refine thenK_n ?_
     refine W_seqK (b' := 531) rfl rfl ?_
     refine q0 17 483 1 rfl rfl (T_move rfl rfl) rfl ?_
     refine q0 18 499 2 rfl rfl (T_add64 rfl rfl rfl (by omega)) rfl ?_
     refine q0 9 515 3 rfl rfl (T_assign rfl rfl) rfl ?_
     refine k_done rfl ?_
     refine thenK_n ?_
     refine ⟨j + 1, by (try dsimp only); omega, by (try dsimp only); omega, ?_⟩
     exact ⟨[(1, 1), (2, 2)], .eq rfl (.same rfl rfl (.same rfl rfl (.eq rfl (.nil) (by rfl)))) rfl, .rowE rfl (.rowE rfl (.nil) (by rfl)) (by (rw [mix_zero hla hlb (by omega) (by omega)])), rfl⟩
   ·have h8 := c_eql_f g8
    refine k_no (d := 41) (j' := 11) rfl rfl rfl (g_tf rfl rfl rfl g8) ?_
    refine k_no (d := 42) (j' := 12) rfl rfl rfl (g_tf rfl rfl rfl g8) ?_
    refine k_op0 (d := 43) (b := 451) (j' := 13) rfl rfl rfl rfl (g_ff rfl rfl rfl rfl) (T_pick_f rfl rfl rfl g8) rfl ?_
    refine q0 44 467 14 rfl rfl (T_pick_f rfl rfl rfl rfl) rfl ?_
    refine k_done rfl ?_
    refine thenK_n ?_
    refine W_cond rfl (fun g10 => ?_) (fun g10 => ?_)
    ·exact absurd (g10.symm.trans rfl) (by decide)
    ·skip
     refine W_skip ?_
     refine blockK_n ?_
     refine thenK_n ?_
     refine W_seqK (b' := 531) rfl rfl ?_
     refine q0 17 483 1 rfl rfl (T_move rfl rfl) rfl ?_
     refine q0 18 499 2 rfl rfl (T_add64 rfl rfl rfl (by omega)) rfl ?_
     refine q0 9 515 3 rfl rfl (T_assign rfl rfl) rfl ?_
     refine k_done rfl ?_
     refine thenK_n ?_
     refine ⟨j + 1, by (try dsimp only); omega, by (try dsimp only); omega, ?_⟩
     exact ⟨[(1, 1), (2, 2)], .eq rfl (.same rfl rfl (.same rfl rfl (.eq rfl (.nil) (by rfl)))) rfl, .rowE rfl (.rowE rfl (.nil) (by rfl)) (by (rw [mix_zero hla hlb (by omega) (by omega)])), rfl⟩
 ·have h1 := c_lss_f g1
  refine W_exit ?_
  refine thenK_e ?_
  refine thenK_e ?_
  refine blockK_hit ?_
  refine thenK_n ?_
  refine W_seq ?_
  refine W_seqK (b' := 83) rfl rfl ?_
  refine q0 48 35 1 rfl rfl (T_move rfl rfl) rfl ?_
  refine q0 49 51 2 rfl rfl (T_callV (lvs := [_]) (L := [(1, 1)]) (of_word_spec (mixB op (bitsR 32 a) (bitsR 32 b) j) (by rw [mixB_end hla hlb (by omega)]; exact bothL_bit) (by omega)) body141 rfl rfl rfl rfl (.lend rfl (.nil)) rfl) rfl ?_
  refine q0 6 67 3 rfl rfl (T_assign rfl rfl) rfl ?_
  refine k_done rfl ?_
  refine thenK_n ?_
  refine W_ret ?_
  exact .mk [] (.inr rfl) (.tmp rfl (.nil)) (by (rw [mixB_end hla hlb (by omega)]; rfl)) (.nil) rfl
theorem body138 : (Try.prog.funcs[138]?).map (fun fn => (fn.name == "runtime.NumGoroutine" || fn.body.isNone)) = some false := by kernel_rfl
theorem shift_spec (op a b : Int) (ha : isW a) (hb : isW b) : Spec Try.prog 138 [.v (.int .i64 op), .v (.int .u32 a), .v (.int .u32 b)] 1 [] (.v (.int .u32 (shiftU op a b))) 1 [] := by
 refine spec_of D (fn := Try.f138) rfl rfl (Nat.le_of_ble_eq_true rfl) ?_
 refine W_seq ?_
 refine W_seqK (b' := 17) rfl rfl ?_
 refine q0 6 1 1 rfl rfl (T_assign rfl rfl) rfl ?_
 refine k_done rfl ?_
 refine thenK_n ?_
 refine W_seq ?_
 refine W_seq ?_
 refine W_seqK (b' := 49) rfl rfl ?_
 refine q0 9 17 1 rfl rfl (T_move rfl rfl) rfl ?_
 refine q0 10 33 2 rfl rfl (T_cmp rfl rfl rfl rfl) rfl ?_
 refine k_done rfl ?_
 refine thenK_n ?_
 refine W_cond rfl (fun g1 => ?_) (fun g1 => ?_)
 ·have h1 := c_geq_t g1
  refine W_seq ?_
  refine W_seqK (b' := 65) rfl rfl ?_
  refine q0 6 49 1 rfl rfl (T_assign rfl rfl) rfl ?_
  refine k_done rfl ?_
  refine thenK_n ?_
  refine W_ret ?_
  refine thenK_r ?_
  exact .mk [] (.inr rfl) (.tmp rfl (.nil)) (by simp only [resLV, LV.ren, LV.v.injEq, Value.int.injEq, true_and]; exact (shift_hi (by omega)).symm) (.nil) rfl
 ·have h1 := c_geq_f g1
  refine W_skip ?_
  refine thenK_n ?_
  refine W_seq ?_
  refine W_seqK (b' := 97) rfl rfl ?_
  refine q0 11 49 1 rfl rfl (T_move rfl rfl) rfl ?_
  refine q0 12 65 2 rfl rfl (T_convU (top := 18446744073709551616) rfl rfl (by rw [Try.underlying68]; rfl) Try.underlying164 rfl rfl (by (have q1 := ha.1; have q2 := ha.2; omega))) rfl ?_
  refine q0 7 81 3 rfl rfl (T_assign rfl rfl) rfl ?_
  refine k_done rfl ?_
  refine thenK_n ?_
  refine W_seq ?_
  refine W_seq ?_
  refine W_seqK (b' := 113) rfl rfl ?_
  refine q0 8 97 1 rfl rfl (T_assign rfl rfl) rfl ?_
  refine k_done rfl ?_
  refine thenK_n ?_
  refine W_block ?_
  refine W_loop (ι := Nat × Int) 1 (fun x => ⟨[(0, .v (.int .i64 op)), (2, .v (.int .u32 b)), (7, .v (.int .u64 x.2)), (8, .v (.int .u32 (x.1 : Int)))], []⟩) (fun x => (x.1 : Int) ≤ b ∧ isW x.2 ∧ shiftN op (b.toNat - x.1) x.2 = shiftN op b.toNat a) (fun x => b.toNat - x.1) ((0, a)) (by exact ⟨hb.1, ha, rfl⟩) ?_ (fun x hJ => ?_)
  ·exact ⟨[], .eq rfl (.eq rfl (.eq rfl (.eq rfl (.nil) (by rfl)) (by rfl)) (by rfl)) (by rfl), .nil, rfl⟩
  have k1 := hJ.2.1.1
  have k2 := hJ.2.1.2
  have k3 := hJ.1
  refine W_seq ?_
  refine W_seq ?_
  refine W_seqK (b' := 49) rfl rfl ?_
  refine q0 13 1 1 rfl rfl (T_move rfl rfl) rfl ?_
  refine q0 14 17 2 rfl rfl (T_move rfl rfl) rfl ?_
  refine q0 15 33 3 rfl rfl (T_cmp rfl rfl rfl rfl) rfl ?_
  refine k_done rfl ?_
  refine thenK_n ?_
  refine W_cond rfl (fun g2 => ?_) (fun g2 => ?_)
  ·have h2 := c_lss_t g2
   refine W_skip ?_
   refine thenK_n ?_
   refine W_seq ?_
   refine W_block ?_
   refine W_seq ?_
   refine W_seqK (b' := 81) rfl rfl ?_
   refine q0 18 49 1 rfl rfl (T_move rfl rfl) rfl ?_
   refine q0 19 65 2 rfl rfl (T_cmp rfl rfl rfl rfl) rfl ?_
   refine k_done rfl ?_
   refine thenK_n ?_
   refine W_cond rfl (fun g3 => ?_) (fun g3 => ?_)
   ·have h3 := c_eql_t g3
    refine W_seqK (b' := 145) rfl rfl ?_
    refine q0 20 81 1 rfl rfl (T_move rfl rfl) rfl ?_
    refine q0 21 97 2 rfl rfl (T_mulU (top := 18446744073709551616) rfl rfl rfl rfl rfl (by omega)) rfl ?_
    refine q0 22 113 3 rfl rfl (T_remU rfl rfl rfl (by omega)) rfl ?_
    refine q0 7 129 4 rfl rfl (T_assign rfl rfl) rfl ?_
    refine k_done rfl ?_
    refine blockK_n ?_
    refine thenK_n ?_
    refine W_seqK (b' := 193) rfl rfl ?_
    refine q0 16 145 1 rfl rfl (T_move rfl rfl) rfl ?_
    refine q0 17 161 2 rfl rfl (T_addU (top := 4294967296) rfl rfl rfl rfl rfl (by omega)) rfl ?_
    refine q0 8 177 3 rfl rfl (T_assign rfl rfl) rfl ?_
    refine k_done rfl ?_
    refine thenK_n ?_
    refine ⟨(x.1 + 1, 2 * x.2 % 4294967296), by (try dsimp only); exact ⟨by omega, ⟨by omega, by omega⟩, by rw [← hJ.2.2, show b.toNat - x.1 = (b.toNat - (x.1 + 1)) + 1 by omega]; simp only [shiftN]; rw [if_pos (by assumption)]⟩, by (try dsimp only); omega, ?_⟩
    exact ⟨[], .eq rfl (.eq rfl (.eq rfl (.eq rfl (.nil) (by rfl)) (by rfl)) rfl) rfl, .nil, rfl⟩
   ·have h3 := c_eql_f g3
    refine W_seqK (b' := 129) rfl rfl ?_
    refine q0 23 81 1 rfl rfl (T_move rfl rfl) rfl ?_
    refine q0 24 97 2 rfl rfl (T_quoU (top := 18446744073709551616) rfl rfl rfl rfl rfl (by omega)) rfl ?_
    refine q0 7 113 3 rfl rfl (T_assign rfl rfl) rfl ?_
    refine k_done rfl ?_
    refine blockK_n ?_
    refine thenK_n ?_
    refine W_seqK (b' := 177) rfl rfl ?_
    refine q0 16 129 1 rfl rfl (T_move rfl rfl) rfl ?_
    refine q0 17 145 2 rfl rfl (T_addU (top := 4294967296) rfl rfl rfl rfl rfl (by omega)) rfl ?_
    refine q0 8 161 3 rfl rfl (T_assign rfl rfl) rfl ?_
    refine k_done rfl ?_
    refine thenK_n ?_
    refine ⟨(x.1 + 1, x.2 / 2), by (try dsimp only); exact ⟨by omega, ⟨by omega, by omega⟩, by rw [← hJ.2.2, show b.toNat - x.1 = (b.toNat - (x.1 + 1)) + 1 by omega]; simp only [shiftN]; rw [if_neg (by assumption)]⟩, by (try dsimp only); omega, ?_⟩
    exact ⟨[], .eq rfl (.eq rfl (.eq rfl (.eq rfl (.nil) (by rfl)) (by rfl)) rfl) rfl, .nil, rfl⟩
  ·have h2 := c_lss_f g2
   refine W_exit ?_
   refine thenK_e ?_
   refine thenK_e ?_
   refine blockK_hit ?_
   refine thenK_n ?_
   refine W_seq ?_
   refine W_seqK (b' := 97) rfl rfl ?_
   refine q0 25 49 1 rfl rfl (T_move rfl rfl) rfl ?_
   refine q0 26 65 2 rfl rfl (T_convU (top := 4294967296) rfl rfl (by rw [Try.underlying164]; rfl) Try.underlying68 rfl rfl (by omega)) rfl ?_
   refine q0 6 81 3 rfl rfl (T_assign rfl rfl) rfl ?_
   refine k_done rfl ?_
   refine thenK_n ?_
   refine W_ret ?_
   exact .mk [] (.inr rfl) (.tmp rfl (.nil)) (by simp only [resLV, LV.ren, LV.v.injEq, Value.int.injEq, true_and]; exact (shift_lo (by omega) hJ.1 (by omega) hJ.2.2).symm) (.nil) rfl
theorem body134 : (Try.prog.funcs[134]?).map (fun fn => (fn.name == "runtime.NumGoroutine" || fn.body.isNone)) = some false := by kernel_rfl
theorem apply_spec (op a b : Int) (ha : isW a) (hb : isW b) : Spec Try.prog 134 [.v (.int .i64 op), .v (.int .u32 a), .v (.int .u32 b)] 1 [] (.tup [.v (.int .u32 (appV op a b)), .v (.int .i64 (appE op b))]) 1 [] := by
 refine spec_of D (fn := Try.f134) rfl rfl (Nat.le_of_ble_eq_true rfl) ?_
 refine W_seq ?_
 refine W_seqK (b' := 33) rfl rfl ?_
 refine q0 6 1 1 rfl rfl (T_assign rfl rfl) rfl ?_
 refine q0 7 17 2 rfl rfl (T_assign rfl rfl) rfl ?_
 refine k_done rfl ?_
 refine thenK_n ?_
 refine W_seq ?_
 refine W_seqK (b' := 129) rfl rfl ?_
 refine q0 10 33 1 rfl rfl (T_move rfl rfl) rfl ?_
 refine q0 11 49 2 rfl rfl (T_convU (top := 18446744073709551616) rfl rfl (by rw [Try.underlying68]; rfl) Try.underlying164 rfl rfl (by (have q1 := ha.1; have q2 := ha.2; omega))) rfl ?_
 refine q0 12 65 3 rfl rfl (T_move rfl rfl) rfl ?_
 refine q0 13 81 4 rfl rfl (T_convU (top := 18446744073709551616) rfl rfl (by rw [Try.underlying68]; rfl) Try.underlying164 rfl rfl (by (have q1 := ha.1; have q2 := ha.2; have q3 := hb.1; have q4 := hb.2; omega))) rfl ?_
 refine q0 8 97 5 rfl rfl (T_assign rfl rfl) rfl ?_
 refine q0 9 113 6 rfl rfl (T_assign rfl rfl) rfl ?_
 refine k_done rfl ?_
 refine thenK_n ?_
 refine W_seq ?_
 refine W_seq ?_
 refine W_seqK (b' := 145) rfl rfl ?_
 refine q0 14 129 1 rfl rfl (T_move rfl rfl) rfl ?_
 refine k_done rfl ?_
 refine thenK_n ?_
 refine W_block ?_
 refine W_seq ?_
 refine W_seqK (b' := 177) rfl rfl ?_
 refine q0 16 145 1 rfl rfl (T_cmp rfl rfl rfl rfl) rfl ?_
 refine q0 15 161 2 rfl rfl (T_assign rfl rfl) rfl ?_
 refine k_done rfl ?_
 refine thenK_n ?_
 refine W_cond rfl (fun g1 => ?_) (fun g1 => ?_)
 ·have h1 := c_eql_t g1
  refine W_seq ?_
  refine W_seqK (b' := 289) rfl rfl ?_
  refine q0 17 177 1 rfl rfl (T_move rfl rfl) rfl ?_
  refine q0 18 193 2 rfl rfl (T_move rfl rfl) rfl ?_
  refine q0 19 209 3 rfl rfl (T_addU (top := 18446744073709551616) rfl rfl rfl rfl rfl (by (have q1 := ha.1; have q2 := ha.2; have q3 := hb.1; have q4 := hb.2; omega))) rfl ?_
  refine q0 20 225 4 rfl rfl (T_remU rfl rfl rfl (by (have q1 := ha.1; have q2 := ha.2; have q3 := hb.1; have q4 := hb.2; omega))) rfl ?_
  refine q0 21 241 5 rfl rfl (T_convU (top := 4294967296) rfl rfl (by rw [Try.underlying164]; rfl) Try.underlying68 rfl rfl (by omega)) rfl ?_
  refine q0 6 257 6 rfl rfl (T_assign rfl rfl) rfl ?_
  refine q0 7 273 7 rfl rfl (T_assign rfl rfl) rfl ?_
  refine k_done rfl ?_
  refine thenK_n ?_
  refine W_ret ?_
  refine blockK_r ?_
  refine thenK_r ?_
  exact .mk [] (.inr rfl) (.tmp rfl (.tmp rfl (.nil))) (by exact app_end (by simp [*, appV, cmpB] <;> first | rfl | omega) (by simp [*, appE] <;> omega)) (.nil) rfl
 ·have h1 := c_eql_f g1
  refine W_seq ?_
  refine W_seqK (b' := 209) rfl rfl ?_
  refine q0 23 177 1 rfl rfl (T_cmp rfl rfl rfl rfl) rfl ?_
  refine q0 22 193 2 rfl rfl (T_assign rfl rfl) rfl ?_
  refine k_done rfl ?_
  refine thenK_n ?_
  refine W_cond rfl (fun g2 => ?_) (fun g2 => ?_)
  ·have h2 := c_eql_t g2
   refine W_seq ?_
   refine W_seqK (b' := 337) rfl rfl ?_
   refine q0 24 209 1 rfl rfl (T_move rfl rfl) rfl ?_
   refine q0 25 225 2 rfl rfl (T_addU (top := 18446744073709551616) rfl rfl rfl rfl rfl (by (have q1 := ha.1; have q2 := ha.2; omega))) rfl ?_
   refine q0 26 241 3 rfl rfl (T_move rfl rfl) rfl ?_
   refine q0 27 257 4 rfl rfl (T_subU (top := 18446744073709551616) rfl rfl rfl rfl rfl (by (have q1 := ha.1; have q2 := ha.2; have q3 := hb.1; have q4 := hb.2; omega))) rfl ?_
   refine q0 28 273 5 rfl rfl (T_remU rfl rfl rfl (by (have q1 := ha.1; have q2 := ha.2; have q3 := hb.1; have q4 := hb.2; omega))) rfl ?_
   refine q0 29 289 6 rfl rfl (T_convU (top := 4294967296) rfl rfl (by rw [Try.underlying164]; rfl) Try.underlying68 rfl rfl (by omega)) rfl ?_
   refine q0 6 305 7 rfl rfl (T_assign rfl rfl) rfl ?_
   refine q0 7 321 8 rfl rfl (T_assign rfl rfl) rfl ?_
   refine k_done rfl ?_
   refine thenK_n ?_
   refine W_ret ?_
   refine blockK_r ?_
   refine thenK_r ?_
   exact .mk [] (.inr rfl) (.tmp rfl (.tmp rfl (.nil))) (by exact app_end (by simp [*, appV, cmpB] <;> first | rfl | omega) (by simp [*, appE] <;> omega)) (.nil) rfl
  ·have h2 := c_eql_f g2
   refine W_seq ?_
   refine W_seqK (b' := 241) rfl rfl ?_
   refine q0 31 209 1 rfl rfl (T_cmp rfl rfl rfl rfl) rfl ?_
   refine q0 30 225 2 rfl rfl (T_assign rfl rfl) rfl ?_
   refine k_done rfl ?_
   refine thenK_n ?_
   refine W_cond rfl (fun g3 => ?_) (fun g3 => ?_)
   ·have h3 := c_eql_t g3
    refine W_seq ?_
    refine W_seqK (b' := 353) rfl rfl ?_
    refine q0 32 241 1 rfl rfl (T_move rfl rfl) rfl ?_
    refine q0 33 257 2 rfl rfl (T_move rfl rfl) rfl ?_
    refine q0 34 273 3 rfl rfl (T_mulU (top := 18446744073709551616) rfl rfl rfl rfl rfl (by exact mul_bd ha hb)) rfl ?_
    refine q0 35 289 4 rfl rfl (T_remU rfl rfl rfl (by exact ⟨(mul_bd ha hb).1, by omega⟩)) rfl ?_
    refine q0 36 305 5 rfl rfl (T_convU (top := 4294967296) rfl rfl (by rw [Try.underlying164]; rfl) Try.underlying68 rfl rfl (by omega)) rfl ?_
    refine q0 6 321 6 rfl rfl (T_assign rfl rfl) rfl ?_
    refine q0 7 337 7 rfl rfl (T_assign rfl rfl) rfl ?_
    refine k_done rfl ?_
    refine thenK_n ?_
    refine W_ret ?_
    refine blockK_r ?_
    refine thenK_r ?_
    exact .mk [] (.inr rfl) (.tmp rfl (.tmp rfl (.nil))) (by exact app_end (by simp [*, appV, cmpB] <;> first | rfl | omega) (by simp [*, appE] <;> omega)) (.nil) rfl
   ·have h3 := c_eql_f g3
    refine W_seq ?_
    refine W_seqK (b' := 273) rfl rfl ?_
    refine q0 38 241 1 rfl rfl (T_cmp rfl rfl rfl rfl) rfl ?_
    refine q0 37 257 2 rfl rfl (T_assign rfl rfl) rfl ?_
    refine k_done rfl ?_
    refine thenK_n ?_
    refine W_cond rfl (fun g4 => ?_) (fun g4 => ?_)
    ·have h4 := c_eql_t g4
     refine W_seq ?_
     refine W_seq ?_
     refine W_seqK (b' := 305) rfl rfl ?_
     refine q0 39 273 1 rfl rfl (T_move rfl rfl) rfl ?_
     refine q0 40 289 2 rfl rfl (T_cmp rfl rfl rfl rfl) rfl ?_
     refine k_done rfl ?_
     refine thenK_n ?_
     refine W_cond rfl (fun g5 => ?_) (fun g5 => ?_)
     ·have h5 := c_eql_t g5
      refine W_seq ?_
      refine W_seqK (b' := 337) rfl rfl ?_
      refine q0 6 305 1 rfl rfl (T_assign rfl rfl) rfl ?_
      refine q0 7 321 2 rfl rfl (T_assign rfl rfl) rfl ?_
      refine k_done rfl ?_
      refine thenK_n ?_
      refine W_ret ?_
      refine thenK_r ?_
      refine blockK_r ?_
      refine thenK_r ?_
      exact .mk [] (.inr rfl) (.tmp rfl (.tmp rfl (.nil))) (by exact app_end (by simp [*, appV, cmpB] <;> first | rfl | omega) (by simp [*, appE] <;> omega)) (.nil) rfl
     ·have h5 := c_eql_f g5
      refine W_skip ?_
      refine thenK_n ?_
      refine W_seq ?_
      refine W_seqK (b' := 401) rfl rfl ?_
      refine q0 41 305 1 rfl rfl (T_move rfl rfl) rfl ?_
      refine q0 42 321 2 rfl rfl (T_move rfl rfl) rfl ?_
      refine q0 43 337 3 rfl rfl (T_quoU (top := 18446744073709551616) rfl rfl rfl rfl rfl (by (have q1 := ha.1; have q2 := ha.2; have q3 := hb.1; have q4 := hb.2; omega))) rfl ?_
      refine q0 44 353 4 rfl rfl (T_convU (top := 4294967296) rfl rfl (by rw [Try.underlying164]; rfl) Try.underlying68 rfl rfl (by exact div_bd ha hb)) rfl ?_
      refine q0 6 369 5 rfl rfl (T_assign rfl rfl) rfl ?_
      refine q0 7 385 6 rfl rfl (T_assign rfl rfl) rfl ?_
      refine k_done rfl ?_
      refine thenK_n ?_
      refine W_ret ?_
      refine blockK_r ?_
      refine thenK_r ?_
      exact .mk [] (.inr rfl) (.tmp rfl (.tmp rfl (.nil))) (by exact app_end (by simp [*, appV, cmpB] <;> first | rfl | omega) (by simp [*, appE] <;> omega)) (.nil) rfl
    ·have h4 := c_eql_f g4
     refine W_seq ?_
     refine W_seqK (b' := 305) rfl rfl ?_
     refine q0 46 273 1 rfl rfl (T_cmp rfl rfl rfl rfl) rfl ?_
     refine q0 45 289 2 rfl rfl (T_assign rfl rfl) rfl ?_
     refine k_done rfl ?_
     refine thenK_n ?_
     refine W_cond rfl (fun g6 => ?_) (fun g6 => ?_)
     ·have h6 := c_eql_t g6
      refine W_seq ?_
      refine W_seq ?_
      refine W_seqK (b' := 337) rfl rfl ?_
      refine q0 47 305 1 rfl rfl (T_move rfl rfl) rfl ?_
      refine q0 48 321 2 rfl rfl (T_cmp rfl rfl rfl rfl) rfl ?_
      refine k_done rfl ?_
      refine thenK_n ?_
      refine W_cond rfl (fun g7 => ?_) (fun g7 => ?_)
      ·have h7 := c_eql_t g7
       refine W_seq ?_
       refine W_seqK (b' := 369) rfl rfl ?_
       refine q0 6 337 1 rfl rfl (T_assign rfl rfl) rfl ?_
       refine q0 7 353 2 rfl rfl (T_assign rfl rfl) rfl ?_
       refine k_done rfl ?_
       refine thenK_n ?_
       refine W_ret ?_
       refine thenK_r ?_
       refine blockK_r ?_
       refine thenK_r ?_
       exact .mk [] (.inr rfl) (.tmp rfl (.tmp rfl (.nil))) (by exact app_end (by simp [*, appV, cmpB] <;> first | rfl | omega) (by simp [*, appE] <;> omega)) (.nil) rfl
      ·have h7 := c_eql_f g7
       refine W_skip ?_
       refine thenK_n ?_
       refine W_seq ?_
       refine W_seqK (b' := 433) rfl rfl ?_
       refine q0 49 337 1 rfl rfl (T_move rfl rfl) rfl ?_
       refine q0 50 353 2 rfl rfl (T_move rfl rfl) rfl ?_
       refine q0 51 369 3 rfl rfl (T_remU rfl rfl rfl (by (have q1 := ha.1; have q2 := ha.2; have q3 := hb.1; have q4 := hb.2; omega))) rfl ?_
       refine q0 52 385 4 rfl rfl (T_convU (top := 4294967296) rfl rfl (by rw [Try.underlying164]; rfl) Try.underlying68 rfl rfl (by exact mod_bd ha hb (by omega))) rfl ?_
       refine q0 6 401 5 rfl rfl (T_assign rfl rfl) rfl ?_
       refine q0 7 417 6 rfl rfl (T_assign rfl rfl) rfl ?_
       refine k_done rfl ?_
       refine thenK_n ?_
       refine W_ret ?_
       refine blockK_r ?_
       refine thenK_r ?_
       exact .mk [] (.inr rfl) (.tmp rfl (.tmp rfl (.nil))) (by exact app_end (by simp [*, appV, cmpB] <;> first | rfl | omega) (by simp [*, appE] <;> omega)) (.nil) rfl
     ·have h6 := c_eql_f g6
      refine W_seq ?_
      refine W_seq ?_
      refine W_seqK (b' := 337) rfl rfl ?_
      refine q0 54 305 1 rfl rfl (T_cmp rfl rfl rfl rfl) rfl ?_
      refine q0 53 321 2 rfl rfl (T_assign rfl rfl) rfl ?_
      refine k_done rfl ?_
      refine thenK_n ?_
      refine W_cond rfl (fun g8 => ?_) (fun g8 => ?_)
      ·have h8 := c_eql_t g8
       refine W_skip ?_
       refine thenK_n ?_
       refine W_cond rfl (fun g9 => ?_) (fun g9 => ?_)
       ·skip
        refine W_seq ?_
        refine W_seqK (b' := 433) rfl rfl ?_
        refine q0 57 337 1 rfl rfl (T_move rfl rfl) rfl ?_
        refine q0 58 353 2 rfl rfl (T_move rfl rfl) rfl ?_
        refine q0 59 369 3 rfl rfl (T_move rfl rfl) rfl ?_
        refine q0 60 385 4 rfl rfl (T_callV (lvs := [_, _, _]) (L := []) (both_spec _ _ _ (by assumption) (by assumption)) body137 rfl rfl rfl rfl (.nil) rfl) rfl ?_
        refine q0 6 401 5 rfl rfl (T_assign rfl rfl) rfl ?_
        refine q0 7 417 6 rfl rfl (T_assign rfl rfl) rfl ?_
        refine k_done rfl ?_
        refine thenK_n ?_
        refine W_ret ?_
        refine blockK_r ?_
        refine thenK_r ?_
        exact .mk [] (.inr rfl) (.tmp rfl (.tmp rfl (.nil))) (by exact app_end (by simp [*, appV, cmpB] <;> first | rfl | omega) (by simp [*, appE] <;> omega)) (.nil) rfl
       ·exact absurd (g9.symm.trans g8) (by decide)
      ·have h8 := c_eql_f g8
       refine W_seq ?_
       refine W_seqK (b' := 369) rfl rfl ?_
       refine q0 55 337 1 rfl rfl (T_cmp rfl rfl rfl rfl) rfl ?_
       refine q0 53 353 2 rfl rfl (T_assign rfl rfl) rfl ?_
       refine k_done rfl ?_
       refine thenK_n ?_
       refine W_cond rfl (fun g10 => ?_) (fun g10 => ?_)
       ·have h10 := c_eql_t g10
        refine W_skip ?_
        refine thenK_n ?_
        refine W_cond rfl (fun g11 => ?_) (fun g11 => ?_)
        ·skip
         refine W_seq ?_
         refine W_seqK (b' := 465) rfl rfl ?_
         refine q0 57 369 1 rfl rfl (T_move rfl rfl) rfl ?_
         refine q0 58 385 2 rfl rfl (T_move rfl rfl) rfl ?_
         refine q0 59 401 3 rfl rfl (T_move rfl rfl) rfl ?_
         refine q0 60 417 4 rfl rfl (T_callV (lvs := [_, _, _]) (L := []) (both_spec _ _ _ (by assumption) (by assumption)) body137 rfl rfl rfl rfl (.nil) rfl) rfl ?_
         refine q0 6 433 5 rfl rfl (T_assign rfl rfl) rfl ?_
         refine q0 7 449 6 rfl rfl (T_assign rfl rfl) rfl ?_
         refine k_done rfl ?_
         refine thenK_n ?_
         refine W_ret ?_
         refine blockK_r ?_
         refine thenK_r ?_
         exact .mk [] (.inr rfl) (.tmp rfl (.tmp rfl (.nil))) (by exact app_end (by simp [*, appV, cmpB] <;> first | rfl | omega) (by simp [*, appE] <;> omega)) (.nil) rfl
        ·exact absurd (g11.symm.trans g10) (by decide)
       ·have h10 := c_eql_f g10
        refine W_seqK (b' := 401) rfl rfl ?_
        refine q0 56 369 1 rfl rfl (T_cmp rfl rfl rfl rfl) rfl ?_
        refine q0 53 385 2 rfl rfl (T_assign rfl rfl) rfl ?_
        refine k_done rfl ?_
        refine thenK_n ?_
        refine W_cond rfl (fun g12 => ?_) (fun g12 => ?_)
        ·have h12 := c_eql_t g12
         refine W_seq ?_
         refine W_seqK (b' := 497) rfl rfl ?_
         refine q0 57 401 1 rfl rfl (T_move rfl rfl) rfl ?_
         refine q0 58 417 2 rfl rfl (T_move rfl rfl) rfl ?_
         refine q0 59 433 3 rfl rfl (T_move rfl rfl) rfl ?_
         refine q0 60 449 4 rfl rfl (T_callV (lvs := [_, _, _]) (L := []) (both_spec _ _ _ (by assumption) (by assumption)) body137 rfl rfl rfl rfl (.nil) rfl) rfl ?_
         refine q0 6 465 5 rfl rfl (T_assign rfl rfl) rfl ?_
         refine q0 7 481 6 rfl rfl (T_assign rfl rfl) rfl ?_
         refine k_done rfl ?_
         refine thenK_n ?_
         refine W_ret ?_
         refine blockK_r ?_
         refine thenK_r ?_
         exact .mk [] (.inr rfl) (.tmp rfl (.tmp rfl (.nil))) (by exact app_end (by simp [*, appV, cmpB] <;> first | rfl | omega) (by simp [*, appE] <;> omega)) (.nil) rfl
        ·have h12 := c_eql_f g12
         refine W_seq ?_
         refine W_seq ?_
         refine W_seqK (b' := 433) rfl rfl ?_
         refine q0 62 401 1 rfl rfl (T_cmp rfl rfl rfl rfl) rfl ?_
         refine q0 61 417 2 rfl rfl (T_assign rfl rfl) rfl ?_
         refine k_done rfl ?_
         refine thenK_n ?_
         refine W_cond rfl (fun g13 => ?_) (fun g13 => ?_)
         ·have h13 := c_eql_t g13
          refine W_skip ?_
          refine thenK_n ?_
          refine W_cond rfl (fun g14 => ?_) (fun g14 => ?_)
          ·skip
           refine W_seq ?_
           refine W_seqK (b' := 529) rfl rfl ?_
           refine q0 64 433 1 rfl rfl (T_move rfl rfl) rfl ?_
           refine q0 65 449 2 rfl rfl (T_move rfl rfl) rfl ?_
           refine q0 66 465 3 rfl rfl (T_move rfl rfl) rfl ?_
           refine q0 67 481 4 rfl rfl (T_callV (lvs := [_, _, _]) (L := []) (shift_spec _ _ _ (by assumption) (by assumption)) body138 rfl rfl rfl rfl (.nil) rfl) rfl ?_
           refine q0 6 497 5 rfl rfl (T_assign rfl rfl) rfl ?_
           refine q0 7 513 6 rfl rfl (T_assign rfl rfl) rfl ?_
           refine k_done rfl ?_
           refine thenK_n ?_
           refine W_ret ?_
           refine blockK_r ?_
           refine thenK_r ?_
           exact .mk [] (.inr rfl) (.tmp rfl (.tmp rfl (.nil))) (by exact app_end (by simp [*, appV, cmpB] <;> first | rfl | omega) (by simp [*, appE] <;> omega)) (.nil) rfl
          ·exact absurd (g14.symm.trans g13) (by decide)
         ·have h13 := c_eql_f g13
          refine W_seqK (b' := 465) rfl rfl ?_
          refine q0 63 433 1 rfl rfl (T_cmp rfl rfl rfl rfl) rfl ?_
          refine q0 61 449 2 rfl rfl (T_assign rfl rfl) rfl ?_
          refine k_done rfl ?_
          refine thenK_n ?_
          refine W_cond rfl (fun g15 => ?_) (fun g15 => ?_)
          ·have h15 := c_eql_t g15
           refine W_seq ?_
           refine W_seqK (b' := 561) rfl rfl ?_
           refine q0 64 465 1 rfl rfl (T_move rfl rfl) rfl ?_
           refine q0 65 481 2 rfl rfl (T_move rfl rfl) rfl ?_
           refine q0 66 497 3 rfl rfl (T_move rfl rfl) rfl ?_
           refine q0 67 513 4 rfl rfl (T_callV (lvs := [_, _, _]) (L := []) (shift_spec _ _ _ (by assumption) (by assumption)) body138 rfl rfl rfl rfl (.nil) rfl) rfl ?_
           refine q0 6 529 5 rfl rfl (T_assign rfl rfl) rfl ?_
           refine q0 7 545 6 rfl rfl (T_assign rfl rfl) rfl ?_
           refine k_done rfl ?_
           refine thenK_n ?_
           refine W_ret ?_
           refine blockK_r ?_
           refine thenK_r ?_
           exact .mk [] (.inr rfl) (.tmp rfl (.tmp rfl (.nil))) (by exact app_end (by simp [*, appV, cmpB] <;> first | rfl | omega) (by simp [*, appE] <;> omega)) (.nil) rfl
          ·have h15 := c_eql_f g15
           refine W_seq ?_
           refine W_seqK (b' := 497) rfl rfl ?_
           refine q0 69 465 1 rfl rfl (T_cmp rfl rfl rfl rfl) rfl ?_
           refine q0 68 481 2 rfl rfl (T_assign rfl rfl) rfl ?_
           refine k_done rfl ?_
           refine thenK_n ?_
           refine W_cond rfl (fun g16 => ?_) (fun g16 => ?_)
           ·have h16 := c_eql_t g16
            refine W_seq ?_
            refine W_seqK (b' := 593) rfl rfl ?_
            refine q0 70 497 1 rfl rfl (T_move rfl rfl) rfl ?_
            refine q0 71 513 2 rfl rfl (T_move rfl rfl) rfl ?_
            refine q0 72 529 3 rfl rfl (T_cmp rfl rfl rfl rfl) rfl ?_
            refine q0 73 545 4 rfl rfl (T_callV (lvs := [_]) (L := []) (flag_spec _) body139 rfl rfl rfl rfl (.nil) rfl) rfl ?_
            refine q0 6 561 5 rfl rfl (T_assign rfl rfl) rfl ?_
            refine q0 7 577 6 rfl rfl (T_assign rfl rfl) rfl ?_
            refine k_done rfl ?_
            refine thenK_n ?_
            refine W_ret ?_
            refine blockK_r ?_
            refine thenK_r ?_
            exact .mk [] (.inr rfl) (.tmp rfl (.tmp rfl (.nil))) (by exact app_end (by simp [*, appV, cmpB] <;> first | rfl | omega) (by simp [*, appE] <;> omega)) (.nil) rfl
           ·have h16 := c_eql_f g16
            refine W_seq ?_
            refine W_seqK (b' := 529) rfl rfl ?_
            refine q0 75 497 1 rfl rfl (T_cmp rfl rfl rfl rfl) rfl ?_
            refine q0 74 513 2 rfl rfl (T_assign rfl rfl) rfl ?_
            refine k_done rfl ?_
            refine thenK_n ?_
            refine W_cond rfl (fun g17 => ?_) (fun g17 => ?_)
            ·have h17 := c_eql_t g17
             refine W_seq ?_
             refine W_seqK (b' := 625) rfl rfl ?_
             refine q0 76 529 1 rfl rfl (T_move rfl rfl) rfl ?_
             refine q0 77 545 2 rfl rfl (T_move rfl rfl) rfl ?_
             refine q0 78 561 3 rfl rfl (T_cmp rfl rfl rfl rfl) rfl ?_
             refine q0 79 577 4 rfl rfl (T_callV (lvs := [_]) (L := []) (flag_spec _) body139 rfl rfl rfl rfl (.nil) rfl) rfl ?_
             refine q0 6 593 5 rfl rfl (T_assign rfl rfl) rfl ?_
             refine q0 7 609 6 rfl rfl (T_assign rfl rfl) rfl ?_
             refine k_done rfl ?_
             refine thenK_n ?_
             refine W_ret ?_
             refine blockK_r ?_
             refine thenK_r ?_
             exact .mk [] (.inr rfl) (.tmp rfl (.tmp rfl (.nil))) (by exact app_end (by simp [*, appV, cmpB] <;> rfl) (by simp [*, appE] <;> omega)) (.nil) rfl
            ·have h17 := c_eql_f g17
             refine W_skip ?_
             refine blockK_n ?_
             refine thenK_n ?_
             refine W_seq ?_
             refine W_seqK (b' := 561) rfl rfl ?_
             refine q0 6 529 1 rfl rfl (T_assign rfl rfl) rfl ?_
             refine q0 7 545 2 rfl rfl (T_assign rfl rfl) rfl ?_
             refine k_done rfl ?_
             refine thenK_n ?_
             refine W_ret ?_
             exact .mk [] (.inr rfl) (.tmp rfl (.tmp rfl (.nil))) (by exact app_end (by simp [*, appV, cmpB] <;> first | rfl | omega) (by simp [*, appE] <;> omega)) (.nil) rfl
end Lg
end Go.Proofs.Ytpfhmodjjljpjaa

namespace Go.Proofs.Ytpfhmodjjljpjaa
open Go.RowKit
namespace Lg
set_option linter.unusedSimpArgs false
set_option linter.unusedVariables false
def FunS (p : GProg) (inp : ByteArray) (fuel : Int) (call : Int → RS → RS) (i : Int) : Prop := ∀ s, SOk p.words inp fuel s → s.fin = 0 →
  Spec Try.prog 77 [.p 1 0, .v (.int .i64 i)] 5
    [(1, .box 107 [.v (.int .i64 p.words), .r 2, .v (.string inp), .v (.int .i64 fuel), .r 3, .r 4, .v (.int .i64 s.read), .v (.int .i64 s.steps), .v (.int .i64 s.fin)]), (2, .fz 2 (p.funcs.map eFn)), (3, .row 68 1 (s.ws.map eU32)), (4, .row 5 1 (s.out.map eU8))] (.tup []) 6
    [(1, .box 107 [.v (.int .i64 p.words), .r 2, .v (.string inp), .v (.int .i64 fuel), .r 3, .r 5, .v (.int .i64 (call i s).read), .v (.int .i64 (call i s).steps), .v (.int .i64 (call i s).fin)]), (3, .row 68 1 ((call i s).ws.map eU32)), (4, .no), (5, .row 5 1 ((call i s).out.map eU8))]
structure FB (t : GTac) (nr nw num : Int) : Prop where
  op : 1 ≤ t.op ∧ t.op ≤ 10
  d : (t.op = 1 ∨ t.op = 2 ∨ t.op = 3 ∨ t.op = 4 ∨ t.op = 6 ∨ t.op = 8) → 0 ≤ t.d ∧ t.d < nr
  a : (t.op = 2 ∨ t.op = 5 ∨ t.op = 6 ∨ t.op = 9 ∨ t.op = 3 ∨ t.op = 7) → 0 ≤ t.a ∧ t.a < nr
  b : (t.op = 3 ∨ t.op = 7) → 0 ≤ t.b ∧ t.b < nr
  k : t.op = 3 → 4 ≤ t.k ∧ t.k ≤ 15
  base : (t.op = 4 ∨ t.op = 5) → 0 ≤ t.base ∧ t.base < nw
  size : (t.op = 6 ∨ t.op = 7) → (1 ≤ t.size ∧ t.size ≤ 4096) ∧ 0 ≤ t.base ∧ t.base ≤ nw - t.size
  call : t.op = 10 → 0 ≤ t.base ∧ t.base < num
theorem within_iff {i n : Int} (h : withinB i n = true) : 0 ≤ i ∧ i < n := by
  unfold withinB at h
  simpa using h
theorem fits_fb {t : GTac} {num nr nw : Int} (h : FitsP t num nr nw) : FB t nr nw num := by
  obtain ⟨h1, h2, h3, h4, h5, h6, h7, _⟩ := h
  refine ⟨h1, fun ho => within_iff (h2 (setsOp_t ho)), fun ho => within_iff (h3 _ ?_), fun ho => within_iff (h3 _ ?_), h4, fun ho => within_iff (h5 ho), fun ho => ?_, fun ho => within_iff (h7 ho)⟩
  · unfold usesT
    split
    · simp
    · rw [if_pos (by omega)]; simp
  · unfold usesT
    rw [if_neg (by omega), if_pos ho]; simp
  · obtain ⟨q1, q2, q3, q4⟩ := h6 ho; exact ⟨⟨q1, q2⟩, q3, q4⟩
theorem box9 {w f rd st fn rd' st' fn' : Int} {i : ByteArray} {a b c : Nat} (h1 : rd = rd') (h2 : st = st') (h3 : fn = fn') : some (Ob.box 107 [.v (.int .i64 w), .r a, .v (.string i), .v (.int .i64 f), .r b, .r c, .v (.int .i64 rd), .v (.int .i64 st), .v (.int .i64 fn)]) = some (Ob.box 107 [.v (.int .i64 w), .r a, .v (.string i), .v (.int .i64 f), .r b, .r c, .v (.int .i64 rd'), .v (.int .i64 st'), .v (.int .i64 fn')]) := by subst h1 h2 h3; rfl
theorem body77 : (Try.prog.funcs[77]?).map (fun fn => (fn.name == "runtime.NumGoroutine" || fn.body.isNone)) = some false := by kernel_rfl
end Lg
end Go.Proofs.Ytpfhmodjjljpjaa
