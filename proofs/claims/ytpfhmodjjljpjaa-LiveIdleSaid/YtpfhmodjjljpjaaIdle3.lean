import Derived.Test.YtpfhmodjjljpjaaIdle2
import Derived.Laws.Entries
import Derived.Laws.BytesArg
set_option linter.unusedVariables false
set_option linter.unusedSimpArgs false
namespace Go.Proofs.Ytpfhmodjjljpjaa
open Go.RowKit
namespace Lg
set_option maxRecDepth 100000
set_option linter.unusedVariables false
set_option linter.unusedSimpArgs false
theorem body125 : (Try.prog.funcs[125]?).map (fun fn => (fn.name == "runtime.NumGoroutine" || fn.body.isNone)) = some false := by kernel_rfl
theorem within_spec (i n : Int) : Spec Try.prog 125 [.v (.int .i64 i), .v (.int .i64 n)] 1 [] (.v (.bool (withinB i n))) 1 [] := by
 refine spec_of D (fn := Try.f125) rfl rfl (Nat.le_of_ble_eq_true rfl) ?_
 refine W_seq ?_
 refine W_seqK (b' := 17) rfl rfl ?_
 refine q0 4 1 1 rfl rfl (T_assign rfl rfl) rfl ?_
 refine k_done rfl ?_
 refine thenK_n ?_
 refine W_seq ?_
 refine W_seqK (b' := 145) rfl rfl ?_
 refine q0 5 17 1 rfl rfl (T_move rfl rfl) rfl ?_
 refine q0 6 33 2 rfl rfl (T_cmp rfl rfl rfl rfl) rfl ?_
 refine q0 7 49 3 rfl rfl (T_move rfl rfl) rfl ?_
 refine k_split (d := 7) rfl (fun g1 => ?_) (fun g1 => ?_)
 ·have h1 := c_geq_t g1
  refine k_op0 (d := 8) (b := 65) (j' := 4) rfl rfl rfl rfl (g_tt rfl rfl rfl g1) (T_move rfl rfl) rfl ?_
  refine k_op0 (d := 9) (b := 81) (j' := 5) rfl rfl rfl rfl (g_tt rfl rfl rfl g1) (T_move rfl rfl) rfl ?_
  refine k_op0 (d := 10) (b := 97) (j' := 6) rfl rfl rfl rfl (g_tt rfl rfl rfl g1) (T_cmp rfl rfl rfl rfl) rfl ?_
  refine q0 11 113 7 rfl rfl (T_pick_t rfl rfl rfl g1) rfl ?_
  refine q0 4 129 8 rfl rfl (T_assign rfl rfl) rfl ?_
  refine k_done rfl ?_
  refine thenK_n ?_
  refine W_ret ?_
  exact .mk [] (.inr rfl) (.tmp rfl (.nil)) (by first | rfl | (simp only [resLV, LV.ren, LV.v.injEq, Value.bool.injEq]; unfold withinB; rw [decide_eq_true (by omega)]; rfl) | (simp only [resLV, LV.ren, LV.v.injEq, Value.bool.injEq]; unfold withinB; rw [decide_eq_false (p := 0 ≤ i) (by omega)]; rfl)) (.nil) rfl
 ·have h1 := c_geq_f g1
  refine k_no (d := 8) (j' := 4) rfl rfl rfl (g_tf rfl rfl rfl g1) ?_
  refine k_no (d := 9) (j' := 5) rfl rfl rfl (g_tf rfl rfl rfl g1) ?_
  refine k_no (d := 10) (j' := 6) rfl rfl rfl (g_tf rfl rfl rfl g1) ?_
  refine q0 11 113 7 rfl rfl (T_pick_f rfl rfl rfl g1) rfl ?_
  refine q0 4 129 8 rfl rfl (T_assign rfl rfl) rfl ?_
  refine k_done rfl ?_
  refine thenK_n ?_
  refine W_ret ?_
  exact .mk [] (.inr rfl) (.tmp rfl (.nil)) (by first | rfl | (simp only [resLV, LV.ren, LV.v.injEq, Value.bool.injEq]; unfold withinB; rw [decide_eq_true (by omega)]; rfl) | (simp only [resLV, LV.ren, LV.v.injEq, Value.bool.injEq]; unfold withinB; rw [decide_eq_false (p := 0 ≤ i) (by omega)]; rfl)) (.nil) rfl
theorem body86 : (Try.prog.funcs[86]?).map (fun fn => (fn.name == "runtime.NumGoroutine" || fn.body.isNone)) = some false := by kernel_rfl
theorem sets_spec (t : GTac) : Spec Try.prog 86 [.agg [.v (.int .i64 t.op), .v (.int .i64 t.d), .v (.int .i64 t.a), .v (.int .i64 t.b), .v (.int .i64 t.k), .v (.int .i64 t.base), .v (.int .i64 t.size), .v (.int .u32 t.n)]] 1 [] (.v (.int .i64 (setsT t))) 1 [] := by
 refine spec_of D (fn := Try.f86) rfl rfl (Nat.le_of_ble_eq_true rfl) ?_
 refine W_seq ?_
 refine W_seqK (b' := 33) rfl rfl ?_
 refine q1 1 1 1 rfl rfl (T_box rfl rfl flat_agg) rfl ?_
 refine q0 2 17 2 rfl rfl (T_assign rfl rfl) rfl ?_
 refine k_done rfl ?_
 refine thenK_n ?_
 refine W_seq ?_
 refine W_seq ?_
 refine W_seqK (b' := 65) rfl rfl ?_
 refine q0 3 33 1 rfl rfl (T_fa D (m := 0) rfl rfl rfl rfl rfl rfl) rfl ?_
 refine q0 4 49 2 rfl rfl (T_load_b D rfl rfl rfl rfl rfl rfl) rfl ?_
 refine k_done rfl ?_
 refine thenK_n ?_
 refine W_block ?_
 refine W_seq ?_
 refine W_seq ?_
 refine W_seqK (b' := 97) rfl rfl ?_
 refine q0 6 65 1 rfl rfl (T_cmp rfl rfl rfl rfl) rfl ?_
 refine q0 5 81 2 rfl rfl (T_assign rfl rfl) rfl ?_
 refine k_done rfl ?_
 refine thenK_n ?_
 refine W_cond rfl (fun g1 => ?_) (fun g1 => ?_)
 ·have h1 := c_eql_t g1
  refine W_skip ?_
  refine thenK_n ?_
  refine W_cond rfl (fun g2 => ?_) (fun g2 => ?_)
  ·skip
   refine W_seq ?_
   refine W_seqK (b' := 145) rfl rfl ?_
   refine q0 12 97 1 rfl rfl (T_fa D (m := 1) rfl rfl rfl rfl rfl rfl) rfl ?_
   refine q0 13 113 2 rfl rfl (T_load_b D rfl rfl rfl rfl rfl rfl) rfl ?_
   refine q0 2 129 3 rfl rfl (T_assign rfl rfl) rfl ?_
   refine k_done rfl ?_
   refine thenK_n ?_
   refine W_ret ?_
   refine blockK_r ?_
   refine thenK_r ?_
   exact .mk [] (.inr rfl) (.tmp rfl (.nil)) (by first | (simp only [resLV, LV.ren, LV.v.injEq, Value.int.injEq, true_and]; unfold setsT; rw [setsOp_t (by omega)]; rfl) | (simp only [resLV, LV.ren, LV.v.injEq, Value.int.injEq, true_and]; unfold setsT; rw [setsOp_f (by omega)]; rfl)) (.nil) rfl
  ·exact absurd (g2.symm.trans g1) (by decide)
 ·have h1 := c_eql_f g1
  refine W_seq ?_
  refine W_seqK (b' := 129) rfl rfl ?_
  refine q0 7 97 1 rfl rfl (T_cmp rfl rfl rfl rfl) rfl ?_
  refine q0 5 113 2 rfl rfl (T_assign rfl rfl) rfl ?_
  refine k_done rfl ?_
  refine thenK_n ?_
  refine W_cond rfl (fun g3 => ?_) (fun g3 => ?_)
  ·have h3 := c_eql_t g3
   refine W_skip ?_
   refine thenK_n ?_
   refine W_cond rfl (fun g4 => ?_) (fun g4 => ?_)
   ·skip
    refine W_seq ?_
    refine W_seqK (b' := 177) rfl rfl ?_
    refine q0 12 129 1 rfl rfl (T_fa D (m := 1) rfl rfl rfl rfl rfl rfl) rfl ?_
    refine q0 13 145 2 rfl rfl (T_load_b D rfl rfl rfl rfl rfl rfl) rfl ?_
    refine q0 2 161 3 rfl rfl (T_assign rfl rfl) rfl ?_
    refine k_done rfl ?_
    refine thenK_n ?_
    refine W_ret ?_
    refine blockK_r ?_
    refine thenK_r ?_
    exact .mk [] (.inr rfl) (.tmp rfl (.nil)) (by first | (simp only [resLV, LV.ren, LV.v.injEq, Value.int.injEq, true_and]; unfold setsT; rw [setsOp_t (by omega)]; rfl) | (simp only [resLV, LV.ren, LV.v.injEq, Value.int.injEq, true_and]; unfold setsT; rw [setsOp_f (by omega)]; rfl)) (.nil) rfl
   ·exact absurd (g4.symm.trans g3) (by decide)
  ·have h3 := c_eql_f g3
   refine W_seq ?_
   refine W_seqK (b' := 161) rfl rfl ?_
   refine q0 8 129 1 rfl rfl (T_cmp rfl rfl rfl rfl) rfl ?_
   refine q0 5 145 2 rfl rfl (T_assign rfl rfl) rfl ?_
   refine k_done rfl ?_
   refine thenK_n ?_
   refine W_cond rfl (fun g5 => ?_) (fun g5 => ?_)
   ·have h5 := c_eql_t g5
    refine W_skip ?_
    refine thenK_n ?_
    refine W_cond rfl (fun g6 => ?_) (fun g6 => ?_)
    ·skip
     refine W_seq ?_
     refine W_seqK (b' := 209) rfl rfl ?_
     refine q0 12 161 1 rfl rfl (T_fa D (m := 1) rfl rfl rfl rfl rfl rfl) rfl ?_
     refine q0 13 177 2 rfl rfl (T_load_b D rfl rfl rfl rfl rfl rfl) rfl ?_
     refine q0 2 193 3 rfl rfl (T_assign rfl rfl) rfl ?_
     refine k_done rfl ?_
     refine thenK_n ?_
     refine W_ret ?_
     refine blockK_r ?_
     refine thenK_r ?_
     exact .mk [] (.inr rfl) (.tmp rfl (.nil)) (by first | (simp only [resLV, LV.ren, LV.v.injEq, Value.int.injEq, true_and]; unfold setsT; rw [setsOp_t (by omega)]; rfl) | (simp only [resLV, LV.ren, LV.v.injEq, Value.int.injEq, true_and]; unfold setsT; rw [setsOp_f (by omega)]; rfl)) (.nil) rfl
    ·exact absurd (g6.symm.trans g5) (by decide)
   ·have h5 := c_eql_f g5
    refine W_seq ?_
    refine W_seqK (b' := 193) rfl rfl ?_
    refine q0 9 161 1 rfl rfl (T_cmp rfl rfl rfl rfl) rfl ?_
    refine q0 5 177 2 rfl rfl (T_assign rfl rfl) rfl ?_
    refine k_done rfl ?_
    refine thenK_n ?_
    refine W_cond rfl (fun g7 => ?_) (fun g7 => ?_)
    ·have h7 := c_eql_t g7
     refine W_skip ?_
     refine thenK_n ?_
     refine W_cond rfl (fun g8 => ?_) (fun g8 => ?_)
     ·skip
      refine W_seq ?_
      refine W_seqK (b' := 241) rfl rfl ?_
      refine q0 12 193 1 rfl rfl (T_fa D (m := 1) rfl rfl rfl rfl rfl rfl) rfl ?_
      refine q0 13 209 2 rfl rfl (T_load_b D rfl rfl rfl rfl rfl rfl) rfl ?_
      refine q0 2 225 3 rfl rfl (T_assign rfl rfl) rfl ?_
      refine k_done rfl ?_
      refine thenK_n ?_
      refine W_ret ?_
      refine blockK_r ?_
      refine thenK_r ?_
      exact .mk [] (.inr rfl) (.tmp rfl (.nil)) (by first | (simp only [resLV, LV.ren, LV.v.injEq, Value.int.injEq, true_and]; unfold setsT; rw [setsOp_t (by omega)]; rfl) | (simp only [resLV, LV.ren, LV.v.injEq, Value.int.injEq, true_and]; unfold setsT; rw [setsOp_f (by omega)]; rfl)) (.nil) rfl
     ·exact absurd (g8.symm.trans g7) (by decide)
    ·have h7 := c_eql_f g7
     refine W_seq ?_
     refine W_seqK (b' := 225) rfl rfl ?_
     refine q0 10 193 1 rfl rfl (T_cmp rfl rfl rfl rfl) rfl ?_
     refine q0 5 209 2 rfl rfl (T_assign rfl rfl) rfl ?_
     refine k_done rfl ?_
     refine thenK_n ?_
     refine W_cond rfl (fun g9 => ?_) (fun g9 => ?_)
     ·have h9 := c_eql_t g9
      refine W_skip ?_
      refine thenK_n ?_
      refine W_cond rfl (fun g10 => ?_) (fun g10 => ?_)
      ·skip
       refine W_seq ?_
       refine W_seqK (b' := 273) rfl rfl ?_
       refine q0 12 225 1 rfl rfl (T_fa D (m := 1) rfl rfl rfl rfl rfl rfl) rfl ?_
       refine q0 13 241 2 rfl rfl (T_load_b D rfl rfl rfl rfl rfl rfl) rfl ?_
       refine q0 2 257 3 rfl rfl (T_assign rfl rfl) rfl ?_
       refine k_done rfl ?_
       refine thenK_n ?_
       refine W_ret ?_
       refine blockK_r ?_
       refine thenK_r ?_
       exact .mk [] (.inr rfl) (.tmp rfl (.nil)) (by first | (simp only [resLV, LV.ren, LV.v.injEq, Value.int.injEq, true_and]; unfold setsT; rw [setsOp_t (by omega)]; rfl) | (simp only [resLV, LV.ren, LV.v.injEq, Value.int.injEq, true_and]; unfold setsT; rw [setsOp_f (by omega)]; rfl)) (.nil) rfl
      ·exact absurd (g10.symm.trans g9) (by decide)
     ·have h9 := c_eql_f g9
      refine W_seqK (b' := 257) rfl rfl ?_
      refine q0 11 225 1 rfl rfl (T_cmp rfl rfl rfl rfl) rfl ?_
      refine q0 5 241 2 rfl rfl (T_assign rfl rfl) rfl ?_
      refine k_done rfl ?_
      refine thenK_n ?_
      refine W_cond rfl (fun g11 => ?_) (fun g11 => ?_)
      ·have h11 := c_eql_t g11
       refine W_seq ?_
       refine W_seqK (b' := 305) rfl rfl ?_
       refine q0 12 257 1 rfl rfl (T_fa D (m := 1) rfl rfl rfl rfl rfl rfl) rfl ?_
       refine q0 13 273 2 rfl rfl (T_load_b D rfl rfl rfl rfl rfl rfl) rfl ?_
       refine q0 2 289 3 rfl rfl (T_assign rfl rfl) rfl ?_
       refine k_done rfl ?_
       refine thenK_n ?_
       refine W_ret ?_
       refine blockK_r ?_
       refine thenK_r ?_
       exact .mk [] (.inr rfl) (.tmp rfl (.nil)) (by first | (simp only [resLV, LV.ren, LV.v.injEq, Value.int.injEq, true_and]; unfold setsT; rw [setsOp_t (by omega)]; rfl) | (simp only [resLV, LV.ren, LV.v.injEq, Value.int.injEq, true_and]; unfold setsT; rw [setsOp_f (by omega)]; rfl)) (.nil) rfl
      ·have h11 := c_eql_f g11
       refine W_skip ?_
       refine blockK_n ?_
       refine thenK_n ?_
       refine W_seq ?_
       refine W_seqK (b' := 273) rfl rfl ?_
       refine q0 2 257 1 rfl rfl (T_assign rfl rfl) rfl ?_
       refine k_done rfl ?_
       refine thenK_n ?_
       refine W_ret ?_
       exact .mk [] (.inr rfl) (.tmp rfl (.nil)) (by first | (simp only [resLV, LV.ren, LV.v.injEq, Value.int.injEq, true_and]; unfold setsT; rw [setsOp_t (by omega)]; rfl) | (simp only [resLV, LV.ren, LV.v.injEq, Value.int.injEq, true_and]; unfold setsT; rw [setsOp_f (by omega)]; rfl)) (.nil) rfl
theorem body60 : (Try.prog.funcs[60]?).map (fun fn => (fn.name == "runtime.NumGoroutine" || fn.body.isNone)) = some false := by kernel_rfl
theorem uses_spec (t : GTac) : Spec Try.prog 60 [.agg [.v (.int .i64 t.op), .v (.int .i64 t.d), .v (.int .i64 t.a), .v (.int .i64 t.b), .v (.int .i64 t.k), .v (.int .i64 t.base), .v (.int .i64 t.size), .v (.int .u32 t.n)]] 1 [] (.r 1) 2 [(1, .row 3 1 ((usesT t).map eI))] := by
 refine spec_of D (fn := Try.f60) rfl rfl (Nat.le_of_ble_eq_true rfl) ?_
 refine W_seq ?_
 refine W_seqK (b' := 33) rfl rfl ?_
 refine q1 1 1 1 rfl rfl (T_box rfl rfl flat_agg) rfl ?_
 refine q1 2 17 2 rfl rfl (T_nils [(3, 1)] (T_assign rfl rfl) rfl (.inr ⟨rfl, rfl⟩) (.cons (.nil rfl) .nil) (lv' := .r 17) (upd' := [(17, .row 3 1 (List.map eI ([] : List (Int))))]) (nn' := 1) rfl rfl) rfl ?_
 refine k_done rfl ?_
 refine thenK_n ?_
 refine W_seq ?_
 refine W_seq ?_
 refine W_seqK (b' := 65) rfl rfl ?_
 refine q0 3 33 1 rfl rfl (T_fa D (m := 0) rfl rfl rfl rfl rfl rfl) rfl ?_
 refine q0 4 49 2 rfl rfl (T_load_b D rfl rfl rfl rfl rfl rfl) rfl ?_
 refine k_done rfl ?_
 refine thenK_n ?_
 refine W_block ?_
 refine W_seq ?_
 refine W_seq ?_
 refine W_seqK (b' := 97) rfl rfl ?_
 refine q0 6 65 1 rfl rfl (T_cmp rfl rfl rfl rfl) rfl ?_
 refine q0 5 81 2 rfl rfl (T_assign rfl rfl) rfl ?_
 refine k_done rfl ?_
 refine thenK_n ?_
 refine W_cond rfl (fun g1 => ?_) (fun g1 => ?_)
 ·have h1 := c_eql_t g1
  refine W_skip ?_
  refine thenK_n ?_
  refine W_cond rfl (fun g2 => ?_) (fun g2 => ?_)
  ·skip
   refine W_seq ?_
   refine W_seqK (b' := 161) rfl rfl ?_
   refine q0 10 97 1 rfl rfl (T_fa D (m := 2) rfl rfl rfl rfl rfl rfl) rfl ?_
   refine q0 11 113 2 rfl rfl (T_load_b D rfl rfl rfl rfl rfl rfl) rfl ?_
   refine q1 12 129 3 rfl rfl (T_bs D (ys := [_]) (enc := eI) (l := [_]) rfl rfl rfl rfl rfl rfl (.cons rfl (flat_v rfl) (.nil)) rfl rfl rfl rfl (.v rfl (.nil)) rfl rfl) rfl ?_
   refine q0 2 145 4 rfl rfl (T_assign rfl rfl) rfl ?_
   refine k_done rfl ?_
   refine thenK_n ?_
   refine W_ret ?_
   refine blockK_r ?_
   refine thenK_r ?_
   exact .mk [(1, 129)] (.inr rfl) (.tmp rfl (.nil)) rfl (.rowE rfl (.nil) (by first | (unfold usesT; rw [if_pos (by omega)]; done) | (unfold usesT; rw [if_pos (by omega)]; rfl) | (unfold usesT; rw [if_neg (by omega), if_pos (by omega)]; done) | (unfold usesT; rw [if_neg (by omega), if_neg (by omega)]; done))) rfl
  ·exact absurd (g2.symm.trans g1) (by decide)
 ·have h1 := c_eql_f g1
  refine W_seq ?_
  refine W_seqK (b' := 129) rfl rfl ?_
  refine q0 7 97 1 rfl rfl (T_cmp rfl rfl rfl rfl) rfl ?_
  refine q0 5 113 2 rfl rfl (T_assign rfl rfl) rfl ?_
  refine k_done rfl ?_
  refine thenK_n ?_
  refine W_cond rfl (fun g3 => ?_) (fun g3 => ?_)
  ·have h3 := c_eql_t g3
   refine W_skip ?_
   refine thenK_n ?_
   refine W_cond rfl (fun g4 => ?_) (fun g4 => ?_)
   ·skip
    refine W_seq ?_
    refine W_seqK (b' := 193) rfl rfl ?_
    refine q0 10 129 1 rfl rfl (T_fa D (m := 2) rfl rfl rfl rfl rfl rfl) rfl ?_
    refine q0 11 145 2 rfl rfl (T_load_b D rfl rfl rfl rfl rfl rfl) rfl ?_
    refine q1 12 161 3 rfl rfl (T_bs D (ys := [_]) (enc := eI) (l := [_]) rfl rfl rfl rfl rfl rfl (.cons rfl (flat_v rfl) (.nil)) rfl rfl rfl rfl (.v rfl (.nil)) rfl rfl) rfl ?_
    refine q0 2 177 4 rfl rfl (T_assign rfl rfl) rfl ?_
    refine k_done rfl ?_
    refine thenK_n ?_
    refine W_ret ?_
    refine blockK_r ?_
    refine thenK_r ?_
    exact .mk [(1, 161)] (.inr rfl) (.tmp rfl (.nil)) rfl (.rowE rfl (.nil) (by first | (unfold usesT; rw [if_pos (by omega)]; done) | (unfold usesT; rw [if_pos (by omega)]; rfl) | (unfold usesT; rw [if_neg (by omega), if_pos (by omega)]; done) | (unfold usesT; rw [if_neg (by omega), if_neg (by omega)]; done))) rfl
   ·exact absurd (g4.symm.trans g3) (by decide)
  ·have h3 := c_eql_f g3
   refine W_seq ?_
   refine W_seqK (b' := 161) rfl rfl ?_
   refine q0 8 129 1 rfl rfl (T_cmp rfl rfl rfl rfl) rfl ?_
   refine q0 5 145 2 rfl rfl (T_assign rfl rfl) rfl ?_
   refine k_done rfl ?_
   refine thenK_n ?_
   refine W_cond rfl (fun g5 => ?_) (fun g5 => ?_)
   ·have h5 := c_eql_t g5
    refine W_skip ?_
    refine thenK_n ?_
    refine W_cond rfl (fun g6 => ?_) (fun g6 => ?_)
    ·skip
     refine W_seq ?_
     refine W_seqK (b' := 225) rfl rfl ?_
     refine q0 10 161 1 rfl rfl (T_fa D (m := 2) rfl rfl rfl rfl rfl rfl) rfl ?_
     refine q0 11 177 2 rfl rfl (T_load_b D rfl rfl rfl rfl rfl rfl) rfl ?_
     refine q1 12 193 3 rfl rfl (T_bs D (ys := [_]) (enc := eI) (l := [_]) rfl rfl rfl rfl rfl rfl (.cons rfl (flat_v rfl) (.nil)) rfl rfl rfl rfl (.v rfl (.nil)) rfl rfl) rfl ?_
     refine q0 2 209 4 rfl rfl (T_assign rfl rfl) rfl ?_
     refine k_done rfl ?_
     refine thenK_n ?_
     refine W_ret ?_
     refine blockK_r ?_
     refine thenK_r ?_
     exact .mk [(1, 193)] (.inr rfl) (.tmp rfl (.nil)) rfl (.rowE rfl (.nil) (by first | (unfold usesT; rw [if_pos (by omega)]; done) | (unfold usesT; rw [if_pos (by omega)]; rfl) | (unfold usesT; rw [if_neg (by omega), if_pos (by omega)]; done) | (unfold usesT; rw [if_neg (by omega), if_neg (by omega)]; done))) rfl
    ·exact absurd (g6.symm.trans g5) (by decide)
   ·have h5 := c_eql_f g5
    refine W_seqK (b' := 193) rfl rfl ?_
    refine q0 9 161 1 rfl rfl (T_cmp rfl rfl rfl rfl) rfl ?_
    refine q0 5 177 2 rfl rfl (T_assign rfl rfl) rfl ?_
    refine k_done rfl ?_
    refine thenK_n ?_
    refine W_cond rfl (fun g7 => ?_) (fun g7 => ?_)
    ·have h7 := c_eql_t g7
     refine W_seq ?_
     refine W_seqK (b' := 257) rfl rfl ?_
     refine q0 10 193 1 rfl rfl (T_fa D (m := 2) rfl rfl rfl rfl rfl rfl) rfl ?_
     refine q0 11 209 2 rfl rfl (T_load_b D rfl rfl rfl rfl rfl rfl) rfl ?_
     refine q1 12 225 3 rfl rfl (T_bs D (ys := [_]) (enc := eI) (l := [_]) rfl rfl rfl rfl rfl rfl (.cons rfl (flat_v rfl) (.nil)) rfl rfl rfl rfl (.v rfl (.nil)) rfl rfl) rfl ?_
     refine q0 2 241 4 rfl rfl (T_assign rfl rfl) rfl ?_
     refine k_done rfl ?_
     refine thenK_n ?_
     refine W_ret ?_
     refine blockK_r ?_
     refine thenK_r ?_
     exact .mk [(1, 225)] (.inr rfl) (.tmp rfl (.nil)) rfl (.rowE rfl (.nil) (by first | (unfold usesT; rw [if_pos (by omega)]; done) | (unfold usesT; rw [if_pos (by omega)]; rfl) | (unfold usesT; rw [if_neg (by omega), if_pos (by omega)]; done) | (unfold usesT; rw [if_neg (by omega), if_neg (by omega)]; done))) rfl
    ·have h7 := c_eql_f g7
     refine W_seq ?_
     refine W_seq ?_
     refine W_seqK (b' := 225) rfl rfl ?_
     refine q0 14 193 1 rfl rfl (T_cmp rfl rfl rfl rfl) rfl ?_
     refine q0 13 209 2 rfl rfl (T_assign rfl rfl) rfl ?_
     refine k_done rfl ?_
     refine thenK_n ?_
     refine W_cond rfl (fun g8 => ?_) (fun g8 => ?_)
     ·have h8 := c_eql_t g8
      refine W_skip ?_
      refine thenK_n ?_
      refine W_cond rfl (fun g9 => ?_) (fun g9 => ?_)
      ·skip
       refine W_seq ?_
       refine W_seqK (b' := 321) rfl rfl ?_
       refine q0 16 225 1 rfl rfl (T_fa D (m := 2) rfl rfl rfl rfl rfl rfl) rfl ?_
       refine q0 17 241 2 rfl rfl (T_load_b D rfl rfl rfl rfl rfl rfl) rfl ?_
       refine q0 18 257 3 rfl rfl (T_fa D (m := 3) rfl rfl rfl rfl rfl rfl) rfl ?_
       refine q0 19 273 4 rfl rfl (T_load_b D rfl rfl rfl rfl rfl rfl) rfl ?_
       refine q1 20 289 5 rfl rfl (T_bs D (ys := [_, _]) (enc := eI) (l := [_, _]) rfl rfl rfl rfl rfl rfl (.cons rfl (flat_v rfl) (.cons rfl (flat_v rfl) (.nil))) rfl rfl rfl rfl (.v rfl (.v rfl (.nil))) rfl rfl) rfl ?_
       refine q0 2 305 6 rfl rfl (T_assign rfl rfl) rfl ?_
       refine k_done rfl ?_
       refine thenK_n ?_
       refine W_ret ?_
       refine blockK_r ?_
       refine thenK_r ?_
       exact .mk [(1, 289)] (.inr rfl) (.tmp rfl (.nil)) rfl (.rowE rfl (.nil) (by first | (unfold usesT; rw [if_pos (by omega)]; done) | (unfold usesT; rw [if_pos (by omega)]; rfl) | (unfold usesT; rw [if_neg (by omega), if_pos (by omega)]; done) | (unfold usesT; rw [if_neg (by omega), if_neg (by omega)]; done))) rfl
      ·exact absurd (g9.symm.trans g8) (by decide)
     ·have h8 := c_eql_f g8
      refine W_seqK (b' := 257) rfl rfl ?_
      refine q0 15 225 1 rfl rfl (T_cmp rfl rfl rfl rfl) rfl ?_
      refine q0 13 241 2 rfl rfl (T_assign rfl rfl) rfl ?_
      refine k_done rfl ?_
      refine thenK_n ?_
      refine W_cond rfl (fun g10 => ?_) (fun g10 => ?_)
      ·have h10 := c_eql_t g10
       refine W_seq ?_
       refine W_seqK (b' := 353) rfl rfl ?_
       refine q0 16 257 1 rfl rfl (T_fa D (m := 2) rfl rfl rfl rfl rfl rfl) rfl ?_
       refine q0 17 273 2 rfl rfl (T_load_b D rfl rfl rfl rfl rfl rfl) rfl ?_
       refine q0 18 289 3 rfl rfl (T_fa D (m := 3) rfl rfl rfl rfl rfl rfl) rfl ?_
       refine q0 19 305 4 rfl rfl (T_load_b D rfl rfl rfl rfl rfl rfl) rfl ?_
       refine q1 20 321 5 rfl rfl (T_bs D (ys := [_, _]) (enc := eI) (l := [_, _]) rfl rfl rfl rfl rfl rfl (.cons rfl (flat_v rfl) (.cons rfl (flat_v rfl) (.nil))) rfl rfl rfl rfl (.v rfl (.v rfl (.nil))) rfl rfl) rfl ?_
       refine q0 2 337 6 rfl rfl (T_assign rfl rfl) rfl ?_
       refine k_done rfl ?_
       refine thenK_n ?_
       refine W_ret ?_
       refine blockK_r ?_
       refine thenK_r ?_
       exact .mk [(1, 321)] (.inr rfl) (.tmp rfl (.nil)) rfl (.rowE rfl (.nil) (by first | (unfold usesT; rw [if_pos (by omega)]; done) | (unfold usesT; rw [if_pos (by omega)]; rfl) | (unfold usesT; rw [if_neg (by omega), if_pos (by omega)]; done) | (unfold usesT; rw [if_neg (by omega), if_neg (by omega)]; done))) rfl
      ·have h10 := c_eql_f g10
       refine W_skip ?_
       refine blockK_n ?_
       refine thenK_n ?_
       refine W_seq ?_
       refine W_seqK (b' := 273) rfl rfl ?_
       refine q1 2 257 1 rfl rfl (T_nils [(3, 1)] (T_assign rfl rfl) rfl (.inr ⟨rfl, rfl⟩) (.cons (.nil rfl) .nil) (lv' := .r 257) (upd' := [(257, .row 3 1 (List.map eI ([] : List (Int))))]) (nn' := 1) rfl rfl) rfl ?_
       refine k_done rfl ?_
       refine thenK_n ?_
       refine W_ret ?_
       exact .mk [(1, 257)] (.inr rfl) (.tmp rfl (.nil)) rfl (.rowE rfl (.nil) (by first | (unfold usesT; rw [if_pos (by omega)]; done) | (unfold usesT; rw [if_pos (by omega)]; rfl) | (unfold usesT; rw [if_neg (by omega), if_pos (by omega)]; done) | (unfold usesT; rw [if_neg (by omega), if_neg (by omega)]; done))) rfl
theorem body87 : (Try.prog.funcs[87]?).map (fun fn => (fn.name == "runtime.NumGoroutine" || fn.body.isNone)) = some false := by kernel_rfl
theorem ends_spec (b : GBlock) (n r : Int) : Spec Try.prog 87 [.agg [.r 1, .v (.int .i64 b.fin), .v (.int .i64 b.v), .v (.int .i64 b.to), .v (.int .i64 b.els)], .v (.int .i64 n), .v (.int .i64 r)] 2 [(1, .fz 8 (b.ins.map eTac))] (.v (.bool (endsB b n r))) 2 [] := by
 refine spec_of D (fn := Try.f87) rfl rfl (Nat.le_of_ble_eq_true rfl) ?_
 refine W_seq ?_
 refine W_seqK (b' := 34) rfl rfl ?_
 refine q1 3 2 1 rfl rfl (T_box rfl rfl flat_agg) rfl ?_
 refine q0 6 18 2 rfl rfl (T_assign rfl rfl) rfl ?_
 refine k_done rfl ?_
 refine thenK_n ?_
 refine W_seq ?_
 refine W_seq ?_
 refine W_seqK (b' := 66) rfl rfl ?_
 refine q0 7 34 1 rfl rfl (T_fa D (m := 1) rfl rfl rfl rfl rfl rfl) rfl ?_
 refine q0 8 50 2 rfl rfl (T_load_b D rfl rfl rfl rfl rfl rfl) rfl ?_
 refine k_done rfl ?_
 refine thenK_n ?_
 refine W_block ?_
 refine W_seq ?_
 refine W_seqK (b' := 98) rfl rfl ?_
 refine q0 10 66 1 rfl rfl (T_cmp rfl rfl rfl rfl) rfl ?_
 refine q0 9 82 2 rfl rfl (T_assign rfl rfl) rfl ?_
 refine k_done rfl ?_
 refine thenK_n ?_
 refine W_cond rfl (fun g1 => ?_) (fun g1 => ?_)
 ·have h1 := c_eql_t g1
  refine W_seq ?_
  refine W_seqK (b' := 338) rfl rfl ?_
  refine q0 11 98 1 rfl rfl (T_fa D (m := 3) rfl rfl rfl rfl rfl rfl) rfl ?_
  refine q0 12 114 2 rfl rfl (T_load_b D rfl rfl rfl rfl rfl rfl) rfl ?_
  refine q0 13 130 3 rfl rfl (T_move rfl rfl) rfl ?_
  refine q0 14 146 4 rfl rfl (T_callV (lvs := [_, _]) (L := []) (within_spec _ _) body125 rfl rfl rfl rfl (.nil) rfl) rfl ?_
  refine q0 15 162 5 rfl rfl (T_move rfl rfl) rfl ?_
  refine k_split (d := 15) rfl (fun g2 => ?_) (fun g2 => ?_)
  ·have h2 := g2; (try simp only [cmpB, decide_eq_true_eq, decide_eq_false_iff_not, beq_iff_eq, beq_eq_false_iff_ne, bne_iff_ne, ne_eq, bne_eq_false_iff_eq, Bool.not_eq_true', Bool.not_eq_false', Int.not_lt, Int.not_le] at h2)
   refine k_op0 (d := 16) (b := 178) (j' := 6) rfl rfl rfl rfl (g_tt rfl rfl rfl g2) (T_fa D (m := 2) rfl rfl rfl rfl rfl rfl) rfl ?_
   refine k_op0 (d := 17) (b := 194) (j' := 7) rfl rfl rfl rfl (g_tt rfl rfl rfl g2) (T_load_b D rfl rfl rfl rfl rfl rfl) rfl ?_
   refine k_op0 (d := 18) (b := 210) (j' := 8) rfl rfl rfl rfl (g_tt rfl rfl rfl g2) (T_cmp rfl rfl rfl rfl) rfl ?_
   refine q0 19 226 9 rfl rfl (T_pick_t rfl rfl rfl g2) rfl ?_
   refine q0 20 242 10 rfl rfl (T_move rfl rfl) rfl ?_
   refine k_split (d := 20) rfl (fun g3 => ?_) (fun g3 => ?_)
   ·have h3 := c_eql_t g3
    refine k_op0 (d := 21) (b := 258) (j' := 11) rfl rfl rfl rfl (g_tt rfl rfl rfl g3) (T_fa D (m := 4) rfl rfl rfl rfl rfl rfl) rfl ?_
    refine k_op0 (d := 22) (b := 274) (j' := 12) rfl rfl rfl rfl (g_tt rfl rfl rfl g3) (T_load_b D rfl rfl rfl rfl rfl rfl) rfl ?_
    refine k_op0 (d := 23) (b := 290) (j' := 13) rfl rfl rfl rfl (g_tt rfl rfl rfl g3) (T_cmp rfl rfl rfl rfl) rfl ?_
    refine q0 24 306 14 rfl rfl (T_pick_t rfl rfl rfl g3) rfl ?_
    refine q0 6 322 15 rfl rfl (T_assign rfl rfl) rfl ?_
    refine k_done rfl ?_
    refine thenK_n ?_
    refine W_ret ?_
    refine blockK_r ?_
    refine thenK_r ?_
    exact .mk [] (.inr rfl) (.tmp rfl (.nil)) (by first | (simp only [resLV, LV.ren, LV.v.injEq, Value.bool.injEq]; unfold endsB; rw [if_pos (by omega)]; simp [*, cmpB]; done) | (simp only [resLV, LV.ren, LV.v.injEq, Value.bool.injEq]; unfold endsB; rw [if_neg (by omega), if_pos (by omega)]; simp [*, cmpB]; done) | (simp only [resLV, LV.ren, LV.v.injEq, Value.bool.injEq]; unfold endsB; rw [if_neg (by omega), if_neg (by omega)]; simp [*, cmpB]; done)) (.nil) rfl
   ·have h3 := c_eql_f g3
    refine k_no (d := 21) (j' := 11) rfl rfl rfl (g_tf rfl rfl rfl g3) ?_
    refine k_no (d := 22) (j' := 12) rfl rfl rfl (g_tf rfl rfl rfl g3) ?_
    refine k_no (d := 23) (j' := 13) rfl rfl rfl (g_tf rfl rfl rfl g3) ?_
    refine q0 24 306 14 rfl rfl (T_pick_f rfl rfl rfl g3) rfl ?_
    refine q0 6 322 15 rfl rfl (T_assign rfl rfl) rfl ?_
    refine k_done rfl ?_
    refine thenK_n ?_
    refine W_ret ?_
    refine blockK_r ?_
    refine thenK_r ?_
    exact .mk [] (.inr rfl) (.tmp rfl (.nil)) (by first | (simp only [resLV, LV.ren, LV.v.injEq, Value.bool.injEq]; unfold endsB; rw [if_pos (by omega)]; simp [*, cmpB]; done) | (simp only [resLV, LV.ren, LV.v.injEq, Value.bool.injEq]; unfold endsB; rw [if_neg (by omega), if_pos (by omega)]; simp [*, cmpB]; done) | (simp only [resLV, LV.ren, LV.v.injEq, Value.bool.injEq]; unfold endsB; rw [if_neg (by omega), if_neg (by omega)]; simp [*, cmpB]; done)) (.nil) rfl
  ·have h2 := g2; (try simp only [cmpB, decide_eq_true_eq, decide_eq_false_iff_not, beq_iff_eq, beq_eq_false_iff_ne, bne_iff_ne, ne_eq, bne_eq_false_iff_eq, Bool.not_eq_true', Bool.not_eq_false', Int.not_lt, Int.not_le] at h2)
   refine k_no (d := 16) (j' := 6) rfl rfl rfl (g_tf rfl rfl rfl g2) ?_
   refine k_no (d := 17) (j' := 7) rfl rfl rfl (g_tf rfl rfl rfl g2) ?_
   refine k_no (d := 18) (j' := 8) rfl rfl rfl (g_tf rfl rfl rfl g2) ?_
   refine q0 19 226 9 rfl rfl (T_pick_f rfl rfl rfl g2) rfl ?_
   refine q0 20 242 10 rfl rfl (T_move rfl rfl) rfl ?_
   refine k_no (d := 21) (j' := 11) rfl rfl rfl (g_tf rfl rfl rfl rfl) ?_
   refine k_no (d := 22) (j' := 12) rfl rfl rfl (g_tf rfl rfl rfl rfl) ?_
   refine k_no (d := 23) (j' := 13) rfl rfl rfl (g_tf rfl rfl rfl rfl) ?_
   refine q0 24 306 14 rfl rfl (T_pick_f rfl rfl rfl rfl) rfl ?_
   refine q0 6 322 15 rfl rfl (T_assign rfl rfl) rfl ?_
   refine k_done rfl ?_
   refine thenK_n ?_
   refine W_ret ?_
   refine blockK_r ?_
   refine thenK_r ?_
   exact .mk [] (.inr rfl) (.tmp rfl (.nil)) (by first | (simp only [resLV, LV.ren, LV.v.injEq, Value.bool.injEq]; unfold endsB; rw [if_pos (by omega)]; simp [*, cmpB]; done) | (simp only [resLV, LV.ren, LV.v.injEq, Value.bool.injEq]; unfold endsB; rw [if_neg (by omega), if_pos (by omega)]; simp [*, cmpB]; done) | (simp only [resLV, LV.ren, LV.v.injEq, Value.bool.injEq]; unfold endsB; rw [if_neg (by omega), if_neg (by omega)]; simp [*, cmpB]; done)) (.nil) rfl
 ·have h1 := c_eql_f g1
  refine W_seq ?_
  refine W_seqK (b' := 130) rfl rfl ?_
  refine q0 26 98 1 rfl rfl (T_cmp rfl rfl rfl rfl) rfl ?_
  refine q0 25 114 2 rfl rfl (T_assign rfl rfl) rfl ?_
  refine k_done rfl ?_
  refine thenK_n ?_
  refine W_cond rfl (fun g4 => ?_) (fun g4 => ?_)
  ·have h4 := c_eql_t g4
   refine W_seq ?_
   refine W_seqK (b' := 402) rfl rfl ?_
   refine q0 27 130 1 rfl rfl (T_fa D (m := 3) rfl rfl rfl rfl rfl rfl) rfl ?_
   refine q0 28 146 2 rfl rfl (T_load_b D rfl rfl rfl rfl rfl rfl) rfl ?_
   refine q0 29 162 3 rfl rfl (T_move rfl rfl) rfl ?_
   refine q0 30 178 4 rfl rfl (T_callV (lvs := [_, _]) (L := []) (within_spec _ _) body125 rfl rfl rfl rfl (.nil) rfl) rfl ?_
   refine q0 31 194 5 rfl rfl (T_move rfl rfl) rfl ?_
   refine k_split (d := 31) rfl (fun g5 => ?_) (fun g5 => ?_)
   ·have h5 := g5; (try simp only [cmpB, decide_eq_true_eq, decide_eq_false_iff_not, beq_iff_eq, beq_eq_false_iff_ne, bne_iff_ne, ne_eq, bne_eq_false_iff_eq, Bool.not_eq_true', Bool.not_eq_false', Int.not_lt, Int.not_le] at h5)
    refine k_op0 (d := 32) (b := 210) (j' := 6) rfl rfl rfl rfl (g_tt rfl rfl rfl g5) (T_fa D (m := 4) rfl rfl rfl rfl rfl rfl) rfl ?_
    refine k_op0 (d := 33) (b := 226) (j' := 7) rfl rfl rfl rfl (g_tt rfl rfl rfl g5) (T_load_b D rfl rfl rfl rfl rfl rfl) rfl ?_
    refine k_op0 (d := 34) (b := 242) (j' := 8) rfl rfl rfl rfl (g_tt rfl rfl rfl g5) (T_move rfl rfl) rfl ?_
    refine k_op0 (d := 35) (b := 258) (j' := 9) rfl rfl rfl rfl (g_tt rfl rfl rfl g5) (T_callV (lvs := [_, _]) (L := []) (within_spec _ _) body125 rfl rfl rfl rfl (.nil) rfl) rfl ?_
    refine q0 36 274 10 rfl rfl (T_pick_t rfl rfl rfl g5) rfl ?_
    refine q0 37 290 11 rfl rfl (T_move rfl rfl) rfl ?_
    refine k_split (d := 37) rfl (fun g6 => ?_) (fun g6 => ?_)
    ·have h6 := g6; (try simp only [cmpB, decide_eq_true_eq, decide_eq_false_iff_not, beq_iff_eq, beq_eq_false_iff_ne, bne_iff_ne, ne_eq, bne_eq_false_iff_eq, Bool.not_eq_true', Bool.not_eq_false', Int.not_lt, Int.not_le] at h6)
     refine k_op0 (d := 38) (b := 306) (j' := 12) rfl rfl rfl rfl (g_tt rfl rfl rfl g6) (T_fa D (m := 2) rfl rfl rfl rfl rfl rfl) rfl ?_
     refine k_op0 (d := 39) (b := 322) (j' := 13) rfl rfl rfl rfl (g_tt rfl rfl rfl g6) (T_load_b D rfl rfl rfl rfl rfl rfl) rfl ?_
     refine k_op0 (d := 40) (b := 338) (j' := 14) rfl rfl rfl rfl (g_tt rfl rfl rfl g6) (T_move rfl rfl) rfl ?_
     refine k_op0 (d := 41) (b := 354) (j' := 15) rfl rfl rfl rfl (g_tt rfl rfl rfl g6) (T_callV (lvs := [_, _]) (L := []) (within_spec _ _) body125 rfl rfl rfl rfl (.nil) rfl) rfl ?_
     refine q0 42 370 16 rfl rfl (T_pick_t rfl rfl rfl g6) rfl ?_
     refine q0 6 386 17 rfl rfl (T_assign rfl rfl) rfl ?_
     refine k_done rfl ?_
     refine thenK_n ?_
     refine W_ret ?_
     refine blockK_r ?_
     refine thenK_r ?_
     exact .mk [] (.inr rfl) (.tmp rfl (.nil)) (by first | (simp only [resLV, LV.ren, LV.v.injEq, Value.bool.injEq]; unfold endsB; rw [if_pos (by omega)]; simp [*, cmpB]; done) | (simp only [resLV, LV.ren, LV.v.injEq, Value.bool.injEq]; unfold endsB; rw [if_neg (by omega), if_pos (by omega)]; simp [*, cmpB]; done) | (simp only [resLV, LV.ren, LV.v.injEq, Value.bool.injEq]; unfold endsB; rw [if_neg (by omega), if_neg (by omega)]; simp [*, cmpB]; done)) (.nil) rfl
    ·have h6 := g6; (try simp only [cmpB, decide_eq_true_eq, decide_eq_false_iff_not, beq_iff_eq, beq_eq_false_iff_ne, bne_iff_ne, ne_eq, bne_eq_false_iff_eq, Bool.not_eq_true', Bool.not_eq_false', Int.not_lt, Int.not_le] at h6)
     refine k_no (d := 38) (j' := 12) rfl rfl rfl (g_tf rfl rfl rfl g6) ?_
     refine k_no (d := 39) (j' := 13) rfl rfl rfl (g_tf rfl rfl rfl g6) ?_
     refine k_no (d := 40) (j' := 14) rfl rfl rfl (g_tf rfl rfl rfl g6) ?_
     refine k_no (d := 41) (j' := 15) rfl rfl rfl (g_tf rfl rfl rfl g6) ?_
     refine q0 42 370 16 rfl rfl (T_pick_f rfl rfl rfl g6) rfl ?_
     refine q0 6 386 17 rfl rfl (T_assign rfl rfl) rfl ?_
     refine k_done rfl ?_
     refine thenK_n ?_
     refine W_ret ?_
     refine blockK_r ?_
     refine thenK_r ?_
     exact .mk [] (.inr rfl) (.tmp rfl (.nil)) (by first | (simp only [resLV, LV.ren, LV.v.injEq, Value.bool.injEq]; unfold endsB; rw [if_pos (by omega)]; simp [*, cmpB]; done) | (simp only [resLV, LV.ren, LV.v.injEq, Value.bool.injEq]; unfold endsB; rw [if_neg (by omega), if_pos (by omega)]; simp [*, cmpB]; done) | (simp only [resLV, LV.ren, LV.v.injEq, Value.bool.injEq]; unfold endsB; rw [if_neg (by omega), if_neg (by omega)]; simp [*, cmpB]; done)) (.nil) rfl
   ·have h5 := g5; (try simp only [cmpB, decide_eq_true_eq, decide_eq_false_iff_not, beq_iff_eq, beq_eq_false_iff_ne, bne_iff_ne, ne_eq, bne_eq_false_iff_eq, Bool.not_eq_true', Bool.not_eq_false', Int.not_lt, Int.not_le] at h5)
    refine k_no (d := 32) (j' := 6) rfl rfl rfl (g_tf rfl rfl rfl g5) ?_
    refine k_no (d := 33) (j' := 7) rfl rfl rfl (g_tf rfl rfl rfl g5) ?_
    refine k_no (d := 34) (j' := 8) rfl rfl rfl (g_tf rfl rfl rfl g5) ?_
    refine k_no (d := 35) (j' := 9) rfl rfl rfl (g_tf rfl rfl rfl g5) ?_
    refine q0 36 274 10 rfl rfl (T_pick_f rfl rfl rfl g5) rfl ?_
    refine q0 37 290 11 rfl rfl (T_move rfl rfl) rfl ?_
    refine k_no (d := 38) (j' := 12) rfl rfl rfl (g_tf rfl rfl rfl rfl) ?_
    refine k_no (d := 39) (j' := 13) rfl rfl rfl (g_tf rfl rfl rfl rfl) ?_
    refine k_no (d := 40) (j' := 14) rfl rfl rfl (g_tf rfl rfl rfl rfl) ?_
    refine k_no (d := 41) (j' := 15) rfl rfl rfl (g_tf rfl rfl rfl rfl) ?_
    refine q0 42 370 16 rfl rfl (T_pick_f rfl rfl rfl rfl) rfl ?_
    refine q0 6 386 17 rfl rfl (T_assign rfl rfl) rfl ?_
    refine k_done rfl ?_
    refine thenK_n ?_
    refine W_ret ?_
    refine blockK_r ?_
    refine thenK_r ?_
    exact .mk [] (.inr rfl) (.tmp rfl (.nil)) (by first | (simp only [resLV, LV.ren, LV.v.injEq, Value.bool.injEq]; unfold endsB; rw [if_pos (by omega)]; simp [*, cmpB]; done) | (simp only [resLV, LV.ren, LV.v.injEq, Value.bool.injEq]; unfold endsB; rw [if_neg (by omega), if_pos (by omega)]; simp [*, cmpB]; done) | (simp only [resLV, LV.ren, LV.v.injEq, Value.bool.injEq]; unfold endsB; rw [if_neg (by omega), if_neg (by omega)]; simp [*, cmpB]; done)) (.nil) rfl
  ·have h4 := c_eql_f g4
   refine W_skip ?_
   refine blockK_n ?_
   refine thenK_n ?_
   refine W_seq ?_
   refine W_seqK (b' := 434) rfl rfl ?_
   refine q0 43 130 1 rfl rfl (T_fa D (m := 1) rfl rfl rfl rfl rfl rfl) rfl ?_
   refine q0 44 146 2 rfl rfl (T_load_b D rfl rfl rfl rfl rfl rfl) rfl ?_
   refine q0 45 162 3 rfl rfl (T_cmp rfl rfl rfl rfl) rfl ?_
   refine q0 46 178 4 rfl rfl (T_move rfl rfl) rfl ?_
   refine k_split (d := 46) rfl (fun g7 => ?_) (fun g7 => ?_)
   ·have h7 := c_eql_t g7
    refine k_op0 (d := 47) (b := 194) (j' := 5) rfl rfl rfl rfl (g_tt rfl rfl rfl g7) (T_fa D (m := 2) rfl rfl rfl rfl rfl rfl) rfl ?_
    refine k_op0 (d := 48) (b := 210) (j' := 6) rfl rfl rfl rfl (g_tt rfl rfl rfl g7) (T_load_b D rfl rfl rfl rfl rfl rfl) rfl ?_
    refine k_op0 (d := 49) (b := 226) (j' := 7) rfl rfl rfl rfl (g_tt rfl rfl rfl g7) (T_cmp rfl rfl rfl rfl) rfl ?_
    refine q0 50 242 8 rfl rfl (T_pick_t rfl rfl rfl g7) rfl ?_
    refine q0 51 258 9 rfl rfl (T_move rfl rfl) rfl ?_
    refine k_split (d := 51) rfl (fun g8 => ?_) (fun g8 => ?_)
    ·have h8 := c_eql_t g8
     refine k_op0 (d := 52) (b := 274) (j' := 10) rfl rfl rfl rfl (g_tt rfl rfl rfl g8) (T_fa D (m := 3) rfl rfl rfl rfl rfl rfl) rfl ?_
     refine k_op0 (d := 53) (b := 290) (j' := 11) rfl rfl rfl rfl (g_tt rfl rfl rfl g8) (T_load_b D rfl rfl rfl rfl rfl rfl) rfl ?_
     refine k_op0 (d := 54) (b := 306) (j' := 12) rfl rfl rfl rfl (g_tt rfl rfl rfl g8) (T_cmp rfl rfl rfl rfl) rfl ?_
     refine q0 55 322 13 rfl rfl (T_pick_t rfl rfl rfl g8) rfl ?_
     refine q0 56 338 14 rfl rfl (T_move rfl rfl) rfl ?_
     refine k_split (d := 56) rfl (fun g9 => ?_) (fun g9 => ?_)
     ·have h9 := c_eql_t g9
      refine k_op0 (d := 57) (b := 354) (j' := 15) rfl rfl rfl rfl (g_tt rfl rfl rfl g9) (T_fa D (m := 4) rfl rfl rfl rfl rfl rfl) rfl ?_
      refine k_op0 (d := 58) (b := 370) (j' := 16) rfl rfl rfl rfl (g_tt rfl rfl rfl g9) (T_load_b D rfl rfl rfl rfl rfl rfl) rfl ?_
      refine k_op0 (d := 59) (b := 386) (j' := 17) rfl rfl rfl rfl (g_tt rfl rfl rfl g9) (T_cmp rfl rfl rfl rfl) rfl ?_
      refine q0 60 402 18 rfl rfl (T_pick_t rfl rfl rfl g9) rfl ?_
      refine q0 6 418 19 rfl rfl (T_assign rfl rfl) rfl ?_
      refine k_done rfl ?_
      refine thenK_n ?_
      refine W_ret ?_
      exact .mk [] (.inr rfl) (.tmp rfl (.nil)) (by first | (simp only [resLV, LV.ren, LV.v.injEq, Value.bool.injEq]; unfold endsB; rw [if_pos (by omega)]; simp [*, cmpB]; done) | (simp only [resLV, LV.ren, LV.v.injEq, Value.bool.injEq]; unfold endsB; rw [if_neg (by omega), if_pos (by omega)]; simp [*, cmpB]; done) | (simp only [resLV, LV.ren, LV.v.injEq, Value.bool.injEq]; unfold endsB; rw [if_neg (by omega), if_neg (by omega)]; simp [*, cmpB]; done)) (.nil) rfl
     ·have h9 := c_eql_f g9
      refine k_no (d := 57) (j' := 15) rfl rfl rfl (g_tf rfl rfl rfl g9) ?_
      refine k_no (d := 58) (j' := 16) rfl rfl rfl (g_tf rfl rfl rfl g9) ?_
      refine k_no (d := 59) (j' := 17) rfl rfl rfl (g_tf rfl rfl rfl g9) ?_
      refine q0 60 402 18 rfl rfl (T_pick_f rfl rfl rfl g9) rfl ?_
      refine q0 6 418 19 rfl rfl (T_assign rfl rfl) rfl ?_
      refine k_done rfl ?_
      refine thenK_n ?_
      refine W_ret ?_
      exact .mk [] (.inr rfl) (.tmp rfl (.nil)) (by first | (simp only [resLV, LV.ren, LV.v.injEq, Value.bool.injEq]; unfold endsB; rw [if_pos (by omega)]; simp [*, cmpB]; done) | (simp only [resLV, LV.ren, LV.v.injEq, Value.bool.injEq]; unfold endsB; rw [if_neg (by omega), if_pos (by omega)]; simp [*, cmpB]; done) | (simp only [resLV, LV.ren, LV.v.injEq, Value.bool.injEq]; unfold endsB; rw [if_neg (by omega), if_neg (by omega)]; simp [*, cmpB]; done)) (.nil) rfl
    ·have h8 := c_eql_f g8
     refine k_no (d := 52) (j' := 10) rfl rfl rfl (g_tf rfl rfl rfl g8) ?_
     refine k_no (d := 53) (j' := 11) rfl rfl rfl (g_tf rfl rfl rfl g8) ?_
     refine k_no (d := 54) (j' := 12) rfl rfl rfl (g_tf rfl rfl rfl g8) ?_
     refine q0 55 322 13 rfl rfl (T_pick_f rfl rfl rfl g8) rfl ?_
     refine q0 56 338 14 rfl rfl (T_move rfl rfl) rfl ?_
     refine k_no (d := 57) (j' := 15) rfl rfl rfl (g_tf rfl rfl rfl rfl) ?_
     refine k_no (d := 58) (j' := 16) rfl rfl rfl (g_tf rfl rfl rfl rfl) ?_
     refine k_no (d := 59) (j' := 17) rfl rfl rfl (g_tf rfl rfl rfl rfl) ?_
     refine q0 60 402 18 rfl rfl (T_pick_f rfl rfl rfl rfl) rfl ?_
     refine q0 6 418 19 rfl rfl (T_assign rfl rfl) rfl ?_
     refine k_done rfl ?_
     refine thenK_n ?_
     refine W_ret ?_
     exact .mk [] (.inr rfl) (.tmp rfl (.nil)) (by first | (simp only [resLV, LV.ren, LV.v.injEq, Value.bool.injEq]; unfold endsB; rw [if_pos (by omega)]; simp [*, cmpB]; done) | (simp only [resLV, LV.ren, LV.v.injEq, Value.bool.injEq]; unfold endsB; rw [if_neg (by omega), if_pos (by omega)]; simp [*, cmpB]; done) | (simp only [resLV, LV.ren, LV.v.injEq, Value.bool.injEq]; unfold endsB; rw [if_neg (by omega), if_neg (by omega)]; simp [*, cmpB]; done)) (.nil) rfl
   ·have h7 := c_eql_f g7
    refine k_no (d := 47) (j' := 5) rfl rfl rfl (g_tf rfl rfl rfl g7) ?_
    refine k_no (d := 48) (j' := 6) rfl rfl rfl (g_tf rfl rfl rfl g7) ?_
    refine k_no (d := 49) (j' := 7) rfl rfl rfl (g_tf rfl rfl rfl g7) ?_
    refine q0 50 242 8 rfl rfl (T_pick_f rfl rfl rfl g7) rfl ?_
    refine q0 51 258 9 rfl rfl (T_move rfl rfl) rfl ?_
    refine k_no (d := 52) (j' := 10) rfl rfl rfl (g_tf rfl rfl rfl rfl) ?_
    refine k_no (d := 53) (j' := 11) rfl rfl rfl (g_tf rfl rfl rfl rfl) ?_
    refine k_no (d := 54) (j' := 12) rfl rfl rfl (g_tf rfl rfl rfl rfl) ?_
    refine q0 55 322 13 rfl rfl (T_pick_f rfl rfl rfl rfl) rfl ?_
    refine q0 56 338 14 rfl rfl (T_move rfl rfl) rfl ?_
    refine k_no (d := 57) (j' := 15) rfl rfl rfl (g_tf rfl rfl rfl rfl) ?_
    refine k_no (d := 58) (j' := 16) rfl rfl rfl (g_tf rfl rfl rfl rfl) ?_
    refine k_no (d := 59) (j' := 17) rfl rfl rfl (g_tf rfl rfl rfl rfl) ?_
    refine q0 60 402 18 rfl rfl (T_pick_f rfl rfl rfl rfl) rfl ?_
    refine q0 6 418 19 rfl rfl (T_assign rfl rfl) rfl ?_
    refine k_done rfl ?_
    refine thenK_n ?_
    refine W_ret ?_
    exact .mk [] (.inr rfl) (.tmp rfl (.nil)) (by first | (simp only [resLV, LV.ren, LV.v.injEq, Value.bool.injEq]; unfold endsB; rw [if_pos (by omega)]; simp [*, cmpB]; done) | (simp only [resLV, LV.ren, LV.v.injEq, Value.bool.injEq]; unfold endsB; rw [if_neg (by omega), if_pos (by omega)]; simp [*, cmpB]; done) | (simp only [resLV, LV.ren, LV.v.injEq, Value.bool.injEq]; unfold endsB; rw [if_neg (by omega), if_neg (by omega)]; simp [*, cmpB]; done)) (.nil) rfl
end Lg
end Go.Proofs.Ytpfhmodjjljpjaa

namespace Go.Proofs.Ytpfhmodjjljpjaa
open Go.RowKit
namespace Lg
set_option maxRecDepth 100000
set_option linter.unusedVariables false
set_option linter.unusedSimpArgs false
theorem body88 : (Try.prog.funcs[88]?).map (fun fn => (fn.name == "runtime.NumGoroutine" || fn.body.isNone)) = some false := by kernel_rfl
theorem fits_spec (t : GTac) (f regs words : Int) (hw : -4611686018427387904 ≤ words ∧ words ≤ 4611686018427387904) : Spec Try.prog 88 [.agg [.v (.int .i64 t.op), .v (.int .i64 t.d), .v (.int .i64 t.a), .v (.int .i64 t.b), .v (.int .i64 t.k), .v (.int .i64 t.base), .v (.int .i64 t.size), .v (.int .u32 t.n)], .v (.int .i64 f), .v (.int .i64 regs), .v (.int .i64 words)] 1 [] (.v (.bool (fitsB t f regs words))) 1 [] := by
 refine spec_of D (fn := Try.f88) rfl rfl (Nat.le_of_ble_eq_true rfl) ?_
 refine W_seq ?_
 refine W_seqK (b' := 33) rfl rfl ?_
 refine q1 4 1 1 rfl rfl (T_box rfl rfl flat_agg) rfl ?_
 refine q0 8 17 2 rfl rfl (T_assign rfl rfl) rfl ?_
 refine k_done rfl ?_
 refine thenK_n ?_
 refine W_seq ?_
 refine W_seq ?_
 refine W_seqK (b' := 161) rfl rfl ?_
 refine q0 12 33 1 rfl rfl (T_fa D (m := 0) rfl rfl rfl rfl rfl rfl) rfl ?_
 refine q0 13 49 2 rfl rfl (T_load_b D rfl rfl rfl rfl rfl rfl) rfl ?_
 refine q0 14 65 3 rfl rfl (T_cmp rfl rfl rfl rfl) rfl ?_
 refine q0 15 81 4 rfl rfl (T_move rfl rfl) rfl ?_
 refine k_split (d := 15) rfl (fun g1 => ?_) (fun g1 => ?_)
 ·have h1 := c_lss_t g1
  refine k_no (d := 16) (j' := 5) rfl rfl rfl (g_ft rfl rfl rfl g1) ?_
  refine k_no (d := 17) (j' := 6) rfl rfl rfl (g_ft rfl rfl rfl g1) ?_
  refine k_no (d := 18) (j' := 7) rfl rfl rfl (g_ft rfl rfl rfl g1) ?_
  refine q0 19 145 8 rfl rfl (T_pick_t rfl rfl rfl g1) rfl ?_
  refine k_done rfl ?_
  refine thenK_n ?_
  refine W_cond rfl (fun g2 => ?_) (fun g2 => ?_)
  ·skip
   refine W_seq ?_
   refine W_seqK (b' := 177) rfl rfl ?_
   refine q0 8 161 1 rfl rfl (T_assign rfl rfl) rfl ?_
   refine k_done rfl ?_
   refine thenK_n ?_
   refine W_ret ?_
   refine thenK_r ?_
   exact .mk [] (.inr rfl) (.tmp rfl (.nil)) (by first | rfl | (simp only [resLV, LV.ren, LV.v.injEq, Value.bool.injEq]; refine fits_no (fun hF => ?_); obtain ⟨a1, a2, a3, a4, a5, a6, a7, a8⟩ := hF; first | omega | (have k4 := a4 (by omega); omega) | (have k6 := a6 (by omega); omega) | exact absurd ((a2 (by assumption)).symm.trans (by assumption : _ = false)) (by decide) | exact absurd ((a5 (by omega)).symm.trans (by assumption : _ = false)) (by decide) | exact absurd ((a7 (by omega)).symm.trans (by assumption : _ = false)) (by decide) | exact absurd ((a3 _ (getD_mem (i := j) (by omega))).symm.trans (by assumption : _ = false)) (by decide)) | (simp only [resLV, LV.ren, LV.v.injEq, Value.bool.injEq]; exact fits_fin hj18 (fun _ => by omega) (fun _ => by first | assumption | (exfalso; omega)) (fun _ => by omega) (fun _ => by first | assumption | (exfalso; omega)) (by first | exact (if_pos (by omega)).symm | exact (if_neg (by omega)).symm) (by first | exact (if_pos (by omega)).symm | exact (if_neg (by omega)).symm) (by first | exact (if_pos (by omega)).symm | exact (if_neg (by omega)).symm) (by first | exact (if_pos (by omega)).symm | exact (if_neg (by omega)).symm))) (.nil) rfl
  ·exact absurd (g2.symm.trans rfl) (by decide)
 ·have h1 := c_lss_f g1
  refine k_op0 (d := 16) (b := 97) (j' := 5) rfl rfl rfl rfl (g_ff rfl rfl rfl g1) (T_fa D (m := 0) rfl rfl rfl rfl rfl rfl) rfl ?_
  refine k_op0 (d := 17) (b := 113) (j' := 6) rfl rfl rfl rfl (g_ff rfl rfl rfl g1) (T_load_b D rfl rfl rfl rfl rfl rfl) rfl ?_
  refine k_op0 (d := 18) (b := 129) (j' := 7) rfl rfl rfl rfl (g_ff rfl rfl rfl g1) (T_cmp rfl rfl rfl rfl) rfl ?_
  refine q0 19 145 8 rfl rfl (T_pick_f rfl rfl rfl g1) rfl ?_
  refine k_done rfl ?_
  refine thenK_n ?_
  refine W_cond rfl (fun g3 => ?_) (fun g3 => ?_)
  ·have h3 := c_gtr_t g3
   refine W_seq ?_
   refine W_seqK (b' := 177) rfl rfl ?_
   refine q0 8 161 1 rfl rfl (T_assign rfl rfl) rfl ?_
   refine k_done rfl ?_
   refine thenK_n ?_
   refine W_ret ?_
   refine thenK_r ?_
   exact .mk [] (.inr rfl) (.tmp rfl (.nil)) (by first | rfl | (simp only [resLV, LV.ren, LV.v.injEq, Value.bool.injEq]; refine fits_no (fun hF => ?_); obtain ⟨a1, a2, a3, a4, a5, a6, a7, a8⟩ := hF; first | omega | (have k4 := a4 (by omega); omega) | (have k6 := a6 (by omega); omega) | exact absurd ((a2 (by assumption)).symm.trans (by assumption : _ = false)) (by decide) | exact absurd ((a5 (by omega)).symm.trans (by assumption : _ = false)) (by decide) | exact absurd ((a7 (by omega)).symm.trans (by assumption : _ = false)) (by decide) | exact absurd ((a3 _ (getD_mem (i := j) (by omega))).symm.trans (by assumption : _ = false)) (by decide)) | (simp only [resLV, LV.ren, LV.v.injEq, Value.bool.injEq]; exact fits_fin hj18 (fun _ => by omega) (fun _ => by first | assumption | (exfalso; omega)) (fun _ => by omega) (fun _ => by first | assumption | (exfalso; omega)) (by first | exact (if_pos (by omega)).symm | exact (if_neg (by omega)).symm) (by first | exact (if_pos (by omega)).symm | exact (if_neg (by omega)).symm) (by first | exact (if_pos (by omega)).symm | exact (if_neg (by omega)).symm) (by first | exact (if_pos (by omega)).symm | exact (if_neg (by omega)).symm))) (.nil) rfl
  ·have h3 := c_gtr_f g3
   refine W_skip ?_
   refine thenK_n ?_
   refine W_seq ?_
   refine W_seqK (b' := 241) rfl rfl ?_
   refine q0 20 161 1 rfl rfl (T_fa D (m := 0) rfl rfl rfl rfl rfl rfl) rfl ?_
   refine q0 21 177 2 rfl rfl (T_load_b D rfl rfl rfl rfl rfl rfl) rfl ?_
   refine q0 22 193 3 rfl rfl (T_build D (l := [_, _, _, _, _, _, _, _]) rfl rfl rfl rfl (.cons rfl (flat_v rfl) (.nil)) rfl rfl) rfl ?_
   refine q1 9 209 4 rfl rfl (T_alloc D rfl rfl rfl) rfl ?_
   refine s1 225 5 rfl rfl (T_stB D (cs' := [_, _, _, _, _, _, _, _]) rfl rfl rfl rfl flat_agg rfl rfl (Nat.le_of_ble_eq_true rfl) rfl) rfl ?_
   refine k_done rfl ?_
   refine thenK_n ?_
   refine W_join (ι := Unit) 3 (fun _u => ⟨[(1, .v (.int .i64 f)), (2, .v (.int .i64 regs)), (3, .v (.int .i64 words)), (4, .p 1 0), (9, .p 2 0)], [(1, .box 70 [.v (.int .i64 t.op), .v (.int .i64 t.d), .v (.int .i64 t.a), .v (.int .i64 t.b), .v (.int .i64 t.k), .v (.int .i64 t.base), .v (.int .i64 t.size), .v (.int .u32 t.n)]), (2, .box 70 [.v (.int .i64 t.op), .v (.int .i64 (if setsOp t.op = true then t.d else 0)), .v (.int .i64 0), .v (.int .i64 0), .v (.int .i64 0), .v (.int .i64 0), .v (.int .i64 0), .v (.int .u32 0)])]⟩) (fun _ => (1 ≤ t.op ∧ t.op ≤ 10) ∧ (setsOp t.op = true → withinB t.d regs = true)) ?_ (fun _u hj8 => ?_)
   ·skip
    refine W_join (ι := Unit) 3 (fun _u => ⟨[(1, .v (.int .i64 f)), (2, .v (.int .i64 regs)), (3, .v (.int .i64 words)), (4, .p 1 0), (9, .p 2 0), (55, .v (.bool (setsOp t.op)))], [(1, .box 70 [.v (.int .i64 t.op), .v (.int .i64 t.d), .v (.int .i64 t.a), .v (.int .i64 t.b), .v (.int .i64 t.k), .v (.int .i64 t.base), .v (.int .i64 t.size), .v (.int .u32 t.n)]), (2, .box 70 [.v (.int .i64 t.op), .v (.int .i64 0), .v (.int .i64 0), .v (.int .i64 0), .v (.int .i64 0), .v (.int .i64 0), .v (.int .i64 0), .v (.int .u32 0)])]⟩) (fun _ => 1 ≤ t.op ∧ t.op ≤ 10) ?_ (fun _u hj5 => ?_)
    ·skip
     refine W_seqK (b' := 769) rfl rfl ?_
     refine q0 23 241 1 rfl rfl (T_load_bA D (l := [_, _, _, _, _, _, _, _]) rfl rfl rfl rfl rfl rfl rfl) rfl ?_
     refine q0 24 257 2 rfl rfl (T_callV (lvs := [_]) (L := []) (sets_spec _) body86 rfl rfl rfl rfl (.nil) rfl) rfl ?_
     refine q0 25 273 3 rfl rfl (T_cmp rfl rfl rfl rfl) rfl ?_
     refine q0 26 289 4 rfl rfl (T_move rfl rfl) rfl ?_
     refine k_split (d := 26) rfl (fun g4 => ?_) (fun g4 => ?_)
     ·have h4 := c_geq_t g4
      refine k_no (d := 27) (j' := 5) rfl rfl rfl (g_ft rfl rfl rfl g4) ?_
      refine k_no (d := 28) (j' := 6) rfl rfl rfl (g_ft rfl rfl rfl g4) ?_
      refine k_no (d := 29) (j' := 7) rfl rfl rfl (g_ft rfl rfl rfl g4) ?_
      refine q0 30 353 8 rfl rfl (T_pick_t rfl rfl rfl g4) rfl ?_
      refine q0 31 369 9 rfl rfl (T_move rfl rfl) rfl ?_
      refine k_no (d := 32) (j' := 10) rfl rfl rfl (g_ft rfl rfl rfl rfl) ?_
      refine k_no (d := 33) (j' := 11) rfl rfl rfl (g_ft rfl rfl rfl rfl) ?_
      refine k_no (d := 34) (j' := 12) rfl rfl rfl (g_ft rfl rfl rfl rfl) ?_
      refine q0 35 433 13 rfl rfl (T_pick_t rfl rfl rfl rfl) rfl ?_
      refine q0 36 449 14 rfl rfl (T_move rfl rfl) rfl ?_
      refine k_no (d := 37) (j' := 15) rfl rfl rfl (g_ft rfl rfl rfl rfl) ?_
      refine k_no (d := 38) (j' := 16) rfl rfl rfl (g_ft rfl rfl rfl rfl) ?_
      refine k_no (d := 39) (j' := 17) rfl rfl rfl (g_ft rfl rfl rfl rfl) ?_
      refine q0 40 513 18 rfl rfl (T_pick_t rfl rfl rfl rfl) rfl ?_
      refine q0 41 529 19 rfl rfl (T_move rfl rfl) rfl ?_
      refine k_no (d := 42) (j' := 20) rfl rfl rfl (g_ft rfl rfl rfl rfl) ?_
      refine k_no (d := 43) (j' := 21) rfl rfl rfl (g_ft rfl rfl rfl rfl) ?_
      refine k_no (d := 44) (j' := 22) rfl rfl rfl (g_ft rfl rfl rfl rfl) ?_
      refine q0 45 593 23 rfl rfl (T_pick_t rfl rfl rfl rfl) rfl ?_
      refine q0 46 609 24 rfl rfl (T_move rfl rfl) rfl ?_
      refine k_no (d := 47) (j' := 25) rfl rfl rfl (g_ft rfl rfl rfl rfl) ?_
      refine k_no (d := 48) (j' := 26) rfl rfl rfl (g_ft rfl rfl rfl rfl) ?_
      refine k_no (d := 49) (j' := 27) rfl rfl rfl (g_ft rfl rfl rfl rfl) ?_
      refine q0 50 673 28 rfl rfl (T_pick_t rfl rfl rfl rfl) rfl ?_
      refine q0 51 689 29 rfl rfl (T_move rfl rfl) rfl ?_
      refine k_no (d := 52) (j' := 30) rfl rfl rfl (g_ft rfl rfl rfl rfl) ?_
      refine k_no (d := 53) (j' := 31) rfl rfl rfl (g_ft rfl rfl rfl rfl) ?_
      refine k_no (d := 54) (j' := 32) rfl rfl rfl (g_ft rfl rfl rfl rfl) ?_
      refine q0 55 753 33 rfl rfl (T_pick_t rfl rfl rfl rfl) rfl ?_
      refine k_done rfl ?_
      refine thenK_n ?_
      refine ⟨(), by (try dsimp only); omega, ?_⟩
      exact ⟨[(1, 1), (2, 209)], .eq rfl (.eq rfl (.eq rfl (.same rfl rfl (.same rfl rfl (.eq rfl (.nil) (by first | rfl | (rw [setsOp_t (by omega)]; done) | (rw [setsT_ge (by assumption)]; done) | (by_cases h8 : t.op = 8; (rw [setsOp_t (by omega)]; simp [cmpB, h8]); (rw [setsOp_f (by omega)]; simp [cmpB, h8])))))) (by first | rfl | (rw [setsOp_t (by omega)]; done) | (rw [setsT_ge (by assumption)]; done) | (by_cases h8 : t.op = 8; (rw [setsOp_t (by omega)]; simp [cmpB, h8]); (rw [setsOp_f (by omega)]; simp [cmpB, h8])))) (by first | rfl | (rw [setsOp_t (by omega)]; done) | (rw [setsT_ge (by assumption)]; done) | (by_cases h8 : t.op = 8; (rw [setsOp_t (by omega)]; simp [cmpB, h8]); (rw [setsOp_f (by omega)]; simp [cmpB, h8])))) (by first | rfl | (rw [setsOp_t (by omega)]; done) | (rw [setsT_ge (by assumption)]; done) | (by_cases h8 : t.op = 8; (rw [setsOp_t (by omega)]; simp [cmpB, h8]); (rw [setsOp_f (by omega)]; simp [cmpB, h8]))), .box (by first | rfl | (rw [setsOp_t (by omega)]; done) | (rw [setsT_ge (by assumption)]; done) | (by_cases h8 : t.op = 8; (rw [setsOp_t (by omega)]; simp [cmpB, h8]); (rw [setsOp_f (by omega)]; simp [cmpB, h8]))) (.box (by first | rfl | (rw [setsOp_t (by omega)]; done) | (rw [setsT_ge (by assumption)]; done) | (by_cases h8 : t.op = 8; (rw [setsOp_t (by omega)]; simp [cmpB, h8]); (rw [setsOp_f (by omega)]; simp [cmpB, h8]))) (.nil)), rfl⟩
     ·have h4 := c_geq_f g4
      refine k_op0 (d := 27) (b := 305) (j' := 5) rfl rfl rfl rfl (g_ff rfl rfl rfl g4) (T_fa D (m := 0) rfl rfl rfl rfl rfl rfl) rfl ?_
      refine k_op0 (d := 28) (b := 321) (j' := 6) rfl rfl rfl rfl (g_ff rfl rfl rfl g4) (T_load_b D rfl rfl rfl rfl rfl rfl) rfl ?_
      refine k_op0 (d := 29) (b := 337) (j' := 7) rfl rfl rfl rfl (g_ff rfl rfl rfl g4) (T_cmp rfl rfl rfl rfl) rfl ?_
      refine q0 30 353 8 rfl rfl (T_pick_f rfl rfl rfl g4) rfl ?_
      refine q0 31 369 9 rfl rfl (T_move rfl rfl) rfl ?_
      refine k_split (d := 31) rfl (fun g5 => ?_) (fun g5 => ?_)
      ·have h5 := c_eql_t g5
       refine k_no (d := 32) (j' := 10) rfl rfl rfl (g_ft rfl rfl rfl g5) ?_
       refine k_no (d := 33) (j' := 11) rfl rfl rfl (g_ft rfl rfl rfl g5) ?_
       refine k_no (d := 34) (j' := 12) rfl rfl rfl (g_ft rfl rfl rfl g5) ?_
       refine q0 35 433 13 rfl rfl (T_pick_t rfl rfl rfl g5) rfl ?_
       refine q0 36 449 14 rfl rfl (T_move rfl rfl) rfl ?_
       refine k_no (d := 37) (j' := 15) rfl rfl rfl (g_ft rfl rfl rfl rfl) ?_
       refine k_no (d := 38) (j' := 16) rfl rfl rfl (g_ft rfl rfl rfl rfl) ?_
       refine k_no (d := 39) (j' := 17) rfl rfl rfl (g_ft rfl rfl rfl rfl) ?_
       refine q0 40 513 18 rfl rfl (T_pick_t rfl rfl rfl rfl) rfl ?_
       refine q0 41 529 19 rfl rfl (T_move rfl rfl) rfl ?_
       refine k_no (d := 42) (j' := 20) rfl rfl rfl (g_ft rfl rfl rfl rfl) ?_
       refine k_no (d := 43) (j' := 21) rfl rfl rfl (g_ft rfl rfl rfl rfl) ?_
       refine k_no (d := 44) (j' := 22) rfl rfl rfl (g_ft rfl rfl rfl rfl) ?_
       refine q0 45 593 23 rfl rfl (T_pick_t rfl rfl rfl rfl) rfl ?_
       refine q0 46 609 24 rfl rfl (T_move rfl rfl) rfl ?_
       refine k_no (d := 47) (j' := 25) rfl rfl rfl (g_ft rfl rfl rfl rfl) ?_
       refine k_no (d := 48) (j' := 26) rfl rfl rfl (g_ft rfl rfl rfl rfl) ?_
       refine k_no (d := 49) (j' := 27) rfl rfl rfl (g_ft rfl rfl rfl rfl) ?_
       refine q0 50 673 28 rfl rfl (T_pick_t rfl rfl rfl rfl) rfl ?_
       refine q0 51 689 29 rfl rfl (T_move rfl rfl) rfl ?_
       refine k_no (d := 52) (j' := 30) rfl rfl rfl (g_ft rfl rfl rfl rfl) ?_
       refine k_no (d := 53) (j' := 31) rfl rfl rfl (g_ft rfl rfl rfl rfl) ?_
       refine k_no (d := 54) (j' := 32) rfl rfl rfl (g_ft rfl rfl rfl rfl) ?_
       refine q0 55 753 33 rfl rfl (T_pick_t rfl rfl rfl rfl) rfl ?_
       refine k_done rfl ?_
       refine thenK_n ?_
       refine ⟨(), by (try dsimp only); omega, ?_⟩
       exact ⟨[(1, 1), (2, 209)], .eq rfl (.eq rfl (.eq rfl (.same rfl rfl (.same rfl rfl (.eq rfl (.nil) (by first | rfl | (rw [setsOp_t (by omega)]; done) | (rw [setsT_ge (by assumption)]; done) | (by_cases h8 : t.op = 8; (rw [setsOp_t (by omega)]; simp [cmpB, h8]); (rw [setsOp_f (by omega)]; simp [cmpB, h8])))))) (by first | rfl | (rw [setsOp_t (by omega)]; done) | (rw [setsT_ge (by assumption)]; done) | (by_cases h8 : t.op = 8; (rw [setsOp_t (by omega)]; simp [cmpB, h8]); (rw [setsOp_f (by omega)]; simp [cmpB, h8])))) (by first | rfl | (rw [setsOp_t (by omega)]; done) | (rw [setsT_ge (by assumption)]; done) | (by_cases h8 : t.op = 8; (rw [setsOp_t (by omega)]; simp [cmpB, h8]); (rw [setsOp_f (by omega)]; simp [cmpB, h8])))) (by first | rfl | (rw [setsOp_t (by omega)]; done) | (rw [setsT_ge (by assumption)]; done) | (by_cases h8 : t.op = 8; (rw [setsOp_t (by omega)]; simp [cmpB, h8]); (rw [setsOp_f (by omega)]; simp [cmpB, h8]))), .box (by first | rfl | (rw [setsOp_t (by omega)]; done) | (rw [setsT_ge (by assumption)]; done) | (by_cases h8 : t.op = 8; (rw [setsOp_t (by omega)]; simp [cmpB, h8]); (rw [setsOp_f (by omega)]; simp [cmpB, h8]))) (.box (by first | rfl | (rw [setsOp_t (by omega)]; done) | (rw [setsT_ge (by assumption)]; done) | (by_cases h8 : t.op = 8; (rw [setsOp_t (by omega)]; simp [cmpB, h8]); (rw [setsOp_f (by omega)]; simp [cmpB, h8]))) (.nil)), rfl⟩
      ·have h5 := c_eql_f g5
       refine k_op0 (d := 32) (b := 385) (j' := 10) rfl rfl rfl rfl (g_ff rfl rfl rfl g5) (T_fa D (m := 0) rfl rfl rfl rfl rfl rfl) rfl ?_
       refine k_op0 (d := 33) (b := 401) (j' := 11) rfl rfl rfl rfl (g_ff rfl rfl rfl g5) (T_load_b D rfl rfl rfl rfl rfl rfl) rfl ?_
       refine k_op0 (d := 34) (b := 417) (j' := 12) rfl rfl rfl rfl (g_ff rfl rfl rfl g5) (T_cmp rfl rfl rfl rfl) rfl ?_
       refine q0 35 433 13 rfl rfl (T_pick_f rfl rfl rfl g5) rfl ?_
       refine q0 36 449 14 rfl rfl (T_move rfl rfl) rfl ?_
       refine k_split (d := 36) rfl (fun g6 => ?_) (fun g6 => ?_)
       ·have h6 := c_eql_t g6
        refine k_no (d := 37) (j' := 15) rfl rfl rfl (g_ft rfl rfl rfl g6) ?_
        refine k_no (d := 38) (j' := 16) rfl rfl rfl (g_ft rfl rfl rfl g6) ?_
        refine k_no (d := 39) (j' := 17) rfl rfl rfl (g_ft rfl rfl rfl g6) ?_
        refine q0 40 513 18 rfl rfl (T_pick_t rfl rfl rfl g6) rfl ?_
        refine q0 41 529 19 rfl rfl (T_move rfl rfl) rfl ?_
        refine k_no (d := 42) (j' := 20) rfl rfl rfl (g_ft rfl rfl rfl rfl) ?_
        refine k_no (d := 43) (j' := 21) rfl rfl rfl (g_ft rfl rfl rfl rfl) ?_
        refine k_no (d := 44) (j' := 22) rfl rfl rfl (g_ft rfl rfl rfl rfl) ?_
        refine q0 45 593 23 rfl rfl (T_pick_t rfl rfl rfl rfl) rfl ?_
        refine q0 46 609 24 rfl rfl (T_move rfl rfl) rfl ?_
        refine k_no (d := 47) (j' := 25) rfl rfl rfl (g_ft rfl rfl rfl rfl) ?_
        refine k_no (d := 48) (j' := 26) rfl rfl rfl (g_ft rfl rfl rfl rfl) ?_
        refine k_no (d := 49) (j' := 27) rfl rfl rfl (g_ft rfl rfl rfl rfl) ?_
        refine q0 50 673 28 rfl rfl (T_pick_t rfl rfl rfl rfl) rfl ?_
        refine q0 51 689 29 rfl rfl (T_move rfl rfl) rfl ?_
        refine k_no (d := 52) (j' := 30) rfl rfl rfl (g_ft rfl rfl rfl rfl) ?_
        refine k_no (d := 53) (j' := 31) rfl rfl rfl (g_ft rfl rfl rfl rfl) ?_
        refine k_no (d := 54) (j' := 32) rfl rfl rfl (g_ft rfl rfl rfl rfl) ?_
        refine q0 55 753 33 rfl rfl (T_pick_t rfl rfl rfl rfl) rfl ?_
        refine k_done rfl ?_
        refine thenK_n ?_
        refine ⟨(), by (try dsimp only); omega, ?_⟩
        exact ⟨[(1, 1), (2, 209)], .eq rfl (.eq rfl (.eq rfl (.same rfl rfl (.same rfl rfl (.eq rfl (.nil) (by first | rfl | (rw [setsOp_t (by omega)]; done) | (rw [setsT_ge (by assumption)]; done) | (by_cases h8 : t.op = 8; (rw [setsOp_t (by omega)]; simp [cmpB, h8]); (rw [setsOp_f (by omega)]; simp [cmpB, h8])))))) (by first | rfl | (rw [setsOp_t (by omega)]; done) | (rw [setsT_ge (by assumption)]; done) | (by_cases h8 : t.op = 8; (rw [setsOp_t (by omega)]; simp [cmpB, h8]); (rw [setsOp_f (by omega)]; simp [cmpB, h8])))) (by first | rfl | (rw [setsOp_t (by omega)]; done) | (rw [setsT_ge (by assumption)]; done) | (by_cases h8 : t.op = 8; (rw [setsOp_t (by omega)]; simp [cmpB, h8]); (rw [setsOp_f (by omega)]; simp [cmpB, h8])))) (by first | rfl | (rw [setsOp_t (by omega)]; done) | (rw [setsT_ge (by assumption)]; done) | (by_cases h8 : t.op = 8; (rw [setsOp_t (by omega)]; simp [cmpB, h8]); (rw [setsOp_f (by omega)]; simp [cmpB, h8]))), .box (by first | rfl | (rw [setsOp_t (by omega)]; done) | (rw [setsT_ge (by assumption)]; done) | (by_cases h8 : t.op = 8; (rw [setsOp_t (by omega)]; simp [cmpB, h8]); (rw [setsOp_f (by omega)]; simp [cmpB, h8]))) (.box (by first | rfl | (rw [setsOp_t (by omega)]; done) | (rw [setsT_ge (by assumption)]; done) | (by_cases h8 : t.op = 8; (rw [setsOp_t (by omega)]; simp [cmpB, h8]); (rw [setsOp_f (by omega)]; simp [cmpB, h8]))) (.nil)), rfl⟩
       ·have h6 := c_eql_f g6
        refine k_op0 (d := 37) (b := 465) (j' := 15) rfl rfl rfl rfl (g_ff rfl rfl rfl g6) (T_fa D (m := 0) rfl rfl rfl rfl rfl rfl) rfl ?_
        refine k_op0 (d := 38) (b := 481) (j' := 16) rfl rfl rfl rfl (g_ff rfl rfl rfl g6) (T_load_b D rfl rfl rfl rfl rfl rfl) rfl ?_
        refine k_op0 (d := 39) (b := 497) (j' := 17) rfl rfl rfl rfl (g_ff rfl rfl rfl g6) (T_cmp rfl rfl rfl rfl) rfl ?_
        refine q0 40 513 18 rfl rfl (T_pick_f rfl rfl rfl g6) rfl ?_
        refine q0 41 529 19 rfl rfl (T_move rfl rfl) rfl ?_
        refine k_split (d := 41) rfl (fun g7 => ?_) (fun g7 => ?_)
        ·have h7 := c_eql_t g7
         refine k_no (d := 42) (j' := 20) rfl rfl rfl (g_ft rfl rfl rfl g7) ?_
         refine k_no (d := 43) (j' := 21) rfl rfl rfl (g_ft rfl rfl rfl g7) ?_
         refine k_no (d := 44) (j' := 22) rfl rfl rfl (g_ft rfl rfl rfl g7) ?_
         refine q0 45 593 23 rfl rfl (T_pick_t rfl rfl rfl g7) rfl ?_
         refine q0 46 609 24 rfl rfl (T_move rfl rfl) rfl ?_
         refine k_no (d := 47) (j' := 25) rfl rfl rfl (g_ft rfl rfl rfl rfl) ?_
         refine k_no (d := 48) (j' := 26) rfl rfl rfl (g_ft rfl rfl rfl rfl) ?_
         refine k_no (d := 49) (j' := 27) rfl rfl rfl (g_ft rfl rfl rfl rfl) ?_
         refine q0 50 673 28 rfl rfl (T_pick_t rfl rfl rfl rfl) rfl ?_
         refine q0 51 689 29 rfl rfl (T_move rfl rfl) rfl ?_
         refine k_no (d := 52) (j' := 30) rfl rfl rfl (g_ft rfl rfl rfl rfl) ?_
         refine k_no (d := 53) (j' := 31) rfl rfl rfl (g_ft rfl rfl rfl rfl) ?_
         refine k_no (d := 54) (j' := 32) rfl rfl rfl (g_ft rfl rfl rfl rfl) ?_
         refine q0 55 753 33 rfl rfl (T_pick_t rfl rfl rfl rfl) rfl ?_
         refine k_done rfl ?_
         refine thenK_n ?_
         refine ⟨(), by (try dsimp only); omega, ?_⟩
         exact ⟨[(1, 1), (2, 209)], .eq rfl (.eq rfl (.eq rfl (.same rfl rfl (.same rfl rfl (.eq rfl (.nil) (by first | rfl | (rw [setsOp_t (by omega)]; done) | (rw [setsT_ge (by assumption)]; done) | (by_cases h8 : t.op = 8; (rw [setsOp_t (by omega)]; simp [cmpB, h8]); (rw [setsOp_f (by omega)]; simp [cmpB, h8])))))) (by first | rfl | (rw [setsOp_t (by omega)]; done) | (rw [setsT_ge (by assumption)]; done) | (by_cases h8 : t.op = 8; (rw [setsOp_t (by omega)]; simp [cmpB, h8]); (rw [setsOp_f (by omega)]; simp [cmpB, h8])))) (by first | rfl | (rw [setsOp_t (by omega)]; done) | (rw [setsT_ge (by assumption)]; done) | (by_cases h8 : t.op = 8; (rw [setsOp_t (by omega)]; simp [cmpB, h8]); (rw [setsOp_f (by omega)]; simp [cmpB, h8])))) (by first | rfl | (rw [setsOp_t (by omega)]; done) | (rw [setsT_ge (by assumption)]; done) | (by_cases h8 : t.op = 8; (rw [setsOp_t (by omega)]; simp [cmpB, h8]); (rw [setsOp_f (by omega)]; simp [cmpB, h8]))), .box (by first | rfl | (rw [setsOp_t (by omega)]; done) | (rw [setsT_ge (by assumption)]; done) | (by_cases h8 : t.op = 8; (rw [setsOp_t (by omega)]; simp [cmpB, h8]); (rw [setsOp_f (by omega)]; simp [cmpB, h8]))) (.box (by first | rfl | (rw [setsOp_t (by omega)]; done) | (rw [setsT_ge (by assumption)]; done) | (by_cases h8 : t.op = 8; (rw [setsOp_t (by omega)]; simp [cmpB, h8]); (rw [setsOp_f (by omega)]; simp [cmpB, h8]))) (.nil)), rfl⟩
        ·have h7 := c_eql_f g7
         refine k_op0 (d := 42) (b := 545) (j' := 20) rfl rfl rfl rfl (g_ff rfl rfl rfl g7) (T_fa D (m := 0) rfl rfl rfl rfl rfl rfl) rfl ?_
         refine k_op0 (d := 43) (b := 561) (j' := 21) rfl rfl rfl rfl (g_ff rfl rfl rfl g7) (T_load_b D rfl rfl rfl rfl rfl rfl) rfl ?_
         refine k_op0 (d := 44) (b := 577) (j' := 22) rfl rfl rfl rfl (g_ff rfl rfl rfl g7) (T_cmp rfl rfl rfl rfl) rfl ?_
         refine q0 45 593 23 rfl rfl (T_pick_f rfl rfl rfl g7) rfl ?_
         refine q0 46 609 24 rfl rfl (T_move rfl rfl) rfl ?_
         refine k_split (d := 46) rfl (fun g8 => ?_) (fun g8 => ?_)
         ·have h8 := c_eql_t g8
          refine k_no (d := 47) (j' := 25) rfl rfl rfl (g_ft rfl rfl rfl g8) ?_
          refine k_no (d := 48) (j' := 26) rfl rfl rfl (g_ft rfl rfl rfl g8) ?_
          refine k_no (d := 49) (j' := 27) rfl rfl rfl (g_ft rfl rfl rfl g8) ?_
          refine q0 50 673 28 rfl rfl (T_pick_t rfl rfl rfl g8) rfl ?_
          refine q0 51 689 29 rfl rfl (T_move rfl rfl) rfl ?_
          refine k_no (d := 52) (j' := 30) rfl rfl rfl (g_ft rfl rfl rfl rfl) ?_
          refine k_no (d := 53) (j' := 31) rfl rfl rfl (g_ft rfl rfl rfl rfl) ?_
          refine k_no (d := 54) (j' := 32) rfl rfl rfl (g_ft rfl rfl rfl rfl) ?_
          refine q0 55 753 33 rfl rfl (T_pick_t rfl rfl rfl rfl) rfl ?_
          refine k_done rfl ?_
          refine thenK_n ?_
          refine ⟨(), by (try dsimp only); omega, ?_⟩
          exact ⟨[(1, 1), (2, 209)], .eq rfl (.eq rfl (.eq rfl (.same rfl rfl (.same rfl rfl (.eq rfl (.nil) (by first | rfl | (rw [setsOp_t (by omega)]; done) | (rw [setsT_ge (by assumption)]; done) | (by_cases h8 : t.op = 8; (rw [setsOp_t (by omega)]; simp [cmpB, h8]); (rw [setsOp_f (by omega)]; simp [cmpB, h8])))))) (by first | rfl | (rw [setsOp_t (by omega)]; done) | (rw [setsT_ge (by assumption)]; done) | (by_cases h8 : t.op = 8; (rw [setsOp_t (by omega)]; simp [cmpB, h8]); (rw [setsOp_f (by omega)]; simp [cmpB, h8])))) (by first | rfl | (rw [setsOp_t (by omega)]; done) | (rw [setsT_ge (by assumption)]; done) | (by_cases h8 : t.op = 8; (rw [setsOp_t (by omega)]; simp [cmpB, h8]); (rw [setsOp_f (by omega)]; simp [cmpB, h8])))) (by first | rfl | (rw [setsOp_t (by omega)]; done) | (rw [setsT_ge (by assumption)]; done) | (by_cases h8 : t.op = 8; (rw [setsOp_t (by omega)]; simp [cmpB, h8]); (rw [setsOp_f (by omega)]; simp [cmpB, h8]))), .box (by first | rfl | (rw [setsOp_t (by omega)]; done) | (rw [setsT_ge (by assumption)]; done) | (by_cases h8 : t.op = 8; (rw [setsOp_t (by omega)]; simp [cmpB, h8]); (rw [setsOp_f (by omega)]; simp [cmpB, h8]))) (.box (by first | rfl | (rw [setsOp_t (by omega)]; done) | (rw [setsT_ge (by assumption)]; done) | (by_cases h8 : t.op = 8; (rw [setsOp_t (by omega)]; simp [cmpB, h8]); (rw [setsOp_f (by omega)]; simp [cmpB, h8]))) (.nil)), rfl⟩
         ·have h8 := c_eql_f g8
          refine k_op0 (d := 47) (b := 625) (j' := 25) rfl rfl rfl rfl (g_ff rfl rfl rfl g8) (T_fa D (m := 0) rfl rfl rfl rfl rfl rfl) rfl ?_
          refine k_op0 (d := 48) (b := 641) (j' := 26) rfl rfl rfl rfl (g_ff rfl rfl rfl g8) (T_load_b D rfl rfl rfl rfl rfl rfl) rfl ?_
          refine k_op0 (d := 49) (b := 657) (j' := 27) rfl rfl rfl rfl (g_ff rfl rfl rfl g8) (T_cmp rfl rfl rfl rfl) rfl ?_
          refine q0 50 673 28 rfl rfl (T_pick_f rfl rfl rfl g8) rfl ?_
          refine q0 51 689 29 rfl rfl (T_move rfl rfl) rfl ?_
          refine k_split (d := 51) rfl (fun g9 => ?_) (fun g9 => ?_)
          ·have h9 := c_eql_t g9
           refine k_no (d := 52) (j' := 30) rfl rfl rfl (g_ft rfl rfl rfl g9) ?_
           refine k_no (d := 53) (j' := 31) rfl rfl rfl (g_ft rfl rfl rfl g9) ?_
           refine k_no (d := 54) (j' := 32) rfl rfl rfl (g_ft rfl rfl rfl g9) ?_
           refine q0 55 753 33 rfl rfl (T_pick_t rfl rfl rfl g9) rfl ?_
           refine k_done rfl ?_
           refine thenK_n ?_
           refine ⟨(), by (try dsimp only); omega, ?_⟩
           exact ⟨[(1, 1), (2, 209)], .eq rfl (.eq rfl (.eq rfl (.same rfl rfl (.same rfl rfl (.eq rfl (.nil) (by first | rfl | (rw [setsOp_t (by omega)]; done) | (rw [setsT_ge (by assumption)]; done) | (by_cases h8 : t.op = 8; (rw [setsOp_t (by omega)]; simp [cmpB, h8]); (rw [setsOp_f (by omega)]; simp [cmpB, h8])))))) (by first | rfl | (rw [setsOp_t (by omega)]; done) | (rw [setsT_ge (by assumption)]; done) | (by_cases h8 : t.op = 8; (rw [setsOp_t (by omega)]; simp [cmpB, h8]); (rw [setsOp_f (by omega)]; simp [cmpB, h8])))) (by first | rfl | (rw [setsOp_t (by omega)]; done) | (rw [setsT_ge (by assumption)]; done) | (by_cases h8 : t.op = 8; (rw [setsOp_t (by omega)]; simp [cmpB, h8]); (rw [setsOp_f (by omega)]; simp [cmpB, h8])))) (by first | rfl | (rw [setsOp_t (by omega)]; done) | (rw [setsT_ge (by assumption)]; done) | (by_cases h8 : t.op = 8; (rw [setsOp_t (by omega)]; simp [cmpB, h8]); (rw [setsOp_f (by omega)]; simp [cmpB, h8]))), .box (by first | rfl | (rw [setsOp_t (by omega)]; done) | (rw [setsT_ge (by assumption)]; done) | (by_cases h8 : t.op = 8; (rw [setsOp_t (by omega)]; simp [cmpB, h8]); (rw [setsOp_f (by omega)]; simp [cmpB, h8]))) (.box (by first | rfl | (rw [setsOp_t (by omega)]; done) | (rw [setsT_ge (by assumption)]; done) | (by_cases h8 : t.op = 8; (rw [setsOp_t (by omega)]; simp [cmpB, h8]); (rw [setsOp_f (by omega)]; simp [cmpB, h8]))) (.nil)), rfl⟩
          ·have h9 := c_eql_f g9
           refine k_op0 (d := 52) (b := 705) (j' := 30) rfl rfl rfl rfl (g_ff rfl rfl rfl g9) (T_fa D (m := 0) rfl rfl rfl rfl rfl rfl) rfl ?_
           refine k_op0 (d := 53) (b := 721) (j' := 31) rfl rfl rfl rfl (g_ff rfl rfl rfl g9) (T_load_b D rfl rfl rfl rfl rfl rfl) rfl ?_
           refine k_op0 (d := 54) (b := 737) (j' := 32) rfl rfl rfl rfl (g_ff rfl rfl rfl g9) (T_cmp rfl rfl rfl rfl) rfl ?_
           refine q0 55 753 33 rfl rfl (T_pick_f rfl rfl rfl g9) rfl ?_
           refine k_done rfl ?_
           refine thenK_n ?_
           refine ⟨(), by (try dsimp only); omega, ?_⟩
           exact ⟨[(1, 1), (2, 209)], .eq rfl (.eq rfl (.eq rfl (.same rfl rfl (.same rfl rfl (.eq rfl (.nil) (by first | rfl | (rw [setsOp_t (by omega)]; done) | (rw [setsT_ge (by assumption)]; done) | (by_cases h8 : t.op = 8; (rw [setsOp_t (by omega)]; simp [cmpB, h8]); (rw [setsOp_f (by omega)]; simp [cmpB, h8])))))) (by first | rfl | (rw [setsOp_t (by omega)]; done) | (rw [setsT_ge (by assumption)]; done) | (by_cases h8 : t.op = 8; (rw [setsOp_t (by omega)]; simp [cmpB, h8]); (rw [setsOp_f (by omega)]; simp [cmpB, h8])))) (by first | rfl | (rw [setsOp_t (by omega)]; done) | (rw [setsT_ge (by assumption)]; done) | (by_cases h8 : t.op = 8; (rw [setsOp_t (by omega)]; simp [cmpB, h8]); (rw [setsOp_f (by omega)]; simp [cmpB, h8])))) (by first | rfl | (rw [setsOp_t (by omega)]; done) | (rw [setsT_ge (by assumption)]; done) | (by_cases h8 : t.op = 8; (rw [setsOp_t (by omega)]; simp [cmpB, h8]); (rw [setsOp_f (by omega)]; simp [cmpB, h8]))), .box (by first | rfl | (rw [setsOp_t (by omega)]; done) | (rw [setsT_ge (by assumption)]; done) | (by_cases h8 : t.op = 8; (rw [setsOp_t (by omega)]; simp [cmpB, h8]); (rw [setsOp_f (by omega)]; simp [cmpB, h8]))) (.box (by first | rfl | (rw [setsOp_t (by omega)]; done) | (rw [setsT_ge (by assumption)]; done) | (by_cases h8 : t.op = 8; (rw [setsOp_t (by omega)]; simp [cmpB, h8]); (rw [setsOp_f (by omega)]; simp [cmpB, h8]))) (.nil)), rfl⟩
    refine W_cond rfl (fun g10 => ?_) (fun g10 => ?_)
    ·have h10 := g10; (try simp only [cmpB, decide_eq_true_eq, decide_eq_false_iff_not, beq_iff_eq, beq_eq_false_iff_ne, bne_iff_ne, ne_eq, bne_eq_false_iff_eq, Bool.not_eq_true', Bool.not_eq_false', Int.not_lt, Int.not_le] at h10)
     refine W_seq ?_
     refine W_seqK (b' := 67) rfl rfl ?_
     refine q0 56 3 1 rfl rfl (T_fa D (m := 1) rfl rfl rfl rfl rfl rfl) rfl ?_
     refine q0 57 19 2 rfl rfl (T_load_b D rfl rfl rfl rfl rfl rfl) rfl ?_
     refine q0 58 35 3 rfl rfl (T_fa D (m := 1) rfl rfl rfl rfl rfl rfl) rfl ?_
     refine s1 51 4 rfl rfl (T_stB D (cs' := [_, _, _, _, _, _, _, _]) rfl rfl rfl rfl (flat_v rfl) rfl rfl (Nat.le_of_ble_eq_true rfl) rfl) rfl ?_
     refine k_done rfl ?_
     refine thenK_n ?_
     refine W_seq ?_
     refine W_seqK (b' := 147) rfl rfl ?_
     refine q0 59 67 1 rfl rfl (T_fa D (m := 1) rfl rfl rfl rfl rfl rfl) rfl ?_
     refine q0 60 83 2 rfl rfl (T_load_b D rfl rfl rfl rfl rfl rfl) rfl ?_
     refine q0 61 99 3 rfl rfl (T_move rfl rfl) rfl ?_
     refine q0 62 115 4 rfl rfl (T_callV (lvs := [_, _]) (L := []) (within_spec _ _) body125 rfl rfl rfl rfl (.nil) rfl) rfl ?_
     refine q0 63 131 5 rfl rfl (T_not rfl rfl) rfl ?_
     refine k_done rfl ?_
     refine thenK_n ?_
     refine W_cond rfl (fun g11 => ?_) (fun g11 => ?_)
     ·have h11 := g11; (try simp only [cmpB, decide_eq_true_eq, decide_eq_false_iff_not, beq_iff_eq, beq_eq_false_iff_ne, bne_iff_ne, ne_eq, bne_eq_false_iff_eq, Bool.not_eq_true', Bool.not_eq_false', Int.not_lt, Int.not_le] at h11)
      refine W_seq ?_
      refine W_seqK (b' := 163) rfl rfl ?_
      refine q0 8 147 1 rfl rfl (T_assign rfl rfl) rfl ?_
      refine k_done rfl ?_
      refine thenK_n ?_
      refine W_ret ?_
      refine thenK_r ?_
      exact .mk [] (.inr rfl) (.tmp rfl (.nil)) (by first | rfl | (simp only [resLV, LV.ren, LV.v.injEq, Value.bool.injEq]; refine fits_no (fun hF => ?_); obtain ⟨a1, a2, a3, a4, a5, a6, a7, a8⟩ := hF; first | omega | (have k4 := a4 (by omega); omega) | (have k6 := a6 (by omega); omega) | exact absurd ((a2 (by assumption)).symm.trans (by assumption : _ = false)) (by decide) | exact absurd ((a5 (by omega)).symm.trans (by assumption : _ = false)) (by decide) | exact absurd ((a7 (by omega)).symm.trans (by assumption : _ = false)) (by decide) | exact absurd ((a3 _ (getD_mem (i := j) (by omega))).symm.trans (by assumption : _ = false)) (by decide)) | (simp only [resLV, LV.ren, LV.v.injEq, Value.bool.injEq]; exact fits_fin hj18 (fun _ => by omega) (fun _ => by first | assumption | (exfalso; omega)) (fun _ => by omega) (fun _ => by first | assumption | (exfalso; omega)) (by first | exact (if_pos (by omega)).symm | exact (if_neg (by omega)).symm) (by first | exact (if_pos (by omega)).symm | exact (if_neg (by omega)).symm) (by first | exact (if_pos (by omega)).symm | exact (if_neg (by omega)).symm) (by first | exact (if_pos (by omega)).symm | exact (if_neg (by omega)).symm))) (.nil) rfl
     ·have h11 := g11; (try simp only [cmpB, decide_eq_true_eq, decide_eq_false_iff_not, beq_iff_eq, beq_eq_false_iff_ne, bne_iff_ne, ne_eq, bne_eq_false_iff_eq, Bool.not_eq_true', Bool.not_eq_false', Int.not_lt, Int.not_le] at h11)
      refine W_skip ?_
      refine thenK_n ?_
      refine ⟨(), by (try dsimp only); exact ⟨hj5, fun hs => by first | assumption | exact absurd (hs.symm.trans (by assumption : _ = false)) (by decide)⟩, ?_⟩
      exact ⟨[(1, 1), (2, 2)], .eq rfl (.eq rfl (.eq rfl (.same rfl rfl (.same rfl rfl (.nil))) (by first | rfl | (rw [if_pos (by assumption)]; first | done | rfl) | (rw [if_neg (fun hs => absurd (hs.symm.trans (by assumption : _ = false)) (by decide))]; first | done | rfl))) (by first | rfl | (rw [if_pos (by assumption)]; first | done | rfl) | (rw [if_neg (fun hs => absurd (hs.symm.trans (by assumption : _ = false)) (by decide))]; first | done | rfl))) (by first | rfl | (rw [if_pos (by assumption)]; first | done | rfl) | (rw [if_neg (fun hs => absurd (hs.symm.trans (by assumption : _ = false)) (by decide))]; first | done | rfl)), .box (by first | rfl | (rw [if_pos (by assumption)]; first | done | rfl) | (rw [if_neg (fun hs => absurd (hs.symm.trans (by assumption : _ = false)) (by decide))]; first | done | rfl)) (.box (by first | rfl | (rw [if_pos (by assumption)]; first | done | rfl) | (rw [if_neg (fun hs => absurd (hs.symm.trans (by assumption : _ = false)) (by decide))]; first | done | rfl)) (.nil)), rfl⟩
    ·have h10 := g10; (try simp only [cmpB, decide_eq_true_eq, decide_eq_false_iff_not, beq_iff_eq, beq_eq_false_iff_ne, bne_iff_ne, ne_eq, bne_eq_false_iff_eq, Bool.not_eq_true', Bool.not_eq_false', Int.not_lt, Int.not_le] at h10)
     refine W_skip ?_
     refine thenK_n ?_
     refine ⟨(), by (try dsimp only); exact ⟨hj5, fun hs => by first | assumption | exact absurd (hs.symm.trans (by assumption : _ = false)) (by decide)⟩, ?_⟩
     exact ⟨[(1, 1), (2, 2)], .eq rfl (.eq rfl (.eq rfl (.same rfl rfl (.same rfl rfl (.nil))) (by first | rfl | (rw [if_pos (by assumption)]; first | done | rfl) | (rw [if_neg (fun hs => absurd (hs.symm.trans (by assumption : _ = false)) (by decide))]; first | done | rfl))) (by first | rfl | (rw [if_pos (by assumption)]; first | done | rfl) | (rw [if_neg (fun hs => absurd (hs.symm.trans (by assumption : _ = false)) (by decide))]; first | done | rfl))) (by first | rfl | (rw [if_pos (by assumption)]; first | done | rfl) | (rw [if_neg (fun hs => absurd (hs.symm.trans (by assumption : _ = false)) (by decide))]; first | done | rfl)), .box (by first | rfl | (rw [if_pos (by assumption)]; first | done | rfl) | (rw [if_neg (fun hs => absurd (hs.symm.trans (by assumption : _ = false)) (by decide))]; first | done | rfl)) (.box (by first | rfl | (rw [if_pos (by assumption)]; first | done | rfl) | (rw [if_neg (fun hs => absurd (hs.symm.trans (by assumption : _ = false)) (by decide))]; first | done | rfl)) (.nil)), rfl⟩
   refine W_seq ?_
   refine W_seqK (b' := 51) rfl rfl ?_
   refine q0 64 3 1 rfl rfl (T_load_bA D (l := [_, _, _, _, _, _, _, _]) rfl rfl rfl rfl rfl rfl rfl) rfl ?_
   refine q1 65 19 2 rfl rfl (T_callR (lvs := [_]) (L := []) (keep := false) (uses_spec _) body60 rfl rfl rfl rfl (.nil) rfl (.inl rfl) rfl) rfl ?_
   refine q0 10 35 3 rfl rfl (T_assign rfl rfl) rfl ?_
   refine k_done rfl ?_
   refine thenK_n ?_
   refine W_seq ?_
   refine W_seq ?_
   refine W_seqK (b' := 67) rfl rfl ?_
   refine q0 11 51 1 rfl rfl (T_assign rfl rfl) rfl ?_
   refine k_done rfl ?_
   refine thenK_n ?_
   refine W_block ?_
   refine W_loop (ι := Nat) 4 (fun j => ⟨[(1, .v (.int .i64 f)), (2, .v (.int .i64 regs)), (3, .v (.int .i64 words)), (4, .p 1 0), (9, .p 2 0), (10, .r 3), (11, .v (.int .i64 (j : Int)))], [(1, .box 70 [.v (.int .i64 t.op), .v (.int .i64 t.d), .v (.int .i64 t.a), .v (.int .i64 t.b), .v (.int .i64 t.k), .v (.int .i64 t.base), .v (.int .i64 t.size), .v (.int .u32 t.n)]), (2, .box 70 [.v (.int .i64 t.op), .v (.int .i64 (if setsOp t.op = true then t.d else 0)), .v (.int .i64 0), .v (.int .i64 0), .v (.int .i64 0), .v (.int .i64 0), .v (.int .i64 0), .v (.int .u32 0)]), (3, .row 3 1 ((usesT t).map eI))]⟩) (fun j => j ≤ (usesT t).length ∧ ∀ i, i < j → withinB ((usesT t).getD i default) regs = true) (fun j => (usesT t).length - j) (0) (by exact ⟨Nat.zero_le _, fun i h => absurd h (Nat.not_lt_zero _)⟩) ?_ (fun j hJ => ?_)
   ·exact ⟨[(1, 1), (2, 2), (3, 19)], .eq rfl (.eq rfl (.eq rfl (.same rfl rfl (.same rfl rfl (.same rfl rfl (.eq rfl (.nil) (by first | rfl | simp))))) (by first | rfl | simp)) (by first | rfl | simp)) (by first | rfl | simp), .box (by first | rfl | simp) (.box (by first | rfl | simp) (.rowE rfl (.nil) (by first | rfl | simp))), rfl⟩
   have hul := usesT_le t
   refine W_seq ?_
   refine W_seq ?_
   refine W_seqK (b' := 68) rfl rfl ?_
   refine q0 66 4 1 rfl rfl (T_move rfl rfl) rfl ?_
   refine q0 67 20 2 rfl rfl (T_move rfl rfl) rfl ?_
   refine q0 68 36 3 rfl rfl (T_len D rfl rfl rfl rfl rfl rfl) rfl ?_
   refine q0 69 52 4 rfl rfl (T_cmp rfl rfl rfl rfl) rfl ?_
   refine k_done rfl ?_
   refine thenK_n ?_
   refine W_cond rfl (fun g12 => ?_) (fun g12 => ?_)
   ·have h12 := c_lss_t g12
    refine W_skip ?_
    refine thenK_n ?_
    refine W_seq ?_
    refine W_block ?_
    refine W_seq ?_
    refine W_seqK (b' := 180) rfl rfl ?_
    refine q0 72 68 1 rfl rfl (T_move rfl rfl) rfl ?_
    refine q0 73 84 2 rfl rfl (T_move rfl rfl) rfl ?_
    first | refine q0 74 100 3 rfl rfl (T_indexAddr D rfl rfl rfl rfl rfl rfl rfl rfl (by first | assumption | omega | (simp; omega))) rfl ?_ | refine q0 74 100 3 rfl rfl (T_indexAddrZ D rfl rfl rfl rfl rfl rfl rfl rfl (by first | assumption | omega | (simp; omega)) (by first | assumption | omega | (simp; omega))) rfl ?_
    refine q0 75 116 4 rfl rfl (T_ldE D (lv := .v _) (nn := 0) (upd := []) rfl rfl rfl rfl rfl (by first | assumption | omega | (simp; omega)) rfl rfl rfl rfl) rfl ?_
    refine q0 76 132 5 rfl rfl (T_move rfl rfl) rfl ?_
    refine q0 77 148 6 rfl rfl (T_callV (lvs := [_, _]) (L := []) (within_spec _ _) body125 rfl rfl rfl rfl (.nil) rfl) rfl ?_
    refine q0 78 164 7 rfl rfl (T_not rfl rfl) rfl ?_
    refine k_done rfl ?_
    refine thenK_n ?_
    refine W_cond rfl (fun g13 => ?_) (fun g13 => ?_)
    ·have h13 := g13; (try simp only [cmpB, decide_eq_true_eq, decide_eq_false_iff_not, beq_iff_eq, beq_eq_false_iff_ne, bne_iff_ne, ne_eq, bne_eq_false_iff_eq, Bool.not_eq_true', Bool.not_eq_false', Int.not_lt, Int.not_le] at h13)
     refine W_seq ?_
     refine W_seqK (b' := 196) rfl rfl ?_
     refine q0 8 180 1 rfl rfl (T_assign rfl rfl) rfl ?_
     refine k_done rfl ?_
     refine thenK_n ?_
     refine W_ret ?_
     refine blockK_r ?_
     refine thenK_r ?_
     refine thenK_r ?_
     refine blockK_r ?_
     refine thenK_r ?_
     exact .mk [] (.inr rfl) (.tmp rfl (.nil)) (by first | rfl | (simp only [resLV, LV.ren, LV.v.injEq, Value.bool.injEq]; refine fits_no (fun hF => ?_); obtain ⟨a1, a2, a3, a4, a5, a6, a7, a8⟩ := hF; first | omega | (have k4 := a4 (by omega); omega) | (have k6 := a6 (by omega); omega) | exact absurd ((a2 (by assumption)).symm.trans (by assumption : _ = false)) (by decide) | exact absurd ((a5 (by omega)).symm.trans (by assumption : _ = false)) (by decide) | exact absurd ((a7 (by omega)).symm.trans (by assumption : _ = false)) (by decide) | exact absurd ((a3 _ (getD_mem (i := j) (by omega))).symm.trans (by assumption : _ = false)) (by decide)) | (simp only [resLV, LV.ren, LV.v.injEq, Value.bool.injEq]; exact fits_fin hj18 (fun _ => by omega) (fun _ => by first | assumption | (exfalso; omega)) (fun _ => by omega) (fun _ => by first | assumption | (exfalso; omega)) (by first | exact (if_pos (by omega)).symm | exact (if_neg (by omega)).symm) (by first | exact (if_pos (by omega)).symm | exact (if_neg (by omega)).symm) (by first | exact (if_pos (by omega)).symm | exact (if_neg (by omega)).symm) (by first | exact (if_pos (by omega)).symm | exact (if_neg (by omega)).symm))) (.nil) rfl
    ·have h13 := g13; (try simp only [cmpB, decide_eq_true_eq, decide_eq_false_iff_not, beq_iff_eq, beq_eq_false_iff_ne, bne_iff_ne, ne_eq, bne_eq_false_iff_eq, Bool.not_eq_true', Bool.not_eq_false', Int.not_lt, Int.not_le] at h13)
     refine W_skip ?_
     refine blockK_n ?_
     refine thenK_n ?_
     refine W_seqK (b' := 228) rfl rfl ?_
     refine q0 70 180 1 rfl rfl (T_move rfl rfl) rfl ?_
     refine q0 71 196 2 rfl rfl (T_add64 rfl rfl rfl (by first | assumption | omega | (simp; omega))) rfl ?_
     refine q0 11 212 3 rfl rfl (T_assign rfl rfl) rfl ?_
     refine k_done rfl ?_
     refine thenK_n ?_
     refine ⟨j + 1, by (try dsimp only); exact ⟨by omega, fun i hi => by rcases Nat.lt_or_ge i j with h | h; exact hJ.2 i h; rw [show i = j by omega]; assumption⟩, by (try dsimp only); omega, ?_⟩
     exact ⟨[(1, 1), (2, 2), (3, 3)], .eq rfl (.eq rfl (.eq rfl (.same rfl rfl (.same rfl rfl (.same rfl rfl (.eq rfl (.nil) (by first | rfl | simp))))) rfl) rfl) rfl, .box (by first | rfl | simp) (.box (by first | rfl | simp) (.rowE rfl (.nil) (by first | rfl | simp))), rfl⟩
   ·have h12 := c_lss_f g12
    refine W_exit ?_
    refine thenK_e ?_
    refine thenK_e ?_
    refine blockK_hit ?_
    refine thenK_n ?_
    refine W_join (ι := Unit) 4 (fun _u => ⟨[(1, .v (.int .i64 f)), (3, .v (.int .i64 words)), (4, .p 1 0), (9, .p 2 0), (10, .r 3)], [(1, .box 70 [.v (.int .i64 t.op), .v (.int .i64 t.d), .v (.int .i64 t.a), .v (.int .i64 t.b), .v (.int .i64 t.k), .v (.int .i64 t.base), .v (.int .i64 t.size), .v (.int .u32 t.n)]), (2, .box 70 [.v (.int .i64 t.op), .v (.int .i64 (if setsOp t.op = true then t.d else 0)), .v (.int .i64 (if 0 < (usesT t).length then t.a else 0)), .v (.int .i64 0), .v (.int .i64 0), .v (.int .i64 0), .v (.int .i64 0), .v (.int .u32 0)]), (3, .row 3 1 ((usesT t).map eI))]⟩) (fun _ => (1 ≤ t.op ∧ t.op ≤ 10) ∧ (setsOp t.op = true → withinB t.d regs = true) ∧ (∀ u ∈ usesT t, withinB u regs = true)) ?_ (fun _u hj16 => ?_)
    ·skip
     refine W_seq ?_
     refine W_seqK (b' := 116) rfl rfl ?_
     refine q0 79 68 1 rfl rfl (T_move rfl rfl) rfl ?_
     refine q0 80 84 2 rfl rfl (T_len D rfl rfl rfl rfl rfl rfl) rfl ?_
     refine q0 81 100 3 rfl rfl (T_cmp rfl rfl rfl rfl) rfl ?_
     refine k_done rfl ?_
     refine thenK_n ?_
     refine W_cond rfl (fun g14 => ?_) (fun g14 => ?_)
     ·have h14 := c_gtr_t g14
      refine W_seqK (b' := 180) rfl rfl ?_
      refine q0 82 116 1 rfl rfl (T_fa D (m := 2) rfl rfl rfl rfl rfl rfl) rfl ?_
      refine q0 83 132 2 rfl rfl (T_load_b D rfl rfl rfl rfl rfl rfl) rfl ?_
      refine q0 84 148 3 rfl rfl (T_fa D (m := 2) rfl rfl rfl rfl rfl rfl) rfl ?_
      refine s1 164 4 rfl rfl (T_stB D (cs' := [_, _, _, _, _, _, _, _]) rfl rfl rfl rfl (flat_v rfl) rfl rfl (Nat.le_of_ble_eq_true rfl) rfl) rfl ?_
      refine k_done rfl ?_
      refine thenK_n ?_
      refine ⟨(), by (try dsimp only); exact ⟨hj8.1, hj8.2, fun u hu => by obtain ⟨i, hi, rfl⟩ := mem_getD hu; exact hJ.2 i (by omega)⟩, ?_⟩
      exact ⟨[(1, 1), (2, 2), (3, 3)], .eq rfl (.eq rfl (.same rfl rfl (.same rfl rfl (.same rfl rfl (.nil)))) (by first | rfl | (rw [if_pos (show 0 < (usesT t).length by omega)]; first | done | rfl) | (rw [if_neg (show ¬ 0 < (usesT t).length by omega)]; first | done | rfl))) (by first | rfl | (rw [if_pos (show 0 < (usesT t).length by omega)]; first | done | rfl) | (rw [if_neg (show ¬ 0 < (usesT t).length by omega)]; first | done | rfl)), .box (by first | rfl | (rw [if_pos (show 0 < (usesT t).length by omega)]; first | done | rfl) | (rw [if_neg (show ¬ 0 < (usesT t).length by omega)]; first | done | rfl)) (.box (by first | rfl | (rw [if_pos (show 0 < (usesT t).length by omega)]; first | done | rfl) | (rw [if_neg (show ¬ 0 < (usesT t).length by omega)]; first | done | rfl)) (.rowE rfl (.nil) (by first | rfl | (rw [if_pos (show 0 < (usesT t).length by omega)]; first | done | rfl) | (rw [if_neg (show ¬ 0 < (usesT t).length by omega)]; first | done | rfl)))), rfl⟩
     ·have h14 := c_gtr_f g14
      refine W_skip ?_
      refine thenK_n ?_
      refine ⟨(), by (try dsimp only); exact ⟨hj8.1, hj8.2, fun u hu => by obtain ⟨i, hi, rfl⟩ := mem_getD hu; exact hJ.2 i (by omega)⟩, ?_⟩
      exact ⟨[(1, 1), (2, 2), (3, 3)], .eq rfl (.eq rfl (.same rfl rfl (.same rfl rfl (.same rfl rfl (.nil)))) (by first | rfl | (rw [if_pos (show 0 < (usesT t).length by omega)]; first | done | rfl) | (rw [if_neg (show ¬ 0 < (usesT t).length by omega)]; first | done | rfl))) (by first | rfl | (rw [if_pos (show 0 < (usesT t).length by omega)]; first | done | rfl) | (rw [if_neg (show ¬ 0 < (usesT t).length by omega)]; first | done | rfl)), .box (by first | rfl | (rw [if_pos (show 0 < (usesT t).length by omega)]; first | done | rfl) | (rw [if_neg (show ¬ 0 < (usesT t).length by omega)]; first | done | rfl)) (.box (by first | rfl | (rw [if_pos (show 0 < (usesT t).length by omega)]; first | done | rfl) | (rw [if_neg (show ¬ 0 < (usesT t).length by omega)]; first | done | rfl)) (.rowE rfl (.nil) (by first | rfl | (rw [if_pos (show 0 < (usesT t).length by omega)]; first | done | rfl) | (rw [if_neg (show ¬ 0 < (usesT t).length by omega)]; first | done | rfl)))), rfl⟩
    refine W_join (ι := Unit) 3 (fun _u => ⟨[(1, .v (.int .i64 f)), (3, .v (.int .i64 words)), (4, .p 1 0), (9, .p 2 0)], [(1, .box 70 [.v (.int .i64 t.op), .v (.int .i64 t.d), .v (.int .i64 t.a), .v (.int .i64 t.b), .v (.int .i64 t.k), .v (.int .i64 t.base), .v (.int .i64 t.size), .v (.int .u32 t.n)]), (2, .box 70 [.v (.int .i64 t.op), .v (.int .i64 (if setsOp t.op = true then t.d else 0)), .v (.int .i64 (if 0 < (usesT t).length then t.a else 0)), .v (.int .i64 (if 1 < (usesT t).length then t.b else 0)), .v (.int .i64 0), .v (.int .i64 0), .v (.int .i64 0), .v (.int .u32 0)])]⟩) (fun _ => (1 ≤ t.op ∧ t.op ≤ 10) ∧ (setsOp t.op = true → withinB t.d regs = true) ∧ (∀ u ∈ usesT t, withinB u regs = true)) ?_ (fun _u hj18 => ?_)
    ·skip
     refine W_seq ?_
     refine W_seqK (b' := 52) rfl rfl ?_
     refine q0 85 4 1 rfl rfl (T_move rfl rfl) rfl ?_
     refine q0 86 20 2 rfl rfl (T_len D rfl rfl rfl rfl rfl rfl) rfl ?_
     refine q0 87 36 3 rfl rfl (T_cmp rfl rfl rfl rfl) rfl ?_
     refine k_done rfl ?_
     refine thenK_n ?_
     refine W_cond rfl (fun g15 => ?_) (fun g15 => ?_)
     ·have h15 := c_gtr_t g15
      refine W_seqK (b' := 116) rfl rfl ?_
      refine q0 88 52 1 rfl rfl (T_fa D (m := 3) rfl rfl rfl rfl rfl rfl) rfl ?_
      refine q0 89 68 2 rfl rfl (T_load_b D rfl rfl rfl rfl rfl rfl) rfl ?_
      refine q0 90 84 3 rfl rfl (T_fa D (m := 3) rfl rfl rfl rfl rfl rfl) rfl ?_
      refine s1 100 4 rfl rfl (T_stB D (cs' := [_, _, _, _, _, _, _, _]) rfl rfl rfl rfl (flat_v rfl) rfl rfl (Nat.le_of_ble_eq_true rfl) rfl) rfl ?_
      refine k_done rfl ?_
      refine thenK_n ?_
      refine ⟨(), by (try dsimp only); exact hj16, ?_⟩
      exact ⟨[(1, 1), (2, 2)], .eq rfl (.eq rfl (.same rfl rfl (.same rfl rfl (.nil))) (by first | rfl | (rw [if_pos (show 1 < (usesT t).length by omega)]; first | done | rfl) | (rw [if_neg (show ¬ 1 < (usesT t).length by omega)]; first | done | rfl))) (by first | rfl | (rw [if_pos (show 1 < (usesT t).length by omega)]; first | done | rfl) | (rw [if_neg (show ¬ 1 < (usesT t).length by omega)]; first | done | rfl)), .box (by first | rfl | (rw [if_pos (show 1 < (usesT t).length by omega)]; first | done | rfl) | (rw [if_neg (show ¬ 1 < (usesT t).length by omega)]; first | done | rfl)) (.box (by first | rfl | (rw [if_pos (show 1 < (usesT t).length by omega)]; first | done | rfl) | (rw [if_neg (show ¬ 1 < (usesT t).length by omega)]; first | done | rfl)) (.nil)), rfl⟩
     ·have h15 := c_gtr_f g15
      refine W_skip ?_
      refine thenK_n ?_
      refine ⟨(), by (try dsimp only); exact hj16, ?_⟩
      exact ⟨[(1, 1), (2, 2)], .eq rfl (.eq rfl (.same rfl rfl (.same rfl rfl (.nil))) (by first | rfl | (rw [if_pos (show 1 < (usesT t).length by omega)]; first | done | rfl) | (rw [if_neg (show ¬ 1 < (usesT t).length by omega)]; first | done | rfl))) (by first | rfl | (rw [if_pos (show 1 < (usesT t).length by omega)]; first | done | rfl) | (rw [if_neg (show ¬ 1 < (usesT t).length by omega)]; first | done | rfl)), .box (by first | rfl | (rw [if_pos (show 1 < (usesT t).length by omega)]; first | done | rfl) | (rw [if_neg (show ¬ 1 < (usesT t).length by omega)]; first | done | rfl)) (.box (by first | rfl | (rw [if_pos (show 1 < (usesT t).length by omega)]; first | done | rfl) | (rw [if_neg (show ¬ 1 < (usesT t).length by omega)]; first | done | rfl)) (.nil)), rfl⟩
    refine W_seq ?_
    refine W_seq ?_
    refine W_seqK (b' := 35) rfl rfl ?_
    refine q0 91 3 1 rfl rfl (T_fa D (m := 0) rfl rfl rfl rfl rfl rfl) rfl ?_
    refine q0 92 19 2 rfl rfl (T_load_b D rfl rfl rfl rfl rfl rfl) rfl ?_
    refine k_done rfl ?_
    refine thenK_n ?_
    refine W_block ?_
    refine W_seq ?_
    refine W_seqK (b' := 67) rfl rfl ?_
    refine q0 94 35 1 rfl rfl (T_cmp rfl rfl rfl rfl) rfl ?_
    refine q0 93 51 2 rfl rfl (T_assign rfl rfl) rfl ?_
    refine k_done rfl ?_
    refine thenK_n ?_
    refine W_cond rfl (fun g16 => ?_) (fun g16 => ?_)
    ·have h16 := c_eql_t g16
     refine W_seqK (b' := 131) rfl rfl ?_
     refine q0 95 67 1 rfl rfl (T_fa D (m := 7) rfl rfl rfl rfl rfl rfl) rfl ?_
     refine q0 96 83 2 rfl rfl (T_load_b D rfl rfl rfl rfl rfl rfl) rfl ?_
     refine q0 97 99 3 rfl rfl (T_fa D (m := 7) rfl rfl rfl rfl rfl rfl) rfl ?_
     refine s1 115 4 rfl rfl (T_stB D (cs' := [_, _, _, _, _, _, _, _]) rfl rfl rfl rfl (flat_v rfl) rfl rfl (Nat.le_of_ble_eq_true rfl) rfl) rfl ?_
     refine k_done rfl ?_
     refine blockK_n ?_
     refine thenK_n ?_
     refine W_seq ?_
     refine W_seqK (b' := 195) rfl rfl ?_
     refine q0 163 131 1 rfl rfl (T_load_bA D (l := [_, _, _, _, _, _, _, _]) rfl rfl rfl rfl rfl rfl rfl) rfl ?_
     refine q0 164 147 2 rfl rfl (T_load_bA D (l := [_, _, _, _, _, _, _, _]) rfl rfl rfl rfl rfl rfl rfl) rfl ?_
     refine q0 165 163 3 rfl rfl (T_eqTac8 t rfl rfl rfl) rfl ?_
     refine q0 8 179 4 rfl rfl (T_assign rfl rfl) rfl ?_
     refine k_done rfl ?_
     refine thenK_n ?_
     refine W_ret ?_
     exact .mk [] (.inr rfl) (.tmp rfl (.nil)) (by first | rfl | (simp only [resLV, LV.ren, LV.v.injEq, Value.bool.injEq]; refine fits_no (fun hF => ?_); obtain ⟨a1, a2, a3, a4, a5, a6, a7, a8⟩ := hF; first | omega | (have k4 := a4 (by omega); omega) | (have k6 := a6 (by omega); omega) | exact absurd ((a2 (by assumption)).symm.trans (by assumption : _ = false)) (by decide) | exact absurd ((a5 (by omega)).symm.trans (by assumption : _ = false)) (by decide) | exact absurd ((a7 (by omega)).symm.trans (by assumption : _ = false)) (by decide) | exact absurd ((a3 _ (getD_mem (i := j) (by omega))).symm.trans (by assumption : _ = false)) (by decide)) | (simp only [resLV, LV.ren, LV.v.injEq, Value.bool.injEq]; exact fits_fin hj18 (fun _ => by omega) (fun _ => by first | assumption | (exfalso; omega)) (fun _ => by omega) (fun _ => by first | assumption | (exfalso; omega)) (by first | exact (if_pos (by omega)).symm | exact (if_neg (by omega)).symm) (by first | exact (if_pos (by omega)).symm | exact (if_neg (by omega)).symm) (by first | exact (if_pos (by omega)).symm | exact (if_neg (by omega)).symm) (by first | exact (if_pos (by omega)).symm | exact (if_neg (by omega)).symm))) (.nil) rfl
    ·have h16 := c_eql_f g16
     refine W_seq ?_
     refine W_seqK (b' := 99) rfl rfl ?_
     refine q0 99 67 1 rfl rfl (T_cmp rfl rfl rfl rfl) rfl ?_
     refine q0 98 83 2 rfl rfl (T_assign rfl rfl) rfl ?_
     refine k_done rfl ?_
     refine thenK_n ?_
     refine W_cond rfl (fun g17 => ?_) (fun g17 => ?_)
     ·have h17 := c_eql_t g17
      refine W_seq ?_
      refine W_seqK (b' := 163) rfl rfl ?_
      refine q0 100 99 1 rfl rfl (T_fa D (m := 4) rfl rfl rfl rfl rfl rfl) rfl ?_
      refine q0 101 115 2 rfl rfl (T_load_b D rfl rfl rfl rfl rfl rfl) rfl ?_
      refine q0 102 131 3 rfl rfl (T_fa D (m := 4) rfl rfl rfl rfl rfl rfl) rfl ?_
      refine s1 147 4 rfl rfl (T_stB D (cs' := [_, _, _, _, _, _, _, _]) rfl rfl rfl rfl (flat_v rfl) rfl rfl (Nat.le_of_ble_eq_true rfl) rfl) rfl ?_
      refine k_done rfl ?_
      refine thenK_n ?_
      refine W_seq ?_
      refine W_seqK (b' := 291) rfl rfl ?_
      refine q0 103 163 1 rfl rfl (T_fa D (m := 4) rfl rfl rfl rfl rfl rfl) rfl ?_
      refine q0 104 179 2 rfl rfl (T_load_b D rfl rfl rfl rfl rfl rfl) rfl ?_
      refine q0 105 195 3 rfl rfl (T_cmp rfl rfl rfl rfl) rfl ?_
      refine q0 106 211 4 rfl rfl (T_move rfl rfl) rfl ?_
      refine k_split (d := 106) rfl (fun g18 => ?_) (fun g18 => ?_)
      ·have h18 := c_lss_t g18
       refine k_no (d := 107) (j' := 5) rfl rfl rfl (g_ft rfl rfl rfl g18) ?_
       refine k_no (d := 108) (j' := 6) rfl rfl rfl (g_ft rfl rfl rfl g18) ?_
       refine k_no (d := 109) (j' := 7) rfl rfl rfl (g_ft rfl rfl rfl g18) ?_
       refine q0 110 275 8 rfl rfl (T_pick_t rfl rfl rfl g18) rfl ?_
       refine k_done rfl ?_
       refine thenK_n ?_
       refine W_cond rfl (fun g19 => ?_) (fun g19 => ?_)
       ·skip
        refine W_seq ?_
        refine W_seqK (b' := 307) rfl rfl ?_
        refine q0 8 291 1 rfl rfl (T_assign rfl rfl) rfl ?_
        refine k_done rfl ?_
        refine thenK_n ?_
        refine W_ret ?_
        refine blockK_r ?_
        refine thenK_r ?_
        exact .mk [] (.inr rfl) (.tmp rfl (.nil)) (by first | rfl | (simp only [resLV, LV.ren, LV.v.injEq, Value.bool.injEq]; refine fits_no (fun hF => ?_); obtain ⟨a1, a2, a3, a4, a5, a6, a7, a8⟩ := hF; first | omega | (have k4 := a4 (by omega); omega) | (have k6 := a6 (by omega); omega) | exact absurd ((a2 (by assumption)).symm.trans (by assumption : _ = false)) (by decide) | exact absurd ((a5 (by omega)).symm.trans (by assumption : _ = false)) (by decide) | exact absurd ((a7 (by omega)).symm.trans (by assumption : _ = false)) (by decide) | exact absurd ((a3 _ (getD_mem (i := j) (by omega))).symm.trans (by assumption : _ = false)) (by decide)) | (simp only [resLV, LV.ren, LV.v.injEq, Value.bool.injEq]; exact fits_fin hj18 (fun _ => by omega) (fun _ => by first | assumption | (exfalso; omega)) (fun _ => by omega) (fun _ => by first | assumption | (exfalso; omega)) (by first | exact (if_pos (by omega)).symm | exact (if_neg (by omega)).symm) (by first | exact (if_pos (by omega)).symm | exact (if_neg (by omega)).symm) (by first | exact (if_pos (by omega)).symm | exact (if_neg (by omega)).symm) (by first | exact (if_pos (by omega)).symm | exact (if_neg (by omega)).symm))) (.nil) rfl
       ·exact absurd (g19.symm.trans rfl) (by decide)
      ·have h18 := c_lss_f g18
       refine k_op0 (d := 107) (b := 227) (j' := 5) rfl rfl rfl rfl (g_ff rfl rfl rfl g18) (T_fa D (m := 4) rfl rfl rfl rfl rfl rfl) rfl ?_
       refine k_op0 (d := 108) (b := 243) (j' := 6) rfl rfl rfl rfl (g_ff rfl rfl rfl g18) (T_load_b D rfl rfl rfl rfl rfl rfl) rfl ?_
       refine k_op0 (d := 109) (b := 259) (j' := 7) rfl rfl rfl rfl (g_ff rfl rfl rfl g18) (T_cmp rfl rfl rfl rfl) rfl ?_
       refine q0 110 275 8 rfl rfl (T_pick_f rfl rfl rfl g18) rfl ?_
       refine k_done rfl ?_
       refine thenK_n ?_
       refine W_cond rfl (fun g20 => ?_) (fun g20 => ?_)
       ·have h20 := c_gtr_t g20
        refine W_seq ?_
        refine W_seqK (b' := 307) rfl rfl ?_
        refine q0 8 291 1 rfl rfl (T_assign rfl rfl) rfl ?_
        refine k_done rfl ?_
        refine thenK_n ?_
        refine W_ret ?_
        refine blockK_r ?_
        refine thenK_r ?_
        exact .mk [] (.inr rfl) (.tmp rfl (.nil)) (by first | rfl | (simp only [resLV, LV.ren, LV.v.injEq, Value.bool.injEq]; refine fits_no (fun hF => ?_); obtain ⟨a1, a2, a3, a4, a5, a6, a7, a8⟩ := hF; first | omega | (have k4 := a4 (by omega); omega) | (have k6 := a6 (by omega); omega) | exact absurd ((a2 (by assumption)).symm.trans (by assumption : _ = false)) (by decide) | exact absurd ((a5 (by omega)).symm.trans (by assumption : _ = false)) (by decide) | exact absurd ((a7 (by omega)).symm.trans (by assumption : _ = false)) (by decide) | exact absurd ((a3 _ (getD_mem (i := j) (by omega))).symm.trans (by assumption : _ = false)) (by decide)) | (simp only [resLV, LV.ren, LV.v.injEq, Value.bool.injEq]; exact fits_fin hj18 (fun _ => by omega) (fun _ => by first | assumption | (exfalso; omega)) (fun _ => by omega) (fun _ => by first | assumption | (exfalso; omega)) (by first | exact (if_pos (by omega)).symm | exact (if_neg (by omega)).symm) (by first | exact (if_pos (by omega)).symm | exact (if_neg (by omega)).symm) (by first | exact (if_pos (by omega)).symm | exact (if_neg (by omega)).symm) (by first | exact (if_pos (by omega)).symm | exact (if_neg (by omega)).symm))) (.nil) rfl
       ·have h20 := c_gtr_f g20
        refine W_skip ?_
        refine blockK_n ?_
        refine thenK_n ?_
        refine W_seq ?_
        refine W_seqK (b' := 355) rfl rfl ?_
        refine q0 163 291 1 rfl rfl (T_load_bA D (l := [_, _, _, _, _, _, _, _]) rfl rfl rfl rfl rfl rfl rfl) rfl ?_
        refine q0 164 307 2 rfl rfl (T_load_bA D (l := [_, _, _, _, _, _, _, _]) rfl rfl rfl rfl rfl rfl rfl) rfl ?_
        refine q0 165 323 3 rfl rfl (T_eqTac8 t rfl rfl rfl) rfl ?_
        refine q0 8 339 4 rfl rfl (T_assign rfl rfl) rfl ?_
        refine k_done rfl ?_
        refine thenK_n ?_
        refine W_ret ?_
        exact .mk [] (.inr rfl) (.tmp rfl (.nil)) (by first | rfl | (simp only [resLV, LV.ren, LV.v.injEq, Value.bool.injEq]; refine fits_no (fun hF => ?_); obtain ⟨a1, a2, a3, a4, a5, a6, a7, a8⟩ := hF; first | omega | (have k4 := a4 (by omega); omega) | (have k6 := a6 (by omega); omega) | exact absurd ((a2 (by assumption)).symm.trans (by assumption : _ = false)) (by decide) | exact absurd ((a5 (by omega)).symm.trans (by assumption : _ = false)) (by decide) | exact absurd ((a7 (by omega)).symm.trans (by assumption : _ = false)) (by decide) | exact absurd ((a3 _ (getD_mem (i := j) (by omega))).symm.trans (by assumption : _ = false)) (by decide)) | (simp only [resLV, LV.ren, LV.v.injEq, Value.bool.injEq]; exact fits_fin hj18 (fun _ => by omega) (fun _ => by first | assumption | (exfalso; omega)) (fun _ => by omega) (fun _ => by first | assumption | (exfalso; omega)) (by first | exact (if_pos (by omega)).symm | exact (if_neg (by omega)).symm) (by first | exact (if_pos (by omega)).symm | exact (if_neg (by omega)).symm) (by first | exact (if_pos (by omega)).symm | exact (if_neg (by omega)).symm) (by first | exact (if_pos (by omega)).symm | exact (if_neg (by omega)).symm))) (.nil) rfl
     ·have h17 := c_eql_f g17
      refine W_seq ?_
      refine W_seq ?_
      refine W_seqK (b' := 131) rfl rfl ?_
      refine q0 112 99 1 rfl rfl (T_cmp rfl rfl rfl rfl) rfl ?_
      refine q0 111 115 2 rfl rfl (T_assign rfl rfl) rfl ?_
      refine k_done rfl ?_
      refine thenK_n ?_
      refine W_cond rfl (fun g21 => ?_) (fun g21 => ?_)
      ·have h21 := c_eql_t g21
       refine W_skip ?_
       refine thenK_n ?_
       refine W_cond rfl (fun g22 => ?_) (fun g22 => ?_)
       ·skip
        refine W_seq ?_
        refine W_seqK (b' := 195) rfl rfl ?_
        refine q0 114 131 1 rfl rfl (T_fa D (m := 5) rfl rfl rfl rfl rfl rfl) rfl ?_
        refine q0 115 147 2 rfl rfl (T_load_b D rfl rfl rfl rfl rfl rfl) rfl ?_
        refine q0 116 163 3 rfl rfl (T_fa D (m := 5) rfl rfl rfl rfl rfl rfl) rfl ?_
        refine s1 179 4 rfl rfl (T_stB D (cs' := [_, _, _, _, _, _, _, _]) rfl rfl rfl rfl (flat_v rfl) rfl rfl (Nat.le_of_ble_eq_true rfl) rfl) rfl ?_
        refine k_done rfl ?_
        refine thenK_n ?_
        refine W_seq ?_
        refine W_seqK (b' := 275) rfl rfl ?_
        refine q0 117 195 1 rfl rfl (T_fa D (m := 5) rfl rfl rfl rfl rfl rfl) rfl ?_
        refine q0 118 211 2 rfl rfl (T_load_b D rfl rfl rfl rfl rfl rfl) rfl ?_
        refine q0 119 227 3 rfl rfl (T_move rfl rfl) rfl ?_
        refine q0 120 243 4 rfl rfl (T_callV (lvs := [_, _]) (L := []) (within_spec _ _) body125 rfl rfl rfl rfl (.nil) rfl) rfl ?_
        refine q0 121 259 5 rfl rfl (T_not rfl rfl) rfl ?_
        refine k_done rfl ?_
        refine thenK_n ?_
        refine W_cond rfl (fun g23 => ?_) (fun g23 => ?_)
        ·have h23 := g23; (try simp only [cmpB, decide_eq_true_eq, decide_eq_false_iff_not, beq_iff_eq, beq_eq_false_iff_ne, bne_iff_ne, ne_eq, bne_eq_false_iff_eq, Bool.not_eq_true', Bool.not_eq_false', Int.not_lt, Int.not_le] at h23)
         refine W_seq ?_
         refine W_seqK (b' := 291) rfl rfl ?_
         refine q0 8 275 1 rfl rfl (T_assign rfl rfl) rfl ?_
         refine k_done rfl ?_
         refine thenK_n ?_
         refine W_ret ?_
         refine blockK_r ?_
         refine thenK_r ?_
         exact .mk [] (.inr rfl) (.tmp rfl (.nil)) (by first | rfl | (simp only [resLV, LV.ren, LV.v.injEq, Value.bool.injEq]; refine fits_no (fun hF => ?_); obtain ⟨a1, a2, a3, a4, a5, a6, a7, a8⟩ := hF; first | omega | (have k4 := a4 (by omega); omega) | (have k6 := a6 (by omega); omega) | exact absurd ((a2 (by assumption)).symm.trans (by assumption : _ = false)) (by decide) | exact absurd ((a5 (by omega)).symm.trans (by assumption : _ = false)) (by decide) | exact absurd ((a7 (by omega)).symm.trans (by assumption : _ = false)) (by decide) | exact absurd ((a3 _ (getD_mem (i := j) (by omega))).symm.trans (by assumption : _ = false)) (by decide)) | (simp only [resLV, LV.ren, LV.v.injEq, Value.bool.injEq]; exact fits_fin hj18 (fun _ => by omega) (fun _ => by first | assumption | (exfalso; omega)) (fun _ => by omega) (fun _ => by first | assumption | (exfalso; omega)) (by first | exact (if_pos (by omega)).symm | exact (if_neg (by omega)).symm) (by first | exact (if_pos (by omega)).symm | exact (if_neg (by omega)).symm) (by first | exact (if_pos (by omega)).symm | exact (if_neg (by omega)).symm) (by first | exact (if_pos (by omega)).symm | exact (if_neg (by omega)).symm))) (.nil) rfl
        ·have h23 := g23; (try simp only [cmpB, decide_eq_true_eq, decide_eq_false_iff_not, beq_iff_eq, beq_eq_false_iff_ne, bne_iff_ne, ne_eq, bne_eq_false_iff_eq, Bool.not_eq_true', Bool.not_eq_false', Int.not_lt, Int.not_le] at h23)
         refine W_skip ?_
         refine blockK_n ?_
         refine thenK_n ?_
         refine W_seq ?_
         refine W_seqK (b' := 339) rfl rfl ?_
         refine q0 163 275 1 rfl rfl (T_load_bA D (l := [_, _, _, _, _, _, _, _]) rfl rfl rfl rfl rfl rfl rfl) rfl ?_
         refine q0 164 291 2 rfl rfl (T_load_bA D (l := [_, _, _, _, _, _, _, _]) rfl rfl rfl rfl rfl rfl rfl) rfl ?_
         refine q0 165 307 3 rfl rfl (T_eqTac8 t rfl rfl rfl) rfl ?_
         refine q0 8 323 4 rfl rfl (T_assign rfl rfl) rfl ?_
         refine k_done rfl ?_
         refine thenK_n ?_
         refine W_ret ?_
         exact .mk [] (.inr rfl) (.tmp rfl (.nil)) (by first | rfl | (simp only [resLV, LV.ren, LV.v.injEq, Value.bool.injEq]; refine fits_no (fun hF => ?_); obtain ⟨a1, a2, a3, a4, a5, a6, a7, a8⟩ := hF; first | omega | (have k4 := a4 (by omega); omega) | (have k6 := a6 (by omega); omega) | exact absurd ((a2 (by assumption)).symm.trans (by assumption : _ = false)) (by decide) | exact absurd ((a5 (by omega)).symm.trans (by assumption : _ = false)) (by decide) | exact absurd ((a7 (by omega)).symm.trans (by assumption : _ = false)) (by decide) | exact absurd ((a3 _ (getD_mem (i := j) (by omega))).symm.trans (by assumption : _ = false)) (by decide)) | (simp only [resLV, LV.ren, LV.v.injEq, Value.bool.injEq]; exact fits_fin hj18 (fun _ => by omega) (fun _ => by first | assumption | (exfalso; omega)) (fun _ => by omega) (fun _ => by first | assumption | (exfalso; omega)) (by first | exact (if_pos (by omega)).symm | exact (if_neg (by omega)).symm) (by first | exact (if_pos (by omega)).symm | exact (if_neg (by omega)).symm) (by first | exact (if_pos (by omega)).symm | exact (if_neg (by omega)).symm) (by first | exact (if_pos (by omega)).symm | exact (if_neg (by omega)).symm))) (.nil) rfl
       ·exact absurd (g22.symm.trans g21) (by decide)
      ·have h21 := c_eql_f g21
       refine W_seqK (b' := 163) rfl rfl ?_
       refine q0 113 131 1 rfl rfl (T_cmp rfl rfl rfl rfl) rfl ?_
       refine q0 111 147 2 rfl rfl (T_assign rfl rfl) rfl ?_
       refine k_done rfl ?_
       refine thenK_n ?_
       refine W_cond rfl (fun g24 => ?_) (fun g24 => ?_)
       ·have h24 := c_eql_t g24
        refine W_seq ?_
        refine W_seqK (b' := 227) rfl rfl ?_
        refine q0 114 163 1 rfl rfl (T_fa D (m := 5) rfl rfl rfl rfl rfl rfl) rfl ?_
        refine q0 115 179 2 rfl rfl (T_load_b D rfl rfl rfl rfl rfl rfl) rfl ?_
        refine q0 116 195 3 rfl rfl (T_fa D (m := 5) rfl rfl rfl rfl rfl rfl) rfl ?_
        refine s1 211 4 rfl rfl (T_stB D (cs' := [_, _, _, _, _, _, _, _]) rfl rfl rfl rfl (flat_v rfl) rfl rfl (Nat.le_of_ble_eq_true rfl) rfl) rfl ?_
        refine k_done rfl ?_
        refine thenK_n ?_
        refine W_seq ?_
        refine W_seqK (b' := 307) rfl rfl ?_
        refine q0 117 227 1 rfl rfl (T_fa D (m := 5) rfl rfl rfl rfl rfl rfl) rfl ?_
        refine q0 118 243 2 rfl rfl (T_load_b D rfl rfl rfl rfl rfl rfl) rfl ?_
        refine q0 119 259 3 rfl rfl (T_move rfl rfl) rfl ?_
        refine q0 120 275 4 rfl rfl (T_callV (lvs := [_, _]) (L := []) (within_spec _ _) body125 rfl rfl rfl rfl (.nil) rfl) rfl ?_
        refine q0 121 291 5 rfl rfl (T_not rfl rfl) rfl ?_
        refine k_done rfl ?_
        refine thenK_n ?_
        refine W_cond rfl (fun g25 => ?_) (fun g25 => ?_)
        ·have h25 := g25; (try simp only [cmpB, decide_eq_true_eq, decide_eq_false_iff_not, beq_iff_eq, beq_eq_false_iff_ne, bne_iff_ne, ne_eq, bne_eq_false_iff_eq, Bool.not_eq_true', Bool.not_eq_false', Int.not_lt, Int.not_le] at h25)
         refine W_seq ?_
         refine W_seqK (b' := 323) rfl rfl ?_
         refine q0 8 307 1 rfl rfl (T_assign rfl rfl) rfl ?_
         refine k_done rfl ?_
         refine thenK_n ?_
         refine W_ret ?_
         refine blockK_r ?_
         refine thenK_r ?_
         exact .mk [] (.inr rfl) (.tmp rfl (.nil)) (by first | rfl | (simp only [resLV, LV.ren, LV.v.injEq, Value.bool.injEq]; refine fits_no (fun hF => ?_); obtain ⟨a1, a2, a3, a4, a5, a6, a7, a8⟩ := hF; first | omega | (have k4 := a4 (by omega); omega) | (have k6 := a6 (by omega); omega) | exact absurd ((a2 (by assumption)).symm.trans (by assumption : _ = false)) (by decide) | exact absurd ((a5 (by omega)).symm.trans (by assumption : _ = false)) (by decide) | exact absurd ((a7 (by omega)).symm.trans (by assumption : _ = false)) (by decide) | exact absurd ((a3 _ (getD_mem (i := j) (by omega))).symm.trans (by assumption : _ = false)) (by decide)) | (simp only [resLV, LV.ren, LV.v.injEq, Value.bool.injEq]; exact fits_fin hj18 (fun _ => by omega) (fun _ => by first | assumption | (exfalso; omega)) (fun _ => by omega) (fun _ => by first | assumption | (exfalso; omega)) (by first | exact (if_pos (by omega)).symm | exact (if_neg (by omega)).symm) (by first | exact (if_pos (by omega)).symm | exact (if_neg (by omega)).symm) (by first | exact (if_pos (by omega)).symm | exact (if_neg (by omega)).symm) (by first | exact (if_pos (by omega)).symm | exact (if_neg (by omega)).symm))) (.nil) rfl
        ·have h25 := g25; (try simp only [cmpB, decide_eq_true_eq, decide_eq_false_iff_not, beq_iff_eq, beq_eq_false_iff_ne, bne_iff_ne, ne_eq, bne_eq_false_iff_eq, Bool.not_eq_true', Bool.not_eq_false', Int.not_lt, Int.not_le] at h25)
         refine W_skip ?_
         refine blockK_n ?_
         refine thenK_n ?_
         refine W_seq ?_
         refine W_seqK (b' := 371) rfl rfl ?_
         refine q0 163 307 1 rfl rfl (T_load_bA D (l := [_, _, _, _, _, _, _, _]) rfl rfl rfl rfl rfl rfl rfl) rfl ?_
         refine q0 164 323 2 rfl rfl (T_load_bA D (l := [_, _, _, _, _, _, _, _]) rfl rfl rfl rfl rfl rfl rfl) rfl ?_
         refine q0 165 339 3 rfl rfl (T_eqTac8 t rfl rfl rfl) rfl ?_
         refine q0 8 355 4 rfl rfl (T_assign rfl rfl) rfl ?_
         refine k_done rfl ?_
         refine thenK_n ?_
         refine W_ret ?_
         exact .mk [] (.inr rfl) (.tmp rfl (.nil)) (by first | rfl | (simp only [resLV, LV.ren, LV.v.injEq, Value.bool.injEq]; refine fits_no (fun hF => ?_); obtain ⟨a1, a2, a3, a4, a5, a6, a7, a8⟩ := hF; first | omega | (have k4 := a4 (by omega); omega) | (have k6 := a6 (by omega); omega) | exact absurd ((a2 (by assumption)).symm.trans (by assumption : _ = false)) (by decide) | exact absurd ((a5 (by omega)).symm.trans (by assumption : _ = false)) (by decide) | exact absurd ((a7 (by omega)).symm.trans (by assumption : _ = false)) (by decide) | exact absurd ((a3 _ (getD_mem (i := j) (by omega))).symm.trans (by assumption : _ = false)) (by decide)) | (simp only [resLV, LV.ren, LV.v.injEq, Value.bool.injEq]; exact fits_fin hj18 (fun _ => by omega) (fun _ => by first | assumption | (exfalso; omega)) (fun _ => by omega) (fun _ => by first | assumption | (exfalso; omega)) (by first | exact (if_pos (by omega)).symm | exact (if_neg (by omega)).symm) (by first | exact (if_pos (by omega)).symm | exact (if_neg (by omega)).symm) (by first | exact (if_pos (by omega)).symm | exact (if_neg (by omega)).symm) (by first | exact (if_pos (by omega)).symm | exact (if_neg (by omega)).symm))) (.nil) rfl
       ·have h24 := c_eql_f g24
        refine W_seq ?_
        refine W_seq ?_
        refine W_seqK (b' := 195) rfl rfl ?_
        refine q0 123 163 1 rfl rfl (T_cmp rfl rfl rfl rfl) rfl ?_
        refine q0 122 179 2 rfl rfl (T_assign rfl rfl) rfl ?_
        refine k_done rfl ?_
        refine thenK_n ?_
        refine W_cond rfl (fun g26 => ?_) (fun g26 => ?_)
        ·have h26 := c_eql_t g26
         refine W_skip ?_
         refine thenK_n ?_
         refine W_cond rfl (fun g27 => ?_) (fun g27 => ?_)
         ·skip
          refine W_seq ?_
          refine W_anyK (b' := 323) rfl rfl rfl ?_
          refine q0 125 195 1 rfl rfl (T_fa D (m := 5) rfl rfl rfl rfl rfl rfl) rfl ?_
          refine q0 126 211 2 rfl rfl (T_load_b D rfl rfl rfl rfl rfl rfl) rfl ?_
          refine q0 127 227 3 rfl rfl (T_fa D (m := 6) rfl rfl rfl rfl rfl rfl) rfl ?_
          refine q0 128 243 4 rfl rfl (T_load_b D rfl rfl rfl rfl rfl rfl) rfl ?_
          refine q0 129 259 5 rfl rfl (T_fa D (m := 5) rfl rfl rfl rfl rfl rfl) rfl ?_
          refine s1 275 6 rfl rfl (T_stB D (cs' := [_, _, _, _, _, _, _, _]) rfl rfl rfl rfl (flat_v rfl) rfl rfl (Nat.le_of_ble_eq_true rfl) rfl) rfl ?_
          refine q0 130 291 7 rfl rfl (T_fa D (m := 6) rfl rfl rfl rfl rfl rfl) rfl ?_
          refine s1 307 8 rfl rfl (T_stB D (cs' := [_, _, _, _, _, _, _, _]) rfl rfl rfl rfl (flat_v rfl) rfl rfl (Nat.le_of_ble_eq_true rfl) rfl) rfl ?_
          refine k_done rfl ?_
          refine ⟨rfl, ?_⟩
          refine thenK_n ?_
          refine W_seq ?_
          refine W_seqK (b' := 675) rfl rfl ?_
          refine q0 131 323 1 rfl rfl (T_fa D (m := 6) rfl rfl rfl rfl rfl rfl) rfl ?_
          refine q0 132 339 2 rfl rfl (T_load_b D rfl rfl rfl rfl rfl rfl) rfl ?_
          refine q0 133 355 3 rfl rfl (T_cmp rfl rfl rfl rfl) rfl ?_
          refine q0 134 371 4 rfl rfl (T_move rfl rfl) rfl ?_
          refine k_split (d := 134) rfl (fun g28 => ?_) (fun g28 => ?_)
          ·have h28 := c_lss_t g28
           refine k_no (d := 135) (j' := 5) rfl rfl rfl (g_ft rfl rfl rfl g28) ?_
           refine k_no (d := 136) (j' := 6) rfl rfl rfl (g_ft rfl rfl rfl g28) ?_
           refine k_no (d := 137) (j' := 7) rfl rfl rfl (g_ft rfl rfl rfl g28) ?_
           refine q0 138 435 8 rfl rfl (T_pick_t rfl rfl rfl g28) rfl ?_
           refine q0 139 451 9 rfl rfl (T_move rfl rfl) rfl ?_
           refine k_no (d := 140) (j' := 10) rfl rfl rfl (g_ft rfl rfl rfl rfl) ?_
           refine k_no (d := 141) (j' := 11) rfl rfl rfl (g_ft rfl rfl rfl rfl) ?_
           refine k_no (d := 142) (j' := 12) rfl rfl rfl (g_ft rfl rfl rfl rfl) ?_
           refine q0 143 515 13 rfl rfl (T_pick_t rfl rfl rfl rfl) rfl ?_
           refine q0 144 531 14 rfl rfl (T_move rfl rfl) rfl ?_
           refine k_no (d := 145) (j' := 15) rfl rfl rfl (g_ft rfl rfl rfl rfl) ?_
           refine k_no (d := 146) (j' := 16) rfl rfl rfl (g_ft rfl rfl rfl rfl) ?_
           refine k_no (d := 147) (j' := 17) rfl rfl rfl (g_ft rfl rfl rfl rfl) ?_
           refine k_no (d := 148) (j' := 18) rfl rfl rfl (g_ft rfl rfl rfl rfl) ?_
           refine k_no (d := 149) (j' := 19) rfl rfl rfl (g_ft rfl rfl rfl rfl) ?_
           refine k_no (d := 150) (j' := 20) rfl rfl rfl (g_ft rfl rfl rfl rfl) ?_
           refine k_no (d := 151) (j' := 21) rfl rfl rfl (g_ft rfl rfl rfl rfl) ?_
           refine q0 152 659 22 rfl rfl (T_pick_t rfl rfl rfl rfl) rfl ?_
           refine k_done rfl ?_
           refine thenK_n ?_
           refine W_cond rfl (fun g29 => ?_) (fun g29 => ?_)
           ·skip
            refine W_seq ?_
            refine W_seqK (b' := 691) rfl rfl ?_
            refine q0 8 675 1 rfl rfl (T_assign rfl rfl) rfl ?_
            refine k_done rfl ?_
            refine thenK_n ?_
            refine W_ret ?_
            refine blockK_r ?_
            refine thenK_r ?_
            exact .mk [] (.inr rfl) (.tmp rfl (.nil)) (by first | rfl | (simp only [resLV, LV.ren, LV.v.injEq, Value.bool.injEq]; refine fits_no (fun hF => ?_); obtain ⟨a1, a2, a3, a4, a5, a6, a7, a8⟩ := hF; first | omega | (have k4 := a4 (by omega); omega) | (have k6 := a6 (by omega); omega) | exact absurd ((a2 (by assumption)).symm.trans (by assumption : _ = false)) (by decide) | exact absurd ((a5 (by omega)).symm.trans (by assumption : _ = false)) (by decide) | exact absurd ((a7 (by omega)).symm.trans (by assumption : _ = false)) (by decide) | exact absurd ((a3 _ (getD_mem (i := j) (by omega))).symm.trans (by assumption : _ = false)) (by decide)) | (simp only [resLV, LV.ren, LV.v.injEq, Value.bool.injEq]; exact fits_fin hj18 (fun _ => by omega) (fun _ => by first | assumption | (exfalso; omega)) (fun _ => by omega) (fun _ => by first | assumption | (exfalso; omega)) (by first | exact (if_pos (by omega)).symm | exact (if_neg (by omega)).symm) (by first | exact (if_pos (by omega)).symm | exact (if_neg (by omega)).symm) (by first | exact (if_pos (by omega)).symm | exact (if_neg (by omega)).symm) (by first | exact (if_pos (by omega)).symm | exact (if_neg (by omega)).symm))) (.nil) rfl
           ·exact absurd (g29.symm.trans rfl) (by decide)
          ·have h28 := c_lss_f g28
           refine k_op0 (d := 135) (b := 387) (j' := 5) rfl rfl rfl rfl (g_ff rfl rfl rfl g28) (T_fa D (m := 6) rfl rfl rfl rfl rfl rfl) rfl ?_
           refine k_op0 (d := 136) (b := 403) (j' := 6) rfl rfl rfl rfl (g_ff rfl rfl rfl g28) (T_load_b D rfl rfl rfl rfl rfl rfl) rfl ?_
           refine k_op0 (d := 137) (b := 419) (j' := 7) rfl rfl rfl rfl (g_ff rfl rfl rfl g28) (T_cmp rfl rfl rfl rfl) rfl ?_
           refine q0 138 435 8 rfl rfl (T_pick_f rfl rfl rfl g28) rfl ?_
           refine q0 139 451 9 rfl rfl (T_move rfl rfl) rfl ?_
           refine k_split (d := 139) rfl (fun g30 => ?_) (fun g30 => ?_)
           ·have h30 := c_gtr_t g30
            refine k_no (d := 140) (j' := 10) rfl rfl rfl (g_ft rfl rfl rfl g30) ?_
            refine k_no (d := 141) (j' := 11) rfl rfl rfl (g_ft rfl rfl rfl g30) ?_
            refine k_no (d := 142) (j' := 12) rfl rfl rfl (g_ft rfl rfl rfl g30) ?_
            refine q0 143 515 13 rfl rfl (T_pick_t rfl rfl rfl g30) rfl ?_
            refine q0 144 531 14 rfl rfl (T_move rfl rfl) rfl ?_
            refine k_no (d := 145) (j' := 15) rfl rfl rfl (g_ft rfl rfl rfl rfl) ?_
            refine k_no (d := 146) (j' := 16) rfl rfl rfl (g_ft rfl rfl rfl rfl) ?_
            refine k_no (d := 147) (j' := 17) rfl rfl rfl (g_ft rfl rfl rfl rfl) ?_
            refine k_no (d := 148) (j' := 18) rfl rfl rfl (g_ft rfl rfl rfl rfl) ?_
            refine k_no (d := 149) (j' := 19) rfl rfl rfl (g_ft rfl rfl rfl rfl) ?_
            refine k_no (d := 150) (j' := 20) rfl rfl rfl (g_ft rfl rfl rfl rfl) ?_
            refine k_no (d := 151) (j' := 21) rfl rfl rfl (g_ft rfl rfl rfl rfl) ?_
            refine q0 152 659 22 rfl rfl (T_pick_t rfl rfl rfl rfl) rfl ?_
            refine k_done rfl ?_
            refine thenK_n ?_
            refine W_cond rfl (fun g31 => ?_) (fun g31 => ?_)
            ·skip
             refine W_seq ?_
             refine W_seqK (b' := 691) rfl rfl ?_
             refine q0 8 675 1 rfl rfl (T_assign rfl rfl) rfl ?_
             refine k_done rfl ?_
             refine thenK_n ?_
             refine W_ret ?_
             refine blockK_r ?_
             refine thenK_r ?_
             exact .mk [] (.inr rfl) (.tmp rfl (.nil)) (by first | rfl | (simp only [resLV, LV.ren, LV.v.injEq, Value.bool.injEq]; refine fits_no (fun hF => ?_); obtain ⟨a1, a2, a3, a4, a5, a6, a7, a8⟩ := hF; first | omega | (have k4 := a4 (by omega); omega) | (have k6 := a6 (by omega); omega) | exact absurd ((a2 (by assumption)).symm.trans (by assumption : _ = false)) (by decide) | exact absurd ((a5 (by omega)).symm.trans (by assumption : _ = false)) (by decide) | exact absurd ((a7 (by omega)).symm.trans (by assumption : _ = false)) (by decide) | exact absurd ((a3 _ (getD_mem (i := j) (by omega))).symm.trans (by assumption : _ = false)) (by decide)) | (simp only [resLV, LV.ren, LV.v.injEq, Value.bool.injEq]; exact fits_fin hj18 (fun _ => by omega) (fun _ => by first | assumption | (exfalso; omega)) (fun _ => by omega) (fun _ => by first | assumption | (exfalso; omega)) (by first | exact (if_pos (by omega)).symm | exact (if_neg (by omega)).symm) (by first | exact (if_pos (by omega)).symm | exact (if_neg (by omega)).symm) (by first | exact (if_pos (by omega)).symm | exact (if_neg (by omega)).symm) (by first | exact (if_pos (by omega)).symm | exact (if_neg (by omega)).symm))) (.nil) rfl
            ·exact absurd (g31.symm.trans rfl) (by decide)
           ·have h30 := c_gtr_f g30
            refine k_op0 (d := 140) (b := 467) (j' := 10) rfl rfl rfl rfl (g_ff rfl rfl rfl g30) (T_fa D (m := 5) rfl rfl rfl rfl rfl rfl) rfl ?_
            refine k_op0 (d := 141) (b := 483) (j' := 11) rfl rfl rfl rfl (g_ff rfl rfl rfl g30) (T_load_b D rfl rfl rfl rfl rfl rfl) rfl ?_
            refine k_op0 (d := 142) (b := 499) (j' := 12) rfl rfl rfl rfl (g_ff rfl rfl rfl g30) (T_cmp rfl rfl rfl rfl) rfl ?_
            refine q0 143 515 13 rfl rfl (T_pick_f rfl rfl rfl g30) rfl ?_
            refine q0 144 531 14 rfl rfl (T_move rfl rfl) rfl ?_
            refine k_split (d := 144) rfl (fun g32 => ?_) (fun g32 => ?_)
            ·have h32 := c_lss_t g32
             refine k_no (d := 145) (j' := 15) rfl rfl rfl (g_ft rfl rfl rfl g32) ?_
             refine k_no (d := 146) (j' := 16) rfl rfl rfl (g_ft rfl rfl rfl g32) ?_
             refine k_no (d := 147) (j' := 17) rfl rfl rfl (g_ft rfl rfl rfl g32) ?_
             refine k_no (d := 148) (j' := 18) rfl rfl rfl (g_ft rfl rfl rfl g32) ?_
             refine k_no (d := 149) (j' := 19) rfl rfl rfl (g_ft rfl rfl rfl g32) ?_
             refine k_no (d := 150) (j' := 20) rfl rfl rfl (g_ft rfl rfl rfl g32) ?_
             refine k_no (d := 151) (j' := 21) rfl rfl rfl (g_ft rfl rfl rfl g32) ?_
             refine q0 152 659 22 rfl rfl (T_pick_t rfl rfl rfl g32) rfl ?_
             refine k_done rfl ?_
             refine thenK_n ?_
             refine W_cond rfl (fun g33 => ?_) (fun g33 => ?_)
             ·skip
              refine W_seq ?_
              refine W_seqK (b' := 691) rfl rfl ?_
              refine q0 8 675 1 rfl rfl (T_assign rfl rfl) rfl ?_
              refine k_done rfl ?_
              refine thenK_n ?_
              refine W_ret ?_
              refine blockK_r ?_
              refine thenK_r ?_
              exact .mk [] (.inr rfl) (.tmp rfl (.nil)) (by first | rfl | (simp only [resLV, LV.ren, LV.v.injEq, Value.bool.injEq]; refine fits_no (fun hF => ?_); obtain ⟨a1, a2, a3, a4, a5, a6, a7, a8⟩ := hF; first | omega | (have k4 := a4 (by omega); omega) | (have k6 := a6 (by omega); omega) | exact absurd ((a2 (by assumption)).symm.trans (by assumption : _ = false)) (by decide) | exact absurd ((a5 (by omega)).symm.trans (by assumption : _ = false)) (by decide) | exact absurd ((a7 (by omega)).symm.trans (by assumption : _ = false)) (by decide) | exact absurd ((a3 _ (getD_mem (i := j) (by omega))).symm.trans (by assumption : _ = false)) (by decide)) | (simp only [resLV, LV.ren, LV.v.injEq, Value.bool.injEq]; exact fits_fin hj18 (fun _ => by omega) (fun _ => by first | assumption | (exfalso; omega)) (fun _ => by omega) (fun _ => by first | assumption | (exfalso; omega)) (by first | exact (if_pos (by omega)).symm | exact (if_neg (by omega)).symm) (by first | exact (if_pos (by omega)).symm | exact (if_neg (by omega)).symm) (by first | exact (if_pos (by omega)).symm | exact (if_neg (by omega)).symm) (by first | exact (if_pos (by omega)).symm | exact (if_neg (by omega)).symm))) (.nil) rfl
             ·exact absurd (g33.symm.trans rfl) (by decide)
            ·have h32 := c_lss_f g32
             refine k_op0 (d := 145) (b := 547) (j' := 15) rfl rfl rfl rfl (g_ff rfl rfl rfl g32) (T_fa D (m := 5) rfl rfl rfl rfl rfl rfl) rfl ?_
             refine k_op0 (d := 146) (b := 563) (j' := 16) rfl rfl rfl rfl (g_ff rfl rfl rfl g32) (T_load_b D rfl rfl rfl rfl rfl rfl) rfl ?_
             refine k_op0 (d := 147) (b := 579) (j' := 17) rfl rfl rfl rfl (g_ff rfl rfl rfl g32) (T_move rfl rfl) rfl ?_
             refine k_op0 (d := 148) (b := 595) (j' := 18) rfl rfl rfl rfl (g_ff rfl rfl rfl g32) (T_fa D (m := 6) rfl rfl rfl rfl rfl rfl) rfl ?_
             refine k_op0 (d := 149) (b := 611) (j' := 19) rfl rfl rfl rfl (g_ff rfl rfl rfl g32) (T_load_b D rfl rfl rfl rfl rfl rfl) rfl ?_
             refine k_op0 (d := 150) (b := 627) (j' := 20) rfl rfl rfl rfl (g_ff rfl rfl rfl g32) (T_sub64 rfl rfl rfl (by first | assumption | omega | (simp; omega))) rfl ?_
             refine k_op0 (d := 151) (b := 643) (j' := 21) rfl rfl rfl rfl (g_ff rfl rfl rfl g32) (T_cmp rfl rfl rfl rfl) rfl ?_
             refine q0 152 659 22 rfl rfl (T_pick_f rfl rfl rfl g32) rfl ?_
             refine k_done rfl ?_
             refine thenK_n ?_
             refine W_cond rfl (fun g34 => ?_) (fun g34 => ?_)
             ·have h34 := c_gtr_t g34
              refine W_seq ?_
              refine W_seqK (b' := 691) rfl rfl ?_
              refine q0 8 675 1 rfl rfl (T_assign rfl rfl) rfl ?_
              refine k_done rfl ?_
              refine thenK_n ?_
              refine W_ret ?_
              refine blockK_r ?_
              refine thenK_r ?_
              exact .mk [] (.inr rfl) (.tmp rfl (.nil)) (by first | rfl | (simp only [resLV, LV.ren, LV.v.injEq, Value.bool.injEq]; refine fits_no (fun hF => ?_); obtain ⟨a1, a2, a3, a4, a5, a6, a7, a8⟩ := hF; first | omega | (have k4 := a4 (by omega); omega) | (have k6 := a6 (by omega); omega) | exact absurd ((a2 (by assumption)).symm.trans (by assumption : _ = false)) (by decide) | exact absurd ((a5 (by omega)).symm.trans (by assumption : _ = false)) (by decide) | exact absurd ((a7 (by omega)).symm.trans (by assumption : _ = false)) (by decide) | exact absurd ((a3 _ (getD_mem (i := j) (by omega))).symm.trans (by assumption : _ = false)) (by decide)) | (simp only [resLV, LV.ren, LV.v.injEq, Value.bool.injEq]; exact fits_fin hj18 (fun _ => by omega) (fun _ => by first | assumption | (exfalso; omega)) (fun _ => by omega) (fun _ => by first | assumption | (exfalso; omega)) (by first | exact (if_pos (by omega)).symm | exact (if_neg (by omega)).symm) (by first | exact (if_pos (by omega)).symm | exact (if_neg (by omega)).symm) (by first | exact (if_pos (by omega)).symm | exact (if_neg (by omega)).symm) (by first | exact (if_pos (by omega)).symm | exact (if_neg (by omega)).symm))) (.nil) rfl
             ·have h34 := c_gtr_f g34
              refine W_skip ?_
              refine blockK_n ?_
              refine thenK_n ?_
              refine W_seq ?_
              refine W_seqK (b' := 739) rfl rfl ?_
              refine q0 163 675 1 rfl rfl (T_load_bA D (l := [_, _, _, _, _, _, _, _]) rfl rfl rfl rfl rfl rfl rfl) rfl ?_
              refine q0 164 691 2 rfl rfl (T_load_bA D (l := [_, _, _, _, _, _, _, _]) rfl rfl rfl rfl rfl rfl rfl) rfl ?_
              refine q0 165 707 3 rfl rfl (T_eqTac8 t rfl rfl rfl) rfl ?_
              refine q0 8 723 4 rfl rfl (T_assign rfl rfl) rfl ?_
              refine k_done rfl ?_
              refine thenK_n ?_
              refine W_ret ?_
              exact .mk [] (.inr rfl) (.tmp rfl (.nil)) (by first | rfl | (simp only [resLV, LV.ren, LV.v.injEq, Value.bool.injEq]; refine fits_no (fun hF => ?_); obtain ⟨a1, a2, a3, a4, a5, a6, a7, a8⟩ := hF; first | omega | (have k4 := a4 (by omega); omega) | (have k6 := a6 (by omega); omega) | exact absurd ((a2 (by assumption)).symm.trans (by assumption : _ = false)) (by decide) | exact absurd ((a5 (by omega)).symm.trans (by assumption : _ = false)) (by decide) | exact absurd ((a7 (by omega)).symm.trans (by assumption : _ = false)) (by decide) | exact absurd ((a3 _ (getD_mem (i := j) (by omega))).symm.trans (by assumption : _ = false)) (by decide)) | (simp only [resLV, LV.ren, LV.v.injEq, Value.bool.injEq]; exact fits_fin hj18 (fun _ => by omega) (fun _ => by first | assumption | (exfalso; omega)) (fun _ => by omega) (fun _ => by first | assumption | (exfalso; omega)) (by first | exact (if_pos (by omega)).symm | exact (if_neg (by omega)).symm) (by first | exact (if_pos (by omega)).symm | exact (if_neg (by omega)).symm) (by first | exact (if_pos (by omega)).symm | exact (if_neg (by omega)).symm) (by first | exact (if_pos (by omega)).symm | exact (if_neg (by omega)).symm))) (.nil) rfl
         ·exact absurd (g27.symm.trans g26) (by decide)
        ·have h26 := c_eql_f g26
         refine W_seqK (b' := 227) rfl rfl ?_
         refine q0 124 195 1 rfl rfl (T_cmp rfl rfl rfl rfl) rfl ?_
         refine q0 122 211 2 rfl rfl (T_assign rfl rfl) rfl ?_
         refine k_done rfl ?_
         refine thenK_n ?_
         refine W_cond rfl (fun g35 => ?_) (fun g35 => ?_)
         ·have h35 := c_eql_t g35
          refine W_seq ?_
          refine W_anyK (b' := 355) rfl rfl rfl ?_
          refine q0 125 227 1 rfl rfl (T_fa D (m := 5) rfl rfl rfl rfl rfl rfl) rfl ?_
          refine q0 126 243 2 rfl rfl (T_load_b D rfl rfl rfl rfl rfl rfl) rfl ?_
          refine q0 127 259 3 rfl rfl (T_fa D (m := 6) rfl rfl rfl rfl rfl rfl) rfl ?_
          refine q0 128 275 4 rfl rfl (T_load_b D rfl rfl rfl rfl rfl rfl) rfl ?_
          refine q0 129 291 5 rfl rfl (T_fa D (m := 5) rfl rfl rfl rfl rfl rfl) rfl ?_
          refine s1 307 6 rfl rfl (T_stB D (cs' := [_, _, _, _, _, _, _, _]) rfl rfl rfl rfl (flat_v rfl) rfl rfl (Nat.le_of_ble_eq_true rfl) rfl) rfl ?_
          refine q0 130 323 7 rfl rfl (T_fa D (m := 6) rfl rfl rfl rfl rfl rfl) rfl ?_
          refine s1 339 8 rfl rfl (T_stB D (cs' := [_, _, _, _, _, _, _, _]) rfl rfl rfl rfl (flat_v rfl) rfl rfl (Nat.le_of_ble_eq_true rfl) rfl) rfl ?_
          refine k_done rfl ?_
          refine ⟨rfl, ?_⟩
          refine thenK_n ?_
          refine W_seq ?_
          refine W_seqK (b' := 707) rfl rfl ?_
          refine q0 131 355 1 rfl rfl (T_fa D (m := 6) rfl rfl rfl rfl rfl rfl) rfl ?_
          refine q0 132 371 2 rfl rfl (T_load_b D rfl rfl rfl rfl rfl rfl) rfl ?_
          refine q0 133 387 3 rfl rfl (T_cmp rfl rfl rfl rfl) rfl ?_
          refine q0 134 403 4 rfl rfl (T_move rfl rfl) rfl ?_
          refine k_split (d := 134) rfl (fun g36 => ?_) (fun g36 => ?_)
          ·have h36 := c_lss_t g36
           refine k_no (d := 135) (j' := 5) rfl rfl rfl (g_ft rfl rfl rfl g36) ?_
           refine k_no (d := 136) (j' := 6) rfl rfl rfl (g_ft rfl rfl rfl g36) ?_
           refine k_no (d := 137) (j' := 7) rfl rfl rfl (g_ft rfl rfl rfl g36) ?_
           refine q0 138 467 8 rfl rfl (T_pick_t rfl rfl rfl g36) rfl ?_
           refine q0 139 483 9 rfl rfl (T_move rfl rfl) rfl ?_
           refine k_no (d := 140) (j' := 10) rfl rfl rfl (g_ft rfl rfl rfl rfl) ?_
           refine k_no (d := 141) (j' := 11) rfl rfl rfl (g_ft rfl rfl rfl rfl) ?_
           refine k_no (d := 142) (j' := 12) rfl rfl rfl (g_ft rfl rfl rfl rfl) ?_
           refine q0 143 547 13 rfl rfl (T_pick_t rfl rfl rfl rfl) rfl ?_
           refine q0 144 563 14 rfl rfl (T_move rfl rfl) rfl ?_
           refine k_no (d := 145) (j' := 15) rfl rfl rfl (g_ft rfl rfl rfl rfl) ?_
           refine k_no (d := 146) (j' := 16) rfl rfl rfl (g_ft rfl rfl rfl rfl) ?_
           refine k_no (d := 147) (j' := 17) rfl rfl rfl (g_ft rfl rfl rfl rfl) ?_
           refine k_no (d := 148) (j' := 18) rfl rfl rfl (g_ft rfl rfl rfl rfl) ?_
           refine k_no (d := 149) (j' := 19) rfl rfl rfl (g_ft rfl rfl rfl rfl) ?_
           refine k_no (d := 150) (j' := 20) rfl rfl rfl (g_ft rfl rfl rfl rfl) ?_
           refine k_no (d := 151) (j' := 21) rfl rfl rfl (g_ft rfl rfl rfl rfl) ?_
           refine q0 152 691 22 rfl rfl (T_pick_t rfl rfl rfl rfl) rfl ?_
           refine k_done rfl ?_
           refine thenK_n ?_
           refine W_cond rfl (fun g37 => ?_) (fun g37 => ?_)
           ·skip
            refine W_seq ?_
            refine W_seqK (b' := 723) rfl rfl ?_
            refine q0 8 707 1 rfl rfl (T_assign rfl rfl) rfl ?_
            refine k_done rfl ?_
            refine thenK_n ?_
            refine W_ret ?_
            refine blockK_r ?_
            refine thenK_r ?_
            exact .mk [] (.inr rfl) (.tmp rfl (.nil)) (by first | rfl | (simp only [resLV, LV.ren, LV.v.injEq, Value.bool.injEq]; refine fits_no (fun hF => ?_); obtain ⟨a1, a2, a3, a4, a5, a6, a7, a8⟩ := hF; first | omega | (have k4 := a4 (by omega); omega) | (have k6 := a6 (by omega); omega) | exact absurd ((a2 (by assumption)).symm.trans (by assumption : _ = false)) (by decide) | exact absurd ((a5 (by omega)).symm.trans (by assumption : _ = false)) (by decide) | exact absurd ((a7 (by omega)).symm.trans (by assumption : _ = false)) (by decide) | exact absurd ((a3 _ (getD_mem (i := j) (by omega))).symm.trans (by assumption : _ = false)) (by decide)) | (simp only [resLV, LV.ren, LV.v.injEq, Value.bool.injEq]; exact fits_fin hj18 (fun _ => by omega) (fun _ => by first | assumption | (exfalso; omega)) (fun _ => by omega) (fun _ => by first | assumption | (exfalso; omega)) (by first | exact (if_pos (by omega)).symm | exact (if_neg (by omega)).symm) (by first | exact (if_pos (by omega)).symm | exact (if_neg (by omega)).symm) (by first | exact (if_pos (by omega)).symm | exact (if_neg (by omega)).symm) (by first | exact (if_pos (by omega)).symm | exact (if_neg (by omega)).symm))) (.nil) rfl
           ·exact absurd (g37.symm.trans rfl) (by decide)
          ·have h36 := c_lss_f g36
           refine k_op0 (d := 135) (b := 419) (j' := 5) rfl rfl rfl rfl (g_ff rfl rfl rfl g36) (T_fa D (m := 6) rfl rfl rfl rfl rfl rfl) rfl ?_
           refine k_op0 (d := 136) (b := 435) (j' := 6) rfl rfl rfl rfl (g_ff rfl rfl rfl g36) (T_load_b D rfl rfl rfl rfl rfl rfl) rfl ?_
           refine k_op0 (d := 137) (b := 451) (j' := 7) rfl rfl rfl rfl (g_ff rfl rfl rfl g36) (T_cmp rfl rfl rfl rfl) rfl ?_
           refine q0 138 467 8 rfl rfl (T_pick_f rfl rfl rfl g36) rfl ?_
           refine q0 139 483 9 rfl rfl (T_move rfl rfl) rfl ?_
           refine k_split (d := 139) rfl (fun g38 => ?_) (fun g38 => ?_)
           ·have h38 := c_gtr_t g38
            refine k_no (d := 140) (j' := 10) rfl rfl rfl (g_ft rfl rfl rfl g38) ?_
            refine k_no (d := 141) (j' := 11) rfl rfl rfl (g_ft rfl rfl rfl g38) ?_
            refine k_no (d := 142) (j' := 12) rfl rfl rfl (g_ft rfl rfl rfl g38) ?_
            refine q0 143 547 13 rfl rfl (T_pick_t rfl rfl rfl g38) rfl ?_
            refine q0 144 563 14 rfl rfl (T_move rfl rfl) rfl ?_
            refine k_no (d := 145) (j' := 15) rfl rfl rfl (g_ft rfl rfl rfl rfl) ?_
            refine k_no (d := 146) (j' := 16) rfl rfl rfl (g_ft rfl rfl rfl rfl) ?_
            refine k_no (d := 147) (j' := 17) rfl rfl rfl (g_ft rfl rfl rfl rfl) ?_
            refine k_no (d := 148) (j' := 18) rfl rfl rfl (g_ft rfl rfl rfl rfl) ?_
            refine k_no (d := 149) (j' := 19) rfl rfl rfl (g_ft rfl rfl rfl rfl) ?_
            refine k_no (d := 150) (j' := 20) rfl rfl rfl (g_ft rfl rfl rfl rfl) ?_
            refine k_no (d := 151) (j' := 21) rfl rfl rfl (g_ft rfl rfl rfl rfl) ?_
            refine q0 152 691 22 rfl rfl (T_pick_t rfl rfl rfl rfl) rfl ?_
            refine k_done rfl ?_
            refine thenK_n ?_
            refine W_cond rfl (fun g39 => ?_) (fun g39 => ?_)
            ·skip
             refine W_seq ?_
             refine W_seqK (b' := 723) rfl rfl ?_
             refine q0 8 707 1 rfl rfl (T_assign rfl rfl) rfl ?_
             refine k_done rfl ?_
             refine thenK_n ?_
             refine W_ret ?_
             refine blockK_r ?_
             refine thenK_r ?_
             exact .mk [] (.inr rfl) (.tmp rfl (.nil)) (by first | rfl | (simp only [resLV, LV.ren, LV.v.injEq, Value.bool.injEq]; refine fits_no (fun hF => ?_); obtain ⟨a1, a2, a3, a4, a5, a6, a7, a8⟩ := hF; first | omega | (have k4 := a4 (by omega); omega) | (have k6 := a6 (by omega); omega) | exact absurd ((a2 (by assumption)).symm.trans (by assumption : _ = false)) (by decide) | exact absurd ((a5 (by omega)).symm.trans (by assumption : _ = false)) (by decide) | exact absurd ((a7 (by omega)).symm.trans (by assumption : _ = false)) (by decide) | exact absurd ((a3 _ (getD_mem (i := j) (by omega))).symm.trans (by assumption : _ = false)) (by decide)) | (simp only [resLV, LV.ren, LV.v.injEq, Value.bool.injEq]; exact fits_fin hj18 (fun _ => by omega) (fun _ => by first | assumption | (exfalso; omega)) (fun _ => by omega) (fun _ => by first | assumption | (exfalso; omega)) (by first | exact (if_pos (by omega)).symm | exact (if_neg (by omega)).symm) (by first | exact (if_pos (by omega)).symm | exact (if_neg (by omega)).symm) (by first | exact (if_pos (by omega)).symm | exact (if_neg (by omega)).symm) (by first | exact (if_pos (by omega)).symm | exact (if_neg (by omega)).symm))) (.nil) rfl
            ·exact absurd (g39.symm.trans rfl) (by decide)
           ·have h38 := c_gtr_f g38
            refine k_op0 (d := 140) (b := 499) (j' := 10) rfl rfl rfl rfl (g_ff rfl rfl rfl g38) (T_fa D (m := 5) rfl rfl rfl rfl rfl rfl) rfl ?_
            refine k_op0 (d := 141) (b := 515) (j' := 11) rfl rfl rfl rfl (g_ff rfl rfl rfl g38) (T_load_b D rfl rfl rfl rfl rfl rfl) rfl ?_
            refine k_op0 (d := 142) (b := 531) (j' := 12) rfl rfl rfl rfl (g_ff rfl rfl rfl g38) (T_cmp rfl rfl rfl rfl) rfl ?_
            refine q0 143 547 13 rfl rfl (T_pick_f rfl rfl rfl g38) rfl ?_
            refine q0 144 563 14 rfl rfl (T_move rfl rfl) rfl ?_
            refine k_split (d := 144) rfl (fun g40 => ?_) (fun g40 => ?_)
            ·have h40 := c_lss_t g40
             refine k_no (d := 145) (j' := 15) rfl rfl rfl (g_ft rfl rfl rfl g40) ?_
             refine k_no (d := 146) (j' := 16) rfl rfl rfl (g_ft rfl rfl rfl g40) ?_
             refine k_no (d := 147) (j' := 17) rfl rfl rfl (g_ft rfl rfl rfl g40) ?_
             refine k_no (d := 148) (j' := 18) rfl rfl rfl (g_ft rfl rfl rfl g40) ?_
             refine k_no (d := 149) (j' := 19) rfl rfl rfl (g_ft rfl rfl rfl g40) ?_
             refine k_no (d := 150) (j' := 20) rfl rfl rfl (g_ft rfl rfl rfl g40) ?_
             refine k_no (d := 151) (j' := 21) rfl rfl rfl (g_ft rfl rfl rfl g40) ?_
             refine q0 152 691 22 rfl rfl (T_pick_t rfl rfl rfl g40) rfl ?_
             refine k_done rfl ?_
             refine thenK_n ?_
             refine W_cond rfl (fun g41 => ?_) (fun g41 => ?_)
             ·skip
              refine W_seq ?_
              refine W_seqK (b' := 723) rfl rfl ?_
              refine q0 8 707 1 rfl rfl (T_assign rfl rfl) rfl ?_
              refine k_done rfl ?_
              refine thenK_n ?_
              refine W_ret ?_
              refine blockK_r ?_
              refine thenK_r ?_
              exact .mk [] (.inr rfl) (.tmp rfl (.nil)) (by first | rfl | (simp only [resLV, LV.ren, LV.v.injEq, Value.bool.injEq]; refine fits_no (fun hF => ?_); obtain ⟨a1, a2, a3, a4, a5, a6, a7, a8⟩ := hF; first | omega | (have k4 := a4 (by omega); omega) | (have k6 := a6 (by omega); omega) | exact absurd ((a2 (by assumption)).symm.trans (by assumption : _ = false)) (by decide) | exact absurd ((a5 (by omega)).symm.trans (by assumption : _ = false)) (by decide) | exact absurd ((a7 (by omega)).symm.trans (by assumption : _ = false)) (by decide) | exact absurd ((a3 _ (getD_mem (i := j) (by omega))).symm.trans (by assumption : _ = false)) (by decide)) | (simp only [resLV, LV.ren, LV.v.injEq, Value.bool.injEq]; exact fits_fin hj18 (fun _ => by omega) (fun _ => by first | assumption | (exfalso; omega)) (fun _ => by omega) (fun _ => by first | assumption | (exfalso; omega)) (by first | exact (if_pos (by omega)).symm | exact (if_neg (by omega)).symm) (by first | exact (if_pos (by omega)).symm | exact (if_neg (by omega)).symm) (by first | exact (if_pos (by omega)).symm | exact (if_neg (by omega)).symm) (by first | exact (if_pos (by omega)).symm | exact (if_neg (by omega)).symm))) (.nil) rfl
             ·exact absurd (g41.symm.trans rfl) (by decide)
            ·have h40 := c_lss_f g40
             refine k_op0 (d := 145) (b := 579) (j' := 15) rfl rfl rfl rfl (g_ff rfl rfl rfl g40) (T_fa D (m := 5) rfl rfl rfl rfl rfl rfl) rfl ?_
             refine k_op0 (d := 146) (b := 595) (j' := 16) rfl rfl rfl rfl (g_ff rfl rfl rfl g40) (T_load_b D rfl rfl rfl rfl rfl rfl) rfl ?_
             refine k_op0 (d := 147) (b := 611) (j' := 17) rfl rfl rfl rfl (g_ff rfl rfl rfl g40) (T_move rfl rfl) rfl ?_
             refine k_op0 (d := 148) (b := 627) (j' := 18) rfl rfl rfl rfl (g_ff rfl rfl rfl g40) (T_fa D (m := 6) rfl rfl rfl rfl rfl rfl) rfl ?_
             refine k_op0 (d := 149) (b := 643) (j' := 19) rfl rfl rfl rfl (g_ff rfl rfl rfl g40) (T_load_b D rfl rfl rfl rfl rfl rfl) rfl ?_
             refine k_op0 (d := 150) (b := 659) (j' := 20) rfl rfl rfl rfl (g_ff rfl rfl rfl g40) (T_sub64 rfl rfl rfl (by first | assumption | omega | (simp; omega))) rfl ?_
             refine k_op0 (d := 151) (b := 675) (j' := 21) rfl rfl rfl rfl (g_ff rfl rfl rfl g40) (T_cmp rfl rfl rfl rfl) rfl ?_
             refine q0 152 691 22 rfl rfl (T_pick_f rfl rfl rfl g40) rfl ?_
             refine k_done rfl ?_
             refine thenK_n ?_
             refine W_cond rfl (fun g42 => ?_) (fun g42 => ?_)
             ·have h42 := c_gtr_t g42
              refine W_seq ?_
              refine W_seqK (b' := 723) rfl rfl ?_
              refine q0 8 707 1 rfl rfl (T_assign rfl rfl) rfl ?_
              refine k_done rfl ?_
              refine thenK_n ?_
              refine W_ret ?_
              refine blockK_r ?_
              refine thenK_r ?_
              exact .mk [] (.inr rfl) (.tmp rfl (.nil)) (by first | rfl | (simp only [resLV, LV.ren, LV.v.injEq, Value.bool.injEq]; refine fits_no (fun hF => ?_); obtain ⟨a1, a2, a3, a4, a5, a6, a7, a8⟩ := hF; first | omega | (have k4 := a4 (by omega); omega) | (have k6 := a6 (by omega); omega) | exact absurd ((a2 (by assumption)).symm.trans (by assumption : _ = false)) (by decide) | exact absurd ((a5 (by omega)).symm.trans (by assumption : _ = false)) (by decide) | exact absurd ((a7 (by omega)).symm.trans (by assumption : _ = false)) (by decide) | exact absurd ((a3 _ (getD_mem (i := j) (by omega))).symm.trans (by assumption : _ = false)) (by decide)) | (simp only [resLV, LV.ren, LV.v.injEq, Value.bool.injEq]; exact fits_fin hj18 (fun _ => by omega) (fun _ => by first | assumption | (exfalso; omega)) (fun _ => by omega) (fun _ => by first | assumption | (exfalso; omega)) (by first | exact (if_pos (by omega)).symm | exact (if_neg (by omega)).symm) (by first | exact (if_pos (by omega)).symm | exact (if_neg (by omega)).symm) (by first | exact (if_pos (by omega)).symm | exact (if_neg (by omega)).symm) (by first | exact (if_pos (by omega)).symm | exact (if_neg (by omega)).symm))) (.nil) rfl
             ·have h42 := c_gtr_f g42
              refine W_skip ?_
              refine blockK_n ?_
              refine thenK_n ?_
              refine W_seq ?_
              refine W_seqK (b' := 771) rfl rfl ?_
              refine q0 163 707 1 rfl rfl (T_load_bA D (l := [_, _, _, _, _, _, _, _]) rfl rfl rfl rfl rfl rfl rfl) rfl ?_
              refine q0 164 723 2 rfl rfl (T_load_bA D (l := [_, _, _, _, _, _, _, _]) rfl rfl rfl rfl rfl rfl rfl) rfl ?_
              refine q0 165 739 3 rfl rfl (T_eqTac8 t rfl rfl rfl) rfl ?_
              refine q0 8 755 4 rfl rfl (T_assign rfl rfl) rfl ?_
              refine k_done rfl ?_
              refine thenK_n ?_
              refine W_ret ?_
              exact .mk [] (.inr rfl) (.tmp rfl (.nil)) (by first | rfl | (simp only [resLV, LV.ren, LV.v.injEq, Value.bool.injEq]; refine fits_no (fun hF => ?_); obtain ⟨a1, a2, a3, a4, a5, a6, a7, a8⟩ := hF; first | omega | (have k4 := a4 (by omega); omega) | (have k6 := a6 (by omega); omega) | exact absurd ((a2 (by assumption)).symm.trans (by assumption : _ = false)) (by decide) | exact absurd ((a5 (by omega)).symm.trans (by assumption : _ = false)) (by decide) | exact absurd ((a7 (by omega)).symm.trans (by assumption : _ = false)) (by decide) | exact absurd ((a3 _ (getD_mem (i := j) (by omega))).symm.trans (by assumption : _ = false)) (by decide)) | (simp only [resLV, LV.ren, LV.v.injEq, Value.bool.injEq]; exact fits_fin hj18 (fun _ => by omega) (fun _ => by first | assumption | (exfalso; omega)) (fun _ => by omega) (fun _ => by first | assumption | (exfalso; omega)) (by first | exact (if_pos (by omega)).symm | exact (if_neg (by omega)).symm) (by first | exact (if_pos (by omega)).symm | exact (if_neg (by omega)).symm) (by first | exact (if_pos (by omega)).symm | exact (if_neg (by omega)).symm) (by first | exact (if_pos (by omega)).symm | exact (if_neg (by omega)).symm))) (.nil) rfl
         ·have h35 := c_eql_f g35
          refine W_seq ?_
          refine W_seqK (b' := 259) rfl rfl ?_
          refine q0 154 227 1 rfl rfl (T_cmp rfl rfl rfl rfl) rfl ?_
          refine q0 153 243 2 rfl rfl (T_assign rfl rfl) rfl ?_
          refine k_done rfl ?_
          refine thenK_n ?_
          refine W_cond rfl (fun g43 => ?_) (fun g43 => ?_)
          ·have h43 := c_eql_t g43
           refine W_seq ?_
           refine W_seqK (b' := 323) rfl rfl ?_
           refine q0 155 259 1 rfl rfl (T_fa D (m := 5) rfl rfl rfl rfl rfl rfl) rfl ?_
           refine q0 156 275 2 rfl rfl (T_load_b D rfl rfl rfl rfl rfl rfl) rfl ?_
           refine q0 157 291 3 rfl rfl (T_fa D (m := 5) rfl rfl rfl rfl rfl rfl) rfl ?_
           refine s1 307 4 rfl rfl (T_stB D (cs' := [_, _, _, _, _, _, _, _]) rfl rfl rfl rfl (flat_v rfl) rfl rfl (Nat.le_of_ble_eq_true rfl) rfl) rfl ?_
           refine k_done rfl ?_
           refine thenK_n ?_
           refine W_seq ?_
           refine W_seqK (b' := 403) rfl rfl ?_
           refine q0 158 323 1 rfl rfl (T_fa D (m := 5) rfl rfl rfl rfl rfl rfl) rfl ?_
           refine q0 159 339 2 rfl rfl (T_load_b D rfl rfl rfl rfl rfl rfl) rfl ?_
           refine q0 160 355 3 rfl rfl (T_move rfl rfl) rfl ?_
           refine q0 161 371 4 rfl rfl (T_callV (lvs := [_, _]) (L := []) (within_spec _ _) body125 rfl rfl rfl rfl (.nil) rfl) rfl ?_
           refine q0 162 387 5 rfl rfl (T_not rfl rfl) rfl ?_
           refine k_done rfl ?_
           refine thenK_n ?_
           refine W_cond rfl (fun g44 => ?_) (fun g44 => ?_)
           ·have h44 := g44; (try simp only [cmpB, decide_eq_true_eq, decide_eq_false_iff_not, beq_iff_eq, beq_eq_false_iff_ne, bne_iff_ne, ne_eq, bne_eq_false_iff_eq, Bool.not_eq_true', Bool.not_eq_false', Int.not_lt, Int.not_le] at h44)
            refine W_seq ?_
            refine W_seqK (b' := 419) rfl rfl ?_
            refine q0 8 403 1 rfl rfl (T_assign rfl rfl) rfl ?_
            refine k_done rfl ?_
            refine thenK_n ?_
            refine W_ret ?_
            refine blockK_r ?_
            refine thenK_r ?_
            exact .mk [] (.inr rfl) (.tmp rfl (.nil)) (by first | rfl | (simp only [resLV, LV.ren, LV.v.injEq, Value.bool.injEq]; refine fits_no (fun hF => ?_); obtain ⟨a1, a2, a3, a4, a5, a6, a7, a8⟩ := hF; first | omega | (have k4 := a4 (by omega); omega) | (have k6 := a6 (by omega); omega) | exact absurd ((a2 (by assumption)).symm.trans (by assumption : _ = false)) (by decide) | exact absurd ((a5 (by omega)).symm.trans (by assumption : _ = false)) (by decide) | exact absurd ((a7 (by omega)).symm.trans (by assumption : _ = false)) (by decide) | exact absurd ((a3 _ (getD_mem (i := j) (by omega))).symm.trans (by assumption : _ = false)) (by decide)) | (simp only [resLV, LV.ren, LV.v.injEq, Value.bool.injEq]; exact fits_fin hj18 (fun _ => by omega) (fun _ => by first | assumption | (exfalso; omega)) (fun _ => by omega) (fun _ => by first | assumption | (exfalso; omega)) (by first | exact (if_pos (by omega)).symm | exact (if_neg (by omega)).symm) (by first | exact (if_pos (by omega)).symm | exact (if_neg (by omega)).symm) (by first | exact (if_pos (by omega)).symm | exact (if_neg (by omega)).symm) (by first | exact (if_pos (by omega)).symm | exact (if_neg (by omega)).symm))) (.nil) rfl
           ·have h44 := g44; (try simp only [cmpB, decide_eq_true_eq, decide_eq_false_iff_not, beq_iff_eq, beq_eq_false_iff_ne, bne_iff_ne, ne_eq, bne_eq_false_iff_eq, Bool.not_eq_true', Bool.not_eq_false', Int.not_lt, Int.not_le] at h44)
            refine W_skip ?_
            refine blockK_n ?_
            refine thenK_n ?_
            refine W_seq ?_
            refine W_seqK (b' := 467) rfl rfl ?_
            refine q0 163 403 1 rfl rfl (T_load_bA D (l := [_, _, _, _, _, _, _, _]) rfl rfl rfl rfl rfl rfl rfl) rfl ?_
            refine q0 164 419 2 rfl rfl (T_load_bA D (l := [_, _, _, _, _, _, _, _]) rfl rfl rfl rfl rfl rfl rfl) rfl ?_
            refine q0 165 435 3 rfl rfl (T_eqTac8 t rfl rfl rfl) rfl ?_
            refine q0 8 451 4 rfl rfl (T_assign rfl rfl) rfl ?_
            refine k_done rfl ?_
            refine thenK_n ?_
            refine W_ret ?_
            exact .mk [] (.inr rfl) (.tmp rfl (.nil)) (by first | rfl | (simp only [resLV, LV.ren, LV.v.injEq, Value.bool.injEq]; refine fits_no (fun hF => ?_); obtain ⟨a1, a2, a3, a4, a5, a6, a7, a8⟩ := hF; first | omega | (have k4 := a4 (by omega); omega) | (have k6 := a6 (by omega); omega) | exact absurd ((a2 (by assumption)).symm.trans (by assumption : _ = false)) (by decide) | exact absurd ((a5 (by omega)).symm.trans (by assumption : _ = false)) (by decide) | exact absurd ((a7 (by omega)).symm.trans (by assumption : _ = false)) (by decide) | exact absurd ((a3 _ (getD_mem (i := j) (by omega))).symm.trans (by assumption : _ = false)) (by decide)) | (simp only [resLV, LV.ren, LV.v.injEq, Value.bool.injEq]; exact fits_fin hj18 (fun _ => by omega) (fun _ => by first | assumption | (exfalso; omega)) (fun _ => by omega) (fun _ => by first | assumption | (exfalso; omega)) (by first | exact (if_pos (by omega)).symm | exact (if_neg (by omega)).symm) (by first | exact (if_pos (by omega)).symm | exact (if_neg (by omega)).symm) (by first | exact (if_pos (by omega)).symm | exact (if_neg (by omega)).symm) (by first | exact (if_pos (by omega)).symm | exact (if_neg (by omega)).symm))) (.nil) rfl
          ·have h43 := c_eql_f g43
           refine W_skip ?_
           refine blockK_n ?_
           refine thenK_n ?_
           refine W_seq ?_
           refine W_seqK (b' := 323) rfl rfl ?_
           refine q0 163 259 1 rfl rfl (T_load_bA D (l := [_, _, _, _, _, _, _, _]) rfl rfl rfl rfl rfl rfl rfl) rfl ?_
           refine q0 164 275 2 rfl rfl (T_load_bA D (l := [_, _, _, _, _, _, _, _]) rfl rfl rfl rfl rfl rfl rfl) rfl ?_
           refine q0 165 291 3 rfl rfl (T_eqTac8 t rfl rfl rfl) rfl ?_
           refine q0 8 307 4 rfl rfl (T_assign rfl rfl) rfl ?_
           refine k_done rfl ?_
           refine thenK_n ?_
           refine W_ret ?_
           exact .mk [] (.inr rfl) (.tmp rfl (.nil)) (by first | rfl | (simp only [resLV, LV.ren, LV.v.injEq, Value.bool.injEq]; refine fits_no (fun hF => ?_); obtain ⟨a1, a2, a3, a4, a5, a6, a7, a8⟩ := hF; first | omega | (have k4 := a4 (by omega); omega) | (have k6 := a6 (by omega); omega) | exact absurd ((a2 (by assumption)).symm.trans (by assumption : _ = false)) (by decide) | exact absurd ((a5 (by omega)).symm.trans (by assumption : _ = false)) (by decide) | exact absurd ((a7 (by omega)).symm.trans (by assumption : _ = false)) (by decide) | exact absurd ((a3 _ (getD_mem (i := j) (by omega))).symm.trans (by assumption : _ = false)) (by decide)) | (simp only [resLV, LV.ren, LV.v.injEq, Value.bool.injEq]; exact fits_fin hj18 (fun _ => by omega) (fun _ => by first | assumption | (exfalso; omega)) (fun _ => by omega) (fun _ => by first | assumption | (exfalso; omega)) (by first | exact (if_pos (by omega)).symm | exact (if_neg (by omega)).symm) (by first | exact (if_pos (by omega)).symm | exact (if_neg (by omega)).symm) (by first | exact (if_pos (by omega)).symm | exact (if_neg (by omega)).symm) (by first | exact (if_pos (by omega)).symm | exact (if_neg (by omega)).symm))) (.nil) rfl
end Lg
end Go.Proofs.Ytpfhmodjjljpjaa

namespace Go.Proofs.Ytpfhmodjjljpjaa
open Go.RowKit
namespace Lg
set_option maxRecDepth 100000
set_option linter.unusedVariables false
set_option linter.unusedSimpArgs false
theorem body47 : (Try.prog.funcs[47]?).map (fun fn => (fn.name == "runtime.NumGoroutine" || fn.body.isNone)) = some false := by kernel_rfl
theorem one_fn_spec (f : GFn) (number words : Int) (hf : FnOk f) (hw : -4611686018427387904 ≤ words ∧ words ≤ 4611686018427387904) : Spec Try.prog 47 [.agg [.v (.int .i64 f.regs), .r 1], .v (.int .i64 number), .v (.int .i64 words)] 2 [(1, .fz 5 (f.blocks.map eBlock))] (.v (.bool (oneB f number words))) 2 [] := by
 have hf1 := hf.1
 refine spec_of D (fn := Try.f47) rfl rfl (Nat.le_of_ble_eq_true rfl) ?_
 refine W_seq ?_
 refine W_seqK (b' := 34) rfl rfl ?_
 refine q1 3 2 1 rfl rfl (T_box rfl rfl flat_agg) rfl ?_
 refine q0 6 18 2 rfl rfl (T_assign rfl rfl) rfl ?_
 refine k_done rfl ?_
 refine thenK_n ?_
 refine W_seq ?_
 refine W_seq ?_
 refine W_seqK (b' := 258) rfl rfl ?_
 refine q0 9 34 1 rfl rfl (T_fa D (m := 0) rfl rfl rfl rfl rfl rfl) rfl ?_
 refine q0 10 50 2 rfl rfl (T_load_b D rfl rfl rfl rfl rfl rfl) rfl ?_
 refine q0 11 66 3 rfl rfl (T_cmp rfl rfl rfl rfl) rfl ?_
 refine q0 12 82 4 rfl rfl (T_move rfl rfl) rfl ?_
 refine k_split (d := 12) rfl (fun g1 => ?_) (fun g1 => ?_)
 ·have h1 := c_lss_t g1
  refine k_no (d := 13) (j' := 5) rfl rfl rfl (g_ft rfl rfl rfl g1) ?_
  refine k_no (d := 14) (j' := 6) rfl rfl rfl (g_ft rfl rfl rfl g1) ?_
  refine k_no (d := 15) (j' := 7) rfl rfl rfl (g_ft rfl rfl rfl g1) ?_
  refine q0 16 146 8 rfl rfl (T_pick_t rfl rfl rfl g1) rfl ?_
  refine q0 17 162 9 rfl rfl (T_move rfl rfl) rfl ?_
  refine k_no (d := 18) (j' := 10) rfl rfl rfl (g_ft rfl rfl rfl rfl) ?_
  refine k_no (d := 19) (j' := 11) rfl rfl rfl (g_ft rfl rfl rfl rfl) ?_
  refine k_no (d := 20) (j' := 12) rfl rfl rfl (g_ft rfl rfl rfl rfl) ?_
  refine k_no (d := 21) (j' := 13) rfl rfl rfl (g_ft rfl rfl rfl rfl) ?_
  refine q0 22 242 14 rfl rfl (T_pick_t rfl rfl rfl rfl) rfl ?_
  refine k_done rfl ?_
  refine thenK_n ?_
  refine W_cond rfl (fun g2 => ?_) (fun g2 => ?_)
  ·skip
   refine W_seq ?_
   refine W_seqK (b' := 274) rfl rfl ?_
   refine q0 6 258 1 rfl rfl (T_assign rfl rfl) rfl ?_
   refine k_done rfl ?_
   refine thenK_n ?_
   refine W_ret ?_
   refine thenK_r ?_
   exact .mk [] (.inr rfl) (.tmp rfl (.nil)) (by first | rfl | (simp only [resLV, LV.ren, LV.v.injEq, Value.bool.injEq]; first | exact one_no1 (by omega) | exact one_no2 (j := j) (by omega) (by assumption) | exact one_no3 (j := j) (i := i) (by omega) (by omega) (by assumption) | exact one_yes (by omega) (by omega) (fun i h => hJ.2 i (by omega)))) (.nil) rfl
  ·exact absurd (g2.symm.trans rfl) (by decide)
 ·have h1 := c_lss_f g1
  refine k_op0 (d := 13) (b := 98) (j' := 5) rfl rfl rfl rfl (g_ff rfl rfl rfl g1) (T_fa D (m := 0) rfl rfl rfl rfl rfl rfl) rfl ?_
  refine k_op0 (d := 14) (b := 114) (j' := 6) rfl rfl rfl rfl (g_ff rfl rfl rfl g1) (T_load_b D rfl rfl rfl rfl rfl rfl) rfl ?_
  refine k_op0 (d := 15) (b := 130) (j' := 7) rfl rfl rfl rfl (g_ff rfl rfl rfl g1) (T_cmp rfl rfl rfl rfl) rfl ?_
  refine q0 16 146 8 rfl rfl (T_pick_f rfl rfl rfl g1) rfl ?_
  refine q0 17 162 9 rfl rfl (T_move rfl rfl) rfl ?_
  refine k_split (d := 17) rfl (fun g3 => ?_) (fun g3 => ?_)
  ·have h3 := c_gtr_t g3
   refine k_no (d := 18) (j' := 10) rfl rfl rfl (g_ft rfl rfl rfl g3) ?_
   refine k_no (d := 19) (j' := 11) rfl rfl rfl (g_ft rfl rfl rfl g3) ?_
   refine k_no (d := 20) (j' := 12) rfl rfl rfl (g_ft rfl rfl rfl g3) ?_
   refine k_no (d := 21) (j' := 13) rfl rfl rfl (g_ft rfl rfl rfl g3) ?_
   refine q0 22 242 14 rfl rfl (T_pick_t rfl rfl rfl g3) rfl ?_
   refine k_done rfl ?_
   refine thenK_n ?_
   refine W_cond rfl (fun g4 => ?_) (fun g4 => ?_)
   ·skip
    refine W_seq ?_
    refine W_seqK (b' := 274) rfl rfl ?_
    refine q0 6 258 1 rfl rfl (T_assign rfl rfl) rfl ?_
    refine k_done rfl ?_
    refine thenK_n ?_
    refine W_ret ?_
    refine thenK_r ?_
    exact .mk [] (.inr rfl) (.tmp rfl (.nil)) (by first | rfl | (simp only [resLV, LV.ren, LV.v.injEq, Value.bool.injEq]; first | exact one_no1 (by omega) | exact one_no2 (j := j) (by omega) (by assumption) | exact one_no3 (j := j) (i := i) (by omega) (by omega) (by assumption) | exact one_yes (by omega) (by omega) (fun i h => hJ.2 i (by omega)))) (.nil) rfl
   ·exact absurd (g4.symm.trans rfl) (by decide)
  ·have h3 := c_gtr_f g3
   refine k_op0 (d := 18) (b := 178) (j' := 10) rfl rfl rfl rfl (g_ff rfl rfl rfl g3) (T_fa D (m := 1) rfl rfl rfl rfl rfl rfl) rfl ?_
   refine k_op0 (d := 19) (b := 194) (j' := 11) rfl rfl rfl rfl (g_ff rfl rfl rfl g3) (T_load_b D rfl rfl rfl rfl rfl rfl) rfl ?_
   refine k_op0 (d := 20) (b := 210) (j' := 12) rfl rfl rfl rfl (g_ff rfl rfl rfl g3) (T_len D rfl rfl rfl rfl rfl rfl) rfl ?_
   refine k_op0 (d := 21) (b := 226) (j' := 13) rfl rfl rfl rfl (g_ff rfl rfl rfl g3) (T_cmp rfl rfl rfl rfl) rfl ?_
   refine q0 22 242 14 rfl rfl (T_pick_f rfl rfl rfl g3) rfl ?_
   refine k_done rfl ?_
   refine thenK_n ?_
   refine W_cond rfl (fun g5 => ?_) (fun g5 => ?_)
   ·have h5 := c_eql_t g5
    refine W_seq ?_
    refine W_seqK (b' := 274) rfl rfl ?_
    refine q0 6 258 1 rfl rfl (T_assign rfl rfl) rfl ?_
    refine k_done rfl ?_
    refine thenK_n ?_
    refine W_ret ?_
    refine thenK_r ?_
    exact .mk [] (.inr rfl) (.tmp rfl (.nil)) (by first | rfl | (simp only [resLV, LV.ren, LV.v.injEq, Value.bool.injEq]; first | exact one_no1 (by omega) | exact one_no2 (j := j) (by omega) (by assumption) | exact one_no3 (j := j) (i := i) (by omega) (by omega) (by assumption) | exact one_yes (by omega) (by omega) (fun i h => hJ.2 i (by omega)))) (.nil) rfl
   ·have h5 := c_eql_f g5
    refine W_skip ?_
    refine thenK_n ?_
    refine W_seq ?_
    refine W_seq ?_
    refine W_seqK (b' := 274) rfl rfl ?_
    refine q0 7 258 1 rfl rfl (T_assign rfl rfl) rfl ?_
    refine k_done rfl ?_
    refine thenK_n ?_
    refine W_block ?_
    refine W_loop (ι := Nat) 3 (fun j => ⟨[(1, .v (.int .i64 number)), (2, .v (.int .i64 words)), (3, .p 2 0), (7, .v (.int .i64 (j : Int)))], [(1, .fz 5 (f.blocks.map eBlock)), (2, .box 29 [.v (.int .i64 f.regs), .r 1])]⟩) (fun j => j ≤ f.blocks.length ∧ ∀ i, i < j → blockB (f.blocks.getD i default) f.blocks.length number f.regs words = true) (fun j => f.blocks.length - j) (0) (by exact ⟨Nat.zero_le _, fun i h => absurd h (Nat.not_lt_zero _)⟩) ?_ (fun j hJ => ?_)
    ·exact ⟨[(2, 2)], .eq rfl (.eq rfl (.same rfl rfl (.eq rfl (.nil) (by first | rfl | simp))) (by first | rfl | simp)) (by first | rfl | simp), .fzE rfl (.box (by first | rfl | simp) (.nil)) (by first | rfl | simp), rfl⟩
    refine W_seq ?_
    refine W_seq ?_
    refine W_seqK (b' := 83) rfl rfl ?_
    refine q0 23 3 1 rfl rfl (T_move rfl rfl) rfl ?_
    refine q0 24 19 2 rfl rfl (T_fa D (m := 1) rfl rfl rfl rfl rfl rfl) rfl ?_
    refine q0 25 35 3 rfl rfl (T_load_b D rfl rfl rfl rfl rfl rfl) rfl ?_
    refine q0 26 51 4 rfl rfl (T_len D rfl rfl rfl rfl rfl rfl) rfl ?_
    refine q0 27 67 5 rfl rfl (T_cmp rfl rfl rfl rfl) rfl ?_
    refine k_done rfl ?_
    refine thenK_n ?_
    refine W_cond rfl (fun g6 => ?_) (fun g6 => ?_)
    ·have h6 := c_lss_t g6
     refine W_skip ?_
     refine thenK_n ?_
     refine W_seq ?_
     refine W_block ?_
     refine W_seq ?_
     refine W_seq ?_
     refine W_anyK (b' := 275) rfl rfl rfl ?_
     refine q0 30 83 1 rfl rfl (T_fa D (m := 1) rfl rfl rfl rfl rfl rfl) rfl ?_
     refine q0 31 99 2 rfl rfl (T_load_b D rfl rfl rfl rfl rfl rfl) rfl ?_
     refine q0 32 115 3 rfl rfl (T_move rfl rfl) rfl ?_
     first | refine q0 33 131 4 rfl rfl (T_indexAddr D rfl rfl rfl rfl rfl rfl rfl rfl (by first | assumption | omega | (simp; omega))) rfl ?_ | refine q0 33 131 4 rfl rfl (T_indexAddrZ D rfl rfl rfl rfl rfl rfl rfl rfl (by first | assumption | omega | (simp; omega)) (by first | assumption | omega | (simp; omega))) rfl ?_
     refine q1 34 147 5 rfl rfl (T_ldEA D (l := [.r 147, .v _, .v _, .v _, .v _]) (nn := 1) (upd := [(147, .fz 8 _)]) rfl rfl rfl rfl rfl (by first | assumption | omega | (simp; omega)) rfl rfl rfl rfl rfl) rfl ?_
     refine q0 35 163 6 rfl rfl (T_fa D (m := 1) rfl rfl rfl rfl rfl rfl) rfl ?_
     refine q0 36 179 7 rfl rfl (T_load_b D rfl rfl rfl rfl rfl rfl) rfl ?_
     refine q0 37 195 8 rfl rfl (T_len D rfl rfl rfl rfl rfl rfl) rfl ?_
     refine q0 38 211 9 rfl rfl (T_fa D (m := 0) rfl rfl rfl rfl rfl rfl) rfl ?_
     refine q0 39 227 10 rfl rfl (T_load_b D rfl rfl rfl rfl rfl rfl) rfl ?_
     refine q0 40 243 11 rfl rfl (T_callV (lvs := [_, _, _]) (L := [(1, 147)]) (ends_spec _ _ _) body87 rfl rfl rfl rfl (.fz rfl (.nil)) rfl) rfl ?_
     refine q0 41 259 12 rfl rfl (T_not rfl rfl) rfl ?_
     refine k_done rfl ?_
     refine ⟨rfl, ?_⟩
     refine thenK_n ?_
     refine W_cond rfl (fun g7 => ?_) (fun g7 => ?_)
     ·have h7 := g7; (try simp only [cmpB, decide_eq_true_eq, decide_eq_false_iff_not, beq_iff_eq, beq_eq_false_iff_ne, bne_iff_ne, ne_eq, bne_eq_false_iff_eq, Bool.not_eq_true', Bool.not_eq_false', Int.not_lt, Int.not_le] at h7)
      refine W_seq ?_
      refine W_seqK (b' := 291) rfl rfl ?_
      refine q0 6 275 1 rfl rfl (T_assign rfl rfl) rfl ?_
      refine k_done rfl ?_
      refine thenK_n ?_
      refine W_ret ?_
      refine thenK_r ?_
      refine blockK_r ?_
      refine thenK_r ?_
      refine thenK_r ?_
      refine blockK_r ?_
      refine thenK_r ?_
      exact .mk [] (.inr rfl) (.tmp rfl (.nil)) (by first | rfl | (simp only [resLV, LV.ren, LV.v.injEq, Value.bool.injEq]; first | exact one_no1 (by omega) | exact one_no2 (j := j) (by omega) (by assumption) | exact one_no3 (j := j) (i := i) (by omega) (by omega) (by assumption) | exact one_yes (by omega) (by omega) (fun i h => hJ.2 i (by omega)))) (.nil) rfl
     ·have h7 := g7; (try simp only [cmpB, decide_eq_true_eq, decide_eq_false_iff_not, beq_iff_eq, beq_eq_false_iff_ne, bne_iff_ne, ne_eq, bne_eq_false_iff_eq, Bool.not_eq_true', Bool.not_eq_false', Int.not_lt, Int.not_le] at h7)
      refine W_skip ?_
      refine thenK_n ?_
      refine W_seq ?_
      refine W_seqK (b' := 291) rfl rfl ?_
      refine q0 8 275 1 rfl rfl (T_assign rfl rfl) rfl ?_
      refine k_done rfl ?_
      refine thenK_n ?_
      refine W_block ?_
      have hij := hf.2 (f.blocks.getD j default) (getD_mem (by omega))
      have hends : endsB (f.blocks.getD j default) f.blocks.length f.regs = true := by assumption
      refine W_loop (ι := Nat) 3 (fun i => ⟨[(1, .v (.int .i64 number)), (2, .v (.int .i64 words)), (3, .p 2 0), (7, .v (.int .i64 (j : Int))), (8, .v (.int .i64 (i : Int)))], [(1, .fz 5 (f.blocks.map eBlock)), (2, .box 29 [.v (.int .i64 f.regs), .r 1])]⟩) (fun i => i ≤ (f.blocks.getD j default).ins.length ∧ ∀ m, m < i → fitsB ((f.blocks.getD j default).ins.getD m default) number f.regs words = true) (fun i => (f.blocks.getD j default).ins.length - i) (0) (by exact ⟨Nat.zero_le _, fun m h => absurd h (Nat.not_lt_zero _)⟩) ?_ (fun i hI => ?_)
      ·exact ⟨[(2, 2)], .eq rfl (.eq rfl (.same rfl rfl (.eq rfl (.eq rfl (.nil) (by first | rfl | simp)) (by first | rfl | simp))) (by first | rfl | simp)) (by first | rfl | simp), .fzE rfl (.box (by first | rfl | simp) (.nil)) (by first | rfl | simp), rfl⟩
      refine W_seq ?_
      refine W_seq ?_
      refine W_seqK (b' := 147) rfl rfl ?_
      refine q0 42 3 1 rfl rfl (T_move rfl rfl) rfl ?_
      refine q0 43 19 2 rfl rfl (T_fa D (m := 1) rfl rfl rfl rfl rfl rfl) rfl ?_
      refine q0 44 35 3 rfl rfl (T_load_b D rfl rfl rfl rfl rfl rfl) rfl ?_
      refine q0 45 51 4 rfl rfl (T_move rfl rfl) rfl ?_
      first | refine q0 46 67 5 rfl rfl (T_indexAddr D rfl rfl rfl rfl rfl rfl rfl rfl (by first | assumption | omega | (simp; omega))) rfl ?_ | refine q0 46 67 5 rfl rfl (T_indexAddrZ D rfl rfl rfl rfl rfl rfl rfl rfl (by first | assumption | omega | (simp; omega)) (by first | assumption | omega | (simp; omega))) rfl ?_
      refine q0 47 83 6 rfl rfl (T_fae D (m := 0) rfl rfl rfl rfl rfl rfl) rfl ?_
      refine q1 48 99 7 rfl rfl (T_ldE D (lv := .r 99) (nn := 1) (upd := [(99, .fz 8 _)]) rfl rfl rfl rfl rfl (by first | assumption | omega | (simp; omega)) rfl rfl rfl rfl) rfl ?_
      refine q0 49 115 8 rfl rfl (T_len D rfl rfl rfl rfl rfl rfl) rfl ?_
      refine q0 50 131 9 rfl rfl (T_cmp rfl rfl rfl rfl) rfl ?_
      refine k_done rfl ?_
      refine thenK_n ?_
      refine W_cond rfl (fun g8 => ?_) (fun g8 => ?_)
      ·have h8 := c_lss_t g8
       refine W_skip ?_
       refine thenK_n ?_
       refine W_seq ?_
       refine W_block ?_
       refine W_seq ?_
       refine W_anyK (b' := 387) rfl rfl rfl ?_
       refine q0 53 147 1 rfl rfl (T_fa D (m := 1) rfl rfl rfl rfl rfl rfl) rfl ?_
       refine q0 54 163 2 rfl rfl (T_load_b D rfl rfl rfl rfl rfl rfl) rfl ?_
       refine q0 55 179 3 rfl rfl (T_move rfl rfl) rfl ?_
       first | refine q0 56 195 4 rfl rfl (T_indexAddr D rfl rfl rfl rfl rfl rfl rfl rfl (by first | assumption | omega | (simp; omega))) rfl ?_ | refine q0 56 195 4 rfl rfl (T_indexAddrZ D rfl rfl rfl rfl rfl rfl rfl rfl (by first | assumption | omega | (simp; omega)) (by first | assumption | omega | (simp; omega))) rfl ?_
       refine q0 57 211 5 rfl rfl (T_fae D (m := 0) rfl rfl rfl rfl rfl rfl) rfl ?_
       refine q1 58 227 6 rfl rfl (T_ldE D (lv := .r 227) (nn := 1) (upd := [(227, .fz 8 _)]) rfl rfl rfl rfl rfl (by first | assumption | omega | (simp; omega)) rfl rfl rfl rfl) rfl ?_
       refine q0 59 243 7 rfl rfl (T_move rfl rfl) rfl ?_
       first | refine q0 60 259 8 rfl rfl (T_indexAddr D rfl rfl rfl rfl rfl rfl rfl rfl (by first | assumption | omega | (simp; omega))) rfl ?_ | refine q0 60 259 8 rfl rfl (T_indexAddrZ D rfl rfl rfl rfl rfl rfl rfl rfl (by first | assumption | omega | (simp; omega)) (by first | assumption | omega | (simp; omega))) rfl ?_
       refine q0 61 275 9 rfl rfl (T_ldEA D (l := [.v _, .v _, .v _, .v _, .v _, .v _, .v _, .v _]) (nn := 0) (upd := []) rfl rfl rfl rfl rfl (by first | assumption | omega | (simp; omega)) rfl rfl rfl rfl rfl) rfl ?_
       refine q0 62 291 10 rfl rfl (T_move rfl rfl) rfl ?_
       refine q0 63 307 11 rfl rfl (T_fa D (m := 0) rfl rfl rfl rfl rfl rfl) rfl ?_
       refine q0 64 323 12 rfl rfl (T_load_b D rfl rfl rfl rfl rfl rfl) rfl ?_
       refine q0 65 339 13 rfl rfl (T_move rfl rfl) rfl ?_
       refine q0 66 355 14 rfl rfl (T_callV (lvs := [_, _, _, _]) (L := []) (fits_spec _ _ _ _ hw) body88 rfl rfl rfl rfl (.nil) rfl) rfl ?_
       refine q0 67 371 15 rfl rfl (T_not rfl rfl) rfl ?_
       refine k_done rfl ?_
       refine ⟨rfl, ?_⟩
       refine thenK_n ?_
       refine W_cond rfl (fun g9 => ?_) (fun g9 => ?_)
       ·have h9 := g9; (try simp only [cmpB, decide_eq_true_eq, decide_eq_false_iff_not, beq_iff_eq, beq_eq_false_iff_ne, bne_iff_ne, ne_eq, bne_eq_false_iff_eq, Bool.not_eq_true', Bool.not_eq_false', Int.not_lt, Int.not_le] at h9)
        refine W_seq ?_
        refine W_seqK (b' := 403) rfl rfl ?_
        refine q0 6 387 1 rfl rfl (T_assign rfl rfl) rfl ?_
        refine k_done rfl ?_
        refine thenK_n ?_
        refine W_ret ?_
        refine blockK_r ?_
        refine thenK_r ?_
        refine thenK_r ?_
        refine blockK_r ?_
        refine blockK_r ?_
        refine thenK_r ?_
        refine thenK_r ?_
        refine blockK_r ?_
        refine thenK_r ?_
        exact .mk [] (.inr rfl) (.tmp rfl (.nil)) (by first | rfl | (simp only [resLV, LV.ren, LV.v.injEq, Value.bool.injEq]; first | exact one_no1 (by omega) | exact one_no2 (j := j) (by omega) (by assumption) | exact one_no3 (j := j) (i := i) (by omega) (by omega) (by assumption) | exact one_yes (by omega) (by omega) (fun i h => hJ.2 i (by omega)))) (.nil) rfl
       ·have h9 := g9; (try simp only [cmpB, decide_eq_true_eq, decide_eq_false_iff_not, beq_iff_eq, beq_eq_false_iff_ne, bne_iff_ne, ne_eq, bne_eq_false_iff_eq, Bool.not_eq_true', Bool.not_eq_false', Int.not_lt, Int.not_le] at h9)
        refine W_skip ?_
        refine blockK_n ?_
        refine thenK_n ?_
        refine W_seqK (b' := 435) rfl rfl ?_
        refine q0 51 387 1 rfl rfl (T_move rfl rfl) rfl ?_
        refine q0 52 403 2 rfl rfl (T_add64 rfl rfl rfl (by first | assumption | omega | (simp; omega))) rfl ?_
        refine q0 8 419 3 rfl rfl (T_assign rfl rfl) rfl ?_
        refine k_done rfl ?_
        refine thenK_n ?_
        refine ⟨i + 1, by (try dsimp only); exact ⟨by omega, fun m hm => by rcases Nat.lt_or_ge m i with h | h; exact hI.2 m h; rw [show m = i by omega]; assumption⟩, by (try dsimp only); omega, ?_⟩
        exact ⟨[(2, 2)], .eq rfl (.eq rfl (.same rfl rfl (.eq rfl (.eq rfl (.nil) (by first | rfl | simp)) rfl)) rfl) rfl, .fzE rfl (.box (by first | rfl | simp) (.nil)) rfl, rfl⟩
      ·have h8 := c_lss_f g8
       refine W_exit ?_
       refine thenK_e ?_
       refine thenK_e ?_
       refine blockK_hit ?_
       refine blockK_n ?_
       refine thenK_n ?_
       refine W_seqK (b' := 195) rfl rfl ?_
       refine q0 28 147 1 rfl rfl (T_move rfl rfl) rfl ?_
       refine q0 29 163 2 rfl rfl (T_add64 rfl rfl rfl (by first | assumption | omega | (simp; omega))) rfl ?_
       refine q0 7 179 3 rfl rfl (T_assign rfl rfl) rfl ?_
       refine k_done rfl ?_
       refine thenK_n ?_
       refine ⟨j + 1, by (try dsimp only); exact ⟨by omega, fun i1 h => by rcases Nat.lt_or_ge i1 j with h0 | h0; exact hJ.2 i1 h0; rw [show i1 = j by omega]; exact blockB_t hends (fun m hm => hI.2 m (by omega))⟩, by (try dsimp only); omega, ?_⟩
       exact ⟨[(2, 2)], .eq rfl (.eq rfl (.same rfl rfl (.eq rfl (.nil) (by first | rfl | simp))) rfl) rfl, .fzE rfl (.box (by first | rfl | simp) (.nil)) rfl, rfl⟩
    ·have h6 := c_lss_f g6
     refine W_exit ?_
     refine thenK_e ?_
     refine thenK_e ?_
     refine blockK_hit ?_
     refine thenK_n ?_
     refine W_seq ?_
     refine W_seqK (b' := 99) rfl rfl ?_
     refine q0 6 83 1 rfl rfl (T_assign rfl rfl) rfl ?_
     refine k_done rfl ?_
     refine thenK_n ?_
     refine W_ret ?_
     exact .mk [] (.inr rfl) (.tmp rfl (.nil)) (by first | rfl | (simp only [resLV, LV.ren, LV.v.injEq, Value.bool.injEq]; first | exact one_no1 (by omega) | exact one_no2 (j := j) (by omega) (by assumption) | exact one_no3 (j := j) (i := i) (by omega) (by omega) (by assumption) | exact one_yes (by omega) (by omega) (fun i h => hJ.2 i (by omega)))) (.nil) rfl
end Lg
end Go.Proofs.Ytpfhmodjjljpjaa

namespace Go.Proofs.Ytpfhmodjjljpjaa
open Go.RowKit
namespace Lg
def PgOk (p : GProg) : Prop := p.funcs.length ≤ 140737488351232 ∧ ∀ f ∈ p.funcs, FnOk f
theorem pgOk {p : GProg} (h : WProg p) : PgOk p := ⟨by have := h.len; omega, fun f hf => fnOk (h.each f hf)⟩
theorem right_no1 {p : GProg} (h : ¬ (0 ≤ p.words ∧ p.words ≤ 1048576 ∧ ¬ (p.funcs.length : Int) = 0)) : false = rightB p := by
  unfold rightB
  rw [decide_eq_false (fun hk => h ⟨hk.1, hk.2.1, fun e => hk.2.2 (List.eq_nil_of_length_eq_zero (by omega))⟩)]
  rfl
theorem right_no2 {p : GProg} {j : Nat} (hj : j < p.funcs.length) (h : oneB (p.funcs.getD j default) (j : Int) p.words = false) : false = rightB p := by
  unfold rightB
  rw [range_all_false hj h, Bool.and_false]
theorem right_yes {p : GProg} (h : 0 ≤ p.words ∧ p.words ≤ 1048576) (h0 : ¬ (p.funcs.length : Int) = 0) (hb : ∀ i, i < p.funcs.length → oneB (p.funcs.getD i default) (i : Int) p.words = true) : true = rightB p := by
  unfold rightB
  rw [decide_eq_true ⟨h.1, h.2, fun e => h0 (by rw [e]; rfl)⟩, range_all_true hb]
  rfl
def szB (f : GFn) (i : Nat) : Nat := ((f.blocks.take i).map (fun b => 1 + b.ins.length)).sum
def szP (p : GProg) (j : Nat) : Nat := ((p.funcs.take j).map (fun f => szB f f.blocks.length)).sum
theorem szB_succ {f : GFn} {i : Nat} (h : i < f.blocks.length) : szB f (i + 1) = szB f i + 1 + (f.blocks.getD i default).ins.length := by
  unfold szB
  rw [take_succ_getD h]
  simp only [List.map_append, List.sum_append, List.map_cons, List.map_nil, List.sum_cons, List.sum_nil]
  omega
theorem szP_succ {p : GProg} {j : Nat} (h : j < p.funcs.length) : szP p (j + 1) = szP p j + szB (p.funcs.getD j default) (p.funcs.getD j default).blocks.length := by
  unfold szP
  rw [take_succ_getD h]
  simp only [List.map_append, List.sum_append, List.map_cons, List.map_nil, List.sum_cons, List.sum_nil]
  omega
theorem szB_le {f : GFn} (hf : FnOk f) : ∀ (i : Nat), i ≤ f.blocks.length → szB f i ≤ i * 140737488351233
  | 0, _ => by simp [szB]
  | i + 1, h => by
    have h1 := szB_le hf i (by omega)
    have h2 := hf.2 (f.blocks.getD i default) (getD_mem (by omega))
    rw [szB_succ (by omega), Nat.succ_mul]
    omega
def smallF (f : GFn) : Bool := decide (f.regs ≤ 60) && decide ((f.blocks.length : Int) ≤ 40)
def smallG (p : GProg) (most : Int) : Bool := decide (p.words ≤ 500 ∧ (p.funcs.length : Int) ≤ 10) && p.funcs.all smallF && decide ((szP p p.funcs.length : Int) ≤ most) && rightB p
theorem small_no1 {p : GProg} {most : Int} (h : ¬ (p.words ≤ 500 ∧ (p.funcs.length : Int) ≤ 10)) : false = smallG p most := by
  unfold smallG
  rw [decide_eq_false h]; rfl
theorem small_no2 {p : GProg} {most : Int} {j : Nat} (hj : j < p.funcs.length) (h : ¬ ((p.funcs.getD j default).regs ≤ 60 ∧ ((p.funcs.getD j default).blocks.length : Int) ≤ 40)) : false = smallG p most := by
  unfold smallG
  rw [all_false_at hj (by
    unfold smallF
    by_cases h1 : (p.funcs.getD j default).regs ≤ 60
    · rw [decide_eq_false (fun h2 => h ⟨h1, h2⟩), Bool.and_false]
    · rw [decide_eq_false h1]; rfl), Bool.and_false]; rfl
theorem small_yes {p : GProg} {most : Int} {x : Bool} (h : p.words ≤ 500 ∧ (p.funcs.length : Int) ≤ 10) (hj : ∀ j, j < p.funcs.length → (p.funcs.getD j default).regs ≤ 60 ∧ ((p.funcs.getD j default).blocks.length : Int) ≤ 40) (hx : x = (decide ((szP p p.funcs.length : Int) ≤ most) && rightB p)) : x = smallG p most := by
  unfold smallG
  rw [decide_eq_true h, all_iff_getD.2 (fun i hi => by unfold smallF; rw [decide_eq_true (hj i hi).1, decide_eq_true (hj i hi).2]; rfl), hx]
  rfl
end Lg
end Go.Proofs.Ytpfhmodjjljpjaa

namespace Go.Proofs.Ytpfhmodjjljpjaa
open Go.RowKit
namespace Lg
set_option maxRecDepth 100000
set_option linter.unusedVariables false
set_option linter.unusedSimpArgs false
theorem body35 : (Try.prog.funcs[35]?).map (fun fn => (fn.name == "runtime.NumGoroutine" || fn.body.isNone)) = some false := by kernel_rfl
theorem right_spec (p : GProg) (hp : PgOk p) : Spec Try.prog 35 [.agg [.v (.int .i64 p.words), .r 1]] 2 [(1, .fz 2 (p.funcs.map eFn))] (.v (.bool (rightB p))) 2 [] := by
 have hp1 := hp.1
 refine spec_of D (fn := Try.f35) rfl rfl (Nat.le_of_ble_eq_true rfl) ?_
 refine W_seq ?_
 refine W_seqK (b' := 34) rfl rfl ?_
 refine q1 1 2 1 rfl rfl (T_box rfl rfl flat_agg) rfl ?_
 refine q0 2 18 2 rfl rfl (T_assign rfl rfl) rfl ?_
 refine k_done rfl ?_
 refine thenK_n ?_
 refine W_seq ?_
 refine W_seq ?_
 refine W_seqK (b' := 258) rfl rfl ?_
 refine q0 4 34 1 rfl rfl (T_fa D (m := 0) rfl rfl rfl rfl rfl rfl) rfl ?_
 refine q0 5 50 2 rfl rfl (T_load_b D rfl rfl rfl rfl rfl rfl) rfl ?_
 refine q0 6 66 3 rfl rfl (T_cmp rfl rfl rfl rfl) rfl ?_
 refine q0 7 82 4 rfl rfl (T_move rfl rfl) rfl ?_
 refine k_split (d := 7) rfl (fun g1 => ?_) (fun g1 => ?_)
 ·have h1 := c_lss_t g1
  refine k_no (d := 8) (j' := 5) rfl rfl rfl (g_ft rfl rfl rfl g1) ?_
  refine k_no (d := 9) (j' := 6) rfl rfl rfl (g_ft rfl rfl rfl g1) ?_
  refine k_no (d := 10) (j' := 7) rfl rfl rfl (g_ft rfl rfl rfl g1) ?_
  refine q0 11 146 8 rfl rfl (T_pick_t rfl rfl rfl g1) rfl ?_
  refine q0 12 162 9 rfl rfl (T_move rfl rfl) rfl ?_
  refine k_no (d := 13) (j' := 10) rfl rfl rfl (g_ft rfl rfl rfl rfl) ?_
  refine k_no (d := 14) (j' := 11) rfl rfl rfl (g_ft rfl rfl rfl rfl) ?_
  refine k_no (d := 15) (j' := 12) rfl rfl rfl (g_ft rfl rfl rfl rfl) ?_
  refine k_no (d := 16) (j' := 13) rfl rfl rfl (g_ft rfl rfl rfl rfl) ?_
  refine q0 17 242 14 rfl rfl (T_pick_t rfl rfl rfl rfl) rfl ?_
  refine k_done rfl ?_
  refine thenK_n ?_
  refine W_cond rfl (fun g2 => ?_) (fun g2 => ?_)
  ·skip
   refine W_seq ?_
   refine W_seqK (b' := 274) rfl rfl ?_
   refine q0 2 258 1 rfl rfl (T_assign rfl rfl) rfl ?_
   refine k_done rfl ?_
   refine thenK_n ?_
   refine W_ret ?_
   refine thenK_r ?_
   exact .mk [] (.inr rfl) (.tmp rfl (.nil)) (by first | rfl | (simp only [resLV, LV.ren, LV.v.injEq, Value.bool.injEq]; first | exact right_no1 (by omega) | exact right_no2 (j := j) (by omega) (by assumption) | exact right_yes (by omega) (by omega) (fun i h => hJ.2 i (by omega)))) (.nil) rfl
  ·exact absurd (g2.symm.trans rfl) (by decide)
 ·have h1 := c_lss_f g1
  refine k_op0 (d := 8) (b := 98) (j' := 5) rfl rfl rfl rfl (g_ff rfl rfl rfl g1) (T_fa D (m := 0) rfl rfl rfl rfl rfl rfl) rfl ?_
  refine k_op0 (d := 9) (b := 114) (j' := 6) rfl rfl rfl rfl (g_ff rfl rfl rfl g1) (T_load_b D rfl rfl rfl rfl rfl rfl) rfl ?_
  refine k_op0 (d := 10) (b := 130) (j' := 7) rfl rfl rfl rfl (g_ff rfl rfl rfl g1) (T_cmp rfl rfl rfl rfl) rfl ?_
  refine q0 11 146 8 rfl rfl (T_pick_f rfl rfl rfl g1) rfl ?_
  refine q0 12 162 9 rfl rfl (T_move rfl rfl) rfl ?_
  refine k_split (d := 12) rfl (fun g3 => ?_) (fun g3 => ?_)
  ·have h3 := c_gtr_t g3
   refine k_no (d := 13) (j' := 10) rfl rfl rfl (g_ft rfl rfl rfl g3) ?_
   refine k_no (d := 14) (j' := 11) rfl rfl rfl (g_ft rfl rfl rfl g3) ?_
   refine k_no (d := 15) (j' := 12) rfl rfl rfl (g_ft rfl rfl rfl g3) ?_
   refine k_no (d := 16) (j' := 13) rfl rfl rfl (g_ft rfl rfl rfl g3) ?_
   refine q0 17 242 14 rfl rfl (T_pick_t rfl rfl rfl g3) rfl ?_
   refine k_done rfl ?_
   refine thenK_n ?_
   refine W_cond rfl (fun g4 => ?_) (fun g4 => ?_)
   ·skip
    refine W_seq ?_
    refine W_seqK (b' := 274) rfl rfl ?_
    refine q0 2 258 1 rfl rfl (T_assign rfl rfl) rfl ?_
    refine k_done rfl ?_
    refine thenK_n ?_
    refine W_ret ?_
    refine thenK_r ?_
    exact .mk [] (.inr rfl) (.tmp rfl (.nil)) (by first | rfl | (simp only [resLV, LV.ren, LV.v.injEq, Value.bool.injEq]; first | exact right_no1 (by omega) | exact right_no2 (j := j) (by omega) (by assumption) | exact right_yes (by omega) (by omega) (fun i h => hJ.2 i (by omega)))) (.nil) rfl
   ·exact absurd (g4.symm.trans rfl) (by decide)
  ·have h3 := c_gtr_f g3
   refine k_op0 (d := 13) (b := 178) (j' := 10) rfl rfl rfl rfl (g_ff rfl rfl rfl g3) (T_fa D (m := 1) rfl rfl rfl rfl rfl rfl) rfl ?_
   refine k_op0 (d := 14) (b := 194) (j' := 11) rfl rfl rfl rfl (g_ff rfl rfl rfl g3) (T_load_b D rfl rfl rfl rfl rfl rfl) rfl ?_
   refine k_op0 (d := 15) (b := 210) (j' := 12) rfl rfl rfl rfl (g_ff rfl rfl rfl g3) (T_len D rfl rfl rfl rfl rfl rfl) rfl ?_
   refine k_op0 (d := 16) (b := 226) (j' := 13) rfl rfl rfl rfl (g_ff rfl rfl rfl g3) (T_cmp rfl rfl rfl rfl) rfl ?_
   refine q0 17 242 14 rfl rfl (T_pick_f rfl rfl rfl g3) rfl ?_
   refine k_done rfl ?_
   refine thenK_n ?_
   refine W_cond rfl (fun g5 => ?_) (fun g5 => ?_)
   ·have h5 := c_eql_t g5
    refine W_seq ?_
    refine W_seqK (b' := 274) rfl rfl ?_
    refine q0 2 258 1 rfl rfl (T_assign rfl rfl) rfl ?_
    refine k_done rfl ?_
    refine thenK_n ?_
    refine W_ret ?_
    refine thenK_r ?_
    exact .mk [] (.inr rfl) (.tmp rfl (.nil)) (by first | rfl | (simp only [resLV, LV.ren, LV.v.injEq, Value.bool.injEq]; first | exact right_no1 (by omega) | exact right_no2 (j := j) (by omega) (by assumption) | exact right_yes (by omega) (by omega) (fun i h => hJ.2 i (by omega)))) (.nil) rfl
   ·have h5 := c_eql_f g5
    refine W_skip ?_
    refine thenK_n ?_
    refine W_seq ?_
    refine W_seq ?_
    refine W_seqK (b' := 274) rfl rfl ?_
    refine q0 3 258 1 rfl rfl (T_assign rfl rfl) rfl ?_
    refine k_done rfl ?_
    refine thenK_n ?_
    refine W_block ?_
    refine W_loop (ι := Nat) 3 (fun j => ⟨[(1, .p 2 0), (3, .v (.int .i64 (j : Int)))], [(1, .fz 2 (p.funcs.map eFn)), (2, .box 24 [.v (.int .i64 p.words), .r 1])]⟩) (fun j => j ≤ p.funcs.length ∧ ∀ i, i < j → oneB (p.funcs.getD i default) (i : Int) p.words = true) (fun j => p.funcs.length - j) (0) (by exact ⟨Nat.zero_le _, fun i h => absurd h (Nat.not_lt_zero _)⟩) ?_ (fun j hJ => ?_)
    ·exact ⟨[(2, 2)], .same rfl rfl (.eq rfl (.nil) (by first | rfl | simp)), .fzE rfl (.box (by first | rfl | simp) (.nil)) (by first | rfl | simp), rfl⟩
    refine W_seq ?_
    refine W_seq ?_
    refine W_seqK (b' := 83) rfl rfl ?_
    refine q0 18 3 1 rfl rfl (T_move rfl rfl) rfl ?_
    refine q0 19 19 2 rfl rfl (T_fa D (m := 1) rfl rfl rfl rfl rfl rfl) rfl ?_
    refine q0 20 35 3 rfl rfl (T_load_b D rfl rfl rfl rfl rfl rfl) rfl ?_
    refine q0 21 51 4 rfl rfl (T_len D rfl rfl rfl rfl rfl rfl) rfl ?_
    refine q0 22 67 5 rfl rfl (T_cmp rfl rfl rfl rfl) rfl ?_
    refine k_done rfl ?_
    refine thenK_n ?_
    refine W_cond rfl (fun g6 => ?_) (fun g6 => ?_)
    ·have h6 := c_lss_t g6
     refine W_skip ?_
     refine thenK_n ?_
     refine W_seq ?_
     refine W_block ?_
     refine W_seq ?_
     refine W_anyK (b' := 243) rfl rfl rfl ?_
     refine q0 25 83 1 rfl rfl (T_fa D (m := 1) rfl rfl rfl rfl rfl rfl) rfl ?_
     refine q0 26 99 2 rfl rfl (T_load_b D rfl rfl rfl rfl rfl rfl) rfl ?_
     refine q0 27 115 3 rfl rfl (T_move rfl rfl) rfl ?_
     first | refine q0 28 131 4 rfl rfl (T_indexAddr D rfl rfl rfl rfl rfl rfl rfl rfl (by first | assumption | omega | (simp; omega))) rfl ?_ | refine q0 28 131 4 rfl rfl (T_indexAddrZ D rfl rfl rfl rfl rfl rfl rfl rfl (by first | assumption | omega | (simp; omega)) (by first | assumption | omega | (simp; omega))) rfl ?_
     refine q1 29 147 5 rfl rfl (T_ldEA D (l := [.v _, .r 147]) (nn := 1) (upd := [(147, .fz 5 _)]) rfl rfl rfl rfl rfl (by first | assumption | omega | (simp; omega)) rfl rfl rfl rfl rfl) rfl ?_
     refine q0 30 163 6 rfl rfl (T_move rfl rfl) rfl ?_
     refine q0 31 179 7 rfl rfl (T_fa D (m := 0) rfl rfl rfl rfl rfl rfl) rfl ?_
     refine q0 32 195 8 rfl rfl (T_load_b D rfl rfl rfl rfl rfl rfl) rfl ?_
     refine q0 33 211 9 rfl rfl (T_callV (lvs := [_, _, _]) (L := [(1, 147)]) (one_fn_spec _ _ _ (hp.2 _ (getD_mem (by omega))) (by omega)) body47 rfl rfl rfl rfl (.fz rfl (.nil)) rfl) rfl ?_
     refine q0 34 227 10 rfl rfl (T_not rfl rfl) rfl ?_
     refine k_done rfl ?_
     refine ⟨rfl, ?_⟩
     refine thenK_n ?_
     refine W_cond rfl (fun g7 => ?_) (fun g7 => ?_)
     ·have h7 := g7; (try simp only [cmpB, decide_eq_true_eq, decide_eq_false_iff_not, beq_iff_eq, beq_eq_false_iff_ne, bne_iff_ne, ne_eq, bne_eq_false_iff_eq, Bool.not_eq_true', Bool.not_eq_false', Int.not_lt, Int.not_le] at h7)
      refine W_seq ?_
      refine W_seqK (b' := 259) rfl rfl ?_
      refine q0 2 243 1 rfl rfl (T_assign rfl rfl) rfl ?_
      refine k_done rfl ?_
      refine thenK_n ?_
      refine W_ret ?_
      refine blockK_r ?_
      refine thenK_r ?_
      refine thenK_r ?_
      refine blockK_r ?_
      refine thenK_r ?_
      exact .mk [] (.inr rfl) (.tmp rfl (.nil)) (by first | rfl | (simp only [resLV, LV.ren, LV.v.injEq, Value.bool.injEq]; first | exact right_no1 (by omega) | exact right_no2 (j := j) (by omega) (by assumption) | exact right_yes (by omega) (by omega) (fun i h => hJ.2 i (by omega)))) (.nil) rfl
     ·have h7 := g7; (try simp only [cmpB, decide_eq_true_eq, decide_eq_false_iff_not, beq_iff_eq, beq_eq_false_iff_ne, bne_iff_ne, ne_eq, bne_eq_false_iff_eq, Bool.not_eq_true', Bool.not_eq_false', Int.not_lt, Int.not_le] at h7)
      refine W_skip ?_
      refine blockK_n ?_
      refine thenK_n ?_
      refine W_seqK (b' := 291) rfl rfl ?_
      refine q0 23 243 1 rfl rfl (T_move rfl rfl) rfl ?_
      refine q0 24 259 2 rfl rfl (T_add64 rfl rfl rfl (by first | assumption | omega | (simp; omega))) rfl ?_
      refine q0 3 275 3 rfl rfl (T_assign rfl rfl) rfl ?_
      refine k_done rfl ?_
      refine thenK_n ?_
      refine ⟨j + 1, by (try dsimp only); exact ⟨by omega, fun i1 h => by rcases Nat.lt_or_ge i1 j with h0 | h0; exact hJ.2 i1 h0; rw [show i1 = j by omega]; assumption⟩, by (try dsimp only); omega, ?_⟩
      exact ⟨[(2, 2)], .same rfl rfl (.eq rfl (.nil) (by first | rfl | simp)), .fzE rfl (.box (by first | rfl | simp) (.nil)) rfl, rfl⟩
    ·have h6 := c_lss_f g6
     refine W_exit ?_
     refine thenK_e ?_
     refine thenK_e ?_
     refine blockK_hit ?_
     refine thenK_n ?_
     refine W_seq ?_
     refine W_seqK (b' := 99) rfl rfl ?_
     refine q0 2 83 1 rfl rfl (T_assign rfl rfl) rfl ?_
     refine k_done rfl ?_
     refine thenK_n ?_
     refine W_ret ?_
     exact .mk [] (.inr rfl) (.tmp rfl (.nil)) (by first | rfl | (simp only [resLV, LV.ren, LV.v.injEq, Value.bool.injEq]; first | exact right_no1 (by omega) | exact right_no2 (j := j) (by omega) (by assumption) | exact right_yes (by omega) (by omega) (fun i h => hJ.2 i (by omega)))) (.nil) rfl
theorem body25 : (Try.prog.funcs[25]?).map (fun fn => (fn.name == "runtime.NumGoroutine" || fn.body.isNone)) = some false := by kernel_rfl
theorem small30_spec (p : GProg) (most : Int) (hp : PgOk p) : Spec Try.prog 25 [.agg [.v (.int .i64 p.words), .r 1], .v (.int .i64 most)] 2 [(1, .fz 2 (p.funcs.map eFn))] (.v (.bool (smallG p most))) 2 [] := by
 have hp1 := hp.1
 refine spec_of D (fn := Try.f25) rfl rfl (Nat.le_of_ble_eq_true rfl) ?_
 refine W_seq ?_
 refine W_seqK (b' := 34) rfl rfl ?_
 refine q1 2 2 1 rfl rfl (T_box rfl rfl flat_agg) rfl ?_
 refine q0 4 18 2 rfl rfl (T_assign rfl rfl) rfl ?_
 refine k_done rfl ?_
 refine thenK_n ?_
 refine W_seq ?_
 refine W_seqK (b' := 50) rfl rfl ?_
 refine q0 5 34 1 rfl rfl (T_assign rfl rfl) rfl ?_
 refine k_done rfl ?_
 refine thenK_n ?_
 refine W_seq ?_
 refine W_seq ?_
 refine W_seqK (b' := 194) rfl rfl ?_
 refine q0 8 50 1 rfl rfl (T_fa D (m := 0) rfl rfl rfl rfl rfl rfl) rfl ?_
 refine q0 9 66 2 rfl rfl (T_load_b D rfl rfl rfl rfl rfl rfl) rfl ?_
 refine q0 10 82 3 rfl rfl (T_cmp rfl rfl rfl rfl) rfl ?_
 refine q0 11 98 4 rfl rfl (T_move rfl rfl) rfl ?_
 refine k_split (d := 11) rfl (fun g1 => ?_) (fun g1 => ?_)
 ·have h1 := c_gtr_t g1
  refine k_no (d := 12) (j' := 5) rfl rfl rfl (g_ft rfl rfl rfl g1) ?_
  refine k_no (d := 13) (j' := 6) rfl rfl rfl (g_ft rfl rfl rfl g1) ?_
  refine k_no (d := 14) (j' := 7) rfl rfl rfl (g_ft rfl rfl rfl g1) ?_
  refine k_no (d := 15) (j' := 8) rfl rfl rfl (g_ft rfl rfl rfl g1) ?_
  refine q0 16 178 9 rfl rfl (T_pick_t rfl rfl rfl g1) rfl ?_
  refine k_done rfl ?_
  refine thenK_n ?_
  refine W_cond rfl (fun g2 => ?_) (fun g2 => ?_)
  ·skip
   refine W_seq ?_
   refine W_seqK (b' := 210) rfl rfl ?_
   refine q0 4 194 1 rfl rfl (T_assign rfl rfl) rfl ?_
   refine k_done rfl ?_
   refine thenK_n ?_
   refine W_ret ?_
   refine thenK_r ?_
   exact .mk [] (.inr rfl) (.tmp rfl (.nil)) (by first | rfl | (simp only [resLV, LV.ren, LV.v.injEq, Value.bool.injEq]; first | exact small_no1 (by omega) | exact small_no2 (j := j) (by omega) (by omega) | exact small_yes (by omega) (fun i h => hJ.2 i (by omega)) (by have e : j = p.funcs.length := (by omega); subst e; first | rfl | (rw [decide_eq_true (by omega)]; rfl) | (rw [decide_eq_false (by omega)]; rfl) | (simp [*, cmpB]; done)))) (.nil) rfl
  ·exact absurd (g2.symm.trans rfl) (by decide)
 ·have h1 := c_gtr_f g1
  refine k_op0 (d := 12) (b := 114) (j' := 5) rfl rfl rfl rfl (g_ff rfl rfl rfl g1) (T_fa D (m := 1) rfl rfl rfl rfl rfl rfl) rfl ?_
  refine k_op0 (d := 13) (b := 130) (j' := 6) rfl rfl rfl rfl (g_ff rfl rfl rfl g1) (T_load_b D rfl rfl rfl rfl rfl rfl) rfl ?_
  refine k_op0 (d := 14) (b := 146) (j' := 7) rfl rfl rfl rfl (g_ff rfl rfl rfl g1) (T_len D rfl rfl rfl rfl rfl rfl) rfl ?_
  refine k_op0 (d := 15) (b := 162) (j' := 8) rfl rfl rfl rfl (g_ff rfl rfl rfl g1) (T_cmp rfl rfl rfl rfl) rfl ?_
  refine q0 16 178 9 rfl rfl (T_pick_f rfl rfl rfl g1) rfl ?_
  refine k_done rfl ?_
  refine thenK_n ?_
  refine W_cond rfl (fun g3 => ?_) (fun g3 => ?_)
  ·have h3 := c_gtr_t g3
   refine W_seq ?_
   refine W_seqK (b' := 210) rfl rfl ?_
   refine q0 4 194 1 rfl rfl (T_assign rfl rfl) rfl ?_
   refine k_done rfl ?_
   refine thenK_n ?_
   refine W_ret ?_
   refine thenK_r ?_
   exact .mk [] (.inr rfl) (.tmp rfl (.nil)) (by first | rfl | (simp only [resLV, LV.ren, LV.v.injEq, Value.bool.injEq]; first | exact small_no1 (by omega) | exact small_no2 (j := j) (by omega) (by omega) | exact small_yes (by omega) (fun i h => hJ.2 i (by omega)) (by have e : j = p.funcs.length := (by omega); subst e; first | rfl | (rw [decide_eq_true (by omega)]; rfl) | (rw [decide_eq_false (by omega)]; rfl) | (simp [*, cmpB]; done)))) (.nil) rfl
  ·have h3 := c_gtr_f g3
   refine W_skip ?_
   refine thenK_n ?_
   refine W_seq ?_
   refine W_seq ?_
   refine W_seqK (b' := 210) rfl rfl ?_
   refine q0 6 194 1 rfl rfl (T_assign rfl rfl) rfl ?_
   refine k_done rfl ?_
   refine thenK_n ?_
   refine W_block ?_
   refine W_loop (ι := Nat) 3 (fun j => ⟨[(1, .v (.int .i64 most)), (2, .p 2 0), (5, .v (.int .i64 (szP p j : Int))), (6, .v (.int .i64 (j : Int)))], [(1, .fz 2 (p.funcs.map eFn)), (2, .box 24 [.v (.int .i64 p.words), .r 1])]⟩) (fun j => (j ≤ p.funcs.length ∧ szP p j ≤ j * 5629499534049320) ∧ ∀ i, i < j → (p.funcs.getD i default).regs ≤ 60 ∧ ((p.funcs.getD i default).blocks.length : Int) ≤ 40) (fun j => p.funcs.length - j) (0) (by exact ⟨⟨Nat.zero_le _, by simp [szP]⟩, fun i h => absurd h (Nat.not_lt_zero _)⟩) ?_ (fun j hJ => ?_)
   ·exact ⟨[(2, 2)], .eq rfl (.same rfl rfl (.eq rfl (.eq rfl (.nil) (by first | rfl | simp)) (by first | rfl | simp))) (by first | rfl | simp), .fzE rfl (.box (by first | rfl | simp) (.nil)) (by first | rfl | simp), rfl⟩
   have hfo := fun h => hp.2 (p.funcs.getD j default) (getD_mem h)
   have hsp := fun h => szP_succ (p := p) (j := j) h
   refine W_seq ?_
   refine W_seq ?_
   refine W_seqK (b' := 83) rfl rfl ?_
   refine q0 17 3 1 rfl rfl (T_move rfl rfl) rfl ?_
   refine q0 18 19 2 rfl rfl (T_fa D (m := 1) rfl rfl rfl rfl rfl rfl) rfl ?_
   refine q0 19 35 3 rfl rfl (T_load_b D rfl rfl rfl rfl rfl rfl) rfl ?_
   refine q0 20 51 4 rfl rfl (T_len D rfl rfl rfl rfl rfl rfl) rfl ?_
   refine q0 21 67 5 rfl rfl (T_cmp rfl rfl rfl rfl) rfl ?_
   refine k_done rfl ?_
   refine thenK_n ?_
   refine W_cond rfl (fun g4 => ?_) (fun g4 => ?_)
   ·have h4 := c_lss_t g4
    refine W_skip ?_
    refine thenK_n ?_
    refine W_seq ?_
    refine W_block ?_
    refine W_seq ?_
    refine W_seq ?_
    refine W_seqK (b' := 355) rfl rfl ?_
    refine q0 24 83 1 rfl rfl (T_fa D (m := 1) rfl rfl rfl rfl rfl rfl) rfl ?_
    refine q0 25 99 2 rfl rfl (T_load_b D rfl rfl rfl rfl rfl rfl) rfl ?_
    refine q0 26 115 3 rfl rfl (T_move rfl rfl) rfl ?_
    first | refine q0 27 131 4 rfl rfl (T_indexAddr D rfl rfl rfl rfl rfl rfl rfl rfl (by first | assumption | omega | (simp; omega))) rfl ?_ | refine q0 27 131 4 rfl rfl (T_indexAddrZ D rfl rfl rfl rfl rfl rfl rfl rfl (by first | assumption | omega | (simp; omega)) (by first | assumption | omega | (simp; omega))) rfl ?_
    refine q0 28 147 5 rfl rfl (T_fae D (m := 0) rfl rfl rfl rfl rfl rfl) rfl ?_
    refine q0 29 163 6 rfl rfl (T_ldE D (lv := .v _) (nn := 0) (upd := []) rfl rfl rfl rfl rfl (by first | assumption | omega | (simp; omega)) rfl rfl rfl rfl) rfl ?_
    refine q0 30 179 7 rfl rfl (T_cmp rfl rfl rfl rfl) rfl ?_
    refine q0 31 195 8 rfl rfl (T_move rfl rfl) rfl ?_
    refine k_split (d := 31) rfl (fun g5 => ?_) (fun g5 => ?_)
    ·have h5 := c_gtr_t g5
     refine k_no (d := 32) (j' := 9) rfl rfl rfl (g_ft rfl rfl rfl g5) ?_
     refine k_no (d := 33) (j' := 10) rfl rfl rfl (g_ft rfl rfl rfl g5) ?_
     refine k_no (d := 34) (j' := 11) rfl rfl rfl (g_ft rfl rfl rfl g5) ?_
     refine k_no (d := 35) (j' := 12) rfl rfl rfl (g_ft rfl rfl rfl g5) ?_
     refine k_no (d := 36) (j' := 13) rfl rfl rfl (g_ft rfl rfl rfl g5) ?_
     refine k_no (d := 37) (j' := 14) rfl rfl rfl (g_ft rfl rfl rfl g5) ?_
     refine k_no (d := 38) (j' := 15) rfl rfl rfl (g_ft rfl rfl rfl g5) ?_
     refine k_no (d := 39) (j' := 16) rfl rfl rfl (g_ft rfl rfl rfl g5) ?_
     refine q0 40 339 17 rfl rfl (T_pick_t rfl rfl rfl g5) rfl ?_
     refine k_done rfl ?_
     refine thenK_n ?_
     refine W_cond rfl (fun g6 => ?_) (fun g6 => ?_)
     ·skip
      refine W_seq ?_
      refine W_seqK (b' := 371) rfl rfl ?_
      refine q0 4 355 1 rfl rfl (T_assign rfl rfl) rfl ?_
      refine k_done rfl ?_
      refine thenK_n ?_
      refine W_ret ?_
      refine thenK_r ?_
      refine blockK_r ?_
      refine thenK_r ?_
      refine thenK_r ?_
      refine blockK_r ?_
      refine thenK_r ?_
      exact .mk [] (.inr rfl) (.tmp rfl (.nil)) (by first | rfl | (simp only [resLV, LV.ren, LV.v.injEq, Value.bool.injEq]; first | exact small_no1 (by omega) | exact small_no2 (j := j) (by omega) (by omega) | exact small_yes (by omega) (fun i h => hJ.2 i (by omega)) (by have e : j = p.funcs.length := (by omega); subst e; first | rfl | (rw [decide_eq_true (by omega)]; rfl) | (rw [decide_eq_false (by omega)]; rfl) | (simp [*, cmpB]; done)))) (.nil) rfl
     ·exact absurd (g6.symm.trans rfl) (by decide)
    ·have h5 := c_gtr_f g5
     refine k_op0 (d := 32) (b := 211) (j' := 9) rfl rfl rfl rfl (g_ff rfl rfl rfl g5) (T_fa D (m := 1) rfl rfl rfl rfl rfl rfl) rfl ?_
     refine k_op0 (d := 33) (b := 227) (j' := 10) rfl rfl rfl rfl (g_ff rfl rfl rfl g5) (T_load_b D rfl rfl rfl rfl rfl rfl) rfl ?_
     refine k_op0 (d := 34) (b := 243) (j' := 11) rfl rfl rfl rfl (g_ff rfl rfl rfl g5) (T_move rfl rfl) rfl ?_
     first | refine k_op0 (d := 35) (b := 259) (j' := 12) rfl rfl rfl rfl (g_ff rfl rfl rfl g5) (T_indexAddr D rfl rfl rfl rfl rfl rfl rfl rfl (by first | assumption | omega | (simp; omega))) rfl ?_ | refine k_op0 (d := 35) (b := 259) (j' := 12) rfl rfl rfl rfl (g_ff rfl rfl rfl g5) (T_indexAddrZ D rfl rfl rfl rfl rfl rfl rfl rfl (by first | assumption | omega | (simp; omega)) (by first | assumption | omega | (simp; omega))) rfl ?_
     refine k_op0 (d := 36) (b := 275) (j' := 13) rfl rfl rfl rfl (g_ff rfl rfl rfl g5) (T_fae D (m := 1) rfl rfl rfl rfl rfl rfl) rfl ?_
     refine k_op1 (d := 37) (b := 291) (j' := 14) rfl rfl rfl rfl (g_ff rfl rfl rfl g5) (T_ldE D (lv := .r 291) (nn := 1) (upd := [(291, .fz 5 _)]) rfl rfl rfl rfl rfl (by first | assumption | omega | (simp; omega)) rfl rfl rfl rfl) rfl ?_
     refine k_op0 (d := 38) (b := 307) (j' := 15) rfl rfl rfl rfl (g_ff rfl rfl rfl g5) (T_len D rfl rfl rfl rfl rfl rfl) rfl ?_
     refine k_op0 (d := 39) (b := 323) (j' := 16) rfl rfl rfl rfl (g_ff rfl rfl rfl g5) (T_cmp rfl rfl rfl rfl) rfl ?_
     refine q0 40 339 17 rfl rfl (T_pick_f rfl rfl rfl g5) rfl ?_
     refine k_done rfl ?_
     refine thenK_n ?_
     refine W_cond rfl (fun g7 => ?_) (fun g7 => ?_)
     ·have h7 := c_gtr_t g7
      refine W_seq ?_
      refine W_seqK (b' := 371) rfl rfl ?_
      refine q0 4 355 1 rfl rfl (T_assign rfl rfl) rfl ?_
      refine k_done rfl ?_
      refine thenK_n ?_
      refine W_ret ?_
      refine thenK_r ?_
      refine blockK_r ?_
      refine thenK_r ?_
      refine thenK_r ?_
      refine blockK_r ?_
      refine thenK_r ?_
      exact .mk [] (.inr rfl) (.tmp rfl (.nil)) (by first | rfl | (simp only [resLV, LV.ren, LV.v.injEq, Value.bool.injEq]; first | exact small_no1 (by omega) | exact small_no2 (j := j) (by omega) (by omega) | exact small_yes (by omega) (fun i h => hJ.2 i (by omega)) (by have e : j = p.funcs.length := (by omega); subst e; first | rfl | (rw [decide_eq_true (by omega)]; rfl) | (rw [decide_eq_false (by omega)]; rfl) | (simp [*, cmpB]; done)))) (.nil) rfl
     ·have h7 := c_gtr_f g7
      refine W_skip ?_
      refine thenK_n ?_
      refine W_seq ?_
      refine W_seqK (b' := 371) rfl rfl ?_
      refine q0 7 355 1 rfl rfl (T_assign rfl rfl) rfl ?_
      refine k_done rfl ?_
      refine thenK_n ?_
      refine W_block ?_
      have hfj := hfo (by omega)
      refine W_loop (ι := Nat) 3 (fun i => ⟨[(1, .v (.int .i64 most)), (2, .p 2 0), (5, .v (.int .i64 ((szP p j + szB (p.funcs.getD j default) i : Nat) : Int))), (6, .v (.int .i64 (j : Int))), (7, .v (.int .i64 (i : Int)))], [(1, .fz 2 (p.funcs.map eFn)), (2, .box 24 [.v (.int .i64 p.words), .r 1])]⟩) (fun i => i ≤ (p.funcs.getD j default).blocks.length) (fun i => (p.funcs.getD j default).blocks.length - i) (0) (by exact Nat.zero_le _) ?_ (fun i hI => ?_)
      ·exact ⟨[(2, 2)], .eq rfl (.same rfl rfl (.eq rfl (.eq rfl (.eq rfl (.nil) (by first | rfl | simp [szB])) (by first | rfl | simp [szB])) (by first | rfl | simp [szB]))) (by first | rfl | simp [szB]), .fzE rfl (.box (by first | rfl | simp [szB]) (.nil)) (by first | rfl | simp [szB]), rfl⟩
      have hsi := szB_le hfj i hI
      have hss := fun h => szB_succ (f := p.funcs.getD j default) (i := i) h
      have hil := fun h => hfj.2 ((p.funcs.getD j default).blocks.getD i default) (getD_mem h)
      refine W_seq ?_
      refine W_seq ?_
      refine W_seqK (b' := 147) rfl rfl ?_
      refine q0 41 3 1 rfl rfl (T_move rfl rfl) rfl ?_
      refine q0 42 19 2 rfl rfl (T_fa D (m := 1) rfl rfl rfl rfl rfl rfl) rfl ?_
      refine q0 43 35 3 rfl rfl (T_load_b D rfl rfl rfl rfl rfl rfl) rfl ?_
      refine q0 44 51 4 rfl rfl (T_move rfl rfl) rfl ?_
      first | refine q0 45 67 5 rfl rfl (T_indexAddr D rfl rfl rfl rfl rfl rfl rfl rfl (by first | assumption | omega | (simp; omega))) rfl ?_ | refine q0 45 67 5 rfl rfl (T_indexAddrZ D rfl rfl rfl rfl rfl rfl rfl rfl (by first | assumption | omega | (simp; omega)) (by first | assumption | omega | (simp; omega))) rfl ?_
      refine q0 46 83 6 rfl rfl (T_fae D (m := 1) rfl rfl rfl rfl rfl rfl) rfl ?_
      refine q1 47 99 7 rfl rfl (T_ldE D (lv := .r 99) (nn := 1) (upd := [(99, .fz 5 _)]) rfl rfl rfl rfl rfl (by first | assumption | omega | (simp; omega)) rfl rfl rfl rfl) rfl ?_
      refine q0 48 115 8 rfl rfl (T_len D rfl rfl rfl rfl rfl rfl) rfl ?_
      refine q0 49 131 9 rfl rfl (T_cmp rfl rfl rfl rfl) rfl ?_
      refine k_done rfl ?_
      refine thenK_n ?_
      refine W_cond rfl (fun g8 => ?_) (fun g8 => ?_)
      ·have h8 := c_lss_t g8
       refine W_skip ?_
       refine thenK_n ?_
       refine W_seq ?_
       refine W_block ?_
       refine W_seqK (b' := 387) rfl rfl ?_
       refine q0 52 147 1 rfl rfl (T_move rfl rfl) rfl ?_
       refine q0 53 163 2 rfl rfl (T_add64 rfl rfl rfl (by first | assumption | omega | (simp; omega))) rfl ?_
       refine q0 54 179 3 rfl rfl (T_fa D (m := 1) rfl rfl rfl rfl rfl rfl) rfl ?_
       refine q0 55 195 4 rfl rfl (T_load_b D rfl rfl rfl rfl rfl rfl) rfl ?_
       refine q0 56 211 5 rfl rfl (T_move rfl rfl) rfl ?_
       first | refine q0 57 227 6 rfl rfl (T_indexAddr D rfl rfl rfl rfl rfl rfl rfl rfl (by first | assumption | omega | (simp; omega))) rfl ?_ | refine q0 57 227 6 rfl rfl (T_indexAddrZ D rfl rfl rfl rfl rfl rfl rfl rfl (by first | assumption | omega | (simp; omega)) (by first | assumption | omega | (simp; omega))) rfl ?_
       refine q0 58 243 7 rfl rfl (T_fae D (m := 1) rfl rfl rfl rfl rfl rfl) rfl ?_
       refine q1 59 259 8 rfl rfl (T_ldE D (lv := .r 259) (nn := 1) (upd := [(259, .fz 5 _)]) rfl rfl rfl rfl rfl (by first | assumption | omega | (simp; omega)) rfl rfl rfl rfl) rfl ?_
       refine q0 60 275 9 rfl rfl (T_move rfl rfl) rfl ?_
       first | refine q0 61 291 10 rfl rfl (T_indexAddr D rfl rfl rfl rfl rfl rfl rfl rfl (by first | assumption | omega | (simp; omega))) rfl ?_ | refine q0 61 291 10 rfl rfl (T_indexAddrZ D rfl rfl rfl rfl rfl rfl rfl rfl (by first | assumption | omega | (simp; omega)) (by first | assumption | omega | (simp; omega))) rfl ?_
       refine q0 62 307 11 rfl rfl (T_fae D (m := 0) rfl rfl rfl rfl rfl rfl) rfl ?_
       refine q1 63 323 12 rfl rfl (T_ldE D (lv := .r 323) (nn := 1) (upd := [(323, .fz 8 _)]) rfl rfl rfl rfl rfl (by first | assumption | omega | (simp; omega)) rfl rfl rfl rfl) rfl ?_
       refine q0 64 339 13 rfl rfl (T_len D rfl rfl rfl rfl rfl rfl) rfl ?_
       refine q0 65 355 14 rfl rfl (T_add64 rfl rfl rfl (by first | assumption | omega | (simp; omega))) rfl ?_
       refine q0 5 371 15 rfl rfl (T_assign rfl rfl) rfl ?_
       refine k_done rfl ?_
       refine blockK_n ?_
       refine thenK_n ?_
       refine W_seqK (b' := 435) rfl rfl ?_
       refine q0 50 387 1 rfl rfl (T_move rfl rfl) rfl ?_
       refine q0 51 403 2 rfl rfl (T_add64 rfl rfl rfl (by first | assumption | omega | (simp; omega))) rfl ?_
       refine q0 7 419 3 rfl rfl (T_assign rfl rfl) rfl ?_
       refine k_done rfl ?_
       refine thenK_n ?_
       refine ⟨i + 1, by (try dsimp only); omega, by (try dsimp only); omega, ?_⟩
       exact ⟨[(2, 2)], .eq rfl (.same rfl rfl (.eq rfl (.eq rfl (.eq rfl (.nil) (by first | rfl | (have hss2 := hss (by omega); congr 3; omega) | (have hss2 := hss (by omega); congr 2; omega))) rfl) (by first | rfl | (have hss2 := hss (by omega); congr 3; omega) | (have hss2 := hss (by omega); congr 2; omega)))) rfl, .fzE rfl (.box (by first | rfl | (have hss2 := hss (by omega); congr 3; omega) | (have hss2 := hss (by omega); congr 2; omega)) (.nil)) rfl, rfl⟩
      ·have h8 := c_lss_f g8
       refine W_exit ?_
       refine thenK_e ?_
       refine thenK_e ?_
       refine blockK_hit ?_
       refine blockK_n ?_
       refine thenK_n ?_
       refine W_seqK (b' := 195) rfl rfl ?_
       refine q0 22 147 1 rfl rfl (T_move rfl rfl) rfl ?_
       refine q0 23 163 2 rfl rfl (T_add64 rfl rfl rfl (by first | assumption | omega | (simp; omega))) rfl ?_
       refine q0 6 179 3 rfl rfl (T_assign rfl rfl) rfl ?_
       refine k_done rfl ?_
       refine thenK_n ?_
       have ei : i = (p.funcs.getD j default).blocks.length := by omega
       have hsp2 := hsp (by omega)
       refine ⟨j + 1, by (try dsimp only); exact ⟨⟨by omega, by rw [ei] at hsi; omega⟩, fun i1 h => by rcases Nat.lt_or_ge i1 j with h0 | h0; exact hJ.2 i1 h0; rw [show i1 = j by omega]; omega⟩, by (try dsimp only); omega, ?_⟩
       exact ⟨[(2, 2)], .eq rfl (.same rfl rfl (.eq rfl (.eq rfl (.nil) (by first | rfl | (rw [hsp2, ei]; first | done | rfl))) (by first | rfl | (rw [hsp2, ei]; first | done | rfl)))) rfl, .fzE rfl (.box (by first | rfl | (rw [hsp2, ei]; first | done | rfl)) (.nil)) rfl, rfl⟩
   ·have h4 := c_lss_f g4
    refine W_exit ?_
    refine thenK_e ?_
    refine thenK_e ?_
    refine blockK_hit ?_
    refine thenK_n ?_
    refine W_seq ?_
    refine W_seqK (b' := 211) rfl rfl ?_
    refine q0 66 83 1 rfl rfl (T_move rfl rfl) rfl ?_
    refine q0 67 99 2 rfl rfl (T_move rfl rfl) rfl ?_
    refine q0 68 115 3 rfl rfl (T_cmp rfl rfl rfl rfl) rfl ?_
    refine q0 69 131 4 rfl rfl (T_move rfl rfl) rfl ?_
    refine k_split (d := 69) rfl (fun g9 => ?_) (fun g9 => ?_)
    ·have h9 := c_leq_t g9
     refine k_op0 (d := 70) (b := 147) (j' := 5) rfl rfl rfl rfl (g_tt rfl rfl rfl g9) (T_load_bA D (l := [_, _]) rfl rfl rfl rfl rfl rfl rfl) rfl ?_
     refine k_op0 (d := 71) (b := 163) (j' := 6) rfl rfl rfl rfl (g_tt rfl rfl rfl g9) (T_callV (lvs := [_]) (L := [(1, 1)]) (right_spec _ hp) body35 rfl rfl rfl rfl (.fz rfl (.nil)) rfl) rfl ?_
     refine q0 72 179 7 rfl rfl (T_pick_t rfl rfl rfl g9) rfl ?_
     refine q0 4 195 8 rfl rfl (T_assign rfl rfl) rfl ?_
     refine k_done rfl ?_
     refine thenK_n ?_
     refine W_ret ?_
     exact .mk [] (.inr rfl) (.tmp rfl (.nil)) (by first | rfl | (simp only [resLV, LV.ren, LV.v.injEq, Value.bool.injEq]; first | exact small_no1 (by omega) | exact small_no2 (j := j) (by omega) (by omega) | exact small_yes (by omega) (fun i h => hJ.2 i (by omega)) (by have e : j = p.funcs.length := (by omega); subst e; first | rfl | (rw [decide_eq_true (by omega)]; rfl) | (rw [decide_eq_false (by omega)]; rfl) | (simp [*, cmpB]; done)))) (.nil) rfl
    ·have h9 := c_leq_f g9
     refine k_no (d := 70) (j' := 5) rfl rfl rfl (g_tf rfl rfl rfl g9) ?_
     refine k_no (d := 71) (j' := 6) rfl rfl rfl (g_tf rfl rfl rfl g9) ?_
     refine q0 72 179 7 rfl rfl (T_pick_f rfl rfl rfl g9) rfl ?_
     refine q0 4 195 8 rfl rfl (T_assign rfl rfl) rfl ?_
     refine k_done rfl ?_
     refine thenK_n ?_
     refine W_ret ?_
     exact .mk [] (.inr rfl) (.tmp rfl (.nil)) (by first | rfl | (simp only [resLV, LV.ren, LV.v.injEq, Value.bool.injEq]; first | exact small_no1 (by omega) | exact small_no2 (j := j) (by omega) (by omega) | exact small_yes (by omega) (fun i h => hJ.2 i (by omega)) (by have e : j = p.funcs.length := (by omega); subst e; first | rfl | (rw [decide_eq_true (by omega)]; rfl) | (rw [decide_eq_false (by omega)]; rfl) | (simp [*, cmpB]; done)))) (.nil) rfl
end Lg
end Go.Proofs.Ytpfhmodjjljpjaa

namespace Go.Proofs.Ytpfhmodjjljpjaa
open Go.RowKit
namespace Lg
set_option linter.unusedSimpArgs false
set_option linter.unusedVariables false
theorem T_conv {N : Nat} {o : Oper} {b : Nat} {st : St} {src dst : TypeId} {x : Operand} {q k : IntKind} {n r : Int} (ho : o.op = .convert src dst x) (hx : st.ev x = some (.v (.int q n))) (hs : (Try.prog.underlying src).isSome = true) (hd : Try.prog.underlying dst = some (.int k)) (hr : k.wrap n = r) : T Try.prog N o b [] st (.v (.int k r)) 0 [] :=
  T_pure (fun ρ ev w hev => by
    have h1 := hev x _ (by simp [ho, Op.operands]) hx
    obtain ⟨d, hd'⟩ := Option.isSome_iff_exists.mp hs
    simp only [execOp, ho, h1, LV.val]
    have h2 : (convert src dst (.int q n)).run Try.prog w = .ok (.int k r) w := by
      simp [convert, run_underlying hd', run_underlying hd, Conv.intToInt, hr]
    rw [Sem.run_bind, h2]
    rfl) (fun U ρ hU => trivial)
theorem T_conv64 {N : Nat} {o : Oper} {b : Nat} {st : St} {src : TypeId} {x : Operand} {q : IntKind} {n : Int} (ho : o.op = .convert src 3 x) (hx : st.ev x = some (.v (.int q n))) (hs : (Try.prog.underlying src).isSome = true) (h : -9223372036854775808 ≤ n ∧ n ≤ 9223372036854775807) : T Try.prog N o b [] st (.v (.int .i64 n)) 0 [] :=
  T_conv ho hx hs Try.underlying3 (wrap_i64 h)
end Lg
end Go.Proofs.Ytpfhmodjjljpjaa

namespace Go.Proofs.Ytpfhmodjjljpjaa
open Go.RowKit
namespace Lg
set_option linter.unusedSimpArgs false
set_option linter.unusedVariables false
section
variable {P : Program} {N : Nat} {o : Oper} {b : Nat} {st : St}
theorem T_nilCheck {x : Operand} {i n : Nat} (ho : o.op = .nilCheck x) (hx : st.ev x = some (.p i n)) : T P N o b [] st (.p i n) 0 [] := by
  intro w0 M U ρ own st' a w hev hp hfr fr hr
  obtain ⟨hv, hu⟩ := fr.eval ((hev x (by simp [ho, Op.operands])).trans hx)
  obtain ⟨ad, had⟩ := hu.2
  have h1 : a.eval x = .pointer (some (ad.add n)) := by rw [hv]; simp [LV.val, ptrOf, had]
  have hrun : (execOp a.eval o).run P w = .ok (.value ((LV.p i n).val ρ)) w := by
    rw [← hv, h1]; simp [execOp, ho, h1]
  exact does_value hrun ⟨ρ, own, rfl, fun _ _ => rfl, ⟨.inl hu.1, ad, had⟩, hr.mono (fun i hi => .inl hi)⟩
theorem T_lenS {x : Operand} {t : Nat} {s : ByteArray} (hu : P.underlying t = some .string) (ho : o.op = .call { callee := .builtin .len, args := #[x], argTypes := #[t] }) (hx : st.ev x = some (.v (.string s))) : T P N o b [] st (.v (.int .i64 (s.size : Int))) 0 [] :=
  T_pure (fun ρ ev w hev => by
    have h1 := hev x _ (by simp [ho, Op.operands, Call.operands]) hx
    simp [execOp, ho, resolve, invoke, builtin, h1, LV.val, Builtin.len_, run_underlying hu, goInt]) (fun _ _ _ => trivial)
def byteAt (s : ByteArray) (j : Int) : Int := match s[j.toNat]? with | some b => (b.toNat : Int) | none => 0
theorem T_ixS {x y : Operand} {t : Nat} {s : ByteArray} {j : Int} (hu : P.underlying t = some .string) (ho : o.op = .index t x y) (hx : st.ev x = some (.v (.string s))) (hy : st.ev y = some (.v (.int .i64 j))) (h : 0 ≤ j ∧ j < (s.size : Int)) : T P N o b [] st (.v (.int .u8 (byteAt s j))) 0 [] :=
  T_pure (fun ρ ev w hev => by
    have h1 := hev x _ (by simp [ho, Op.operands]) hx
    have h2 := hev y _ (by simp [ho, Op.operands]) hy
    have h3 : j.toNat < s.size := by omega
    have h4 : s[j.toNat]? = some s[j.toNat] := by simp [h3]
    simp [execOp, ho, h1, h2, LV.val, Instr.index, asIntOf, run_underlying hu, byteAt, h.1, h4, h3]) (fun _ _ _ => trivial)
theorem wrapU {k : IntKind} {n : Int} (hk : k.signed = false) (h : 0 ≤ n ∧ n < (2 ^ k.bits : Int)) : k.wrap n = n := by
  simp only [IntKind.wrap, hk, Bool.false_and]
  exact Int.emod_eq_of_lt h.1 h.2
theorem wrap_mod {k : IntKind} {n : Int} (hk : k.signed = false) : k.wrap n = n % (2 ^ k.bits : Int) := by simp [IntKind.wrap, hk]
theorem T_addU {t t' : TypeId} {x y : Operand} {k : IntKind} {m n : Int} (ho : o.op = .binOp .add t x y t') (hx : st.ev x = some (.v (.int k m))) (hy : st.ev y = some (.v (.int k n))) (hk : k.signed = false) {top : Int} (ht : (2 ^ k.bits : Int) = top)
    (h : 0 ≤ m + n ∧ m + n < top) : T P N o b [] st (.v (.int k (m + n))) 0 [] := T_arith ho hx hy (.inl ⟨rfl, wrapU hk (ht ▸ h)⟩)
theorem T_subU {t t' : TypeId} {x y : Operand} {k : IntKind} {m n : Int} (ho : o.op = .binOp .sub t x y t') (hx : st.ev x = some (.v (.int k m))) (hy : st.ev y = some (.v (.int k n))) (hk : k.signed = false) {top : Int} (ht : (2 ^ k.bits : Int) = top)
    (h : 0 ≤ m - n ∧ m - n < top) : T P N o b [] st (.v (.int k (m - n))) 0 [] := T_arith ho hx hy (.inr (.inl ⟨rfl, wrapU hk (ht ▸ h)⟩))
theorem T_mulU {t t' : TypeId} {x y : Operand} {k : IntKind} {m n : Int} (ho : o.op = .binOp .mul t x y t') (hx : st.ev x = some (.v (.int k m))) (hy : st.ev y = some (.v (.int k n))) (hk : k.signed = false) {top : Int} (ht : (2 ^ k.bits : Int) = top)
    (h : 0 ≤ m * n ∧ m * n < top) : T P N o b [] st (.v (.int k (m * n))) 0 [] := T_arith ho hx hy (.inr (.inr ⟨rfl, wrapU hk (ht ▸ h)⟩))
theorem T_remU {t t' : TypeId} {x y : Operand} {k : IntKind} {m n : Int} (ho : o.op = .binOp .rem t x y t') (hx : st.ev x = some (.v (.int k m))) (hy : st.ev y = some (.v (.int k n))) 
    (h : 0 ≤ m ∧ 0 < n) : T P N o b [] st (.v (.int k (m % n))) 0 [] := T_bin ho hx hy (fun w => by
      have h0 : ¬ n = 0 := by omega
      simp [eqGuard, binOp, Op.intDiv, h0, Int.tmod_eq_emod_of_nonneg h.1])
theorem T_quoU {t t' : TypeId} {x y : Operand} {k : IntKind} {m n : Int} (ho : o.op = .binOp .quo t x y t') (hx : st.ev x = some (.v (.int k m))) (hy : st.ev y = some (.v (.int k n))) (hk : k.signed = false) {top : Int} (ht : (2 ^ k.bits : Int) = top)
    (h : (0 ≤ m ∧ 0 < n) ∧ m < top) : T P N o b [] st (.v (.int k (m / n))) 0 [] := T_bin ho hx hy (fun w => by
      have h0 : ¬ n = 0 := by omega
      have h1 : k.wrap (m / n) = m / n := wrapU hk ⟨Int.ediv_nonneg h.1.1 (by omega), Int.lt_of_le_of_lt (Int.ediv_le_self _ h.1.1) (ht ▸ h.2)⟩
      simp [eqGuard, binOp, Op.intDiv, h0, Int.tdiv_eq_ediv_of_nonneg h.1.1, h1])
theorem T_convU {o : Oper} {src dst : TypeId} {x : Operand} {q k : IntKind} {n : Int} (ho : o.op = .convert src dst x) (hx : st.ev x = some (.v (.int q n))) (hs : (Try.prog.underlying src).isSome = true) (hd : Try.prog.underlying dst = some (.int k)) (hk : k.signed = false) {top : Int} (ht : (2 ^ k.bits : Int) = top) (h : 0 ≤ n ∧ n < top) : T Try.prog N o b [] st (.v (.int k n)) 0 [] :=
  T_conv ho hx hs hd (wrapU hk (ht ▸ h))
theorem T_convM {o : Oper} {src dst : TypeId} {x : Operand} {q k : IntKind} {n : Int} (ho : o.op = .convert src dst x) (hx : st.ev x = some (.v (.int q n))) (hs : (Try.prog.underlying src).isSome = true) (hd : Try.prog.underlying dst = some (.int k)) (hk : k.signed = false) {top : Int} (ht : (2 ^ k.bits : Int) = top) : T Try.prog N o b [] st (.v (.int k (n % top))) 0 [] :=
  T_conv ho hx hs hd (ht ▸ wrap_mod hk)
theorem T_convS {i : Nat} {xs : List Int} {src dst e : TypeId} {x : Operand} (hs : P.underlying src = some (.slice e)) (he : P.underlying e = some (.int .u8)) (hd : P.underlying dst = some .string) (ho : o.op = .convert src dst x) (hx : st.ev x = some (.r i)) (hob : (st.o.lookup i).bind Ob.rows? = some (1, xs.map eU8)) : T P N o b [i] st (.v (.string (strOfNums xs))) 0 [] := by
  intro w0 M U ρ own st' a w hev hp hfr fr hr
  obtain ⟨hv, hu⟩ := fr.eval ((hev x (by simp [ho, Op.operands])).trans hx)
  obtain ⟨ob, hob1, hob2⟩ := Option.bind_eq_some_iff.1 hob
  obtain ⟨g1, g2, g3⟩ := hr.ob i _ ((hp i (by simp)).trans hob1)
  obtain ⟨A, c, cells, hA, hR, hC, hn⟩ := rows_cells g1 hob2 (by omega)
  rw [List.length_map] at hA
  have hcell : ∀ (q : Nat) (n : Int), xs[q]? = some n → cells[q]? = some (.int .u8 n) := fun q n hq => by
    obtain ⟨_, h2⟩ := hR.each q (eU8 n) (by simp [hq])
    obtain ⟨u, h3, h4⟩ := h2 0 (.v (.int .u8 n)) rfl
    cases h4
    simpa using h3
  have hrun : (convert src dst (ρ i)).run P w = .ok (.string (strOfNums xs)) w := by
    rw [hA]
    cases A with
    | none =>
      have : xs = [] := by simpa using hn rfl
      subst this
      exact run_convert_bytes_nil w src e hs he _ _ dst hd
    | some ad =>
      have hl : (loadCells ad xs.length).run P w = .ok (xs.map (Value.int .u8)).toArray w := by
        have := run_loadCells_list (P := P) w ad (xs.map (Value.int .u8)) (fun j v hj => by
          rw [List.getElem?_map] at hj
          obtain ⟨n, h5, rfl⟩ := Option.map_eq_some_iff.1 hj
          exact hC ad rfl j _ (hcell j n h5))
        simpa using this
      rw [run_convert_bytes_string w src dst e _ _ c hs he hd, run_bytesToString w _ _ c xs hl, foldl_push_bytes]
      simp [strOfNums, ByteArray.empty, ByteArray.emptyWithCapacity]
      rfl
  have hrun2 : (execOp a.eval o).run P w = .ok (.value (.string (strOfNums xs))) w := by
    simp only [execOp, ho, hv, LV.val]
    rw [Sem.run_bind, hrun]
    rfl
  exact does_value hrun2 ⟨ρ, own, rfl, fun _ _ => rfl, trivial, hr.mono (fun i hi => .inl hi)⟩
theorem T_makeZ {x y : Operand} {z : Int} {m : Nat} (hz : z = (m : Int)) (hx : st.ev x = some (.v (.int .i64 z))) (hy : st.ev y = some (.v (.int .i64 z)))
    {lv : LV} {nn : Nat} {upd : List (Nat × Ob)} (h : st.ev x = some (.v (.int .i64 (m : Int))) → st.ev y = some (.v (.int .i64 (m : Int))) → T P N o b [] st lv nn upd) : T P N o b [] st lv nn upd := by
  subst hz
  exact h hx hy
end
end Lg
end Go.Proofs.Ytpfhmodjjljpjaa

namespace Go.Proofs.Ytpfhmodjjljpjaa
end Go.Proofs.Ytpfhmodjjljpjaa
