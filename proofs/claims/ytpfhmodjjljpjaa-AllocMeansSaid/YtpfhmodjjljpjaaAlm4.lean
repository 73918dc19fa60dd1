import Derived.Test.YtpfhmodjjljpjaaAlm3
set_option linter.unusedVariables false
set_option linter.unusedSimpArgs false
namespace Go.Proofs.Ytpfhmodjjljpjaa
open Go.RowKit
namespace Lg
set_option maxRecDepth 100000
set_option linter.unusedVariables false
set_option linter.unusedSimpArgs false
theorem body130 : (Try.prog.funcs[130]?).map (fun fn => (fn.name == "runtime.NumGoroutine" || fn.body.isNone)) = some false := by kernel_rfl
theorem bsets_spec (t : GTac) : Spec Try.prog 130 [.agg [.v (.int .i64 t.op), .v (.int .i64 t.d), .v (.int .i64 t.a), .v (.int .i64 t.b), .v (.int .i64 t.k), .v (.int .i64 t.base), .v (.int .i64 t.size), .v (.int .u32 t.n)]] 1 [] (.v (.int .i64 (setsT t))) 1 [] := by
 refine spec_of D (fn := Try.f130) rfl rfl (Nat.le_of_ble_eq_true rfl) ?_
 refine W_seq ?_
 refine W_seqK (b' := 33) rfl rfl ?_
 refine q1 1 1 1 rfl rfl (T_box rfl rfl flat_agg) rfl ?_
 refine q0 2 17 2 rfl rfl (T_assign rfl rfl) rfl ?_
 refine k_done rfl ?_
 refine thenK_n ?_
 refine W_seq ?_
 refine W_seq ?_
 refine W_seqK (b' := 65) rfl rfl ?_
 refine q0 3 33 1 rfl rfl (T_fa D (m := 0) rfl rfl rfl rfl rfl rfl) rfl ?_
 refine q0 4 49 2 rfl rfl (T_load_b D rfl rfl rfl rfl rfl rfl) rfl ?_
 refine k_done rfl ?_
 refine thenK_n ?_
 refine W_block ?_
 refine W_seq ?_
 refine W_seq ?_
 refine W_seqK (b' := 97) rfl rfl ?_
 refine q0 6 65 1 rfl rfl (T_cmp rfl rfl rfl rfl) rfl ?_
 refine q0 5 81 2 rfl rfl (T_assign rfl rfl) rfl ?_
 refine k_done rfl ?_
 refine thenK_n ?_
 refine W_cond rfl (fun g1 => ?_) (fun g1 => ?_)
 ·have h1 := c_eql_t g1
  refine W_skip ?_
  refine thenK_n ?_
  refine W_cond rfl (fun g2 => ?_) (fun g2 => ?_)
  ·skip
   refine W_seq ?_
   refine W_seqK (b' := 145) rfl rfl ?_
   refine q0 12 97 1 rfl rfl (T_fa D (m := 1) rfl rfl rfl rfl rfl rfl) rfl ?_
   refine q0 13 113 2 rfl rfl (T_load_b D rfl rfl rfl rfl rfl rfl) rfl ?_
   refine q0 2 129 3 rfl rfl (T_assign rfl rfl) rfl ?_
   refine k_done rfl ?_
   refine thenK_n ?_
   refine W_ret ?_
   refine blockK_r ?_
   refine thenK_r ?_
   exact .mk [] (.inr rfl) (.tmp rfl (.nil)) (by (simp only [resLV, LV.ren, LV.v.injEq, Value.int.injEq, true_and]; unfold setsT; rw [setsOp_t (by omega)]; rfl)) (.nil) rfl
  ·exact absurd (g2.symm.trans g1) (by decide)
 ·have h1 := c_eql_f g1
  refine W_seq ?_
  refine W_seqK (b' := 129) rfl rfl ?_
  refine q0 7 97 1 rfl rfl (T_cmp rfl rfl rfl rfl) rfl ?_
  refine q0 5 113 2 rfl rfl (T_assign rfl rfl) rfl ?_
  refine k_done rfl ?_
  refine thenK_n ?_
  refine W_cond rfl (fun g3 => ?_) (fun g3 => ?_)
  ·have h3 := c_eql_t g3
   refine W_skip ?_
   refine thenK_n ?_
   refine W_cond rfl (fun g4 => ?_) (fun g4 => ?_)
   ·skip
    refine W_seq ?_
    refine W_seqK (b' := 177) rfl rfl ?_
    refine q0 12 129 1 rfl rfl (T_fa D (m := 1) rfl rfl rfl rfl rfl rfl) rfl ?_
    refine q0 13 145 2 rfl rfl (T_load_b D rfl rfl rfl rfl rfl rfl) rfl ?_
    refine q0 2 161 3 rfl rfl (T_assign rfl rfl) rfl ?_
    refine k_done rfl ?_
    refine thenK_n ?_
    refine W_ret ?_
    refine blockK_r ?_
    refine thenK_r ?_
    exact .mk [] (.inr rfl) (.tmp rfl (.nil)) (by (simp only [resLV, LV.ren, LV.v.injEq, Value.int.injEq, true_and]; unfold setsT; rw [setsOp_t (by omega)]; rfl)) (.nil) rfl
   ·exact absurd (g4.symm.trans g3) (by decide)
  ·have h3 := c_eql_f g3
   refine W_seq ?_
   refine W_seqK (b' := 161) rfl rfl ?_
   refine q0 8 129 1 rfl rfl (T_cmp rfl rfl rfl rfl) rfl ?_
   refine q0 5 145 2 rfl rfl (T_assign rfl rfl) rfl ?_
   refine k_done rfl ?_
   refine thenK_n ?_
   refine W_cond rfl (fun g5 => ?_) (fun g5 => ?_)
   ·have h5 := c_eql_t g5
    refine W_skip ?_
    refine thenK_n ?_
    refine W_cond rfl (fun g6 => ?_) (fun g6 => ?_)
    ·skip
     refine W_seq ?_
     refine W_seqK (b' := 209) rfl rfl ?_
     refine q0 12 161 1 rfl rfl (T_fa D (m := 1) rfl rfl rfl rfl rfl rfl) rfl ?_
     refine q0 13 177 2 rfl rfl (T_load_b D rfl rfl rfl rfl rfl rfl) rfl ?_
     refine q0 2 193 3 rfl rfl (T_assign rfl rfl) rfl ?_
     refine k_done rfl ?_
     refine thenK_n ?_
     refine W_ret ?_
     refine blockK_r ?_
     refine thenK_r ?_
     exact .mk [] (.inr rfl) (.tmp rfl (.nil)) (by (simp only [resLV, LV.ren, LV.v.injEq, Value.int.injEq, true_and]; unfold setsT; rw [setsOp_t (by omega)]; rfl)) (.nil) rfl
    ·exact absurd (g6.symm.trans g5) (by decide)
   ·have h5 := c_eql_f g5
    refine W_seq ?_
    refine W_seqK (b' := 193) rfl rfl ?_
    refine q0 9 161 1 rfl rfl (T_cmp rfl rfl rfl rfl) rfl ?_
    refine q0 5 177 2 rfl rfl (T_assign rfl rfl) rfl ?_
    refine k_done rfl ?_
    refine thenK_n ?_
    refine W_cond rfl (fun g7 => ?_) (fun g7 => ?_)
    ·have h7 := c_eql_t g7
     refine W_skip ?_
     refine thenK_n ?_
     refine W_cond rfl (fun g8 => ?_) (fun g8 => ?_)
     ·skip
      refine W_seq ?_
      refine W_seqK (b' := 241) rfl rfl ?_
      refine q0 12 193 1 rfl rfl (T_fa D (m := 1) rfl rfl rfl rfl rfl rfl) rfl ?_
      refine q0 13 209 2 rfl rfl (T_load_b D rfl rfl rfl rfl rfl rfl) rfl ?_
      refine q0 2 225 3 rfl rfl (T_assign rfl rfl) rfl ?_
      refine k_done rfl ?_
      refine thenK_n ?_
      refine W_ret ?_
      refine blockK_r ?_
      refine thenK_r ?_
      exact .mk [] (.inr rfl) (.tmp rfl (.nil)) (by (simp only [resLV, LV.ren, LV.v.injEq, Value.int.injEq, true_and]; unfold setsT; rw [setsOp_t (by omega)]; rfl)) (.nil) rfl
     ·exact absurd (g8.symm.trans g7) (by decide)
    ·have h7 := c_eql_f g7
     refine W_seq ?_
     refine W_seqK (b' := 225) rfl rfl ?_
     refine q0 10 193 1 rfl rfl (T_cmp rfl rfl rfl rfl) rfl ?_
     refine q0 5 209 2 rfl rfl (T_assign rfl rfl) rfl ?_
     refine k_done rfl ?_
     refine thenK_n ?_
     refine W_cond rfl (fun g9 => ?_) (fun g9 => ?_)
     ·have h9 := c_eql_t g9
      refine W_skip ?_
      refine thenK_n ?_
      refine W_cond rfl (fun g10 => ?_) (fun g10 => ?_)
      ·skip
       refine W_seq ?_
       refine W_seqK (b' := 273) rfl rfl ?_
       refine q0 12 225 1 rfl rfl (T_fa D (m := 1) rfl rfl rfl rfl rfl rfl) rfl ?_
       refine q0 13 241 2 rfl rfl (T_load_b D rfl rfl rfl rfl rfl rfl) rfl ?_
       refine q0 2 257 3 rfl rfl (T_assign rfl rfl) rfl ?_
       refine k_done rfl ?_
       refine thenK_n ?_
       refine W_ret ?_
       refine blockK_r ?_
       refine thenK_r ?_
       exact .mk [] (.inr rfl) (.tmp rfl (.nil)) (by (simp only [resLV, LV.ren, LV.v.injEq, Value.int.injEq, true_and]; unfold setsT; rw [setsOp_t (by omega)]; rfl)) (.nil) rfl
      ·exact absurd (g10.symm.trans g9) (by decide)
     ·have h9 := c_eql_f g9
      refine W_seqK (b' := 257) rfl rfl ?_
      refine q0 11 225 1 rfl rfl (T_cmp rfl rfl rfl rfl) rfl ?_
      refine q0 5 241 2 rfl rfl (T_assign rfl rfl) rfl ?_
      refine k_done rfl ?_
      refine thenK_n ?_
      refine W_cond rfl (fun g11 => ?_) (fun g11 => ?_)
      ·have h11 := c_eql_t g11
       refine W_seq ?_
       refine W_seqK (b' := 305) rfl rfl ?_
       refine q0 12 257 1 rfl rfl (T_fa D (m := 1) rfl rfl rfl rfl rfl rfl) rfl ?_
       refine q0 13 273 2 rfl rfl (T_load_b D rfl rfl rfl rfl rfl rfl) rfl ?_
       refine q0 2 289 3 rfl rfl (T_assign rfl rfl) rfl ?_
       refine k_done rfl ?_
       refine thenK_n ?_
       refine W_ret ?_
       refine blockK_r ?_
       refine thenK_r ?_
       exact .mk [] (.inr rfl) (.tmp rfl (.nil)) (by (simp only [resLV, LV.ren, LV.v.injEq, Value.int.injEq, true_and]; unfold setsT; rw [setsOp_t (by omega)]; rfl)) (.nil) rfl
      ·have h11 := c_eql_f g11
       refine W_skip ?_
       refine blockK_n ?_
       refine thenK_n ?_
       refine W_seq ?_
       refine W_seqK (b' := 273) rfl rfl ?_
       refine q0 2 257 1 rfl rfl (T_assign rfl rfl) rfl ?_
       refine k_done rfl ?_
       refine thenK_n ?_
       refine W_ret ?_
       exact .mk [] (.inr rfl) (.tmp rfl (.nil)) (by (simp only [resLV, LV.ren, LV.v.injEq, Value.int.injEq, true_and]; unfold setsT; rw [setsOp_f (by omega)]; rfl)) (.nil) rfl
theorem body131 : (Try.prog.funcs[131]?).map (fun fn => (fn.name == "runtime.NumGoroutine" || fn.body.isNone)) = some false := by kernel_rfl
theorem buses_spec (t : GTac) : Spec Try.prog 131 [.agg [.v (.int .i64 t.op), .v (.int .i64 t.d), .v (.int .i64 t.a), .v (.int .i64 t.b), .v (.int .i64 t.k), .v (.int .i64 t.base), .v (.int .i64 t.size), .v (.int .u32 t.n)]] 1 [] (.r 1) 2 [(1, .row 3 1 ((usesT t).map eI))] := by
 refine spec_of D (fn := Try.f131) rfl rfl (Nat.le_of_ble_eq_true rfl) ?_
 refine W_seq ?_
 refine W_seqK (b' := 33) rfl rfl ?_
 refine q1 1 1 1 rfl rfl (T_box rfl rfl flat_agg) rfl ?_
 refine q1 2 17 2 rfl rfl (T_nils [(3, 1)] (T_assign rfl rfl) rfl (.inr ⟨rfl, rfl⟩) (.cons (.nil rfl) .nil) (lv' := .r 17) (upd' := [(17, .row 3 1 (List.map eI ([] : List (Int))))]) (nn' := 1) rfl rfl) rfl ?_
 refine k_done rfl ?_
 refine thenK_n ?_
 refine W_seq ?_
 refine W_seq ?_
 refine W_seqK (b' := 65) rfl rfl ?_
 refine q0 3 33 1 rfl rfl (T_fa D (m := 0) rfl rfl rfl rfl rfl rfl) rfl ?_
 refine q0 4 49 2 rfl rfl (T_load_b D rfl rfl rfl rfl rfl rfl) rfl ?_
 refine k_done rfl ?_
 refine thenK_n ?_
 refine W_block ?_
 refine W_seq ?_
 refine W_seq ?_
 refine W_seqK (b' := 97) rfl rfl ?_
 refine q0 6 65 1 rfl rfl (T_cmp rfl rfl rfl rfl) rfl ?_
 refine q0 5 81 2 rfl rfl (T_assign rfl rfl) rfl ?_
 refine k_done rfl ?_
 refine thenK_n ?_
 refine W_cond rfl (fun g1 => ?_) (fun g1 => ?_)
 ·have h1 := c_eql_t g1
  refine W_skip ?_
  refine thenK_n ?_
  refine W_cond rfl (fun g2 => ?_) (fun g2 => ?_)
  ·skip
   refine W_seq ?_
   refine W_seqK (b' := 161) rfl rfl ?_
   refine q0 10 97 1 rfl rfl (T_fa D (m := 2) rfl rfl rfl rfl rfl rfl) rfl ?_
   refine q0 11 113 2 rfl rfl (T_load_b D rfl rfl rfl rfl rfl rfl) rfl ?_
   refine q1 12 129 3 rfl rfl (T_bs D (ys := [_]) (enc := eI) (l := [_]) rfl rfl rfl rfl rfl rfl (.cons rfl (flat_v rfl) (.nil)) rfl rfl rfl rfl (.v rfl (.nil)) rfl rfl) rfl ?_
   refine q0 2 145 4 rfl rfl (T_assign rfl rfl) rfl ?_
   refine k_done rfl ?_
   refine thenK_n ?_
   refine W_ret ?_
   refine blockK_r ?_
   refine thenK_r ?_
   exact .mk [(1, 129)] (.inr rfl) (.tmp rfl (.nil)) rfl (.rowE rfl (.nil) (by (unfold usesT; rw [if_pos (by omega)]; done))) rfl
  ·exact absurd (g2.symm.trans g1) (by decide)
 ·have h1 := c_eql_f g1
  refine W_seq ?_
  refine W_seqK (b' := 129) rfl rfl ?_
  refine q0 7 97 1 rfl rfl (T_cmp rfl rfl rfl rfl) rfl ?_
  refine q0 5 113 2 rfl rfl (T_assign rfl rfl) rfl ?_
  refine k_done rfl ?_
  refine thenK_n ?_
  refine W_cond rfl (fun g3 => ?_) (fun g3 => ?_)
  ·have h3 := c_eql_t g3
   refine W_skip ?_
   refine thenK_n ?_
   refine W_cond rfl (fun g4 => ?_) (fun g4 => ?_)
   ·skip
    refine W_seq ?_
    refine W_seqK (b' := 193) rfl rfl ?_
    refine q0 10 129 1 rfl rfl (T_fa D (m := 2) rfl rfl rfl rfl rfl rfl) rfl ?_
    refine q0 11 145 2 rfl rfl (T_load_b D rfl rfl rfl rfl rfl rfl) rfl ?_
    refine q1 12 161 3 rfl rfl (T_bs D (ys := [_]) (enc := eI) (l := [_]) rfl rfl rfl rfl rfl rfl (.cons rfl (flat_v rfl) (.nil)) rfl rfl rfl rfl (.v rfl (.nil)) rfl rfl) rfl ?_
    refine q0 2 177 4 rfl rfl (T_assign rfl rfl) rfl ?_
    refine k_done rfl ?_
    refine thenK_n ?_
    refine W_ret ?_
    refine blockK_r ?_
    refine thenK_r ?_
    exact .mk [(1, 161)] (.inr rfl) (.tmp rfl (.nil)) rfl (.rowE rfl (.nil) (by (unfold usesT; rw [if_pos (by omega)]; done))) rfl
   ·exact absurd (g4.symm.trans g3) (by decide)
  ·have h3 := c_eql_f g3
   refine W_seq ?_
   refine W_seqK (b' := 161) rfl rfl ?_
   refine q0 8 129 1 rfl rfl (T_cmp rfl rfl rfl rfl) rfl ?_
   refine q0 5 145 2 rfl rfl (T_assign rfl rfl) rfl ?_
   refine k_done rfl ?_
   refine thenK_n ?_
   refine W_cond rfl (fun g5 => ?_) (fun g5 => ?_)
   ·have h5 := c_eql_t g5
    refine W_skip ?_
    refine thenK_n ?_
    refine W_cond rfl (fun g6 => ?_) (fun g6 => ?_)
    ·skip
     refine W_seq ?_
     refine W_seqK (b' := 225) rfl rfl ?_
     refine q0 10 161 1 rfl rfl (T_fa D (m := 2) rfl rfl rfl rfl rfl rfl) rfl ?_
     refine q0 11 177 2 rfl rfl (T_load_b D rfl rfl rfl rfl rfl rfl) rfl ?_
     refine q1 12 193 3 rfl rfl (T_bs D (ys := [_]) (enc := eI) (l := [_]) rfl rfl rfl rfl rfl rfl (.cons rfl (flat_v rfl) (.nil)) rfl rfl rfl rfl (.v rfl (.nil)) rfl rfl) rfl ?_
     refine q0 2 209 4 rfl rfl (T_assign rfl rfl) rfl ?_
     refine k_done rfl ?_
     refine thenK_n ?_
     refine W_ret ?_
     refine blockK_r ?_
     refine thenK_r ?_
     exact .mk [(1, 193)] (.inr rfl) (.tmp rfl (.nil)) rfl (.rowE rfl (.nil) (by (unfold usesT; rw [if_pos (by omega)]; done))) rfl
    ·exact absurd (g6.symm.trans g5) (by decide)
   ·have h5 := c_eql_f g5
    refine W_seqK (b' := 193) rfl rfl ?_
    refine q0 9 161 1 rfl rfl (T_cmp rfl rfl rfl rfl) rfl ?_
    refine q0 5 177 2 rfl rfl (T_assign rfl rfl) rfl ?_
    refine k_done rfl ?_
    refine thenK_n ?_
    refine W_cond rfl (fun g7 => ?_) (fun g7 => ?_)
    ·have h7 := c_eql_t g7
     refine W_seq ?_
     refine W_seqK (b' := 257) rfl rfl ?_
     refine q0 10 193 1 rfl rfl (T_fa D (m := 2) rfl rfl rfl rfl rfl rfl) rfl ?_
     refine q0 11 209 2 rfl rfl (T_load_b D rfl rfl rfl rfl rfl rfl) rfl ?_
     refine q1 12 225 3 rfl rfl (T_bs D (ys := [_]) (enc := eI) (l := [_]) rfl rfl rfl rfl rfl rfl (.cons rfl (flat_v rfl) (.nil)) rfl rfl rfl rfl (.v rfl (.nil)) rfl rfl) rfl ?_
     refine q0 2 241 4 rfl rfl (T_assign rfl rfl) rfl ?_
     refine k_done rfl ?_
     refine thenK_n ?_
     refine W_ret ?_
     refine blockK_r ?_
     refine thenK_r ?_
     exact .mk [(1, 225)] (.inr rfl) (.tmp rfl (.nil)) rfl (.rowE rfl (.nil) (by (unfold usesT; rw [if_pos (by omega)]; done))) rfl
    ·have h7 := c_eql_f g7
     refine W_seq ?_
     refine W_seq ?_
     refine W_seqK (b' := 225) rfl rfl ?_
     refine q0 14 193 1 rfl rfl (T_cmp rfl rfl rfl rfl) rfl ?_
     refine q0 13 209 2 rfl rfl (T_assign rfl rfl) rfl ?_
     refine k_done rfl ?_
     refine thenK_n ?_
     refine W_cond rfl (fun g8 => ?_) (fun g8 => ?_)
     ·have h8 := c_eql_t g8
      refine W_skip ?_
      refine thenK_n ?_
      refine W_cond rfl (fun g9 => ?_) (fun g9 => ?_)
      ·skip
       refine W_seq ?_
       refine W_seqK (b' := 321) rfl rfl ?_
       refine q0 16 225 1 rfl rfl (T_fa D (m := 2) rfl rfl rfl rfl rfl rfl) rfl ?_
       refine q0 17 241 2 rfl rfl (T_load_b D rfl rfl rfl rfl rfl rfl) rfl ?_
       refine q0 18 257 3 rfl rfl (T_fa D (m := 3) rfl rfl rfl rfl rfl rfl) rfl ?_
       refine q0 19 273 4 rfl rfl (T_load_b D rfl rfl rfl rfl rfl rfl) rfl ?_
       refine q1 20 289 5 rfl rfl (T_bs D (ys := [_, _]) (enc := eI) (l := [_, _]) rfl rfl rfl rfl rfl rfl (.cons rfl (flat_v rfl) (.cons rfl (flat_v rfl) (.nil))) rfl rfl rfl rfl (.v rfl (.v rfl (.nil))) rfl rfl) rfl ?_
       refine q0 2 305 6 rfl rfl (T_assign rfl rfl) rfl ?_
       refine k_done rfl ?_
       refine thenK_n ?_
       refine W_ret ?_
       refine blockK_r ?_
       refine thenK_r ?_
       exact .mk [(1, 289)] (.inr rfl) (.tmp rfl (.nil)) rfl (.rowE rfl (.nil) (by (unfold usesT; rw [if_neg (by omega), if_pos (by omega)]; done))) rfl
      ·exact absurd (g9.symm.trans g8) (by decide)
     ·have h8 := c_eql_f g8
      refine W_seqK (b' := 257) rfl rfl ?_
      refine q0 15 225 1 rfl rfl (T_cmp rfl rfl rfl rfl) rfl ?_
      refine q0 13 241 2 rfl rfl (T_assign rfl rfl) rfl ?_
      refine k_done rfl ?_
      refine thenK_n ?_
      refine W_cond rfl (fun g10 => ?_) (fun g10 => ?_)
      ·have h10 := c_eql_t g10
       refine W_seq ?_
       refine W_seqK (b' := 353) rfl rfl ?_
       refine q0 16 257 1 rfl rfl (T_fa D (m := 2) rfl rfl rfl rfl rfl rfl) rfl ?_
       refine q0 17 273 2 rfl rfl (T_load_b D rfl rfl rfl rfl rfl rfl) rfl ?_
       refine q0 18 289 3 rfl rfl (T_fa D (m := 3) rfl rfl rfl rfl rfl rfl) rfl ?_
       refine q0 19 305 4 rfl rfl (T_load_b D rfl rfl rfl rfl rfl rfl) rfl ?_
       refine q1 20 321 5 rfl rfl (T_bs D (ys := [_, _]) (enc := eI) (l := [_, _]) rfl rfl rfl rfl rfl rfl (.cons rfl (flat_v rfl) (.cons rfl (flat_v rfl) (.nil))) rfl rfl rfl rfl (.v rfl (.v rfl (.nil))) rfl rfl) rfl ?_
       refine q0 2 337 6 rfl rfl (T_assign rfl rfl) rfl ?_
       refine k_done rfl ?_
       refine thenK_n ?_
       refine W_ret ?_
       refine blockK_r ?_
       refine thenK_r ?_
       exact .mk [(1, 321)] (.inr rfl) (.tmp rfl (.nil)) rfl (.rowE rfl (.nil) (by (unfold usesT; rw [if_neg (by omega), if_pos (by omega)]; done))) rfl
      ·have h10 := c_eql_f g10
       refine W_skip ?_
       refine blockK_n ?_
       refine thenK_n ?_
       refine W_seq ?_
       refine W_seqK (b' := 273) rfl rfl ?_
       refine q1 2 257 1 rfl rfl (T_nils [(3, 1)] (T_assign rfl rfl) rfl (.inr ⟨rfl, rfl⟩) (.cons (.nil rfl) .nil) (lv' := .r 257) (upd' := [(257, .row 3 1 (List.map eI ([] : List (Int))))]) (nn' := 1) rfl rfl) rfl ?_
       refine k_done rfl ?_
       refine thenK_n ?_
       refine W_ret ?_
       exact .mk [(1, 257)] (.inr rfl) (.tmp rfl (.nil)) rfl (.rowE rfl (.nil) (by (unfold usesT; rw [if_neg (by omega), if_neg (by omega)]; done))) rfl
theorem body104 : (Try.prog.funcs[104]?).map (fun fn => (fn.name == "runtime.NumGoroutine" || fn.body.isNone)) = some false := by kernel_rfl
theorem clone_spec (s : List Bool) (hs : s.length ≤ 1000000) : Spec Try.prog 104 [.r 1] 2 [(1, .fz 1 (s.map eB))] (.r 2) 3 [(2, .row 4 1 (s.map eB))] := by
 refine spec_of D (fn := Try.f104) rfl rfl (Nat.le_of_ble_eq_true rfl) ?_
 refine W_seq ?_
 refine W_seqK (b' := 18) rfl rfl ?_
 refine q1 2 2 1 rfl rfl (T_nils [(4, 1)] (T_assign rfl rfl) rfl (.inr ⟨rfl, rfl⟩) (.cons (.nil rfl) .nil) (lv' := .r 2) (upd' := [(2, .row 4 1 (List.map eB ([] : List (Bool))))]) (nn' := 1) rfl rfl) rfl ?_
 refine k_done rfl ?_
 refine thenK_n ?_
 refine W_seq ?_
 refine W_seq ?_
 refine W_nilR (d0 := 3) (d1 := 4) (b' := 50) rfl rfl rfl rfl rfl rfl rfl rfl rfl (by rw [Try.underlying124]) rfl rfl (fun c1 hc1 => ?_)
 refine thenK_n ?_
 refine W_cond rfl (fun g2 => ?_) (fun g2 => ?_)
 ·have h2 := g2; (try simp only [cmpB, decide_eq_true_eq, decide_eq_false_iff_not, beq_iff_eq, beq_eq_false_iff_ne, bne_iff_ne, ne_eq, bne_eq_false_iff_eq, Bool.not_eq_true', Bool.not_eq_false', Int.not_lt, Int.not_le] at h2)
  refine W_seq ?_
  refine W_seqK (b' := 66) rfl rfl ?_
  refine q1 2 50 1 rfl rfl (T_nils [(4, 1)] (T_assign rfl rfl) rfl (.inr ⟨rfl, rfl⟩) (.cons (.nil rfl) .nil) (lv' := .r 50) (upd' := [(50, .row 4 1 (List.map eB ([] : List (Bool))))]) (nn' := 1) rfl rfl) rfl ?_
  refine k_done rfl ?_
  refine thenK_n ?_
  refine W_ret ?_
  refine thenK_r ?_
  exact .mk [(2, 50)] (.inr rfl) (.tmp rfl (.nil)) rfl (.rowE rfl (.nil) (by (have e : s = [] := (by simpa using hc1 g2); subst e; rfl))) rfl
 ·have h2 := g2; (try simp only [cmpB, decide_eq_true_eq, decide_eq_false_iff_not, beq_iff_eq, beq_eq_false_iff_ne, bne_iff_ne, ne_eq, bne_eq_false_iff_eq, Bool.not_eq_true', Bool.not_eq_false', Int.not_lt, Int.not_le] at h2)
  refine W_skip ?_
  refine thenK_n ?_
  refine W_seq ?_
  refine W_seqK (b' := 114) rfl rfl ?_
  refine q1 5 50 1 rfl rfl (T_bs D (ys := []) (enc := eB) (l := []) rfl rfl rfl rfl rfl rfl (.nil) rfl rfl rfl rfl (.nil) rfl rfl) rfl ?_
  refine q0 6 66 2 rfl rfl (T_move rfl rfl) rfl ?_
  refine qn 7 82 3 rfl rfl (T_append D rfl rfl rfl rfl rfl rfl rfl rfl rfl rfl rfl rfl (by (try simp only [ty4]); (simp; omega)) (by (try simp only [ty4]); (simp; omega))) rfl ?_
  refine q0 2 98 4 rfl rfl (T_assign rfl rfl) rfl ?_
  refine k_done rfl ?_
  refine thenK_n ?_
  refine W_ret ?_
  exact .mk [(2, 82)] (.inr rfl) (.tmp rfl (.nil)) rfl (.rowE rfl (.nil) (by rfl)) rfl
theorem body89 : (Try.prog.funcs[89]?).map (fun fn => (fn.name == "runtime.NumGoroutine" || fn.body.isNone)) = some false := by kernel_rfl
theorem empty_spec (n : Int) (h : 0 ≤ n ∧ n ≤ 1000000) : Spec Try.prog 89 [.v (.int .i64 n)] 1 [] (.r 1) 2 [(1, .row 4 1 ((List.replicate n.toNat false).map eB))] := by
 refine spec_of D (fn := Try.f89) rfl rfl (Nat.le_of_ble_eq_true rfl) ?_
 refine W_seq ?_
 refine W_seqK (b' := 17) rfl rfl ?_
 refine q1 2 1 1 rfl rfl (T_nils [(4, 1)] (T_assign rfl rfl) rfl (.inr ⟨rfl, rfl⟩) (.cons (.nil rfl) .nil) (lv' := .r 1) (upd' := [(1, .row 4 1 (List.map eB ([] : List (Bool))))]) (nn' := 1) rfl rfl) rfl ?_
 refine k_done rfl ?_
 refine thenK_n ?_
 refine W_seq ?_
 refine W_seqK (b' := 65) rfl rfl ?_
 refine q0 3 17 1 rfl rfl (T_move rfl rfl) rfl ?_
 refine q1 4 33 2 rfl rfl (T_makeZ (x := .tmp 3) (y := .tmp 3) (m := n.toNat) (by omega) rfl rfl (fun k1 k2 => T_make D (zx := false) (enc := eB) rfl k1 k2 rfl rfl rfl rfl (.v rfl (.nil)) rfl (by (try simp only [ty4]); omega) (by (try simp only [ty4]); omega))) rfl ?_
 refine q0 2 49 3 rfl rfl (T_assign rfl rfl) rfl ?_
 refine k_done rfl ?_
 refine thenK_n ?_
 refine W_ret ?_
 exact .mk [(1, 33)] (.inr rfl) (.tmp rfl (.nil)) rfl (.rowE rfl (.nil) (by rfl)) rfl
theorem body92 : (Try.prog.funcs[92]?).map (fun fn => (fn.name == "runtime.NumGoroutine" || fn.body.isNone)) = some false := by kernel_rfl
theorem add_spec (s t : List Bool) (hs : s.length ≤ 1000000) (ht : t.length ≤ s.length) : Spec Try.prog 92 [.r 1, .r 2] 3 [(1, .row 4 1 (s.map eB)), (2, .fz 1 (t.map eB))] (.v (.bool (moreS s t))) 3 [(1, .row 4 1 ((addS s t).map eB))] := by
 refine spec_of D (fn := Try.f92) rfl rfl (Nat.le_of_ble_eq_true rfl) ?_
 refine W_seq ?_
 refine W_seqK (b' := 19) rfl rfl ?_
 refine q0 4 3 1 rfl rfl (T_assign rfl rfl) rfl ?_
 refine k_done rfl ?_
 refine thenK_n ?_
 refine W_seq ?_
 refine W_seqK (b' := 35) rfl rfl ?_
 refine q0 5 19 1 rfl rfl (T_assign rfl rfl) rfl ?_
 refine k_done rfl ?_
 refine thenK_n ?_
 refine W_seq ?_
 refine W_seq ?_
 refine W_seqK (b' := 83) rfl rfl ?_
 refine q0 8 35 1 rfl rfl (T_move rfl rfl) rfl ?_
 refine q0 9 51 2 rfl rfl (T_len D rfl rfl rfl rfl rfl rfl) rfl ?_
 refine q0 10 67 3 rfl rfl (T_move rfl rfl) rfl ?_
 refine k_done rfl ?_
 refine thenK_n ?_
 refine W_block ?_
 refine W_loop (ι := Nat) 3 (fun j => ⟨[(0, .r 1), (5, .v (.bool (addJ s t j).2)), (8, .r 2), (9, .v (.int .i64 (t.length : Int))), (10, .v (.int .i64 (j : Int)))], [(1, .row 4 1 ((addJ s t j).1.map eB)), (2, .fz 1 (t.map eB))]⟩) (fun j => j ≤ t.length) (fun j => t.length - j) (0) (by exact Nat.zero_le _) ?_ (fun j hJ => ?_)
 ·exact ⟨[], .same rfl rfl (.eq rfl (.same rfl rfl (.eq rfl (.eq rfl (.nil) (by rfl)) (by rfl))) (by rfl)), .rowE rfl (.fzE rfl (.nil) (by rfl)) (by rfl), rfl⟩
 have hal := addJ_len s t j
 refine W_seq ?_
 refine W_seqK (b' := 19) rfl rfl ?_
 refine q0 11 3 1 rfl rfl (T_cmp rfl rfl rfl rfl) rfl ?_
 refine k_done rfl ?_
 refine thenK_n ?_
 refine W_seq ?_
 refine W_cond rfl (fun g1 => ?_) (fun g1 => ?_)
 ·have h1 := c_lss_t g1
  refine W_skip ?_
  refine thenK_n ?_
  refine W_seq ?_
  refine W_block ?_
  refine W_seq ?_
  refine W_seqK (b' := 99) rfl rfl ?_
  refine q0 12 19 1 rfl rfl (T_move rfl rfl) rfl ?_
  refine q0 13 35 2 rfl rfl (T_indexAddr D rfl rfl rfl rfl rfl rfl rfl rfl (by omega)) rfl ?_
  refine q0 14 51 3 rfl rfl (T_ldE D (lv := .v _) (nn := 0) (upd := []) rfl rfl rfl rfl rfl (by omega) rfl rfl rfl rfl) rfl ?_
  refine q0 6 67 4 rfl rfl (T_assign rfl rfl) rfl ?_
  refine q0 7 83 5 rfl rfl (T_assign rfl rfl) rfl ?_
  refine k_done rfl ?_
  refine thenK_n ?_
  refine W_seq ?_
  refine W_seqK (b' := 227) rfl rfl ?_
  refine q0 15 99 1 rfl rfl (T_move rfl rfl) rfl ?_
  refine q0 16 115 2 rfl rfl (T_move rfl rfl) rfl ?_
  refine k_split (d := 16) rfl (fun g2 => ?_) (fun g2 => ?_)
  ·have h2 := g2; (try simp only [cmpB, decide_eq_true_eq, decide_eq_false_iff_not, beq_iff_eq, beq_eq_false_iff_ne, bne_iff_ne, ne_eq, bne_eq_false_iff_eq, Bool.not_eq_true', Bool.not_eq_false', Int.not_lt, Int.not_le] at h2)
   refine k_op0 (d := 17) (b := 131) (j' := 3) rfl rfl rfl rfl (g_tt rfl rfl rfl g2) (T_move rfl rfl) rfl ?_
   refine k_op0 (d := 18) (b := 147) (j' := 4) rfl rfl rfl rfl (g_tt rfl rfl rfl g2) (T_move rfl rfl) rfl ?_
   refine k_op0 (d := 19) (b := 163) (j' := 5) rfl rfl rfl rfl (g_tt rfl rfl rfl g2) (T_indexAddr D rfl rfl rfl rfl rfl rfl rfl rfl (by omega)) rfl ?_
   refine k_op0 (d := 20) (b := 179) (j' := 6) rfl rfl rfl rfl (g_tt rfl rfl rfl g2) (T_ldE D (lv := .v _) (nn := 0) (upd := []) rfl rfl rfl rfl rfl (by omega) rfl rfl rfl rfl) rfl ?_
   refine k_op0 (d := 21) (b := 195) (j' := 7) rfl rfl rfl rfl (g_tt rfl rfl rfl g2) (T_not rfl rfl) rfl ?_
   refine q0 22 211 8 rfl rfl (T_pick_t rfl rfl rfl g2) rfl ?_
   refine k_done rfl ?_
   refine thenK_n ?_
   refine W_cond rfl (fun g3 => ?_) (fun g3 => ?_)
   ·have h3 := g3; (try simp only [cmpB, decide_eq_true_eq, decide_eq_false_iff_not, beq_iff_eq, beq_eq_false_iff_ne, bne_iff_ne, ne_eq, bne_eq_false_iff_eq, Bool.not_eq_true', Bool.not_eq_false', Int.not_lt, Int.not_le] at h3)
    refine W_seqK (b' := 307) rfl rfl ?_
    refine q0 23 227 1 rfl rfl (T_move rfl rfl) rfl ?_
    refine q0 24 243 2 rfl rfl (T_move rfl rfl) rfl ?_
    refine q0 25 259 3 rfl rfl (T_indexAddr D rfl rfl rfl rfl rfl rfl rfl rfl (by omega)) rfl ?_
    refine s1 275 4 rfl rfl (T_store_e D (z := _) rfl rfl rfl rfl (flat_v rfl) rfl rfl (by omega) (.v rfl (.nil)) rfl (Nat.le_of_ble_eq_true rfl) rfl) rfl ?_
    refine q0 5 291 5 rfl rfl (T_assign rfl rfl) rfl ?_
    refine k_done rfl ?_
    refine blockK_n ?_
    refine thenK_n ?_
    refine W_seqK (b' := 339) rfl rfl ?_
    refine q0 26 307 1 rfl rfl (T_add64 rfl rfl rfl (by omega)) rfl ?_
    refine q0 10 323 2 rfl rfl (T_move rfl rfl) rfl ?_
    refine k_done rfl ?_
    refine thenK_n ?_
    refine ⟨j + 1, by (try dsimp only); omega, by (try dsimp only); omega, ?_⟩
    exact ⟨[], .same rfl rfl (.eq rfl (.same rfl rfl (.eq rfl (.eq rfl (.nil) (by rfl)) rfl)) (by (rw [addJ_yes (by assumption) (by assumption)]; done))), .rowE rfl (.fzE rfl (.nil) rfl) (by (rw [addJ_yes (by assumption) (by assumption)]; done)), rfl⟩
   ·have h3 := g3; (try simp only [cmpB, decide_eq_true_eq, decide_eq_false_iff_not, beq_iff_eq, beq_eq_false_iff_ne, bne_iff_ne, ne_eq, bne_eq_false_iff_eq, Bool.not_eq_true', Bool.not_eq_false', Int.not_lt, Int.not_le] at h3)
    refine W_skip ?_
    refine blockK_n ?_
    refine thenK_n ?_
    refine W_seqK (b' := 259) rfl rfl ?_
    refine q0 26 227 1 rfl rfl (T_add64 rfl rfl rfl (by omega)) rfl ?_
    refine q0 10 243 2 rfl rfl (T_move rfl rfl) rfl ?_
    refine k_done rfl ?_
    refine thenK_n ?_
    refine ⟨j + 1, by (try dsimp only); omega, by (try dsimp only); omega, ?_⟩
    exact ⟨[], .same rfl rfl (.eq rfl (.same rfl rfl (.eq rfl (.eq rfl (.nil) (by rfl)) rfl)) (by (rw [addJ_no2 (by assumption)]; done))), .rowE rfl (.fzE rfl (.nil) rfl) (by (rw [addJ_no2 (by assumption)]; done)), rfl⟩
  ·have h2 := g2; (try simp only [cmpB, decide_eq_true_eq, decide_eq_false_iff_not, beq_iff_eq, beq_eq_false_iff_ne, bne_iff_ne, ne_eq, bne_eq_false_iff_eq, Bool.not_eq_true', Bool.not_eq_false', Int.not_lt, Int.not_le] at h2)
   refine k_no (d := 17) (j' := 3) rfl rfl rfl (g_tf rfl rfl rfl g2) ?_
   refine k_no (d := 18) (j' := 4) rfl rfl rfl (g_tf rfl rfl rfl g2) ?_
   refine k_no (d := 19) (j' := 5) rfl rfl rfl (g_tf rfl rfl rfl g2) ?_
   refine k_no (d := 20) (j' := 6) rfl rfl rfl (g_tf rfl rfl rfl g2) ?_
   refine k_no (d := 21) (j' := 7) rfl rfl rfl (g_tf rfl rfl rfl g2) ?_
   refine q0 22 211 8 rfl rfl (T_pick_f rfl rfl rfl g2) rfl ?_
   refine k_done rfl ?_
   refine thenK_n ?_
   refine W_cond rfl (fun g4 => ?_) (fun g4 => ?_)
   ·exact absurd (g4.symm.trans rfl) (by decide)
   ·skip
    refine W_skip ?_
    refine blockK_n ?_
    refine thenK_n ?_
    refine W_seqK (b' := 259) rfl rfl ?_
    refine q0 26 227 1 rfl rfl (T_add64 rfl rfl rfl (by omega)) rfl ?_
    refine q0 10 243 2 rfl rfl (T_move rfl rfl) rfl ?_
    refine k_done rfl ?_
    refine thenK_n ?_
    refine ⟨j + 1, by (try dsimp only); omega, by (try dsimp only); omega, ?_⟩
    exact ⟨[], .same rfl rfl (.eq rfl (.same rfl rfl (.eq rfl (.eq rfl (.nil) (by rfl)) rfl)) (by (rw [addJ_no1 (by assumption)]; done))), .rowE rfl (.fzE rfl (.nil) rfl) (by (rw [addJ_no1 (by assumption)]; done)), rfl⟩
 ·have h1 := c_lss_f g1
  refine W_exit ?_
  refine thenK_e ?_
  refine thenK_e ?_
  refine blockK_hit ?_
  refine thenK_n ?_
  refine W_seq ?_
  refine W_seqK (b' := 51) rfl rfl ?_
  refine q0 27 19 1 rfl rfl (T_move rfl rfl) rfl ?_
  refine q0 4 35 2 rfl rfl (T_assign rfl rfl) rfl ?_
  refine k_done rfl ?_
  refine thenK_n ?_
  refine W_ret ?_
  exact .mk [] (.inr rfl) (.tmp rfl (.nil)) (by (have e : j = t.length := (by omega); rw [e]; rfl)) (.rowE rfl (.nil) (by (have e : j = t.length := (by omega); rw [e]; rfl))) rfl
theorem body96 : (Try.prog.funcs[96]?).map (fun fn => (fn.name == "runtime.NumGoroutine" || fn.body.isNone)) = some false := by kernel_rfl
theorem within_set_spec (s t : List Bool) (hs : s.length ≤ 1000000) (ht : s.length ≤ t.length) : Spec Try.prog 96 [.r 1, .r 2] 3 [(1, .fz 1 (s.map eB)), (2, .fz 1 (t.map eB))] (.v (.bool (withinS s t))) 3 [] := by
 refine spec_of D (fn := Try.f96) rfl rfl (Nat.le_of_ble_eq_true rfl) ?_
 refine W_seq ?_
 refine W_seqK (b' := 19) rfl rfl ?_
 refine q0 4 3 1 rfl rfl (T_assign rfl rfl) rfl ?_
 refine k_done rfl ?_
 refine thenK_n ?_
 refine W_seq ?_
 refine W_seq ?_
 refine W_seqK (b' := 67) rfl rfl ?_
 refine q0 7 19 1 rfl rfl (T_move rfl rfl) rfl ?_
 refine q0 8 35 2 rfl rfl (T_len D rfl rfl rfl rfl rfl rfl) rfl ?_
 refine q0 9 51 3 rfl rfl (T_move rfl rfl) rfl ?_
 refine k_done rfl ?_
 refine thenK_n ?_
 refine W_block ?_
 refine W_loop (ι := Nat) 3 (fun j => ⟨[(1, .r 2), (7, .r 1), (8, .v (.int .i64 (s.length : Int))), (9, .v (.int .i64 (j : Int)))], [(1, .fz 1 (s.map eB)), (2, .fz 1 (t.map eB))]⟩) (fun j => j ≤ s.length ∧ ∀ i, i < j → s.getD i default = true → t.getD i default = true) (fun j => s.length - j) (0) (by exact ⟨Nat.zero_le _, fun i h => absurd h (Nat.not_lt_zero _)⟩) ?_ (fun j hJ => ?_)
 ·exact ⟨[], .same rfl rfl (.same rfl rfl (.eq rfl (.eq rfl (.nil) (by rfl)) (by rfl))), .fzE rfl (.fzE rfl (.nil) (by rfl)) (by rfl), rfl⟩
 refine W_seq ?_
 refine W_seqK (b' := 19) rfl rfl ?_
 refine q0 10 3 1 rfl rfl (T_cmp rfl rfl rfl rfl) rfl ?_
 refine k_done rfl ?_
 refine thenK_n ?_
 refine W_seq ?_
 refine W_cond rfl (fun g1 => ?_) (fun g1 => ?_)
 ·have h1 := c_lss_t g1
  refine W_skip ?_
  refine thenK_n ?_
  refine W_seq ?_
  refine W_block ?_
  refine W_seq ?_
  refine W_seqK (b' := 99) rfl rfl ?_
  refine q0 11 19 1 rfl rfl (T_move rfl rfl) rfl ?_
  refine q0 12 35 2 rfl rfl (T_indexAddr D rfl rfl rfl rfl rfl rfl rfl rfl (by omega)) rfl ?_
  refine q0 13 51 3 rfl rfl (T_ldE D (lv := .v _) (nn := 0) (upd := []) rfl rfl rfl rfl rfl (by omega) rfl rfl rfl rfl) rfl ?_
  refine q0 5 67 4 rfl rfl (T_assign rfl rfl) rfl ?_
  refine q0 6 83 5 rfl rfl (T_assign rfl rfl) rfl ?_
  refine k_done rfl ?_
  refine thenK_n ?_
  refine W_seq ?_
  refine W_seqK (b' := 227) rfl rfl ?_
  refine q0 14 99 1 rfl rfl (T_move rfl rfl) rfl ?_
  refine q0 15 115 2 rfl rfl (T_move rfl rfl) rfl ?_
  refine k_split (d := 15) rfl (fun g2 => ?_) (fun g2 => ?_)
  ·have h2 := g2; (try simp only [cmpB, decide_eq_true_eq, decide_eq_false_iff_not, beq_iff_eq, beq_eq_false_iff_ne, bne_iff_ne, ne_eq, bne_eq_false_iff_eq, Bool.not_eq_true', Bool.not_eq_false', Int.not_lt, Int.not_le] at h2)
   refine k_op0 (d := 16) (b := 131) (j' := 3) rfl rfl rfl rfl (g_tt rfl rfl rfl g2) (T_move rfl rfl) rfl ?_
   refine k_op0 (d := 17) (b := 147) (j' := 4) rfl rfl rfl rfl (g_tt rfl rfl rfl g2) (T_move rfl rfl) rfl ?_
   refine k_op0 (d := 18) (b := 163) (j' := 5) rfl rfl rfl rfl (g_tt rfl rfl rfl g2) (T_indexAddr D rfl rfl rfl rfl rfl rfl rfl rfl (by omega)) rfl ?_
   refine k_op0 (d := 19) (b := 179) (j' := 6) rfl rfl rfl rfl (g_tt rfl rfl rfl g2) (T_ldE D (lv := .v _) (nn := 0) (upd := []) rfl rfl rfl rfl rfl (by omega) rfl rfl rfl rfl) rfl ?_
   refine k_op0 (d := 20) (b := 195) (j' := 7) rfl rfl rfl rfl (g_tt rfl rfl rfl g2) (T_not rfl rfl) rfl ?_
   refine q0 21 211 8 rfl rfl (T_pick_t rfl rfl rfl g2) rfl ?_
   refine k_done rfl ?_
   refine thenK_n ?_
   refine W_cond rfl (fun g3 => ?_) (fun g3 => ?_)
   ·have h3 := g3; (try simp only [cmpB, decide_eq_true_eq, decide_eq_false_iff_not, beq_iff_eq, beq_eq_false_iff_ne, bne_iff_ne, ne_eq, bne_eq_false_iff_eq, Bool.not_eq_true', Bool.not_eq_false', Int.not_lt, Int.not_le] at h3)
    refine W_seq ?_
    refine W_seqK (b' := 243) rfl rfl ?_
    refine q0 4 227 1 rfl rfl (T_assign rfl rfl) rfl ?_
    refine k_done rfl ?_
    refine thenK_n ?_
    refine W_ret ?_
    refine blockK_r ?_
    refine thenK_r ?_
    refine thenK_r ?_
    refine blockK_r ?_
    refine thenK_r ?_
    exact .mk [] (.inr rfl) (.tmp rfl (.nil)) (by (simp only [resLV, LV.ren, LV.v.injEq, Value.bool.injEq]; exact withinS_no (j := j) (by omega) (by assumption) (by assumption))) (.nil) rfl
   ·have h3 := g3; (try simp only [cmpB, decide_eq_true_eq, decide_eq_false_iff_not, beq_iff_eq, beq_eq_false_iff_ne, bne_iff_ne, ne_eq, bne_eq_false_iff_eq, Bool.not_eq_true', Bool.not_eq_false', Int.not_lt, Int.not_le] at h3)
    refine W_skip ?_
    refine blockK_n ?_
    refine thenK_n ?_
    refine W_seqK (b' := 259) rfl rfl ?_
    refine q0 22 227 1 rfl rfl (T_add64 rfl rfl rfl (by omega)) rfl ?_
    refine q0 9 243 2 rfl rfl (T_move rfl rfl) rfl ?_
    refine k_done rfl ?_
    refine thenK_n ?_
    refine ⟨j + 1, by (try dsimp only); exact ⟨by omega, fun i hi hs1 => by rcases Nat.lt_or_ge i j with h | h; exact hJ.2 i h hs1; rw [show i = j by omega] at hs1 ⊢; assumption⟩, by (try dsimp only); omega, ?_⟩
    exact ⟨[], .same rfl rfl (.same rfl rfl (.eq rfl (.eq rfl (.nil) (by rfl)) rfl)), .fzE rfl (.fzE rfl (.nil) rfl) rfl, rfl⟩
  ·have h2 := g2; (try simp only [cmpB, decide_eq_true_eq, decide_eq_false_iff_not, beq_iff_eq, beq_eq_false_iff_ne, bne_iff_ne, ne_eq, bne_eq_false_iff_eq, Bool.not_eq_true', Bool.not_eq_false', Int.not_lt, Int.not_le] at h2)
   refine k_no (d := 16) (j' := 3) rfl rfl rfl (g_tf rfl rfl rfl g2) ?_
   refine k_no (d := 17) (j' := 4) rfl rfl rfl (g_tf rfl rfl rfl g2) ?_
   refine k_no (d := 18) (j' := 5) rfl rfl rfl (g_tf rfl rfl rfl g2) ?_
   refine k_no (d := 19) (j' := 6) rfl rfl rfl (g_tf rfl rfl rfl g2) ?_
   refine k_no (d := 20) (j' := 7) rfl rfl rfl (g_tf rfl rfl rfl g2) ?_
   refine q0 21 211 8 rfl rfl (T_pick_f rfl rfl rfl g2) rfl ?_
   refine k_done rfl ?_
   refine thenK_n ?_
   refine W_cond rfl (fun g4 => ?_) (fun g4 => ?_)
   ·exact absurd (g4.symm.trans rfl) (by decide)
   ·skip
    refine W_skip ?_
    refine blockK_n ?_
    refine thenK_n ?_
    refine W_seqK (b' := 259) rfl rfl ?_
    refine q0 22 227 1 rfl rfl (T_add64 rfl rfl rfl (by omega)) rfl ?_
    refine q0 9 243 2 rfl rfl (T_move rfl rfl) rfl ?_
    refine k_done rfl ?_
    refine thenK_n ?_
    refine ⟨j + 1, by (try dsimp only); exact ⟨by omega, fun i hi hs1 => by rcases Nat.lt_or_ge i j with h | h; exact hJ.2 i h hs1; rw [show i = j by omega] at hs1 ⊢; exact absurd (hs1.symm.trans (by assumption : _ = false)) (by decide)⟩, by (try dsimp only); omega, ?_⟩
    exact ⟨[], .same rfl rfl (.same rfl rfl (.eq rfl (.eq rfl (.nil) (by rfl)) rfl)), .fzE rfl (.fzE rfl (.nil) rfl) rfl, rfl⟩
 ·have h1 := c_lss_f g1
  refine W_exit ?_
  refine thenK_e ?_
  refine thenK_e ?_
  refine blockK_hit ?_
  refine thenK_n ?_
  refine W_seq ?_
  refine W_seqK (b' := 35) rfl rfl ?_
  refine q0 4 19 1 rfl rfl (T_assign rfl rfl) rfl ?_
  refine k_done rfl ?_
  refine thenK_n ?_
  refine W_ret ?_
  exact .mk [] (.inr rfl) (.tmp rfl (.nil)) (by (simp only [resLV, LV.ren, LV.v.injEq, Value.bool.injEq]; exact withinS_yes (fun i h => hJ.2 i (by omega)))) (.nil) rfl
theorem body94 : (Try.prog.funcs[94]?).map (fun fn => (fn.name == "runtime.NumGoroutine" || fn.body.isNone)) = some false := by kernel_rfl
theorem rwithin_spec (s t : List Bool) (hs : s.length ≤ 1000000) (ht : s.length ≤ t.length) : Spec Try.prog 94 [.r 1, .r 2] 3 [(1, .fz 1 (s.map eB)), (2, .fz 1 (t.map eB))] (.v (.bool (withinS s t))) 3 [] := by
 refine spec_of D (fn := Try.f94) rfl rfl (Nat.le_of_ble_eq_true rfl) ?_
 refine W_seq ?_
 refine W_seqK (b' := 19) rfl rfl ?_
 refine q0 4 3 1 rfl rfl (T_assign rfl rfl) rfl ?_
 refine k_done rfl ?_
 refine thenK_n ?_
 refine W_seq ?_
 refine W_seq ?_
 refine W_seqK (b' := 35) rfl rfl ?_
 refine q0 5 19 1 rfl rfl (T_assign rfl rfl) rfl ?_
 refine k_done rfl ?_
 refine thenK_n ?_
 refine W_block ?_
 refine W_loop (ι := Nat) 3 (fun j => ⟨[(0, .r 1), (1, .r 2), (5, .v (.int .i64 (j : Int)))], [(1, .fz 1 (s.map eB)), (2, .fz 1 (t.map eB))]⟩) (fun j => j ≤ s.length ∧ ∀ i, i < j → s.getD i default = true → t.getD i default = true) (fun j => s.length - j) (0) (by exact ⟨Nat.zero_le _, fun i h => absurd h (Nat.not_lt_zero _)⟩) ?_ (fun j hJ => ?_)
 ·exact ⟨[], .same rfl rfl (.same rfl rfl (.eq rfl (.nil) (by rfl))), .fzE rfl (.fzE rfl (.nil) (by rfl)) (by rfl), rfl⟩
 refine W_seq ?_
 refine W_seq ?_
 refine W_seqK (b' := 67) rfl rfl ?_
 refine q0 6 3 1 rfl rfl (T_move rfl rfl) rfl ?_
 refine q0 7 19 2 rfl rfl (T_move rfl rfl) rfl ?_
 refine q0 8 35 3 rfl rfl (T_len D rfl rfl rfl rfl rfl rfl) rfl ?_
 refine q0 9 51 4 rfl rfl (T_cmp rfl rfl rfl rfl) rfl ?_
 refine k_done rfl ?_
 refine thenK_n ?_
 refine W_cond rfl (fun g1 => ?_) (fun g1 => ?_)
 ·have h1 := c_lss_t g1
  refine W_skip ?_
  refine thenK_n ?_
  refine W_seq ?_
  refine W_block ?_
  refine W_seq ?_
  refine W_seqK (b' := 243) rfl rfl ?_
  refine q0 12 67 1 rfl rfl (T_move rfl rfl) rfl ?_
  refine q0 13 83 2 rfl rfl (T_move rfl rfl) rfl ?_
  refine q0 14 99 3 rfl rfl (T_indexAddr D rfl rfl rfl rfl rfl rfl rfl rfl (by omega)) rfl ?_
  refine q0 15 115 4 rfl rfl (T_ldE D (lv := .v _) (nn := 0) (upd := []) rfl rfl rfl rfl rfl (by omega) rfl rfl rfl rfl) rfl ?_
  refine q0 16 131 5 rfl rfl (T_move rfl rfl) rfl ?_
  refine k_split (d := 16) rfl (fun g2 => ?_) (fun g2 => ?_)
  ·have h2 := g2; (try simp only [cmpB, decide_eq_true_eq, decide_eq_false_iff_not, beq_iff_eq, beq_eq_false_iff_ne, bne_iff_ne, ne_eq, bne_eq_false_iff_eq, Bool.not_eq_true', Bool.not_eq_false', Int.not_lt, Int.not_le] at h2)
   refine k_op0 (d := 17) (b := 147) (j' := 6) rfl rfl rfl rfl (g_tt rfl rfl rfl g2) (T_move rfl rfl) rfl ?_
   refine k_op0 (d := 18) (b := 163) (j' := 7) rfl rfl rfl rfl (g_tt rfl rfl rfl g2) (T_move rfl rfl) rfl ?_
   refine k_op0 (d := 19) (b := 179) (j' := 8) rfl rfl rfl rfl (g_tt rfl rfl rfl g2) (T_indexAddr D rfl rfl rfl rfl rfl rfl rfl rfl (by omega)) rfl ?_
   refine k_op0 (d := 20) (b := 195) (j' := 9) rfl rfl rfl rfl (g_tt rfl rfl rfl g2) (T_ldE D (lv := .v _) (nn := 0) (upd := []) rfl rfl rfl rfl rfl (by omega) rfl rfl rfl rfl) rfl ?_
   refine k_op0 (d := 21) (b := 211) (j' := 10) rfl rfl rfl rfl (g_tt rfl rfl rfl g2) (T_not rfl rfl) rfl ?_
   refine q0 22 227 11 rfl rfl (T_pick_t rfl rfl rfl g2) rfl ?_
   refine k_done rfl ?_
   refine thenK_n ?_
   refine W_cond rfl (fun g3 => ?_) (fun g3 => ?_)
   ·have h3 := g3; (try simp only [cmpB, decide_eq_true_eq, decide_eq_false_iff_not, beq_iff_eq, beq_eq_false_iff_ne, bne_iff_ne, ne_eq, bne_eq_false_iff_eq, Bool.not_eq_true', Bool.not_eq_false', Int.not_lt, Int.not_le] at h3)
    refine W_seq ?_
    refine W_seqK (b' := 259) rfl rfl ?_
    refine q0 4 243 1 rfl rfl (T_assign rfl rfl) rfl ?_
    refine k_done rfl ?_
    refine thenK_n ?_
    refine W_ret ?_
    refine blockK_r ?_
    refine thenK_r ?_
    refine thenK_r ?_
    refine blockK_r ?_
    refine thenK_r ?_
    exact .mk [] (.inr rfl) (.tmp rfl (.nil)) (by (simp only [resLV, LV.ren, LV.v.injEq, Value.bool.injEq]; exact withinS_no (j := j) (by omega) (by assumption) (by assumption))) (.nil) rfl
   ·have h3 := g3; (try simp only [cmpB, decide_eq_true_eq, decide_eq_false_iff_not, beq_iff_eq, beq_eq_false_iff_ne, bne_iff_ne, ne_eq, bne_eq_false_iff_eq, Bool.not_eq_true', Bool.not_eq_false', Int.not_lt, Int.not_le] at h3)
    refine W_skip ?_
    refine blockK_n ?_
    refine thenK_n ?_
    refine W_seqK (b' := 291) rfl rfl ?_
    refine q0 10 243 1 rfl rfl (T_move rfl rfl) rfl ?_
    refine q0 11 259 2 rfl rfl (T_add64 rfl rfl rfl (by omega)) rfl ?_
    refine q0 5 275 3 rfl rfl (T_assign rfl rfl) rfl ?_
    refine k_done rfl ?_
    refine thenK_n ?_
    refine ⟨j + 1, by (try dsimp only); exact ⟨by omega, fun i hi hs1 => by rcases Nat.lt_or_ge i j with h | h; exact hJ.2 i h hs1; rw [show i = j by omega] at hs1 ⊢; assumption⟩, by (try dsimp only); omega, ?_⟩
    exact ⟨[], .same rfl rfl (.same rfl rfl (.eq rfl (.nil) (by rfl))), .fzE rfl (.fzE rfl (.nil) rfl) rfl, rfl⟩
  ·have h2 := g2; (try simp only [cmpB, decide_eq_true_eq, decide_eq_false_iff_not, beq_iff_eq, beq_eq_false_iff_ne, bne_iff_ne, ne_eq, bne_eq_false_iff_eq, Bool.not_eq_true', Bool.not_eq_false', Int.not_lt, Int.not_le] at h2)
   refine k_no (d := 17) (j' := 6) rfl rfl rfl (g_tf rfl rfl rfl g2) ?_
   refine k_no (d := 18) (j' := 7) rfl rfl rfl (g_tf rfl rfl rfl g2) ?_
   refine k_no (d := 19) (j' := 8) rfl rfl rfl (g_tf rfl rfl rfl g2) ?_
   refine k_no (d := 20) (j' := 9) rfl rfl rfl (g_tf rfl rfl rfl g2) ?_
   refine k_no (d := 21) (j' := 10) rfl rfl rfl (g_tf rfl rfl rfl g2) ?_
   refine q0 22 227 11 rfl rfl (T_pick_f rfl rfl rfl g2) rfl ?_
   refine k_done rfl ?_
   refine thenK_n ?_
   refine W_cond rfl (fun g4 => ?_) (fun g4 => ?_)
   ·exact absurd (g4.symm.trans rfl) (by decide)
   ·skip
    refine W_skip ?_
    refine blockK_n ?_
    refine thenK_n ?_
    refine W_seqK (b' := 291) rfl rfl ?_
    refine q0 10 243 1 rfl rfl (T_move rfl rfl) rfl ?_
    refine q0 11 259 2 rfl rfl (T_add64 rfl rfl rfl (by omega)) rfl ?_
    refine q0 5 275 3 rfl rfl (T_assign rfl rfl) rfl ?_
    refine k_done rfl ?_
    refine thenK_n ?_
    refine ⟨j + 1, by (try dsimp only); exact ⟨by omega, fun i hi hs1 => by rcases Nat.lt_or_ge i j with h | h; exact hJ.2 i h hs1; rw [show i = j by omega] at hs1 ⊢; exact absurd (hs1.symm.trans (by assumption : _ = false)) (by decide)⟩, by (try dsimp only); omega, ?_⟩
    exact ⟨[], .same rfl rfl (.same rfl rfl (.eq rfl (.nil) (by rfl))), .fzE rfl (.fzE rfl (.nil) rfl) rfl, rfl⟩
 ·have h1 := c_lss_f g1
  refine W_exit ?_
  refine thenK_e ?_
  refine thenK_e ?_
  refine blockK_hit ?_
  refine thenK_n ?_
  refine W_seq ?_
  refine W_seqK (b' := 83) rfl rfl ?_
  refine q0 4 67 1 rfl rfl (T_assign rfl rfl) rfl ?_
  refine k_done rfl ?_
  refine thenK_n ?_
  refine W_ret ?_
  exact .mk [] (.inr rfl) (.tmp rfl (.nil)) (by (simp only [resLV, LV.ren, LV.v.injEq, Value.bool.injEq]; exact withinS_yes (fun i h => hJ.2 i (by omega)))) (.nil) rfl
end Lg
end Go.Proofs.Ytpfhmodjjljpjaa

namespace Go.Proofs.Ytpfhmodjjljpjaa
open Go.RowKit
namespace Lg
set_option maxRecDepth 100000
set_option linter.unusedVariables false
set_option linter.unusedSimpArgs false
theorem body103 : (Try.prog.funcs[103]?).map (fun fn => (fn.name == "runtime.NumGoroutine" || fn.body.isNone)) = some false := by kernel_rfl
theorem backt_spec (l : List GTac) : Spec Try.prog 103 [.r 1] 2 [(1, .fz 8 (l.map eTac))] (.fn 129 [.p 2 0]) 3 [(2, .box 67 [.r 1])] := by
 refine spec_of D (fn := Try.f103) rfl rfl (Nat.le_of_ble_eq_true rfl) ?_
 refine W_seq ?_
 refine W_seqK (b' := 34) rfl rfl ?_
 refine q1 1 2 1 rfl rfl (T_box rfl rfl (flat_sl rfl)) rfl ?_
 refine q0 2 18 2 rfl rfl (T_assign rfl rfl) rfl ?_
 refine k_done rfl ?_
 refine thenK_n ?_
 refine W_seq ?_
 refine W_seqK (b' := 66) rfl rfl ?_
 refine q0 3 34 1 rfl rfl (T_makeFunc (l := [_]) rfl rfl) rfl ?_
 refine q0 2 50 2 rfl rfl (T_assign rfl rfl) rfl ?_
 refine k_done rfl ?_
 refine thenK_n ?_
 refine W_ret ?_
 exact .mk [(2, 2)] (.inr rfl) (.tmp rfl (.nil)) (by rfl) (.box (by rfl) (.nil)) rfl
theorem body91 : (Try.prog.funcs[91]?).map (fun fn => (fn.name == "runtime.NumGoroutine" || fn.body.isNone)) = some false := by kernel_rfl
theorem backb_spec (l : List GBlock) : Spec Try.prog 91 [.r 1] 2 [(1, .fz 5 (l.map eBlock))] (.fn 126 [.p 2 0]) 3 [(2, .box 27 [.r 1])] := by
 refine spec_of D (fn := Try.f91) rfl rfl (Nat.le_of_ble_eq_true rfl) ?_
 refine W_seq ?_
 refine W_seqK (b' := 34) rfl rfl ?_
 refine q1 1 2 1 rfl rfl (T_box rfl rfl (flat_sl rfl)) rfl ?_
 refine q0 2 18 2 rfl rfl (T_assign rfl rfl) rfl ?_
 refine k_done rfl ?_
 refine thenK_n ?_
 refine W_seq ?_
 refine W_seqK (b' := 66) rfl rfl ?_
 refine q0 3 34 1 rfl rfl (T_makeFunc (l := [_]) rfl rfl) rfl ?_
 refine q0 2 50 2 rfl rfl (T_assign rfl rfl) rfl ?_
 refine k_done rfl ?_
 refine thenK_n ?_
 refine W_ret ?_
 exact .mk [(2, 2)] (.inr rfl) (.tmp rfl (.nil)) (by rfl) (.box (by rfl) (.nil)) rfl
theorem body105 : (Try.prog.funcs[105]?).map (fun fn => (fn.name == "runtime.NumGoroutine" || fn.body.isNone)) = some false := by kernel_rfl
theorem ahead_spec (s : List Bool) (t : GTac) (hs : s.length ≤ 1000000) (hT : TOk s.length t) : Spec Try.prog 105 [.r 1, .agg [.v (.int .i64 t.op), .v (.int .i64 t.d), .v (.int .i64 t.a), .v (.int .i64 t.b), .v (.int .i64 t.k), .v (.int .i64 t.base), .v (.int .i64 t.size), .v (.int .u32 t.n)]] 2 [(1, .row 4 1 (s.map eB))] (.tup []) 2 [(1, .row 4 1 ((aheadT t s).map eB))] := by
 have hT1 := hT.1
 have hal := aheadJ_len t s
 have hul := usesT_le t
 refine spec_of D (fn := Try.f105) rfl rfl (Nat.le_of_ble_eq_true rfl) ?_
 refine W_seq ?_
 refine W_seqK (b' := 18) rfl rfl ?_
 refine q1 3 2 1 rfl rfl (T_box rfl rfl flat_agg) rfl ?_
 refine k_done rfl ?_
 refine thenK_n ?_
 refine W_join (ι := Unit) 3 (fun _u => ⟨[(0, .r 1), (3, .p 2 0)], [(1, .row 4 1 ((aheadJ t s 0).map eB)), (2, .box 70 [.v (.int .i64 t.op), .v (.int .i64 t.d), .v (.int .i64 t.a), .v (.int .i64 t.b), .v (.int .i64 t.k), .v (.int .i64 t.base), .v (.int .i64 t.size), .v (.int .u32 t.n)])]⟩) (fun _ => True) ?_ (fun _u hJ => ?_)
 ·skip
  refine W_seq ?_
  refine W_seqK (b' := 66) rfl rfl ?_
  refine q0 7 18 1 rfl rfl (T_load_bA D (l := [_, _, _, _, _, _, _, _]) rfl rfl rfl rfl rfl rfl rfl) rfl ?_
  refine q0 8 34 2 rfl rfl (T_callV (lvs := [_]) (L := []) (bsets_spec t) body130 rfl rfl rfl rfl (.nil) rfl) rfl ?_
  refine q0 4 50 3 rfl rfl (T_assign rfl rfl) rfl ?_
  refine k_done rfl ?_
  refine thenK_n ?_
  refine W_seq ?_
  refine W_seqK (b' := 98) rfl rfl ?_
  refine q0 9 66 1 rfl rfl (T_move rfl rfl) rfl ?_
  refine q0 10 82 2 rfl rfl (T_cmp rfl rfl rfl rfl) rfl ?_
  refine k_done rfl ?_
  refine thenK_n ?_
  refine W_cond rfl (fun g1 => ?_) (fun g1 => ?_)
  ·have h1 := c_geq_t g1
   refine W_seqK (b' := 162) rfl rfl ?_
   refine q0 11 98 1 rfl rfl (T_move rfl rfl) rfl ?_
   refine q0 12 114 2 rfl rfl (T_move rfl rfl) rfl ?_
   refine q0 13 130 3 rfl rfl (T_indexAddrZ D rfl rfl rfl rfl rfl rfl rfl rfl (by assumption) (by omega)) rfl ?_
   refine s1 146 4 rfl rfl (T_store_e D (z := _) rfl rfl rfl rfl (flat_v rfl) rfl rfl (by omega) (.v rfl (.nil)) rfl (Nat.le_of_ble_eq_true rfl) rfl) rfl ?_
   refine k_done rfl ?_
   refine thenK_n ?_
   refine ⟨(), by (try dsimp only); all_goals trivial, ?_⟩
   exact ⟨[(2, 2)], .same rfl rfl (.same rfl rfl (.nil)), .rowE rfl (.box (by rfl) (.nil)) (by (rw [aheadJ_t (by omega)]; done)), rfl⟩
  ·have h1 := c_geq_f g1
   refine W_skip ?_
   refine thenK_n ?_
   refine ⟨(), by (try dsimp only); all_goals trivial, ?_⟩
   exact ⟨[(2, 2)], .same rfl rfl (.same rfl rfl (.nil)), .rowE rfl (.box (by rfl) (.nil)) (by (rw [aheadJ_f (by omega)]; done)), rfl⟩
 refine W_seq ?_
 refine W_seqK (b' := 67) rfl rfl ?_
 refine q0 14 3 1 rfl rfl (T_load_bA D (l := [_, _, _, _, _, _, _, _]) rfl rfl rfl rfl rfl rfl rfl) rfl ?_
 refine q1 15 19 2 rfl rfl (T_callR (lvs := [_]) (L := []) (keep := false) (buses_spec t) body131 rfl rfl rfl rfl (.nil) rfl (.inl rfl) rfl) rfl ?_
 refine q0 16 35 3 rfl rfl (T_len D rfl rfl rfl rfl rfl rfl) rfl ?_
 refine q0 17 51 4 rfl rfl (T_move rfl rfl) rfl ?_
 refine k_done rfl ?_
 refine thenK_n ?_
 refine W_block ?_
 refine W_loop (ι := Nat) 3 (fun j => ⟨[(0, .r 1), (15, .r 2), (16, .v (.int .i64 ((usesT t).length : Int))), (17, .v (.int .i64 (j : Int)))], [(1, .row 4 1 ((aheadJ t s j).map eB)), (2, .row 3 1 ((usesT t).map eI))]⟩) (fun j => j ≤ (usesT t).length) (fun j => (usesT t).length - j) (0) (by exact Nat.zero_le _) ?_ (fun j hJ => ?_)
 ·exact ⟨[(2, 19)], .same rfl rfl (.same rfl rfl (.eq rfl (.eq rfl (.nil) (by rfl)) (by rfl))), .rowE rfl (.rowE rfl (.nil) (by rfl)) (by rfl), rfl⟩
 have hj1 := hal j
 have hu1 := fun h => hT.2 ((usesT t).getD j default) (getD_mem h)
 refine W_seq ?_
 refine W_seqK (b' := 19) rfl rfl ?_
 refine q0 18 3 1 rfl rfl (T_cmp rfl rfl rfl rfl) rfl ?_
 refine k_done rfl ?_
 refine thenK_n ?_
 refine W_seq ?_
 refine W_cond rfl (fun g2 => ?_) (fun g2 => ?_)
 ·have h2 := c_lss_t g2
  refine W_skip ?_
  refine thenK_n ?_
  refine W_seq ?_
  refine W_block ?_
  refine W_seq ?_
  refine W_seqK (b' := 67) rfl rfl ?_
  refine q0 19 19 1 rfl rfl (T_indexAddr D rfl rfl rfl rfl rfl rfl rfl rfl (by omega)) rfl ?_
  refine q0 20 35 2 rfl rfl (T_ldE D (lv := .v _) (nn := 0) (upd := []) rfl rfl rfl rfl rfl (by omega) rfl rfl rfl rfl) rfl ?_
  refine q0 6 51 3 rfl rfl (T_assign rfl rfl) rfl ?_
  refine k_done rfl ?_
  refine thenK_n ?_
  refine W_seqK (b' := 131) rfl rfl ?_
  refine q0 21 67 1 rfl rfl (T_move rfl rfl) rfl ?_
  refine q0 22 83 2 rfl rfl (T_move rfl rfl) rfl ?_
  refine q0 23 99 3 rfl rfl (T_indexAddrZ D rfl rfl rfl rfl rfl rfl rfl rfl (by omega) (by omega)) rfl ?_
  refine s1 115 4 rfl rfl (T_store_e D (z := _) rfl rfl rfl rfl (flat_v rfl) rfl rfl (by omega) (.v rfl (.nil)) rfl (Nat.le_of_ble_eq_true rfl) rfl) rfl ?_
  refine k_done rfl ?_
  refine blockK_n ?_
  refine thenK_n ?_
  refine W_seqK (b' := 163) rfl rfl ?_
  refine q0 24 131 1 rfl rfl (T_add64 rfl rfl rfl (by omega)) rfl ?_
  refine q0 17 147 2 rfl rfl (T_move rfl rfl) rfl ?_
  refine k_done rfl ?_
  refine thenK_n ?_
  refine ⟨j + 1, by (try dsimp only); omega, by (try dsimp only); omega, ?_⟩
  exact ⟨[(2, 2)], .same rfl rfl (.same rfl rfl (.eq rfl (.eq rfl (.nil) (by rfl)) rfl)), .rowE rfl (.rowE rfl (.nil) (by rfl)) (by (rw [aheadJ_succ (by omega)]; done)), rfl⟩
 ·have h2 := c_lss_f g2
  refine W_exit ?_
  refine thenK_e ?_
  refine thenK_e ?_
  refine blockK_hit ?_
  exact .mk [] (.inl rfl) (.nil) rfl (.rowE rfl (.nil) (by (rw [aheadJ_all (by omega)]; done))) rfl
theorem body102 : (Try.prog.funcs[102]?).map (fun fn => (fn.name == "runtime.NumGoroutine" || fn.body.isNone)) = some false := by kernel_rfl
theorem end_spec (b : GBlock) (out : List Bool) (hs : out.length ≤ 1000000) (hB : b.fin = 2 → 0 ≤ b.v ∧ b.v < (out.length : Int)) : Spec Try.prog 102 [.agg [.r 1, .v (.int .i64 b.fin), .v (.int .i64 b.v), .v (.int .i64 b.to), .v (.int .i64 b.els)], .r 2] 3 [(1, .fz 8 (b.ins.map eTac)), (2, .fz 1 (out.map eB))] (.r 3) 4 [(3, .row 4 1 ((endS b out).map eB))] := by
 refine spec_of D (fn := Try.f102) rfl rfl (Nat.le_of_ble_eq_true rfl) ?_
 refine W_seq ?_
 refine W_seqK (b' := 35) rfl rfl ?_
 refine q1 2 3 1 rfl rfl (T_box rfl rfl flat_agg) rfl ?_
 refine q1 4 19 2 rfl rfl (T_nils [(4, 1)] (T_assign rfl rfl) rfl (.inr ⟨rfl, rfl⟩) (.cons (.nil rfl) .nil) (lv' := .r 19) (upd' := [(19, .row 4 1 (List.map eB ([] : List (Bool))))]) (nn' := 1) rfl rfl) rfl ?_
 refine k_done rfl ?_
 refine thenK_n ?_
 refine W_seq ?_
 refine W_seqK (b' := 83) rfl rfl ?_
 refine q0 6 35 1 rfl rfl (T_move rfl rfl) rfl ?_
 refine q1 7 51 2 rfl rfl (T_callR (lvs := [_]) (L := [(1, 2)]) (keep := false) (clone_spec out hs) body104 rfl rfl rfl rfl (.fz rfl (.nil)) rfl (.inl rfl) rfl) rfl ?_
 refine q0 5 67 3 rfl rfl (T_assign rfl rfl) rfl ?_
 refine k_done rfl ?_
 refine thenK_n ?_
 refine W_seq ?_
 refine W_seq ?_
 refine W_seqK (b' := 131) rfl rfl ?_
 refine q0 8 83 1 rfl rfl (T_fa D (m := 1) rfl rfl rfl rfl rfl rfl) rfl ?_
 refine q0 9 99 2 rfl rfl (T_load_b D rfl rfl rfl rfl rfl rfl) rfl ?_
 refine q0 10 115 3 rfl rfl (T_cmp rfl rfl rfl rfl) rfl ?_
 refine k_done rfl ?_
 refine thenK_n ?_
 refine W_cond rfl (fun g1 => ?_) (fun g1 => ?_)
 ·have h1 := c_eql_t g1
  refine W_seqK (b' := 211) rfl rfl ?_
  refine q0 11 131 1 rfl rfl (T_move rfl rfl) rfl ?_
  refine q0 12 147 2 rfl rfl (T_fa D (m := 2) rfl rfl rfl rfl rfl rfl) rfl ?_
  refine q0 13 163 3 rfl rfl (T_load_b D rfl rfl rfl rfl rfl rfl) rfl ?_
  refine q0 14 179 4 rfl rfl (T_indexAddrZ D rfl rfl rfl rfl rfl rfl rfl rfl (by omega) (by omega)) rfl ?_
  refine s1 195 5 rfl rfl (T_store_e D (z := _) rfl rfl rfl rfl (flat_v rfl) rfl rfl (by omega) (.v rfl (.nil)) rfl (Nat.le_of_ble_eq_true rfl) rfl) rfl ?_
  refine k_done rfl ?_
  refine thenK_n ?_
  refine W_seq ?_
  refine W_seqK (b' := 243) rfl rfl ?_
  refine q0 15 211 1 rfl rfl (T_move rfl rfl) rfl ?_
  refine q0 4 227 2 rfl rfl (T_assign rfl rfl) rfl ?_
  refine k_done rfl ?_
  refine thenK_n ?_
  refine W_ret ?_
  exact .mk [(3, 51)] (.inr rfl) (.tmp rfl (.nil)) rfl (.rowE rfl (.nil) (by (rw [endS_t (by omega)]; done))) rfl
 ·have h1 := c_eql_f g1
  refine W_skip ?_
  refine thenK_n ?_
  refine W_seq ?_
  refine W_seqK (b' := 163) rfl rfl ?_
  refine q0 15 131 1 rfl rfl (T_move rfl rfl) rfl ?_
  refine q0 4 147 2 rfl rfl (T_assign rfl rfl) rfl ?_
  refine k_done rfl ?_
  refine thenK_n ?_
  refine W_ret ?_
  exact .mk [(3, 51)] (.inr rfl) (.tmp rfl (.nil)) rfl (.rowE rfl (.nil) (by (rw [endS_f (by omega)]; done))) rfl
theorem body106 : (Try.prog.funcs[106]?).map (fun fn => (fn.name == "runtime.NumGoroutine" || fn.body.isNone)) = some false := by kernel_rfl
theorem rlast_spec (b : GBlock) (out : List Bool) (hs : out.length ≤ 1000000) (hB : b.fin = 2 → 0 ≤ b.v ∧ b.v < (out.length : Int)) : Spec Try.prog 106 [.agg [.r 1, .v (.int .i64 b.fin), .v (.int .i64 b.v), .v (.int .i64 b.to), .v (.int .i64 b.els)], .r 2] 3 [(1, .fz 8 (b.ins.map eTac)), (2, .fz 1 (out.map eB))] (.r 3) 4 [(3, .row 4 1 ((endS b out).map eB))] := by
 refine spec_of D (fn := Try.f106) rfl rfl (Nat.le_of_ble_eq_true rfl) ?_
 refine W_seq ?_
 refine W_seqK (b' := 35) rfl rfl ?_
 refine q1 2 3 1 rfl rfl (T_box rfl rfl flat_agg) rfl ?_
 refine q1 4 19 2 rfl rfl (T_nils [(4, 1)] (T_assign rfl rfl) rfl (.inr ⟨rfl, rfl⟩) (.cons (.nil rfl) .nil) (lv' := .r 19) (upd' := [(19, .row 4 1 (List.map eB ([] : List (Bool))))]) (nn' := 1) rfl rfl) rfl ?_
 refine k_done rfl ?_
 refine thenK_n ?_
 refine W_seq ?_
 refine W_seqK (b' := 99) rfl rfl ?_
 refine q1 6 35 1 rfl rfl (T_bs D (ys := []) (enc := eB) (l := []) rfl rfl rfl rfl rfl rfl (.nil) rfl rfl rfl rfl (.nil) rfl rfl) rfl ?_
 refine q0 7 51 2 rfl rfl (T_move rfl rfl) rfl ?_
 refine qn 8 67 3 rfl rfl (T_append D rfl rfl rfl rfl rfl rfl rfl rfl rfl rfl rfl rfl (by (try simp only [ty4]); (simp; omega)) (by (try simp only [ty4]); (simp; omega))) rfl ?_
 refine q0 5 83 4 rfl rfl (T_assign rfl rfl) rfl ?_
 refine k_done rfl ?_
 refine thenK_n ?_
 refine W_seq ?_
 refine W_seq ?_
 refine W_seqK (b' := 147) rfl rfl ?_
 refine q0 9 99 1 rfl rfl (T_fa D (m := 1) rfl rfl rfl rfl rfl rfl) rfl ?_
 refine q0 10 115 2 rfl rfl (T_load_b D rfl rfl rfl rfl rfl rfl) rfl ?_
 refine q0 11 131 3 rfl rfl (T_cmp rfl rfl rfl rfl) rfl ?_
 refine k_done rfl ?_
 refine thenK_n ?_
 refine W_cond rfl (fun g1 => ?_) (fun g1 => ?_)
 ·have h1 := c_eql_t g1
  refine W_seqK (b' := 227) rfl rfl ?_
  refine q0 12 147 1 rfl rfl (T_move rfl rfl) rfl ?_
  refine q0 13 163 2 rfl rfl (T_fa D (m := 2) rfl rfl rfl rfl rfl rfl) rfl ?_
  refine q0 14 179 3 rfl rfl (T_load_b D rfl rfl rfl rfl rfl rfl) rfl ?_
  refine q0 15 195 4 rfl rfl (T_indexAddrZ D rfl rfl rfl rfl rfl rfl rfl rfl (by omega) (by (simp; omega))) rfl ?_
  refine s1 211 5 rfl rfl (T_store_e D (z := _) rfl rfl rfl rfl (flat_v rfl) rfl rfl (by (simp; omega)) (.v rfl (.nil)) rfl (Nat.le_of_ble_eq_true rfl) rfl) rfl ?_
  refine k_done rfl ?_
  refine thenK_n ?_
  refine W_seq ?_
  refine W_seqK (b' := 259) rfl rfl ?_
  refine q0 16 227 1 rfl rfl (T_move rfl rfl) rfl ?_
  refine q0 4 243 2 rfl rfl (T_assign rfl rfl) rfl ?_
  refine k_done rfl ?_
  refine thenK_n ?_
  refine W_ret ?_
  exact .mk [(3, 67)] (.inr rfl) (.tmp rfl (.nil)) rfl (.rowE rfl (.nil) (by (rw [endS_t (by omega)]; rfl))) rfl
 ·have h1 := c_eql_f g1
  refine W_skip ?_
  refine thenK_n ?_
  refine W_seq ?_
  refine W_seqK (b' := 179) rfl rfl ?_
  refine q0 16 147 1 rfl rfl (T_move rfl rfl) rfl ?_
  refine q0 4 163 2 rfl rfl (T_assign rfl rfl) rfl ?_
  refine k_done rfl ?_
  refine thenK_n ?_
  refine W_ret ?_
  exact .mk [(3, 67)] (.inr rfl) (.tmp rfl (.nil)) rfl (.rowE rfl (.nil) (by (rw [endS_f (by omega)]; rfl))) rfl
theorem body93 : (Try.prog.funcs[93]?).map (fun fn => (fn.name == "runtime.NumGoroutine" || fn.body.isNone)) = some false := by kernel_rfl
theorem through_spec (b : GBlock) (out : List Bool) (hs : out.length ≤ 1000000) (hl : b.ins.length ≤ 1000000) (hB : BOk out.length b) : Spec Try.prog 93 [.agg [.r 1, .v (.int .i64 b.fin), .v (.int .i64 b.v), .v (.int .i64 b.to), .v (.int .i64 b.els)], .r 2] 3 [(1, .fz 8 (b.ins.map eTac)), (2, .fz 1 (out.map eB))] (.r 3) 4 [(3, .row 4 1 ((thrS b out).map eB))] := by
 refine spec_of D (fn := Try.f93) rfl rfl (Nat.le_of_ble_eq_true rfl) ?_
 refine W_seq ?_
 refine W_seqK (b' := 35) rfl rfl ?_
 refine q1 2 3 1 rfl rfl (T_box rfl rfl flat_agg) rfl ?_
 refine q1 4 19 2 rfl rfl (T_nils [(4, 1)] (T_assign rfl rfl) rfl (.inr ⟨rfl, rfl⟩) (.cons (.nil rfl) .nil) (lv' := .r 19) (upd' := [(19, .row 4 1 (List.map eB ([] : List (Bool))))]) (nn' := 1) rfl rfl) rfl ?_
 refine k_done rfl ?_
 refine thenK_n ?_
 refine W_seq ?_
 refine W_seqK (b' := 115) rfl rfl ?_
 refine q0 8 35 1 rfl rfl (T_load_bA D (l := [_, _, _, _, _]) rfl rfl rfl rfl rfl rfl rfl) rfl ?_
 refine q0 9 51 2 rfl rfl (T_move rfl rfl) rfl ?_
 refine q1 10 67 3 rfl rfl (T_callR (lvs := [_, _]) (L := [(1, 1), (2, 2)]) (keep := false) (end_spec b out hs hB.2) body102 rfl rfl rfl rfl (.fz rfl (.fz rfl (.nil))) rfl (.inl rfl) rfl) rfl ?_
 refine qn 5 83 4 rfl rfl (T_nilbox [(4, 1)] (T_alloc D rfl rfl rfl) rfl (.cons (.nil rfl) <| .nil) (upd' := [(83, .box 124 [.r 84]), (84, .row 4 1 (List.map eB ([] : List (Bool))))]) (nn' := 2) rfl rfl) rfl ?_
 refine s1 99 5 rfl rfl (T_stB D (cs' := [_]) rfl rfl rfl rfl (flat_sl rfl) rfl rfl (Nat.le_of_ble_eq_true rfl) rfl) rfl ?_
 refine k_done rfl ?_
 refine thenK_n ?_
 refine W_seq ?_
 refine W_seq ?_
 refine W_seqK (b' := 163) rfl rfl ?_
 refine q0 11 115 1 rfl rfl (T_fa D (m := 0) rfl rfl rfl rfl rfl rfl) rfl ?_
 refine q0 12 131 2 rfl rfl (T_load_b D rfl rfl rfl rfl rfl rfl) rfl ?_
 refine q1 13 147 3 rfl rfl (T_call (lvs := [_]) (L := [(1, 1)]) (lv := .fn 129 [.p 147 0]) (upd := [(147, .box 67 [.r 1])]) (nn := 1) false (backt_spec b.ins) body103 rfl rfl rfl rfl (.fz rfl (.nil)) rfl (.inl rfl) rfl rfl rfl) rfl ?_
 refine k_done rfl ?_
 refine thenK_n ?_
 refine W_block ?_
 refine W_range (b0 := 6) iter129 (ι := Nat) (enc := eTac) (xs := b.ins) 67 5 1 [(5, .p 3 0), (13, .fn 129 [.p 5 0])] (fun i => [(1, .fz 8 (b.ins.map eTac)), (2, .fz 1 (out.map eB)), (3, .box 124 [.r 4]), (4, .row 4 1 ((thrK b out i).map eB)), (5, .box 67 [.r 1])]) (fun k i => i = k) (b.ins.length) (by rfl) ?_ rfl rfl (by simp only [maxLen]; omega) (fun _ _ => ⟨rfl, Nat.le_of_ble_eq_true rfl⟩) (fun _ => rfl) (fun _ => rfl) rfl rfl (fun args w => by rfl) (fun k i l hk hJ => ?_) (fun i hJ => ?_)
 ·exact ⟨[(3, 83), (4, 67), (5, 147)], .same rfl rfl (.same rfl rfl (.nil)), .fzE rfl (.fzE rfl (.box (by rfl) (.rowE rfl (.box (by rfl) (.nil)) (by (rw [thrK_end _ _ (Nat.le_refl _)]; done)))) (by rfl)) (by rfl), rfl⟩
 ·skip
  show W (some l) _ _ _ _ 102 ⟨[(15, .agg [.v (.int .i64 (b.ins.getD k default).op), .v (.int .i64 (b.ins.getD k default).d), .v (.int .i64 (b.ins.getD k default).a), .v (.int .i64 (b.ins.getD k default).b), .v (.int .i64 (b.ins.getD k default).k), .v (.int .i64 (b.ins.getD k default).base), .v (.int .i64 (b.ins.getD k default).size), .v (.int .u32 (b.ins.getD k default).n)]), (14, .v (.int .i64 (k : Int))), (5, .p 3 0), (13, .fn 129 [.p 5 0])], [(1, .fz 8 (b.ins.map eTac)), (2, .fz 1 (out.map eB)), (3, .box 124 [.r 4]), (4, .row 4 1 ((thrK b out i).map eB)), (5, .box 67 [.r 1])]⟩ _
  subst hJ
  refine W_seqK (b' := 134) rfl rfl ?_
  refine q1 7 102 1 rfl rfl (T_alloc D rfl rfl rfl) rfl ?_
  refine s1 118 2 rfl rfl (T_stB D (cs' := [_, _, _, _, _, _, _, _]) rfl rfl rfl rfl flat_agg rfl rfl (Nat.le_of_ble_eq_true rfl) rfl) rfl ?_
  refine k_done rfl ?_
  refine ⟨rfl, ?_⟩
  refine W_block ?_
  refine W_seqK (b' := 182) rfl rfl ?_
  refine q0 16 134 1 rfl rfl (T_load_b D rfl rfl rfl rfl rfl rfl) rfl ?_
  refine q0 17 150 2 rfl rfl (T_load_bA D (l := [_, _, _, _, _, _, _, _]) rfl rfl rfl rfl rfl rfl rfl) rfl ?_
  refine q1 18 166 3 rfl rfl (T_call (lvs := [_, _]) (L := [(1, 4)]) (lv := .tup []) (upd := [(4, .row 4 1 _)]) (nn := 0) false (ahead_spec (thrK b out (k + 1)) (b.ins.getD k default) (by rw [thrK_len]; omega) (by rw [thrK_len]; exact hB.1 _ (getD_mem hk))) body105 rfl rfl rfl rfl (.row rfl (.nil)) rfl (.inl rfl) rfl rfl rfl) rfl ?_
  refine k_done rfl ?_
  refine blockK_n ?_
  refine ⟨rfl, k, by (try dsimp only); all_goals rfl, ?_⟩
  exact ⟨[], .nil, .fzE rfl (.fzE rfl (.box (by rfl) (.rowE rfl (.box (by rfl) (.nil)) (by (rw [thrK_step b out hk]; done)))) rfl) rfl, rfl⟩
 ·skip
  subst hJ
  refine blockK_n ?_
  refine thenK_n ?_
  refine W_seq ?_
  refine W_seqK (b' := 38) rfl rfl ?_
  refine q0 19 6 1 rfl rfl (T_load_b D rfl rfl rfl rfl rfl rfl) rfl ?_
  refine q0 4 22 2 rfl rfl (T_assign rfl rfl) rfl ?_
  refine k_done rfl ?_
  refine thenK_n ?_
  refine W_ret ?_
  exact .mk [(3, 4)] (.inr rfl) (.tmp rfl (.nil)) rfl (.rowE rfl (.nil) (by rfl)) rfl
theorem body107 : (Try.prog.funcs[107]?).map (fun fn => (fn.name == "runtime.NumGoroutine" || fn.body.isNone)) = some false := by kernel_rfl
theorem back_spec (t : GTac) (s : List Bool) (hs : s.length ≤ 1000000) (hT : TOk s.length t) : Spec Try.prog 107 [.agg [.v (.int .i64 t.op), .v (.int .i64 t.d), .v (.int .i64 t.a), .v (.int .i64 t.b), .v (.int .i64 t.k), .v (.int .i64 t.base), .v (.int .i64 t.size), .v (.int .u32 t.n)], .r 1] 2 [(1, .fz 1 (s.map eB))] (.r 2) 3 [(2, .row 4 1 ((aheadT t s).map eB))] := by
 have hT1 := hT.1
 have hal := aheadJ_len t s
 have hul := usesT_le t
 refine spec_of D (fn := Try.f107) rfl rfl (Nat.le_of_ble_eq_true rfl) ?_
 refine W_seq ?_
 refine W_seqK (b' := 34) rfl rfl ?_
 refine q1 2 2 1 rfl rfl (T_box rfl rfl flat_agg) rfl ?_
 refine q1 4 18 2 rfl rfl (T_nils [(4, 1)] (T_assign rfl rfl) rfl (.inr ⟨rfl, rfl⟩) (.cons (.nil rfl) .nil) (lv' := .r 18) (upd' := [(18, .row 4 1 (List.map eB ([] : List (Bool))))]) (nn' := 1) rfl rfl) rfl ?_
 refine k_done rfl ?_
 refine thenK_n ?_
 refine W_seq ?_
 refine W_seqK (b' := 98) rfl rfl ?_
 refine q1 9 34 1 rfl rfl (T_bs D (ys := []) (enc := eB) (l := []) rfl rfl rfl rfl rfl rfl (.nil) rfl rfl rfl rfl (.nil) rfl rfl) rfl ?_
 refine q0 10 50 2 rfl rfl (T_move rfl rfl) rfl ?_
 refine qn 11 66 3 rfl rfl (T_append D rfl rfl rfl rfl rfl rfl rfl rfl rfl rfl rfl rfl (by (try simp only [ty4]); (simp; omega)) (by (try simp only [ty4]); (simp; omega))) rfl ?_
 refine q0 5 82 4 rfl rfl (T_assign rfl rfl) rfl ?_
 refine k_done rfl ?_
 refine thenK_n ?_
 refine W_join (ι := Unit) 4 (fun _u => ⟨[(2, .p 2 0), (5, .r 3)], [(1, .fz 1 (s.map eB)), (2, .box 70 [.v (.int .i64 t.op), .v (.int .i64 t.d), .v (.int .i64 t.a), .v (.int .i64 t.b), .v (.int .i64 t.k), .v (.int .i64 t.base), .v (.int .i64 t.size), .v (.int .u32 t.n)]), (3, .row 4 1 ((aheadJ t s 0).map eB))]⟩) (fun _ => True) ?_ (fun _u hJ => ?_)
 ·skip
  refine W_seq ?_
  refine W_seqK (b' := 146) rfl rfl ?_
  refine q0 12 98 1 rfl rfl (T_load_bA D (l := [_, _, _, _, _, _, _, _]) rfl rfl rfl rfl rfl rfl rfl) rfl ?_
  refine q0 13 114 2 rfl rfl (T_callV (lvs := [_]) (L := []) (sets_spec t) body86 rfl rfl rfl rfl (.nil) rfl) rfl ?_
  refine q0 6 130 3 rfl rfl (T_assign rfl rfl) rfl ?_
  refine k_done rfl ?_
  refine thenK_n ?_
  refine W_seq ?_
  refine W_seqK (b' := 178) rfl rfl ?_
  refine q0 14 146 1 rfl rfl (T_move rfl rfl) rfl ?_
  refine q0 15 162 2 rfl rfl (T_cmp rfl rfl rfl rfl) rfl ?_
  refine k_done rfl ?_
  refine thenK_n ?_
  refine W_cond rfl (fun g1 => ?_) (fun g1 => ?_)
  ·have h1 := c_geq_t g1
   refine W_seqK (b' := 242) rfl rfl ?_
   refine q0 16 178 1 rfl rfl (T_move rfl rfl) rfl ?_
   refine q0 17 194 2 rfl rfl (T_move rfl rfl) rfl ?_
   refine q0 18 210 3 rfl rfl (T_indexAddrZ D rfl rfl rfl rfl rfl rfl rfl rfl (by assumption) (by (simp; omega))) rfl ?_
   refine s1 226 4 rfl rfl (T_store_e D (z := _) rfl rfl rfl rfl (flat_v rfl) rfl rfl (by (simp; omega)) (.v rfl (.nil)) rfl (Nat.le_of_ble_eq_true rfl) rfl) rfl ?_
   refine k_done rfl ?_
   refine thenK_n ?_
   refine ⟨(), by (try dsimp only); all_goals trivial, ?_⟩
   exact ⟨[(2, 2), (3, 66)], .same rfl rfl (.same rfl rfl (.nil)), .fzE rfl (.box (by rfl) (.rowE rfl (.nil) (by (rw [aheadJ_t (by omega)]; rfl)))) (by rfl), rfl⟩
  ·have h1 := c_geq_f g1
   refine W_skip ?_
   refine thenK_n ?_
   refine ⟨(), by (try dsimp only); all_goals trivial, ?_⟩
   exact ⟨[(2, 2), (3, 66)], .same rfl rfl (.same rfl rfl (.nil)), .fzE rfl (.box (by rfl) (.rowE rfl (.nil) (by (rw [aheadJ_f (by omega)]; rfl)))) (by rfl), rfl⟩
 refine W_seq ?_
 refine W_seqK (b' := 52) rfl rfl ?_
 refine q0 19 4 1 rfl rfl (T_load_bA D (l := [_, _, _, _, _, _, _, _]) rfl rfl rfl rfl rfl rfl rfl) rfl ?_
 refine q1 20 20 2 rfl rfl (T_callR (lvs := [_]) (L := []) (keep := false) (uses_spec t) body60 rfl rfl rfl rfl (.nil) rfl (.inl rfl) rfl) rfl ?_
 refine q0 7 36 3 rfl rfl (T_assign rfl rfl) rfl ?_
 refine k_done rfl ?_
 refine thenK_n ?_
 refine W_seq ?_
 refine W_seq ?_
 refine W_seqK (b' := 68) rfl rfl ?_
 refine q0 8 52 1 rfl rfl (T_assign rfl rfl) rfl ?_
 refine k_done rfl ?_
 refine thenK_n ?_
 refine W_block ?_
 refine W_loop (ι := Nat) 4 (fun j => ⟨[(5, .r 2), (7, .r 3), (8, .v (.int .i64 (j : Int)))], [(1, .fz 1 (s.map eB)), (2, .row 4 1 ((aheadJ t s j).map eB)), (3, .row 3 1 ((usesT t).map eI))]⟩) (fun j => j ≤ (usesT t).length) (fun j => (usesT t).length - j) (0) (by exact Nat.zero_le _) ?_ (fun j hJ => ?_)
 ·exact ⟨[(2, 3), (3, 20)], .same rfl rfl (.same rfl rfl (.eq rfl (.nil) (by rfl))), .fzE rfl (.rowE rfl (.rowE rfl (.nil) (by rfl)) (by rfl)) (by rfl), rfl⟩
 have hj1 := hal j
 have hu1 := fun h => hT.2 ((usesT t).getD j default) (getD_mem h)
 refine W_seq ?_
 refine W_seq ?_
 refine W_seqK (b' := 68) rfl rfl ?_
 refine q0 21 4 1 rfl rfl (T_move rfl rfl) rfl ?_
 refine q0 22 20 2 rfl rfl (T_move rfl rfl) rfl ?_
 refine q0 23 36 3 rfl rfl (T_len D rfl rfl rfl rfl rfl rfl) rfl ?_
 refine q0 24 52 4 rfl rfl (T_cmp rfl rfl rfl rfl) rfl ?_
 refine k_done rfl ?_
 refine thenK_n ?_
 refine W_cond rfl (fun g2 => ?_) (fun g2 => ?_)
 ·have h2 := c_lss_t g2
  refine W_skip ?_
  refine thenK_n ?_
  refine W_seq ?_
  refine W_block ?_
  refine W_seqK (b' := 180) rfl rfl ?_
  refine q0 27 68 1 rfl rfl (T_move rfl rfl) rfl ?_
  refine q0 28 84 2 rfl rfl (T_move rfl rfl) rfl ?_
  refine q0 29 100 3 rfl rfl (T_move rfl rfl) rfl ?_
  refine q0 30 116 4 rfl rfl (T_indexAddr D rfl rfl rfl rfl rfl rfl rfl rfl (by omega)) rfl ?_
  refine q0 31 132 5 rfl rfl (T_ldE D (lv := .v _) (nn := 0) (upd := []) rfl rfl rfl rfl rfl (by omega) rfl rfl rfl rfl) rfl ?_
  refine q0 32 148 6 rfl rfl (T_indexAddrZ D rfl rfl rfl rfl rfl rfl rfl rfl (by omega) (by omega)) rfl ?_
  refine s1 164 7 rfl rfl (T_store_e D (z := _) rfl rfl rfl rfl (flat_v rfl) rfl rfl (by omega) (.v rfl (.nil)) rfl (Nat.le_of_ble_eq_true rfl) rfl) rfl ?_
  refine k_done rfl ?_
  refine blockK_n ?_
  refine thenK_n ?_
  refine W_seqK (b' := 228) rfl rfl ?_
  refine q0 25 180 1 rfl rfl (T_move rfl rfl) rfl ?_
  refine q0 26 196 2 rfl rfl (T_add64 rfl rfl rfl (by omega)) rfl ?_
  refine q0 8 212 3 rfl rfl (T_assign rfl rfl) rfl ?_
  refine k_done rfl ?_
  refine thenK_n ?_
  refine ⟨j + 1, by (try dsimp only); omega, by (try dsimp only); omega, ?_⟩
  exact ⟨[(2, 2), (3, 3)], .same rfl rfl (.same rfl rfl (.eq rfl (.nil) (by rfl))), .fzE rfl (.rowE rfl (.rowE rfl (.nil) (by rfl)) (by (rw [aheadJ_succ (by omega)]; done))) rfl, rfl⟩
 ·have h2 := c_lss_f g2
  refine W_exit ?_
  refine thenK_e ?_
  refine thenK_e ?_
  refine blockK_hit ?_
  refine thenK_n ?_
  refine W_seq ?_
  refine W_seqK (b' := 100) rfl rfl ?_
  refine q0 33 68 1 rfl rfl (T_move rfl rfl) rfl ?_
  refine q0 4 84 2 rfl rfl (T_assign rfl rfl) rfl ?_
  refine k_done rfl ?_
  refine thenK_n ?_
  refine W_ret ?_
  exact .mk [(2, 2)] (.inr rfl) (.tmp rfl (.nil)) rfl (.rowE rfl (.nil) (by (rw [aheadJ_all (by omega)]; done))) rfl
theorem body81 : (Try.prog.funcs[81]?).map (fun fn => (fn.name == "runtime.NumGoroutine" || fn.body.isNone)) = some false := by kernel_rfl
theorem rahead_spec (b : GBlock) (out : List Bool) (hs : out.length ≤ 1000000) (hl : b.ins.length ≤ 1000000) (hB : BOk out.length b) : Spec Try.prog 81 [.agg [.r 1, .v (.int .i64 b.fin), .v (.int .i64 b.v), .v (.int .i64 b.to), .v (.int .i64 b.els)], .r 2] 3 [(1, .fz 8 (b.ins.map eTac)), (2, .fz 1 (out.map eB))] (.r 3) 4 [(3, .row 4 1 ((thrS b out).map eB))] := by
 refine spec_of D (fn := Try.f81) rfl rfl (Nat.le_of_ble_eq_true rfl) ?_
 refine W_seq ?_
 refine W_seqK (b' := 35) rfl rfl ?_
 refine q1 2 3 1 rfl rfl (T_box rfl rfl flat_agg) rfl ?_
 refine q1 4 19 2 rfl rfl (T_nils [(4, 1)] (T_assign rfl rfl) rfl (.inr ⟨rfl, rfl⟩) (.cons (.nil rfl) .nil) (lv' := .r 19) (upd' := [(19, .row 4 1 (List.map eB ([] : List (Bool))))]) (nn' := 1) rfl rfl) rfl ?_
 refine k_done rfl ?_
 refine thenK_n ?_
 refine W_seq ?_
 refine W_seqK (b' := 99) rfl rfl ?_
 refine q0 7 35 1 rfl rfl (T_load_bA D (l := [_, _, _, _, _]) rfl rfl rfl rfl rfl rfl rfl) rfl ?_
 refine q0 8 51 2 rfl rfl (T_move rfl rfl) rfl ?_
 refine q1 9 67 3 rfl rfl (T_callR (lvs := [_, _]) (L := [(1, 1), (2, 2)]) (keep := false) (rlast_spec b out hs hB.2) body106 rfl rfl rfl rfl (.fz rfl (.fz rfl (.nil))) rfl (.inl rfl) rfl) rfl ?_
 refine q0 5 83 4 rfl rfl (T_assign rfl rfl) rfl ?_
 refine k_done rfl ?_
 refine thenK_n ?_
 refine W_seq ?_
 refine W_seq ?_
 refine W_seqK (b' := 179) rfl rfl ?_
 refine q0 10 99 1 rfl rfl (T_fa D (m := 0) rfl rfl rfl rfl rfl rfl) rfl ?_
 refine q0 11 115 2 rfl rfl (T_load_b D rfl rfl rfl rfl rfl rfl) rfl ?_
 refine q0 12 131 3 rfl rfl (T_len D rfl rfl rfl rfl rfl rfl) rfl ?_
 refine q0 13 147 4 rfl rfl (T_sub64 rfl rfl rfl (by omega)) rfl ?_
 refine q0 6 163 5 rfl rfl (T_assign rfl rfl) rfl ?_
 refine k_done rfl ?_
 refine thenK_n ?_
 refine W_block ?_
 refine W_loop (ι := Nat) 5 (fun k => ⟨[(2, .p 3 0), (5, .r 4), (6, .v (.int .i64 ((k : Int) - 1)))], [(1, .fz 8 (b.ins.map eTac)), (2, .fz 1 (out.map eB)), (3, .box 72 [.r 1, .v (.int .i64 b.fin), .v (.int .i64 b.v), .v (.int .i64 b.to), .v (.int .i64 b.els)]), (4, .row 4 1 ((thrK b out k).map eB))]⟩) (fun k => k ≤ b.ins.length) (fun k => k) (b.ins.length) (by exact Nat.le_refl _) ?_ (fun k hJ => ?_)
 ·exact ⟨[(3, 3), (4, 67)], .same rfl rfl (.same rfl rfl (.eq rfl (.nil) (by rfl))), .fzE rfl (.fzE rfl (.box (by rfl) (.rowE rfl (.nil) (by (rw [thrK_end _ _ (Nat.le_refl _)]; done)))) (by rfl)) (by rfl), rfl⟩
 refine W_seq ?_
 refine W_seq ?_
 refine W_seqK (b' := 37) rfl rfl ?_
 refine q0 14 5 1 rfl rfl (T_move rfl rfl) rfl ?_
 refine q0 15 21 2 rfl rfl (T_cmp rfl rfl rfl rfl) rfl ?_
 refine k_done rfl ?_
 refine thenK_n ?_
 refine W_cond rfl (fun g1 => ?_) (fun g1 => ?_)
 ·have h1 := c_geq_t g1
  refine W_skip ?_
  refine thenK_n ?_
  refine W_seq ?_
  refine W_block ?_
  refine W_seqK (b' := 165) rfl rfl ?_
  refine q0 18 37 1 rfl rfl (T_fa D (m := 0) rfl rfl rfl rfl rfl rfl) rfl ?_
  refine q0 19 53 2 rfl rfl (T_load_b D rfl rfl rfl rfl rfl rfl) rfl ?_
  refine q0 20 69 3 rfl rfl (T_move rfl rfl) rfl ?_
  refine q0 21 85 4 rfl rfl (T_indexAddrZ D rfl rfl rfl rfl rfl rfl rfl rfl (by assumption) (by omega)) rfl ?_
  refine q0 22 101 5 rfl rfl (T_ldEA D (l := [.v _, .v _, .v _, .v _, .v _, .v _, .v _, .v _]) (nn := 0) (upd := []) rfl rfl rfl rfl rfl (by omega) rfl rfl rfl rfl rfl) rfl ?_
  refine q0 23 117 6 rfl rfl (T_move rfl rfl) rfl ?_
  refine q1 24 133 7 rfl rfl (T_callR (lvs := [_, _]) (L := [(1, 4)]) (keep := true) (back_spec (b.ins.getD ((k : Int) - 1).toNat default) (thrK b out k) (by rw [thrK_len]; omega) (by rw [thrK_len]; exact hB.1 _ (getD_mem (by omega)))) body107 rfl rfl rfl rfl (.lend rfl (.nil)) rfl (.inr (flat_eB _)) rfl) rfl ?_
  refine q0 5 149 8 rfl rfl (T_assign rfl rfl) rfl ?_
  refine k_done rfl ?_
  refine blockK_n ?_
  refine thenK_n ?_
  refine W_seqK (b' := 213) rfl rfl ?_
  refine q0 16 165 1 rfl rfl (T_move rfl rfl) rfl ?_
  refine q0 17 181 2 rfl rfl (T_sub64 rfl rfl rfl (by omega)) rfl ?_
  refine q0 6 197 3 rfl rfl (T_assign rfl rfl) rfl ?_
  refine k_done rfl ?_
  refine thenK_n ?_
  have hek : ((k - 1 : Nat) : Int) = (k : Int) - 1 := by omega
  refine ⟨k - 1, by (try dsimp only); omega, by (try dsimp only); omega, ?_⟩
  exact ⟨[(3, 3), (4, 133)], .same rfl rfl (.same rfl rfl (.eq rfl (.nil) (by (rw [hek]; done)))), .fzE rfl (.fzE rfl (.box (by rfl) (.rowE rfl (.nil) (by (rw [thrK_prev b out (by omega) (by omega)]; done)))) rfl) rfl, rfl⟩
 ·have h1 := c_geq_f g1
  refine W_exit ?_
  refine thenK_e ?_
  refine thenK_e ?_
  refine blockK_hit ?_
  refine thenK_n ?_
  refine W_seq ?_
  refine W_seqK (b' := 69) rfl rfl ?_
  refine q0 25 37 1 rfl rfl (T_move rfl rfl) rfl ?_
  refine q0 4 53 2 rfl rfl (T_assign rfl rfl) rfl ?_
  refine k_done rfl ?_
  refine thenK_n ?_
  refine W_ret ?_
  exact .mk [(3, 4)] (.inr rfl) (.tmp rfl (.nil)) rfl (.rowE rfl (.nil) (by (have e : k = 0 := (by omega); subst e; rfl))) rfl
end Lg
end Go.Proofs.Ytpfhmodjjljpjaa

namespace Go.Proofs.Ytpfhmodjjljpjaa
open Go.RowKit
namespace Lg
set_option maxRecDepth 100000
set_option linter.unusedVariables false
set_option linter.unusedSimpArgs false
theorem body128 : (Try.prog.funcs[128]?).map (fun fn => (fn.name == "runtime.NumGoroutine" || fn.body.isNone)) = some false := by kernel_rfl
theorem wrongLen_spec (s : List Bool) (n : Int) : Spec Try.prog 128 [.r 1, .p 2 0] 3 [(1, .fz 1 (s.map eB)), (2, .box 3 [.v (.int .i64 n)])] (.v (.bool (wrongLen n s))) 3 [(2, .box 3 [.v (.int .i64 n)])] := by
 refine spec_of D (fn := Try.f128) rfl rfl (Nat.le_of_ble_eq_true rfl) ?_
 refine W_seq ?_
 refine W_seqK (b' := 19) rfl rfl ?_
 refine q0 3 3 1 rfl rfl (T_assign rfl rfl) rfl ?_
 refine k_done rfl ?_
 refine thenK_n ?_
 refine W_seq ?_
 refine W_seqK (b' := 99) rfl rfl ?_
 refine q0 4 19 1 rfl rfl (T_move rfl rfl) rfl ?_
 refine q0 5 35 2 rfl rfl (T_len D rfl rfl rfl rfl rfl rfl) rfl ?_
 refine q0 6 51 3 rfl rfl (T_load_b D rfl rfl rfl rfl rfl rfl) rfl ?_
 refine q0 7 67 4 rfl rfl (T_cmp rfl rfl rfl rfl) rfl ?_
 refine q0 3 83 5 rfl rfl (T_assign rfl rfl) rfl ?_
 refine k_done rfl ?_
 refine thenK_n ?_
 refine W_ret ?_
 exact .mk [] (.inr rfl) (.tmp rfl (.nil)) (by (simp only [resLV, LV.ren, LV.v.injEq, Value.bool.injEq]; unfold wrongLen; by_cases hwl : ((s.length : Int) = n) <;> simp [cmpB, bne, hwl]; done)) (.box (by rfl) (.nil)) rfl
theorem body135 : (Try.prog.funcs[135]?).map (fun fn => (fn.name == "runtime.NumGoroutine" || fn.body.isNone)) = some false := by kernel_rfl
theorem idxW_spec (l : List (List Bool)) (n : Int) (hl : l.length ≤ 1000000000000000) : Spec Try.prog 135 [.r 1, .fn 128 [.p 2 0]] 3 [(1, .fz 1 (l.map eBs)), (2, .box 3 [.v (.int .i64 n)])] (.v (.int .i64 (fstIdx (wrongLen n) l))) 3 [(2, .box 3 [.v (.int .i64 n)])] := by
 refine spec_of D (fn := Try.f135) rfl rfl (Nat.le_of_ble_eq_true rfl) ?_
 refine W_seq ?_
 refine W_seqK (b' := 19) rfl rfl ?_
 refine q0 4 3 1 rfl rfl (T_assign rfl rfl) rfl ?_
 refine k_done rfl ?_
 refine thenK_n ?_
 refine W_seq ?_
 refine W_seq ?_
 refine W_seqK (b' := 67) rfl rfl ?_
 refine q0 6 19 1 rfl rfl (T_move rfl rfl) rfl ?_
 refine q0 7 35 2 rfl rfl (T_len D rfl rfl rfl rfl rfl rfl) rfl ?_
 refine q0 8 51 3 rfl rfl (T_move rfl rfl) rfl ?_
 refine k_done rfl ?_
 refine thenK_n ?_
 refine W_block ?_
 refine W_loop (ι := Nat) 3 (fun j => ⟨[(0, .r 1), (1, .fn 128 [.p 2 0]), (7, .v (.int .i64 (l.length : Int))), (8, .v (.int .i64 (j : Int)))], [(1, .fz 1 (l.map eBs)), (2, .box 3 [.v (.int .i64 n)])]⟩) (fun j => j ≤ l.length ∧ ∀ i, i < j → wrongLen n (l.getD i default) = false) (fun j => l.length - j) (0) (by exact ⟨Nat.zero_le _, fun i h => absurd h (Nat.not_lt_zero _)⟩) ?_ (fun j hJ => ?_)
 ·exact ⟨[], .same rfl rfl (.same rfl rfl (.eq rfl (.eq rfl (.nil) (by rfl)) (by rfl))), .fzE rfl (.box (by rfl) (.nil)) (by rfl), rfl⟩
 refine W_seq ?_
 refine W_seqK (b' := 19) rfl rfl ?_
 refine q0 9 3 1 rfl rfl (T_cmp rfl rfl rfl rfl) rfl ?_
 refine k_done rfl ?_
 refine thenK_n ?_
 refine W_seq ?_
 refine W_cond rfl (fun g1 => ?_) (fun g1 => ?_)
 ·have h1 := c_lss_t g1
  refine W_skip ?_
  refine thenK_n ?_
  refine W_seq ?_
  refine W_block ?_
  refine W_seq ?_
  refine W_seqK (b' := 51) rfl rfl ?_
  refine q0 10 19 1 rfl rfl (T_move rfl rfl) rfl ?_
  refine q0 5 35 2 rfl rfl (T_assign rfl rfl) rfl ?_
  refine k_done rfl ?_
  refine thenK_n ?_
  refine W_seq ?_
  refine W_seqK (b' := 147) rfl rfl ?_
  refine q0 11 51 1 rfl rfl (T_move rfl rfl) rfl ?_
  refine q0 12 67 2 rfl rfl (T_move rfl rfl) rfl ?_
  refine q0 13 83 3 rfl rfl (T_move rfl rfl) rfl ?_
  refine q0 14 99 4 rfl rfl (T_indexAddr D rfl rfl rfl rfl rfl rfl rfl rfl (by omega)) rfl ?_
  refine q1 15 115 5 rfl rfl (T_ldE D (lv := .r 115) (nn := 1) (upd := [(115, .fz 1 _)]) rfl rfl rfl rfl rfl (by omega) rfl rfl rfl rfl) rfl ?_
  refine q1 16 131 6 rfl rfl (T_call (lvs := [_]) (L := [(1, 115), (2, 2)]) (lv := .v _) (upd := [(2, .box 3 [.v _])]) (nn := 0) false (wrongLen_spec _ _) body128 rfl rfl rfl rfl (.fz rfl (.box rfl (.nil))) rfl (.inl rfl) rfl rfl rfl) rfl ?_
  refine k_done rfl ?_
  refine thenK_n ?_
  refine W_cond rfl (fun g2 => ?_) (fun g2 => ?_)
  ·have h2 := g2; (try simp only [cmpB, decide_eq_true_eq, decide_eq_false_iff_not, beq_iff_eq, beq_eq_false_iff_ne, bne_iff_ne, ne_eq, bne_eq_false_iff_eq, Bool.not_eq_true', Bool.not_eq_false', Int.not_lt, Int.not_le] at h2)
   refine W_seq ?_
   refine W_seqK (b' := 179) rfl rfl ?_
   refine q0 17 147 1 rfl rfl (T_move rfl rfl) rfl ?_
   refine q0 4 163 2 rfl rfl (T_assign rfl rfl) rfl ?_
   refine k_done rfl ?_
   refine thenK_n ?_
   refine W_ret ?_
   refine blockK_r ?_
   refine thenK_r ?_
   refine thenK_r ?_
   refine blockK_r ?_
   refine thenK_r ?_
   exact .mk [] (.inr rfl) (.tmp rfl (.nil)) (by (simp only [resLV, LV.ren, LV.v.injEq, Value.int.injEq, true_and]; exact (fstIdx_hit _ _ (by omega) (by assumption) (fun i hi => hJ.2 i hi)).symm)) (.box (by rfl) (.nil)) rfl
  ·have h2 := g2; (try simp only [cmpB, decide_eq_true_eq, decide_eq_false_iff_not, beq_iff_eq, beq_eq_false_iff_ne, bne_iff_ne, ne_eq, bne_eq_false_iff_eq, Bool.not_eq_true', Bool.not_eq_false', Int.not_lt, Int.not_le] at h2)
   refine W_skip ?_
   refine blockK_n ?_
   refine thenK_n ?_
   refine W_seqK (b' := 179) rfl rfl ?_
   refine q0 18 147 1 rfl rfl (T_add64 rfl rfl rfl (by omega)) rfl ?_
   refine q0 8 163 2 rfl rfl (T_move rfl rfl) rfl ?_
   refine k_done rfl ?_
   refine thenK_n ?_
   refine ⟨j + 1, by (try dsimp only); exact ⟨by omega, fun i hi => by rcases Nat.lt_or_ge i j with h | h; exact hJ.2 i h; rw [show i = j by omega]; assumption⟩, by (try dsimp only); omega, ?_⟩
   exact ⟨[], .same rfl rfl (.same rfl rfl (.eq rfl (.eq rfl (.nil) (by rfl)) rfl)), .fzE rfl (.box (by rfl) (.nil)) rfl, rfl⟩
 ·have h1 := c_lss_f g1
  refine W_exit ?_
  refine thenK_e ?_
  refine thenK_e ?_
  refine blockK_hit ?_
  refine thenK_n ?_
  refine W_seq ?_
  refine W_seqK (b' := 35) rfl rfl ?_
  refine q0 4 19 1 rfl rfl (T_assign rfl rfl) rfl ?_
  refine k_done rfl ?_
  refine thenK_n ?_
  refine W_ret ?_
  exact .mk [] (.inr rfl) (.tmp rfl (.nil)) (by (simp only [resLV, LV.ren, LV.v.injEq, Value.int.injEq, true_and]; exact (fstIdx_none _ _ (fun i hi => hJ.2 i (by omega))).symm)) (.box (by rfl) (.nil)) rfl
theorem body127 : (Try.prog.funcs[127]?).map (fun fn => (fn.name == "runtime.NumGoroutine" || fn.body.isNone)) = some false := by kernel_rfl
theorem contW_spec (l : List (List Bool)) (n : Int) (hl : l.length ≤ 1000000000000000) : Spec Try.prog 127 [.r 1, .fn 128 [.p 2 0]] 3 [(1, .fz 1 (l.map eBs)), (2, .box 3 [.v (.int .i64 n)])] (.v (.bool (l.any (wrongLen n)))) 3 [(2, .box 3 [.v (.int .i64 n)])] := by
 refine spec_of D (fn := Try.f127) rfl rfl (Nat.le_of_ble_eq_true rfl) ?_
 refine W_seq ?_
 refine W_seqK (b' := 19) rfl rfl ?_
 refine q0 4 3 1 rfl rfl (T_assign rfl rfl) rfl ?_
 refine k_done rfl ?_
 refine thenK_n ?_
 refine W_seq ?_
 refine W_seqK (b' := 99) rfl rfl ?_
 refine q0 5 19 1 rfl rfl (T_move rfl rfl) rfl ?_
 refine q0 6 35 2 rfl rfl (T_move rfl rfl) rfl ?_
 refine q1 7 51 3 rfl rfl (T_call (lvs := [_, _]) (L := [(1, 1), (2, 2)]) (lv := .v _) (upd := [(2, .box 3 [.v _])]) (nn := 0) false (idxW_spec l n hl) body135 rfl rfl rfl rfl (.fz rfl (.box rfl (.nil))) rfl (.inl rfl) rfl rfl rfl) rfl ?_
 refine q0 8 67 4 rfl rfl (T_cmp rfl rfl rfl rfl) rfl ?_
 refine q0 4 83 5 rfl rfl (T_assign rfl rfl) rfl ?_
 refine k_done rfl ?_
 refine thenK_n ?_
 refine W_ret ?_
 exact .mk [] (.inr rfl) (.tmp rfl (.nil)) (by (simp only [resLV, LV.ren, LV.v.injEq, Value.bool.injEq]; exact fstIdx_any _ _)) (.box (by rfl) (.nil)) rfl
theorem body95 : (Try.prog.funcs[95]?).map (fun fn => (fn.name == "runtime.NumGoroutine" || fn.body.isNone)) = some false := by kernel_rfl
theorem lfits_spec (l : List (List Bool)) (n m : Int) (hl : l.length ≤ 1000000000000000) : Spec Try.prog 95 [.r 1, .v (.int .i64 n), .v (.int .i64 m)] 2 [(1, .fz 1 (l.map eBs))] (.v (.bool (sizedB l n m))) 2 [] := by
 refine spec_of D (fn := Try.f95) rfl rfl (Nat.le_of_ble_eq_true rfl) ?_
 refine W_seq ?_
 refine W_seqK (b' := 34) rfl rfl ?_
 refine q1 5 2 1 rfl rfl (T_box rfl rfl (flat_v rfl)) rfl ?_
 refine q0 6 18 2 rfl rfl (T_assign rfl rfl) rfl ?_
 refine k_done rfl ?_
 refine thenK_n ?_
 refine W_seq ?_
 refine W_seqK (b' := 210) rfl rfl ?_
 refine q0 7 34 1 rfl rfl (T_move rfl rfl) rfl ?_
 refine q0 8 50 2 rfl rfl (T_len D rfl rfl rfl rfl rfl rfl) rfl ?_
 refine q0 9 66 3 rfl rfl (T_move rfl rfl) rfl ?_
 refine q0 10 82 4 rfl rfl (T_cmp rfl rfl rfl rfl) rfl ?_
 refine q0 11 98 5 rfl rfl (T_move rfl rfl) rfl ?_
 refine k_split (d := 11) rfl (fun g1 => ?_) (fun g1 => ?_)
 ·have h1 := c_eql_t g1
  refine k_op0 (d := 12) (b := 114) (j' := 6) rfl rfl rfl rfl (g_tt rfl rfl rfl g1) (T_move rfl rfl) rfl ?_
  refine k_op0 (d := 13) (b := 130) (j' := 7) rfl rfl rfl rfl (g_tt rfl rfl rfl g1) (T_makeFunc (l := [_]) rfl rfl) rfl ?_
  refine k_op1 (d := 14) (b := 146) (j' := 8) rfl rfl rfl rfl (g_tt rfl rfl rfl g1) (T_call (lvs := [_, _]) (L := [(1, 1), (2, 2)]) (lv := .v _) (upd := [(2, .box 3 [.v _])]) (nn := 0) false (contW_spec l m hl) body127 rfl rfl rfl rfl (.fz rfl (.box rfl (.nil))) rfl (.inl rfl) rfl rfl rfl) rfl ?_
  refine k_op0 (d := 15) (b := 162) (j' := 9) rfl rfl rfl rfl (g_tt rfl rfl rfl g1) (T_not rfl rfl) rfl ?_
  refine q0 16 178 10 rfl rfl (T_pick_t rfl rfl rfl g1) rfl ?_
  refine q0 6 194 11 rfl rfl (T_assign rfl rfl) rfl ?_
  refine k_done rfl ?_
  refine thenK_n ?_
  refine W_ret ?_
  exact .mk [] (.inr rfl) (.tmp rfl (.nil)) (by (simp only [resLV, LV.ren, LV.v.injEq, Value.bool.injEq]; unfold sizedB; rw [decide_eq_true (by omega)]; rfl)) (.nil) rfl
 ·have h1 := c_eql_f g1
  refine k_no (d := 12) (j' := 6) rfl rfl rfl (g_tf rfl rfl rfl g1) ?_
  refine k_no (d := 13) (j' := 7) rfl rfl rfl (g_tf rfl rfl rfl g1) ?_
  refine k_no (d := 14) (j' := 8) rfl rfl rfl (g_tf rfl rfl rfl g1) ?_
  refine k_no (d := 15) (j' := 9) rfl rfl rfl (g_tf rfl rfl rfl g1) ?_
  refine q0 16 178 10 rfl rfl (T_pick_f rfl rfl rfl g1) rfl ?_
  refine q0 6 194 11 rfl rfl (T_assign rfl rfl) rfl ?_
  refine k_done rfl ?_
  refine thenK_n ?_
  refine W_ret ?_
  exact .mk [] (.inr rfl) (.tmp rfl (.nil)) (by (simp only [resLV, LV.ren, LV.v.injEq, Value.bool.injEq]; exact sizedB_no1 (by omega))) (.nil) rfl
theorem body101 : (Try.prog.funcs[101]?).map (fun fn => (fn.name == "runtime.NumGoroutine" || fn.body.isNone)) = some false := by kernel_rfl
theorem rsized_spec (l : List (List Bool)) (n m : Int) (hl : l.length ≤ 1000000000000000) : Spec Try.prog 101 [.r 1, .v (.int .i64 n), .v (.int .i64 m)] 2 [(1, .fz 1 (l.map eBs))] (.v (.bool (sizedB l n m))) 2 [] := by
 refine spec_of D (fn := Try.f101) rfl rfl (Nat.le_of_ble_eq_true rfl) ?_
 refine W_seq ?_
 refine W_seqK (b' := 18) rfl rfl ?_
 refine q0 6 2 1 rfl rfl (T_assign rfl rfl) rfl ?_
 refine k_done rfl ?_
 refine thenK_n ?_
 refine W_seq ?_
 refine W_seq ?_
 refine W_seqK (b' := 82) rfl rfl ?_
 refine q0 8 18 1 rfl rfl (T_move rfl rfl) rfl ?_
 refine q0 9 34 2 rfl rfl (T_len D rfl rfl rfl rfl rfl rfl) rfl ?_
 refine q0 10 50 3 rfl rfl (T_move rfl rfl) rfl ?_
 refine q0 11 66 4 rfl rfl (T_cmp rfl rfl rfl rfl) rfl ?_
 refine k_done rfl ?_
 refine thenK_n ?_
 refine W_cond rfl (fun g1 => ?_) (fun g1 => ?_)
 ·have h1 := c_neq_t g1
  refine W_seq ?_
  refine W_seqK (b' := 98) rfl rfl ?_
  refine q0 6 82 1 rfl rfl (T_assign rfl rfl) rfl ?_
  refine k_done rfl ?_
  refine thenK_n ?_
  refine W_ret ?_
  refine thenK_r ?_
  exact .mk [] (.inr rfl) (.tmp rfl (.nil)) (by (simp only [resLV, LV.ren, LV.v.injEq, Value.bool.injEq]; exact sizedB_no1 (by omega))) (.nil) rfl
 ·have h1 := c_neq_f g1
  refine W_skip ?_
  refine thenK_n ?_
  refine W_seq ?_
  refine W_seq ?_
  refine W_seqK (b' := 98) rfl rfl ?_
  refine q0 7 82 1 rfl rfl (T_assign rfl rfl) rfl ?_
  refine k_done rfl ?_
  refine thenK_n ?_
  refine W_block ?_
  refine W_loop (ι := Nat) 2 (fun j => ⟨[(0, .r 1), (1, .v (.int .i64 n)), (2, .v (.int .i64 m)), (7, .v (.int .i64 (j : Int)))], [(1, .fz 1 (l.map eBs))]⟩) (fun j => j ≤ l.length ∧ ∀ i, i < j → ((l.getD i default).length : Int) = m) (fun j => l.length - j) (0) (by exact ⟨Nat.zero_le _, fun i h => absurd h (Nat.not_lt_zero _)⟩) ?_ (fun j hJ => ?_)
  ·exact ⟨[], .same rfl rfl (.eq rfl (.eq rfl (.eq rfl (.nil) (by rfl)) (by rfl)) (by rfl)), .fzE rfl (.nil) (by rfl), rfl⟩
  refine W_seq ?_
  refine W_seq ?_
  refine W_seqK (b' := 50) rfl rfl ?_
  refine q0 12 2 1 rfl rfl (T_move rfl rfl) rfl ?_
  refine q0 13 18 2 rfl rfl (T_move rfl rfl) rfl ?_
  refine q0 14 34 3 rfl rfl (T_cmp rfl rfl rfl rfl) rfl ?_
  refine k_done rfl ?_
  refine thenK_n ?_
  refine W_cond rfl (fun g2 => ?_) (fun g2 => ?_)
  ·have h2 := c_lss_t g2
   refine W_skip ?_
   refine thenK_n ?_
   refine W_seq ?_
   refine W_block ?_
   refine W_seq ?_
   refine W_seqK (b' := 162) rfl rfl ?_
   refine q0 17 50 1 rfl rfl (T_move rfl rfl) rfl ?_
   refine q0 18 66 2 rfl rfl (T_move rfl rfl) rfl ?_
   refine q0 19 82 3 rfl rfl (T_indexAddr D rfl rfl rfl rfl rfl rfl rfl rfl (by omega)) rfl ?_
   refine q1 20 98 4 rfl rfl (T_ldE D (lv := .r 98) (nn := 1) (upd := [(98, .fz 1 _)]) rfl rfl rfl rfl rfl (by omega) rfl rfl rfl rfl) rfl ?_
   refine q0 21 114 5 rfl rfl (T_len D rfl rfl rfl rfl rfl rfl) rfl ?_
   refine q0 22 130 6 rfl rfl (T_move rfl rfl) rfl ?_
   refine q0 23 146 7 rfl rfl (T_cmp rfl rfl rfl rfl) rfl ?_
   refine k_done rfl ?_
   refine thenK_n ?_
   refine W_cond rfl (fun g3 => ?_) (fun g3 => ?_)
   ·have h3 := c_neq_t g3
    refine W_seq ?_
    refine W_seqK (b' := 178) rfl rfl ?_
    refine q0 6 162 1 rfl rfl (T_assign rfl rfl) rfl ?_
    refine k_done rfl ?_
    refine thenK_n ?_
    refine W_ret ?_
    refine blockK_r ?_
    refine thenK_r ?_
    refine thenK_r ?_
    refine blockK_r ?_
    refine thenK_r ?_
    exact .mk [] (.inr rfl) (.tmp rfl (.nil)) (by (simp only [resLV, LV.ren, LV.v.injEq, Value.bool.injEq]; exact sizedB_no2 (j := j) (by omega) (by omega))) (.nil) rfl
   ·have h3 := c_neq_f g3
    refine W_skip ?_
    refine blockK_n ?_
    refine thenK_n ?_
    refine W_seqK (b' := 210) rfl rfl ?_
    refine q0 15 162 1 rfl rfl (T_move rfl rfl) rfl ?_
    refine q0 16 178 2 rfl rfl (T_add64 rfl rfl rfl (by omega)) rfl ?_
    refine q0 7 194 3 rfl rfl (T_assign rfl rfl) rfl ?_
    refine k_done rfl ?_
    refine thenK_n ?_
    refine ⟨j + 1, by (try dsimp only); exact ⟨by omega, fun i hi => by rcases Nat.lt_or_ge i j with h | h; exact hJ.2 i h; rw [show i = j by omega]; omega⟩, by (try dsimp only); omega, ?_⟩
    exact ⟨[], .same rfl rfl (.eq rfl (.eq rfl (.eq rfl (.nil) (by rfl)) rfl) rfl), .fzE rfl (.nil) rfl, rfl⟩
  ·have h2 := c_lss_f g2
   refine W_exit ?_
   refine thenK_e ?_
   refine thenK_e ?_
   refine blockK_hit ?_
   refine thenK_n ?_
   refine W_seq ?_
   refine W_seqK (b' := 66) rfl rfl ?_
   refine q0 6 50 1 rfl rfl (T_assign rfl rfl) rfl ?_
   refine k_done rfl ?_
   refine thenK_n ?_
   refine W_ret ?_
   exact .mk [] (.inr rfl) (.tmp rfl (.nil)) (by (simp only [resLV, LV.ren, LV.v.injEq, Value.bool.injEq]; exact sizedB_yes (by omega) (fun i h => hJ.2 i (by omega)))) (.nil) rfl
theorem body56 : (Try.prog.funcs[56]?).map (fun fn => (fn.name == "runtime.NumGoroutine" || fn.body.isNone)) = some false := by kernel_rfl
theorem rSized_spec (f : GFn) (li lo : List (List Bool)) (h1 : li.length ≤ 1000000000000000) (h2 : lo.length ≤ 1000000000000000) : Spec Try.prog 56 [.agg [.v (.int .i64 f.regs), .r 1], .agg [.r 2, .r 3]] 4 [(1, .fz 5 (f.blocks.map eBlock)), (2, .fz 1 (li.map eBs)), (3, .fz 1 (lo.map eBs))] (.v (.bool (sizedL f li lo))) 4 [] := by
 refine spec_of D (fn := Try.f56) rfl rfl (Nat.le_of_ble_eq_true rfl) ?_
 refine W_seq ?_
 refine W_seqK (b' := 52) rfl rfl ?_
 refine q1 2 4 1 rfl rfl (T_box rfl rfl flat_agg) rfl ?_
 refine q1 3 20 2 rfl rfl (T_box rfl rfl flat_agg) rfl ?_
 refine q0 4 36 3 rfl rfl (T_assign rfl rfl) rfl ?_
 refine k_done rfl ?_
 refine thenK_n ?_
 refine W_seq ?_
 refine W_seqK (b' := 356) rfl rfl ?_
 refine q0 5 52 1 rfl rfl (T_fa D (m := 0) rfl rfl rfl rfl rfl rfl) rfl ?_
 refine q0 6 68 2 rfl rfl (T_load_b D rfl rfl rfl rfl rfl rfl) rfl ?_
 refine q0 7 84 3 rfl rfl (T_fa D (m := 1) rfl rfl rfl rfl rfl rfl) rfl ?_
 refine q0 8 100 4 rfl rfl (T_load_b D rfl rfl rfl rfl rfl rfl) rfl ?_
 refine q0 9 116 5 rfl rfl (T_len D rfl rfl rfl rfl rfl rfl) rfl ?_
 refine q0 10 132 6 rfl rfl (T_fa D (m := 0) rfl rfl rfl rfl rfl rfl) rfl ?_
 refine q0 11 148 7 rfl rfl (T_load_b D rfl rfl rfl rfl rfl rfl) rfl ?_
 refine q0 12 164 8 rfl rfl (T_callV (lvs := [_, _, _]) (L := [(1, 2)]) (rsized_spec li f.blocks.length f.regs h1) body101 rfl rfl rfl rfl (.fz rfl (.nil)) rfl) rfl ?_
 refine q0 13 180 9 rfl rfl (T_move rfl rfl) rfl ?_
 refine k_split (d := 13) rfl (fun g1 => ?_) (fun g1 => ?_)
 ·have h1 := g1; (try simp only [cmpB, decide_eq_true_eq, decide_eq_false_iff_not, beq_iff_eq, beq_eq_false_iff_ne, bne_iff_ne, ne_eq, bne_eq_false_iff_eq, Bool.not_eq_true', Bool.not_eq_false', Int.not_lt, Int.not_le] at h1)
  refine k_op0 (d := 14) (b := 196) (j' := 10) rfl rfl rfl rfl (g_tt rfl rfl rfl g1) (T_fa D (m := 1) rfl rfl rfl rfl rfl rfl) rfl ?_
  refine k_op0 (d := 15) (b := 212) (j' := 11) rfl rfl rfl rfl (g_tt rfl rfl rfl g1) (T_load_b D rfl rfl rfl rfl rfl rfl) rfl ?_
  refine k_op0 (d := 16) (b := 228) (j' := 12) rfl rfl rfl rfl (g_tt rfl rfl rfl g1) (T_fa D (m := 1) rfl rfl rfl rfl rfl rfl) rfl ?_
  refine k_op0 (d := 17) (b := 244) (j' := 13) rfl rfl rfl rfl (g_tt rfl rfl rfl g1) (T_load_b D rfl rfl rfl rfl rfl rfl) rfl ?_
  refine k_op0 (d := 18) (b := 260) (j' := 14) rfl rfl rfl rfl (g_tt rfl rfl rfl g1) (T_len D rfl rfl rfl rfl rfl rfl) rfl ?_
  refine k_op0 (d := 19) (b := 276) (j' := 15) rfl rfl rfl rfl (g_tt rfl rfl rfl g1) (T_fa D (m := 0) rfl rfl rfl rfl rfl rfl) rfl ?_
  refine k_op0 (d := 20) (b := 292) (j' := 16) rfl rfl rfl rfl (g_tt rfl rfl rfl g1) (T_load_b D rfl rfl rfl rfl rfl rfl) rfl ?_
  refine k_op0 (d := 21) (b := 308) (j' := 17) rfl rfl rfl rfl (g_tt rfl rfl rfl g1) (T_callV (lvs := [_, _, _]) (L := [(1, 3)]) (rsized_spec lo f.blocks.length f.regs h2) body101 rfl rfl rfl rfl (.fz rfl (.nil)) rfl) rfl ?_
  refine q0 22 324 18 rfl rfl (T_pick_t rfl rfl rfl g1) rfl ?_
  refine q0 4 340 19 rfl rfl (T_assign rfl rfl) rfl ?_
  refine k_done rfl ?_
  refine thenK_n ?_
  refine W_ret ?_
  exact .mk [] (.inr rfl) (.tmp rfl (.nil)) (by (simp only [resLV, LV.ren, LV.v.injEq, Value.bool.injEq]; unfold sizedL; (rw [(by assumption : sizedB li _ _ = true)]; first | done | rfl))) (.nil) rfl
 ·have h1 := g1; (try simp only [cmpB, decide_eq_true_eq, decide_eq_false_iff_not, beq_iff_eq, beq_eq_false_iff_ne, bne_iff_ne, ne_eq, bne_eq_false_iff_eq, Bool.not_eq_true', Bool.not_eq_false', Int.not_lt, Int.not_le] at h1)
  refine k_no (d := 14) (j' := 10) rfl rfl rfl (g_tf rfl rfl rfl g1) ?_
  refine k_no (d := 15) (j' := 11) rfl rfl rfl (g_tf rfl rfl rfl g1) ?_
  refine k_no (d := 16) (j' := 12) rfl rfl rfl (g_tf rfl rfl rfl g1) ?_
  refine k_no (d := 17) (j' := 13) rfl rfl rfl (g_tf rfl rfl rfl g1) ?_
  refine k_no (d := 18) (j' := 14) rfl rfl rfl (g_tf rfl rfl rfl g1) ?_
  refine k_no (d := 19) (j' := 15) rfl rfl rfl (g_tf rfl rfl rfl g1) ?_
  refine k_no (d := 20) (j' := 16) rfl rfl rfl (g_tf rfl rfl rfl g1) ?_
  refine k_no (d := 21) (j' := 17) rfl rfl rfl (g_tf rfl rfl rfl g1) ?_
  refine q0 22 324 18 rfl rfl (T_pick_f rfl rfl rfl g1) rfl ?_
  refine q0 4 340 19 rfl rfl (T_assign rfl rfl) rfl ?_
  refine k_done rfl ?_
  refine thenK_n ?_
  refine W_ret ?_
  exact .mk [] (.inr rfl) (.tmp rfl (.nil)) (by (simp only [resLV, LV.ren, LV.v.injEq, Value.bool.injEq]; unfold sizedL; (rw [(by assumption : sizedB li _ _ = false)]; first | done | rfl))) (.nil) rfl
theorem body53 : (Try.prog.funcs[53]?).map (fun fn => (fn.name == "runtime.NumGoroutine" || fn.body.isNone)) = some false := by kernel_rfl
theorem lcheck_spec (f : GFn) (li lo : List (List Bool)) (hF : LF f) (h1 : li.length ≤ 1000000000000000) (h2 : lo.length ≤ 1000000000000000) : Spec Try.prog 53 [.agg [.v (.int .i64 f.regs), .r 1], .agg [.r 2, .r 3]] 4 [(1, .fz 5 (f.blocks.map eBlock)), (2, .fz 1 (li.map eBs)), (3, .fz 1 (lo.map eBs))] (.v (.bool (checkL f li lo))) 4 [] := by
 have hFl := hF.len
 have hnl := nextL_length f
 have hfl := follows_le f
 refine spec_of D (fn := Try.f53) rfl rfl (Nat.le_of_ble_eq_true rfl) ?_
 refine W_seq ?_
 refine W_seqK (b' := 52) rfl rfl ?_
 refine q1 2 4 1 rfl rfl (T_box rfl rfl flat_agg) rfl ?_
 refine q1 3 20 2 rfl rfl (T_box rfl rfl flat_agg) rfl ?_
 refine q0 4 36 3 rfl rfl (T_assign rfl rfl) rfl ?_
 refine k_done rfl ?_
 refine thenK_n ?_
 refine W_seq ?_
 refine W_seq ?_
 refine W_seqK (b' := 372) rfl rfl ?_
 refine q0 10 52 1 rfl rfl (T_fa D (m := 0) rfl rfl rfl rfl rfl rfl) rfl ?_
 refine q0 11 68 2 rfl rfl (T_load_b D rfl rfl rfl rfl rfl rfl) rfl ?_
 refine q0 12 84 3 rfl rfl (T_fa D (m := 1) rfl rfl rfl rfl rfl rfl) rfl ?_
 refine q0 13 100 4 rfl rfl (T_load_b D rfl rfl rfl rfl rfl rfl) rfl ?_
 refine q0 14 116 5 rfl rfl (T_len D rfl rfl rfl rfl rfl rfl) rfl ?_
 refine q0 15 132 6 rfl rfl (T_fa D (m := 0) rfl rfl rfl rfl rfl rfl) rfl ?_
 refine q0 16 148 7 rfl rfl (T_load_b D rfl rfl rfl rfl rfl rfl) rfl ?_
 refine q0 17 164 8 rfl rfl (T_callV (lvs := [_, _, _]) (L := [(1, 2)]) (lfits_spec li f.blocks.length f.regs h1) body95 rfl rfl rfl rfl (.fz rfl (.nil)) rfl) rfl ?_
 refine q0 18 180 9 rfl rfl (T_not rfl rfl) rfl ?_
 refine q0 19 196 10 rfl rfl (T_move rfl rfl) rfl ?_
 refine k_split (d := 19) rfl (fun g1 => ?_) (fun g1 => ?_)
 ·have h1 := g1; (try simp only [cmpB, decide_eq_true_eq, decide_eq_false_iff_not, beq_iff_eq, beq_eq_false_iff_ne, bne_iff_ne, ne_eq, bne_eq_false_iff_eq, Bool.not_eq_true', Bool.not_eq_false', Int.not_lt, Int.not_le] at h1)
  refine k_no (d := 20) (j' := 11) rfl rfl rfl (g_ft rfl rfl rfl g1) ?_
  refine k_no (d := 21) (j' := 12) rfl rfl rfl (g_ft rfl rfl rfl g1) ?_
  refine k_no (d := 22) (j' := 13) rfl rfl rfl (g_ft rfl rfl rfl g1) ?_
  refine k_no (d := 23) (j' := 14) rfl rfl rfl (g_ft rfl rfl rfl g1) ?_
  refine k_no (d := 24) (j' := 15) rfl rfl rfl (g_ft rfl rfl rfl g1) ?_
  refine k_no (d := 25) (j' := 16) rfl rfl rfl (g_ft rfl rfl rfl g1) ?_
  refine k_no (d := 26) (j' := 17) rfl rfl rfl (g_ft rfl rfl rfl g1) ?_
  refine k_no (d := 27) (j' := 18) rfl rfl rfl (g_ft rfl rfl rfl g1) ?_
  refine k_no (d := 28) (j' := 19) rfl rfl rfl (g_ft rfl rfl rfl g1) ?_
  refine q0 29 356 20 rfl rfl (T_pick_t rfl rfl rfl g1) rfl ?_
  refine k_done rfl ?_
  refine thenK_n ?_
  refine W_cond rfl (fun g2 => ?_) (fun g2 => ?_)
  ·skip
   refine W_seq ?_
   refine W_seqK (b' := 388) rfl rfl ?_
   refine q0 4 372 1 rfl rfl (T_assign rfl rfl) rfl ?_
   refine k_done rfl ?_
   refine thenK_n ?_
   refine W_ret ?_
   refine thenK_r ?_
   exact .mk [] (.inr rfl) (.tmp rfl (.nil)) (by simp only [resLV, LV.ren, LV.v.injEq, Value.bool.injEq]; exact checkL_no1 (sizedL_f1 (by assumption))) (.nil) rfl
  ·exact absurd (g2.symm.trans rfl) (by decide)
 ·have h1 := g1; (try simp only [cmpB, decide_eq_true_eq, decide_eq_false_iff_not, beq_iff_eq, beq_eq_false_iff_ne, bne_iff_ne, ne_eq, bne_eq_false_iff_eq, Bool.not_eq_true', Bool.not_eq_false', Int.not_lt, Int.not_le] at h1)
  refine k_op0 (d := 20) (b := 212) (j' := 11) rfl rfl rfl rfl (g_ff rfl rfl rfl g1) (T_fa D (m := 1) rfl rfl rfl rfl rfl rfl) rfl ?_
  refine k_op0 (d := 21) (b := 228) (j' := 12) rfl rfl rfl rfl (g_ff rfl rfl rfl g1) (T_load_b D rfl rfl rfl rfl rfl rfl) rfl ?_
  refine k_op0 (d := 22) (b := 244) (j' := 13) rfl rfl rfl rfl (g_ff rfl rfl rfl g1) (T_fa D (m := 1) rfl rfl rfl rfl rfl rfl) rfl ?_
  refine k_op0 (d := 23) (b := 260) (j' := 14) rfl rfl rfl rfl (g_ff rfl rfl rfl g1) (T_load_b D rfl rfl rfl rfl rfl rfl) rfl ?_
  refine k_op0 (d := 24) (b := 276) (j' := 15) rfl rfl rfl rfl (g_ff rfl rfl rfl g1) (T_len D rfl rfl rfl rfl rfl rfl) rfl ?_
  refine k_op0 (d := 25) (b := 292) (j' := 16) rfl rfl rfl rfl (g_ff rfl rfl rfl g1) (T_fa D (m := 0) rfl rfl rfl rfl rfl rfl) rfl ?_
  refine k_op0 (d := 26) (b := 308) (j' := 17) rfl rfl rfl rfl (g_ff rfl rfl rfl g1) (T_load_b D rfl rfl rfl rfl rfl rfl) rfl ?_
  refine k_op0 (d := 27) (b := 324) (j' := 18) rfl rfl rfl rfl (g_ff rfl rfl rfl g1) (T_callV (lvs := [_, _, _]) (L := [(1, 3)]) (lfits_spec lo f.blocks.length f.regs h2) body95 rfl rfl rfl rfl (.fz rfl (.nil)) rfl) rfl ?_
  refine k_op0 (d := 28) (b := 340) (j' := 19) rfl rfl rfl rfl (g_ff rfl rfl rfl g1) (T_not rfl rfl) rfl ?_
  refine q0 29 356 20 rfl rfl (T_pick_f rfl rfl rfl g1) rfl ?_
  refine k_done rfl ?_
  refine thenK_n ?_
  refine W_cond rfl (fun g3 => ?_) (fun g3 => ?_)
  ·have h3 := g3; (try simp only [cmpB, decide_eq_true_eq, decide_eq_false_iff_not, beq_iff_eq, beq_eq_false_iff_ne, bne_iff_ne, ne_eq, bne_eq_false_iff_eq, Bool.not_eq_true', Bool.not_eq_false', Int.not_lt, Int.not_le] at h3)
   refine W_seq ?_
   refine W_seqK (b' := 388) rfl rfl ?_
   refine q0 4 372 1 rfl rfl (T_assign rfl rfl) rfl ?_
   refine k_done rfl ?_
   refine thenK_n ?_
   refine W_ret ?_
   refine thenK_r ?_
   exact .mk [] (.inr rfl) (.tmp rfl (.nil)) (by simp only [resLV, LV.ren, LV.v.injEq, Value.bool.injEq]; exact checkL_no1 (sizedL_f2 (by assumption))) (.nil) rfl
  ·have h3 := g3; (try simp only [cmpB, decide_eq_true_eq, decide_eq_false_iff_not, beq_iff_eq, beq_eq_false_iff_ne, bne_iff_ne, ne_eq, bne_eq_false_iff_eq, Bool.not_eq_true', Bool.not_eq_false', Int.not_lt, Int.not_le] at h3)
   refine W_skip ?_
   refine thenK_n ?_
   refine W_seq ?_
   refine W_seqK (b' := 420) rfl rfl ?_
   refine q0 30 372 1 rfl rfl (T_load_bA D (l := [_, _]) rfl rfl rfl rfl rfl rfl rfl) rfl ?_
   refine q1 31 388 2 rfl rfl (T_callR (lvs := [_]) (L := [(1, 1)]) (keep := false) (next_spec f (by omega)) body90 rfl rfl rfl rfl (.fz rfl (.nil)) rfl (.inl rfl) rfl) rfl ?_
   refine q0 5 404 3 rfl rfl (T_assign rfl rfl) rfl ?_
   refine k_done rfl ?_
   refine thenK_n ?_
   refine W_seq ?_
   refine W_seq ?_
   refine W_seqK (b' := 484) rfl rfl ?_
   refine q0 32 420 1 rfl rfl (T_fa D (m := 1) rfl rfl rfl rfl rfl rfl) rfl ?_
   refine q0 33 436 2 rfl rfl (T_load_b D rfl rfl rfl rfl rfl rfl) rfl ?_
   refine q0 34 452 3 rfl rfl (T_len D rfl rfl rfl rfl rfl rfl) rfl ?_
   refine q0 35 468 4 rfl rfl (T_move rfl rfl) rfl ?_
   refine k_done rfl ?_
   refine thenK_n ?_
   refine W_block ?_
   have hS := (by exact sizedL_iff.2 ⟨by assumption, by assumption⟩ : sizedL f li lo = true)
   have hSi := szL_of (sizedL_iff.1 hS).1
   have hSo := szL_of (sizedL_iff.1 hS).2
   have hSil := hSi.len
   have hSol := hSo.len
   have hFr := hF.regs
   refine W_loop (ι := Nat) 6 (fun j => ⟨[(3, .p 4 0), (5, .r 5), (33, .r 1), (34, .v (.int .i64 (f.blocks.length : Int))), (35, .v (.int .i64 (j : Int)))], [(1, .fz 5 (f.blocks.map eBlock)), (2, .fz 1 (li.map eBs)), (3, .fz 1 (lo.map eBs)), (4, .box 57 [.r 2, .r 3]), (5, .row 52 1 ((nextL f).map eIs))]⟩) (fun j => j ≤ f.blocks.length ∧ ∀ i, i < j → okB f li lo i = true) (fun j => f.blocks.length - j) (0) (by exact ⟨Nat.zero_le _, fun i h => absurd h (Nat.not_lt_zero _)⟩) ?_ (fun j hJ => ?_)
   ·exact ⟨[(4, 20), (5, 388)], .same rfl rfl (.same rfl rfl (.same rfl rfl (.eq rfl (.eq rfl (.nil) (by rfl)) (by rfl)))), .fzE rfl (.fzE rfl (.fzE rfl (.box (by rfl) (.rowE rfl (.nil) (by rfl))) (by rfl)) (by rfl)) (by rfl), rfl⟩
   refine W_seq ?_
   refine W_seqK (b' := 22) rfl rfl ?_
   refine q0 36 6 1 rfl rfl (T_cmp rfl rfl rfl rfl) rfl ?_
   refine k_done rfl ?_
   refine thenK_n ?_
   refine W_seq ?_
   refine W_cond rfl (fun g4 => ?_) (fun g4 => ?_)
   ·have h4 := c_lss_t g4
    refine W_skip ?_
    refine thenK_n ?_
    refine W_seq ?_
    refine W_block ?_
    refine W_seq ?_
    refine W_seqK (b' := 118) rfl rfl ?_
    refine q0 37 22 1 rfl rfl (T_move rfl rfl) rfl ?_
    refine q0 38 38 2 rfl rfl (T_indexAddr D rfl rfl rfl rfl rfl rfl rfl rfl (by omega)) rfl ?_
    refine q1 39 54 3 rfl rfl (T_ldEA D (l := [.r 54, .v _, .v _, .v _, .v _]) (nn := 1) (upd := [(54, .fz 8 _)]) rfl rfl rfl rfl rfl (by omega) rfl rfl rfl rfl rfl) rfl ?_
    refine qn 7 70 4 rfl rfl (T_nilbox [(70, 8)] (T_alloc D rfl rfl rfl) rfl (.cons (.nil rfl) <| .cons (.same _) <| .cons (.same _) <| .cons (.same _) <| .cons (.same _) <| .nil) (upd' := [(70, .box 72 [.r 71, .v (.int .i64 0), .v (.int .i64 0), .v (.int .i64 0), .v (.int .i64 0)]), (71, .row 70 8 (List.map eTac ([] : List (GTac))))]) (nn' := 2) rfl rfl) rfl ?_
    refine q0 6 86 5 rfl rfl (T_assign rfl rfl) rfl ?_
    refine s1 102 6 rfl rfl (T_stB D (cs' := [_, _, _, _, _]) rfl rfl rfl rfl flat_agg rfl rfl (Nat.le_of_ble_eq_true rfl) rfl) rfl ?_
    refine k_done rfl ?_
    refine thenK_n ?_
    refine W_seq ?_
    refine W_seq ?_
    refine W_seqK (b' := 214) rfl rfl ?_
    refine q0 40 118 1 rfl rfl (T_move rfl rfl) rfl ?_
    refine q0 41 134 2 rfl rfl (T_move rfl rfl) rfl ?_
    refine q0 42 150 3 rfl rfl (T_indexAddr D rfl rfl rfl rfl rfl rfl rfl rfl (by omega)) rfl ?_
    refine q1 43 166 4 rfl rfl (T_ldE D (lv := .r 166) (nn := 1) (upd := [(166, .fz 1 _)]) rfl rfl rfl rfl rfl (by omega) rfl rfl rfl rfl) rfl ?_
    refine q0 44 182 5 rfl rfl (T_len D rfl rfl rfl rfl rfl rfl) rfl ?_
    refine q0 45 198 6 rfl rfl (T_move rfl rfl) rfl ?_
    refine k_done rfl ?_
    refine thenK_n ?_
    refine W_block ?_
    have hql := hfl ((nextL f).getD j default) (getD_mem (by omega))
    refine W_loop (ι := Nat) 9 (fun m => ⟨[(3, .p 4 0), (5, .r 5), (6, .v (.int .i64 (j : Int))), (7, .p 6 0), (33, .r 1), (34, .v (.int .i64 (f.blocks.length : Int))), (35, .v (.int .i64 (j : Int))), (43, .r 8), (44, .v (.int .i64 (((nextL f).getD j default).length : Int))), (45, .v (.int .i64 (m : Int)))], [(1, .fz 5 (f.blocks.map eBlock)), (2, .fz 1 (li.map eBs)), (3, .fz 1 (lo.map eBs)), (4, .box 57 [.r 2, .r 3]), (5, .row 52 1 ((nextL f).map eIs)), (6, .box 72 [.r 7, .v (.int .i64 (f.blocks.getD j default).fin), .v (.int .i64 (f.blocks.getD j default).v), .v (.int .i64 (f.blocks.getD j default).to), .v (.int .i64 (f.blocks.getD j default).els)]), (7, .fz 8 ((f.blocks.getD j default).ins.map eTac)), (8, .fz 1 (((nextL f).getD j default).map eI))]⟩) (fun m => m ≤ ((nextL f).getD j default).length ∧ ∀ q, q < m → withinS (li.getD (((nextL f).getD j default).getD q default).toNat default) (lo.getD j default) = true) (fun m => ((nextL f).getD j default).length - m) (0) (by exact ⟨Nat.zero_le _, fun i h => absurd h (Nat.not_lt_zero _)⟩) ?_ (fun m hM => ?_)
    ·exact ⟨[(4, 4), (5, 5), (6, 70), (7, 54), (8, 166)], .same rfl rfl (.same rfl rfl (.eq rfl (.same rfl rfl (.same rfl rfl (.eq rfl (.eq rfl (.same rfl rfl (.eq rfl (.eq rfl (.nil) (by rfl)) (by rfl))) (by rfl)) (by rfl)))) (by rfl))), .fzE rfl (.fzE rfl (.fzE rfl (.box (by rfl) (.rowE rfl (.box (by rfl) (.fzE rfl (.fzE rfl (.nil) (by rfl)) (by rfl))) (by rfl))) (by rfl)) (by rfl)) (by rfl), rfl⟩
    have hm := fun h => hF.follow (j := j) (m := m) (by omega) h
    refine W_seq ?_
    refine W_seqK (b' := 25) rfl rfl ?_
    refine q0 46 9 1 rfl rfl (T_cmp rfl rfl rfl rfl) rfl ?_
    refine k_done rfl ?_
    refine thenK_n ?_
    refine W_seq ?_
    refine W_cond rfl (fun g5 => ?_) (fun g5 => ?_)
    ·have h5 := c_lss_t g5
     refine W_skip ?_
     refine thenK_n ?_
     refine W_seq ?_
     refine W_block ?_
     refine W_seq ?_
     refine W_seqK (b' := 73) rfl rfl ?_
     refine q0 47 25 1 rfl rfl (T_indexAddr D rfl rfl rfl rfl rfl rfl rfl rfl (by omega)) rfl ?_
     refine q0 48 41 2 rfl rfl (T_ldE D (lv := .v _) (nn := 0) (upd := []) rfl rfl rfl rfl rfl (by omega) rfl rfl rfl rfl) rfl ?_
     refine q0 9 57 3 rfl rfl (T_assign rfl rfl) rfl ?_
     refine k_done rfl ?_
     refine thenK_n ?_
     refine W_seq ?_
     refine W_anyK (b' := 265) rfl rfl rfl ?_
     refine q0 49 73 1 rfl rfl (T_fa D (m := 0) rfl rfl rfl rfl rfl rfl) rfl ?_
     refine q0 50 89 2 rfl rfl (T_load_b D rfl rfl rfl rfl rfl rfl) rfl ?_
     refine q0 51 105 3 rfl rfl (T_move rfl rfl) rfl ?_
     refine q0 52 121 4 rfl rfl (T_indexAddrZ D rfl rfl rfl rfl rfl rfl rfl rfl (by omega) (by omega)) rfl ?_
     refine q1 53 137 5 rfl rfl (T_ldE D (lv := .r 137) (nn := 1) (upd := [(137, .fz 1 _)]) rfl rfl rfl rfl rfl (by omega) rfl rfl rfl rfl) rfl ?_
     refine q0 54 153 6 rfl rfl (T_fa D (m := 1) rfl rfl rfl rfl rfl rfl) rfl ?_
     refine q0 55 169 7 rfl rfl (T_load_b D rfl rfl rfl rfl rfl rfl) rfl ?_
     refine q0 56 185 8 rfl rfl (T_move rfl rfl) rfl ?_
     refine q0 57 201 9 rfl rfl (T_indexAddr D rfl rfl rfl rfl rfl rfl rfl rfl (by omega)) rfl ?_
     refine q1 58 217 10 rfl rfl (T_ldE D (lv := .r 217) (nn := 1) (upd := [(217, .fz 1 _)]) rfl rfl rfl rfl rfl (by omega) rfl rfl rfl rfl) rfl ?_
     refine q0 59 233 11 rfl rfl (T_callV (lvs := [_, _]) (L := [(1, 137), (2, 217)]) (within_set_spec (li.getD (((nextL f).getD j default).getD m default).toNat default) (lo.getD j default) (by have := hSi.at (k := (((nextL f).getD j default).getD m default).toNat) (by have := hm (by omega); omega); omega) (by have q1 := hSi.at (k := (((nextL f).getD j default).getD m default).toNat) (by have := hm (by omega); omega); have q2 := hSo.at (k := j) (by omega); omega)) body96 rfl rfl rfl rfl (.fz rfl (.fz rfl (.nil))) rfl) rfl ?_
     refine q0 60 249 12 rfl rfl (T_not rfl rfl) rfl ?_
     refine k_done rfl ?_
     refine ⟨rfl, ?_⟩
     refine thenK_n ?_
     refine W_cond rfl (fun g6 => ?_) (fun g6 => ?_)
     ·have h6 := g6; (try simp only [cmpB, decide_eq_true_eq, decide_eq_false_iff_not, beq_iff_eq, beq_eq_false_iff_ne, bne_iff_ne, ne_eq, bne_eq_false_iff_eq, Bool.not_eq_true', Bool.not_eq_false', Int.not_lt, Int.not_le] at h6)
      refine W_seq ?_
      refine W_seqK (b' := 281) rfl rfl ?_
      refine q0 4 265 1 rfl rfl (T_assign rfl rfl) rfl ?_
      refine k_done rfl ?_
      refine thenK_n ?_
      refine W_ret ?_
      refine blockK_r ?_
      refine thenK_r ?_
      refine thenK_r ?_
      refine blockK_r ?_
      refine thenK_r ?_
      refine blockK_r ?_
      refine thenK_r ?_
      refine thenK_r ?_
      refine blockK_r ?_
      refine thenK_r ?_
      exact .mk [] (.inr rfl) (.tmp rfl (.nil)) (by simp only [resLV, LV.ren, LV.v.injEq, Value.bool.injEq]; exact checkL_no (j := j) (by omega) (okB_no1 (m := m) (by omega) (by assumption))) (.nil) rfl
     ·have h6 := g6; (try simp only [cmpB, decide_eq_true_eq, decide_eq_false_iff_not, beq_iff_eq, beq_eq_false_iff_ne, bne_iff_ne, ne_eq, bne_eq_false_iff_eq, Bool.not_eq_true', Bool.not_eq_false', Int.not_lt, Int.not_le] at h6)
      refine W_skip ?_
      refine blockK_n ?_
      refine thenK_n ?_
      refine W_seqK (b' := 297) rfl rfl ?_
      refine q0 61 265 1 rfl rfl (T_add64 rfl rfl rfl (by omega)) rfl ?_
      refine q0 45 281 2 rfl rfl (T_move rfl rfl) rfl ?_
      refine k_done rfl ?_
      refine thenK_n ?_
      refine ⟨m + 1, by (try dsimp only); exact ⟨by omega, fun q hq => by rcases Nat.lt_or_ge q m with h | h; exact hM.2 q h; rw [show q = m by omega]; assumption⟩, by (try dsimp only); omega, ?_⟩
      exact ⟨[(4, 4), (5, 5), (6, 6), (7, 7), (8, 8)], .same rfl rfl (.same rfl rfl (.eq rfl (.same rfl rfl (.same rfl rfl (.eq rfl (.eq rfl (.same rfl rfl (.eq rfl (.eq rfl (.nil) (by rfl)) rfl)) rfl) rfl))) rfl)), .fzE rfl (.fzE rfl (.fzE rfl (.box (by rfl) (.rowE rfl (.box (by rfl) (.fzE rfl (.fzE rfl (.nil) rfl) rfl)) (by rfl))) rfl) rfl) rfl, rfl⟩
    ·have h5 := c_lss_f g5
     refine W_exit ?_
     refine thenK_e ?_
     refine thenK_e ?_
     refine blockK_hit ?_
     refine thenK_n ?_
     refine W_seq ?_
     refine W_anyK (b' := 249) rfl rfl rfl ?_
     refine q0 62 25 1 rfl rfl (T_load_bA D (l := [_, _, _, _, _]) rfl rfl rfl rfl rfl rfl rfl) rfl ?_
     refine q0 63 41 2 rfl rfl (T_fa D (m := 1) rfl rfl rfl rfl rfl rfl) rfl ?_
     refine q0 64 57 3 rfl rfl (T_load_b D rfl rfl rfl rfl rfl rfl) rfl ?_
     refine q0 65 73 4 rfl rfl (T_move rfl rfl) rfl ?_
     refine q0 66 89 5 rfl rfl (T_indexAddr D rfl rfl rfl rfl rfl rfl rfl rfl (by omega)) rfl ?_
     refine q1 67 105 6 rfl rfl (T_ldE D (lv := .r 105) (nn := 1) (upd := [(105, .fz 1 _)]) rfl rfl rfl rfl rfl (by omega) rfl rfl rfl rfl) rfl ?_
     refine q1 68 121 7 rfl rfl (T_callR (lvs := [_, _]) (L := [(1, 7), (2, 105)]) (keep := false) (through_spec (f.blocks.getD j default) (lo.getD j default) (by have q2 := hSo.at (k := j) (by omega); omega) (by have := hF.ins _ (getD_mem (by omega : j < f.blocks.length)); omega) (by have q2 := hSo.at (k := j) (by omega); rw [q2]; exact hF.ok _ (getD_mem (by omega)))) body93 rfl rfl rfl rfl (.fz rfl (.fz rfl (.nil))) rfl (.inl rfl) rfl) rfl ?_
     refine q0 69 137 8 rfl rfl (T_fa D (m := 0) rfl rfl rfl rfl rfl rfl) rfl ?_
     refine q0 70 153 9 rfl rfl (T_load_b D rfl rfl rfl rfl rfl rfl) rfl ?_
     refine q0 71 169 10 rfl rfl (T_move rfl rfl) rfl ?_
     refine q0 72 185 11 rfl rfl (T_indexAddr D rfl rfl rfl rfl rfl rfl rfl rfl (by omega)) rfl ?_
     refine q1 73 201 12 rfl rfl (T_ldE D (lv := .r 201) (nn := 1) (upd := [(201, .fz 1 _)]) rfl rfl rfl rfl rfl (by omega) rfl rfl rfl rfl) rfl ?_
     refine q0 74 217 13 rfl rfl (T_callV (lvs := [_, _]) (L := [(1, 121), (2, 201)]) (within_set_spec (thrS (f.blocks.getD j default) (lo.getD j default)) (li.getD j default) (by rw [thrS_len]; have q2 := hSo.at (k := j) (by omega); omega) (by rw [thrS_len]; have q1 := hSi.at (k := j) (by omega); have q2 := hSo.at (k := j) (by omega); omega)) body96 rfl rfl rfl rfl (.lend rfl (.fz rfl (.nil))) rfl) rfl ?_
     refine q0 75 233 14 rfl rfl (T_not rfl rfl) rfl ?_
     refine k_done rfl ?_
     refine ⟨rfl, ?_⟩
     refine thenK_n ?_
     refine W_cond rfl (fun g7 => ?_) (fun g7 => ?_)
     ·have h7 := g7; (try simp only [cmpB, decide_eq_true_eq, decide_eq_false_iff_not, beq_iff_eq, beq_eq_false_iff_ne, bne_iff_ne, ne_eq, bne_eq_false_iff_eq, Bool.not_eq_true', Bool.not_eq_false', Int.not_lt, Int.not_le] at h7)
      refine W_seq ?_
      refine W_seqK (b' := 265) rfl rfl ?_
      refine q0 4 249 1 rfl rfl (T_assign rfl rfl) rfl ?_
      refine k_done rfl ?_
      refine thenK_n ?_
      refine W_ret ?_
      refine blockK_r ?_
      refine thenK_r ?_
      refine thenK_r ?_
      refine blockK_r ?_
      refine thenK_r ?_
      exact .mk [] (.inr rfl) (.tmp rfl (.nil)) (by simp only [resLV, LV.ren, LV.v.injEq, Value.bool.injEq]; exact checkL_no (j := j) (by omega) (okB_no2 (by assumption))) (.nil) rfl
     ·have h7 := g7; (try simp only [cmpB, decide_eq_true_eq, decide_eq_false_iff_not, beq_iff_eq, beq_eq_false_iff_ne, bne_iff_ne, ne_eq, bne_eq_false_iff_eq, Bool.not_eq_true', Bool.not_eq_false', Int.not_lt, Int.not_le] at h7)
      refine W_skip ?_
      refine blockK_n ?_
      refine thenK_n ?_
      refine W_seqK (b' := 281) rfl rfl ?_
      refine q0 76 249 1 rfl rfl (T_add64 rfl rfl rfl (by omega)) rfl ?_
      refine q0 35 265 2 rfl rfl (T_move rfl rfl) rfl ?_
      refine k_done rfl ?_
      refine thenK_n ?_
      refine ⟨j + 1, by (try dsimp only); exact ⟨by omega, fun i hi => by rcases Nat.lt_or_ge i j with h | h; exact hJ.2 i h; rw [show i = j by omega]; exact okB_iff.2 ⟨fun q hq => hM.2 q (by omega), by assumption⟩⟩, by (try dsimp only); omega, ?_⟩
      exact ⟨[(4, 4), (5, 5)], .same rfl rfl (.same rfl rfl (.same rfl rfl (.eq rfl (.eq rfl (.nil) (by rfl)) rfl))), .fzE rfl (.fzE rfl (.fzE rfl (.box (by rfl) (.rowE rfl (.nil) (by rfl))) rfl) rfl) rfl, rfl⟩
   ·have h4 := c_lss_f g4
    refine W_exit ?_
    refine thenK_e ?_
    refine thenK_e ?_
    refine blockK_hit ?_
    refine thenK_n ?_
    refine W_seq ?_
    refine W_seqK (b' := 38) rfl rfl ?_
    refine q0 4 22 1 rfl rfl (T_assign rfl rfl) rfl ?_
    refine k_done rfl ?_
    refine thenK_n ?_
    refine W_ret ?_
    exact .mk [] (.inr rfl) (.tmp rfl (.nil)) (by simp only [resLV, LV.ren, LV.v.injEq, Value.bool.injEq]; exact checkL_yes hS (fun i h => hJ.2 i (by omega))) (.nil) rfl
end Lg
end Go.Proofs.Ytpfhmodjjljpjaa

namespace Go.Proofs.Ytpfhmodjjljpjaa
open Go.RowKit
namespace Lg
set_option maxRecDepth 100000
set_option linter.unusedVariables false
set_option linter.unusedSimpArgs false
theorem body38 : (Try.prog.funcs[38]?).map (fun fn => (fn.name == "runtime.NumGoroutine" || fn.body.isNone)) = some false := by kernel_rfl
theorem rnext_spec (f : GFn) (hf : f.blocks.length ≤ 1000000) : Spec Try.prog 38 [.agg [.v (.int .i64 f.regs), .r 1]] 2 [(1, .fz 5 (f.blocks.map eBlock))] (.r 2) 3 [(2, .row 52 1 ((f.blocks.map follows).map eIs))] := by
 refine spec_of D (fn := Try.f38) rfl rfl (Nat.le_of_ble_eq_true rfl) ?_
 refine W_seq ?_
 refine W_seqK (b' := 34) rfl rfl ?_
 refine q1 1 2 1 rfl rfl (T_box rfl rfl flat_agg) rfl ?_
 refine q1 2 18 2 rfl rfl (T_nils [(52, 1)] (T_assign rfl rfl) rfl (.inr ⟨rfl, rfl⟩) (.cons (.nil rfl) .nil) (lv' := .r 18) (upd' := [(18, .row 52 1 (List.map eIs ([] : List (List Int))))]) (nn' := 1) rfl rfl) rfl ?_
 refine k_done rfl ?_
 refine thenK_n ?_
 refine W_seq ?_
 refine W_seqK (b' := 114) rfl rfl ?_
 refine q0 6 34 1 rfl rfl (T_fa D (m := 1) rfl rfl rfl rfl rfl rfl) rfl ?_
 refine q0 7 50 2 rfl rfl (T_load_b D rfl rfl rfl rfl rfl rfl) rfl ?_
 refine q0 8 66 3 rfl rfl (T_len D rfl rfl rfl rfl rfl rfl) rfl ?_
 refine q1 9 82 4 rfl rfl (T_make D (zx := ([] : List Int)) (enc := eIs) rfl rfl rfl rfl rfl rfl rfl (.z (.nil)) rfl (by (try simp only [ty52]); omega) (by (try simp only [ty52]); omega)) rfl ?_
 refine q0 3 98 5 rfl rfl (T_assign rfl rfl) rfl ?_
 refine k_done rfl ?_
 refine thenK_n ?_
 refine W_seq ?_
 refine W_seq ?_
 refine W_seqK (b' := 130) rfl rfl ?_
 refine q0 4 114 1 rfl rfl (T_assign rfl rfl) rfl ?_
 refine k_done rfl ?_
 refine thenK_n ?_
 refine W_block ?_
 refine W_loop (ι := Nat) 4 (fun j => ⟨[(1, .p 2 0), (3, .r 3), (4, .v (.int .i64 (j : Int)))], [(1, .fz 5 (f.blocks.map eBlock)), (2, .box 29 [.v (.int .i64 f.regs), .r 1]), (3, .row 52 1 (((f.blocks.take j).map follows ++ List.replicate (f.blocks.length - j) []).map eIs))]⟩) (fun j => j ≤ f.blocks.length) (fun j => f.blocks.length - j) (0) (by exact Nat.zero_le _) ?_ (fun j hJ => ?_)
 ·exact ⟨[(2, 2), (3, 82)], .same rfl rfl (.same rfl rfl (.eq rfl (.nil) (by rfl))), .fzE rfl (.box (by rfl) (.rowE rfl (.nil) (by rfl))) (by rfl), rfl⟩
 refine W_seq ?_
 refine W_seq ?_
 refine W_seqK (b' := 84) rfl rfl ?_
 refine q0 10 4 1 rfl rfl (T_move rfl rfl) rfl ?_
 refine q0 11 20 2 rfl rfl (T_fa D (m := 1) rfl rfl rfl rfl rfl rfl) rfl ?_
 refine q0 12 36 3 rfl rfl (T_load_b D rfl rfl rfl rfl rfl rfl) rfl ?_
 refine q0 13 52 4 rfl rfl (T_len D rfl rfl rfl rfl rfl rfl) rfl ?_
 refine q0 14 68 5 rfl rfl (T_cmp rfl rfl rfl rfl) rfl ?_
 refine k_done rfl ?_
 refine thenK_n ?_
 refine W_cond rfl (fun g1 => ?_) (fun g1 => ?_)
 ·have h1 := c_lss_t g1
  refine W_skip ?_
  refine thenK_n ?_
  refine W_seq ?_
  refine W_block ?_
  refine W_seq ?_
  refine W_seqK (b' := 196) rfl rfl ?_
  refine q0 17 84 1 rfl rfl (T_fa D (m := 1) rfl rfl rfl rfl rfl rfl) rfl ?_
  refine q0 18 100 2 rfl rfl (T_load_b D rfl rfl rfl rfl rfl rfl) rfl ?_
  refine q0 19 116 3 rfl rfl (T_move rfl rfl) rfl ?_
  refine q0 20 132 4 rfl rfl (T_indexAddr D rfl rfl rfl rfl rfl rfl rfl rfl (by omega)) rfl ?_
  refine q1 21 148 5 rfl rfl (T_ldEA D (l := [.r 148, .v _, .v _, .v _, .v _]) (nn := 1) (upd := [(148, .fz 8 _)]) rfl rfl rfl rfl rfl (by omega) rfl rfl rfl rfl rfl) rfl ?_
  refine qn 5 164 6 rfl rfl (T_nilbox [(70, 8)] (T_alloc D rfl rfl rfl) rfl (.cons (.nil rfl) <| .cons (.same _) <| .cons (.same _) <| .cons (.same _) <| .cons (.same _) <| .nil) (upd' := [(164, .box 72 [.r 165, .v (.int .i64 0), .v (.int .i64 0), .v (.int .i64 0), .v (.int .i64 0)]), (165, .row 70 8 (List.map eTac ([] : List (GTac))))]) (nn' := 2) rfl rfl) rfl ?_
  refine s1 180 7 rfl rfl (T_stB D (cs' := [_, _, _, _, _]) rfl rfl rfl rfl flat_agg rfl rfl (Nat.le_of_ble_eq_true rfl) rfl) rfl ?_
  refine k_done rfl ?_
  refine thenK_n ?_
  refine W_seq ?_
  refine W_seq ?_
  refine W_seqK (b' := 244) rfl rfl ?_
  refine q0 22 196 1 rfl rfl (T_fa D (m := 1) rfl rfl rfl rfl rfl rfl) rfl ?_
  refine q0 23 212 2 rfl rfl (T_load_b D rfl rfl rfl rfl rfl rfl) rfl ?_
  refine q0 24 228 3 rfl rfl (T_cmp rfl rfl rfl rfl) rfl ?_
  refine k_done rfl ?_
  refine thenK_n ?_
  refine W_cond rfl (fun g2 => ?_) (fun g2 => ?_)
  ·have h2 := c_eql_t g2
   refine W_seqK (b' := 356) rfl rfl ?_
   refine q0 25 244 1 rfl rfl (T_move rfl rfl) rfl ?_
   refine q0 26 260 2 rfl rfl (T_move rfl rfl) rfl ?_
   refine q0 27 276 3 rfl rfl (T_fa D (m := 3) rfl rfl rfl rfl rfl rfl) rfl ?_
   refine q0 28 292 4 rfl rfl (T_load_b D rfl rfl rfl rfl rfl rfl) rfl ?_
   refine q1 29 308 5 rfl rfl (T_bs D (ys := [_]) (enc := eI) (l := [_]) rfl rfl rfl rfl rfl rfl (.cons rfl (flat_v rfl) (.nil)) rfl rfl rfl rfl (.v rfl (.nil)) rfl rfl) rfl ?_
   refine q0 30 324 6 rfl rfl (T_indexAddr D rfl rfl rfl rfl rfl rfl rfl rfl (by (simp; omega))) rfl ?_
   refine sn 340 7 rfl rfl (T_store_e D (z := _) rfl rfl rfl rfl (flat_sl rfl) rfl rfl (by (simp; omega)) (.row rfl (.nil) (by rfl)) rfl (Nat.le_of_ble_eq_true rfl) rfl) rfl ?_
   refine k_done rfl ?_
   refine thenK_n ?_
   refine W_seq ?_
   refine W_seqK (b' := 404) rfl rfl ?_
   refine q0 31 356 1 rfl rfl (T_fa D (m := 1) rfl rfl rfl rfl rfl rfl) rfl ?_
   refine q0 32 372 2 rfl rfl (T_load_b D rfl rfl rfl rfl rfl rfl) rfl ?_
   refine q0 33 388 3 rfl rfl (T_cmp rfl rfl rfl rfl) rfl ?_
   refine k_done rfl ?_
   refine thenK_n ?_
   refine W_cond rfl (fun g3 => ?_) (fun g3 => ?_)
   ·have h3 := c_eql_t g3
    refine W_seqK (b' := 548) rfl rfl ?_
    refine q0 34 404 1 rfl rfl (T_move rfl rfl) rfl ?_
    refine q0 35 420 2 rfl rfl (T_move rfl rfl) rfl ?_
    refine q0 36 436 3 rfl rfl (T_fa D (m := 3) rfl rfl rfl rfl rfl rfl) rfl ?_
    refine q0 37 452 4 rfl rfl (T_load_b D rfl rfl rfl rfl rfl rfl) rfl ?_
    refine q0 38 468 5 rfl rfl (T_fa D (m := 4) rfl rfl rfl rfl rfl rfl) rfl ?_
    refine q0 39 484 6 rfl rfl (T_load_b D rfl rfl rfl rfl rfl rfl) rfl ?_
    refine q1 40 500 7 rfl rfl (T_bs D (ys := [_, _]) (enc := eI) (l := [_, _]) rfl rfl rfl rfl rfl rfl (.cons rfl (flat_v rfl) (.cons rfl (flat_v rfl) (.nil))) rfl rfl rfl rfl (.v rfl (.v rfl (.nil))) rfl rfl) rfl ?_
    refine q0 41 516 8 rfl rfl (T_indexAddr D rfl rfl rfl rfl rfl rfl rfl rfl (by omega)) rfl ?_
    refine sn 532 9 rfl rfl (T_store_e D (z := _) rfl rfl rfl rfl (flat_sl rfl) rfl rfl (by omega) (.row rfl (.nil) (by rfl)) rfl (Nat.le_of_ble_eq_true rfl) rfl) rfl ?_
    refine k_done rfl ?_
    refine blockK_n ?_
    refine thenK_n ?_
    refine W_seqK (b' := 596) rfl rfl ?_
    refine q0 15 548 1 rfl rfl (T_move rfl rfl) rfl ?_
    refine q0 16 564 2 rfl rfl (T_add64 rfl rfl rfl (by omega)) rfl ?_
    refine q0 4 580 3 rfl rfl (T_assign rfl rfl) rfl ?_
    refine k_done rfl ?_
    refine thenK_n ?_
    refine ⟨j + 1, by (try dsimp only); omega, by (try dsimp only); omega, ?_⟩
    exact ⟨[(2, 2), (3, 3)], .same rfl rfl (.same rfl rfl (.eq rfl (.nil) (by rfl))), .fzE rfl (.box (by rfl) (.rowE rfl (.nil) (by (exfalso; omega)))) rfl, rfl⟩
   ·have h3 := c_eql_f g3
    refine W_skip ?_
    refine blockK_n ?_
    refine thenK_n ?_
    refine W_seqK (b' := 452) rfl rfl ?_
    refine q0 15 404 1 rfl rfl (T_move rfl rfl) rfl ?_
    refine q0 16 420 2 rfl rfl (T_add64 rfl rfl rfl (by omega)) rfl ?_
    refine q0 4 436 3 rfl rfl (T_assign rfl rfl) rfl ?_
    refine k_done rfl ?_
    refine thenK_n ?_
    refine ⟨j + 1, by (try dsimp only); omega, by (try dsimp only); omega, ?_⟩
    exact ⟨[(2, 2), (3, 3)], .same rfl rfl (.same rfl rfl (.eq rfl (.nil) (by rfl))), .fzE rfl (.box (by rfl) (.rowE rfl (.nil) (by exact congrArg _ (fill_step follows [] f.blocks j _ rfl (by omega) _ (by simp_all [follows]))))) rfl, rfl⟩
  ·have h2 := c_eql_f g2
   refine W_skip ?_
   refine thenK_n ?_
   refine W_seq ?_
   refine W_seqK (b' := 292) rfl rfl ?_
   refine q0 31 244 1 rfl rfl (T_fa D (m := 1) rfl rfl rfl rfl rfl rfl) rfl ?_
   refine q0 32 260 2 rfl rfl (T_load_b D rfl rfl rfl rfl rfl rfl) rfl ?_
   refine q0 33 276 3 rfl rfl (T_cmp rfl rfl rfl rfl) rfl ?_
   refine k_done rfl ?_
   refine thenK_n ?_
   refine W_cond rfl (fun g4 => ?_) (fun g4 => ?_)
   ·have h4 := c_eql_t g4
    refine W_seqK (b' := 436) rfl rfl ?_
    refine q0 34 292 1 rfl rfl (T_move rfl rfl) rfl ?_
    refine q0 35 308 2 rfl rfl (T_move rfl rfl) rfl ?_
    refine q0 36 324 3 rfl rfl (T_fa D (m := 3) rfl rfl rfl rfl rfl rfl) rfl ?_
    refine q0 37 340 4 rfl rfl (T_load_b D rfl rfl rfl rfl rfl rfl) rfl ?_
    refine q0 38 356 5 rfl rfl (T_fa D (m := 4) rfl rfl rfl rfl rfl rfl) rfl ?_
    refine q0 39 372 6 rfl rfl (T_load_b D rfl rfl rfl rfl rfl rfl) rfl ?_
    refine q1 40 388 7 rfl rfl (T_bs D (ys := [_, _]) (enc := eI) (l := [_, _]) rfl rfl rfl rfl rfl rfl (.cons rfl (flat_v rfl) (.cons rfl (flat_v rfl) (.nil))) rfl rfl rfl rfl (.v rfl (.v rfl (.nil))) rfl rfl) rfl ?_
    refine q0 41 404 8 rfl rfl (T_indexAddr D rfl rfl rfl rfl rfl rfl rfl rfl (by (simp; omega))) rfl ?_
    refine sn 420 9 rfl rfl (T_store_e D (z := _) rfl rfl rfl rfl (flat_sl rfl) rfl rfl (by (simp; omega)) (.row rfl (.nil) (by rfl)) rfl (Nat.le_of_ble_eq_true rfl) rfl) rfl ?_
    refine k_done rfl ?_
    refine blockK_n ?_
    refine thenK_n ?_
    refine W_seqK (b' := 484) rfl rfl ?_
    refine q0 15 436 1 rfl rfl (T_move rfl rfl) rfl ?_
    refine q0 16 452 2 rfl rfl (T_add64 rfl rfl rfl (by omega)) rfl ?_
    refine q0 4 468 3 rfl rfl (T_assign rfl rfl) rfl ?_
    refine k_done rfl ?_
    refine thenK_n ?_
    refine ⟨j + 1, by (try dsimp only); omega, by (try dsimp only); omega, ?_⟩
    exact ⟨[(2, 2), (3, 3)], .same rfl rfl (.same rfl rfl (.eq rfl (.nil) (by rfl))), .fzE rfl (.box (by rfl) (.rowE rfl (.nil) (by exact congrArg _ (fill_step follows [] f.blocks j _ rfl (by omega) _ (by simp_all [follows]))))) rfl, rfl⟩
   ·have h4 := c_eql_f g4
    refine W_skip ?_
    refine blockK_n ?_
    refine thenK_n ?_
    refine W_seqK (b' := 340) rfl rfl ?_
    refine q0 15 292 1 rfl rfl (T_move rfl rfl) rfl ?_
    refine q0 16 308 2 rfl rfl (T_add64 rfl rfl rfl (by omega)) rfl ?_
    refine q0 4 324 3 rfl rfl (T_assign rfl rfl) rfl ?_
    refine k_done rfl ?_
    refine thenK_n ?_
    refine ⟨j + 1, by (try dsimp only); omega, by (try dsimp only); omega, ?_⟩
    exact ⟨[(2, 2), (3, 3)], .same rfl rfl (.same rfl rfl (.eq rfl (.nil) (by rfl))), .fzE rfl (.box (by rfl) (.rowE rfl (.nil) (by exact congrArg _ (fill_skip follows [] f.blocks j _ rfl (by omega) (by simp_all [follows]))))) rfl, rfl⟩
 ·have h1 := c_lss_f g1
  refine W_exit ?_
  refine thenK_e ?_
  refine thenK_e ?_
  refine blockK_hit ?_
  refine thenK_n ?_
  refine W_seq ?_
  refine W_seqK (b' := 116) rfl rfl ?_
  refine q0 42 84 1 rfl rfl (T_move rfl rfl) rfl ?_
  refine q0 2 100 2 rfl rfl (T_assign rfl rfl) rfl ?_
  refine k_done rfl ?_
  refine thenK_n ?_
  refine W_ret ?_
  exact .mk [(2, 3)] (.inr rfl) (.tmp rfl (.nil)) rfl (.rowE rfl (.nil) (by (have : j = f.blocks.length := by omega); subst this; simp)) rfl
theorem body52 : (Try.prog.funcs[52]?).map (fun fn => (fn.name == "runtime.NumGoroutine" || fn.body.isNone)) = some false := by kernel_rfl
theorem rlcheck_spec (f : GFn) (li lo : List (List Bool)) (hF : LF f) (h1 : li.length ≤ 1000000000000000) (h2 : lo.length ≤ 1000000000000000) : Spec Try.prog 52 [.agg [.v (.int .i64 f.regs), .r 1], .agg [.r 2, .r 3]] 4 [(1, .fz 5 (f.blocks.map eBlock)), (2, .fz 1 (li.map eBs)), (3, .fz 1 (lo.map eBs))] (.v (.bool (checkL f li lo))) 4 [] := by
 have hFl := hF.len
 have hnl := nextL_length f
 have hfl := follows_le f
 refine spec_of D (fn := Try.f52) rfl rfl (Nat.le_of_ble_eq_true rfl) ?_
 refine W_seq ?_
 refine W_seqK (b' := 52) rfl rfl ?_
 refine q1 2 4 1 rfl rfl (T_box rfl rfl flat_agg) rfl ?_
 refine q1 3 20 2 rfl rfl (T_box rfl rfl flat_agg) rfl ?_
 refine q0 4 36 3 rfl rfl (T_assign rfl rfl) rfl ?_
 refine k_done rfl ?_
 refine thenK_n ?_
 refine W_seq ?_
 refine W_seq ?_
 refine W_seqK (b' := 116) rfl rfl ?_
 refine q0 8 52 1 rfl rfl (T_load_bA D (l := [_, _]) rfl rfl rfl rfl rfl rfl rfl) rfl ?_
 refine q0 9 68 2 rfl rfl (T_load_bA D (l := [_, _]) rfl rfl rfl rfl rfl rfl rfl) rfl ?_
 refine q0 10 84 3 rfl rfl (T_callV (lvs := [_, _]) (L := [(1, 1), (2, 2), (3, 3)]) (rSized_spec f li lo h1 h2) body56 rfl rfl rfl rfl (.fz rfl (.fz rfl (.fz rfl (.nil)))) rfl) rfl ?_
 refine q0 11 100 4 rfl rfl (T_not rfl rfl) rfl ?_
 refine k_done rfl ?_
 refine thenK_n ?_
 refine W_cond rfl (fun g1 => ?_) (fun g1 => ?_)
 ·have h1 := g1; (try simp only [cmpB, decide_eq_true_eq, decide_eq_false_iff_not, beq_iff_eq, beq_eq_false_iff_ne, bne_iff_ne, ne_eq, bne_eq_false_iff_eq, Bool.not_eq_true', Bool.not_eq_false', Int.not_lt, Int.not_le] at h1)
  refine W_seq ?_
  refine W_seqK (b' := 132) rfl rfl ?_
  refine q0 4 116 1 rfl rfl (T_assign rfl rfl) rfl ?_
  refine k_done rfl ?_
  refine thenK_n ?_
  refine W_ret ?_
  refine thenK_r ?_
  exact .mk [] (.inr rfl) (.tmp rfl (.nil)) (by simp only [resLV, LV.ren, LV.v.injEq, Value.bool.injEq]; exact checkL_no1 (by assumption)) (.nil) rfl
 ·have h1 := g1; (try simp only [cmpB, decide_eq_true_eq, decide_eq_false_iff_not, beq_iff_eq, beq_eq_false_iff_ne, bne_iff_ne, ne_eq, bne_eq_false_iff_eq, Bool.not_eq_true', Bool.not_eq_false', Int.not_lt, Int.not_le] at h1)
  refine W_skip ?_
  refine thenK_n ?_
  refine W_seq ?_
  refine W_seqK (b' := 164) rfl rfl ?_
  refine q0 12 116 1 rfl rfl (T_load_bA D (l := [_, _]) rfl rfl rfl rfl rfl rfl rfl) rfl ?_
  refine q1 13 132 2 rfl rfl (T_call (lvs := [_]) (L := [(1, 1)]) (lv := .r 132) (upd := [(132, .row 52 1 _)]) (nn := 1) false (rnext_spec f (by omega)) body38 rfl rfl rfl rfl (.fz rfl (.nil)) rfl (.inl rfl) rfl rfl rfl) rfl ?_
  refine q0 5 148 3 rfl rfl (T_assign rfl rfl) rfl ?_
  refine k_done rfl ?_
  refine thenK_n ?_
  refine W_seq ?_
  refine W_seq ?_
  refine W_seqK (b' := 180) rfl rfl ?_
  refine q0 6 164 1 rfl rfl (T_assign rfl rfl) rfl ?_
  refine k_done rfl ?_
  refine thenK_n ?_
  refine W_block ?_
  have hS := (by assumption : sizedL f li lo = true)
  have hSi := szL_of (sizedL_iff.1 hS).1
  have hSo := szL_of (sizedL_iff.1 hS).2
  have hSil := hSi.len
  have hSol := hSo.len
  have hFr := hF.regs
  refine W_loop (ι := Nat) 7 (fun j => ⟨[(2, .p 4 0), (3, .p 5 0), (5, .r 6), (6, .v (.int .i64 (j : Int)))], [(1, .fz 5 (f.blocks.map eBlock)), (2, .fz 1 (li.map eBs)), (3, .fz 1 (lo.map eBs)), (4, .box 29 [.v (.int .i64 f.regs), .r 1]), (5, .box 57 [.r 2, .r 3]), (6, .row 52 1 ((nextL f).map eIs))]⟩) (fun j => j ≤ f.blocks.length ∧ ∀ i, i < j → okB f li lo i = true) (fun j => f.blocks.length - j) (0) (by exact ⟨Nat.zero_le _, fun i h => absurd h (Nat.not_lt_zero _)⟩) ?_ (fun j hJ => ?_)
  ·exact ⟨[(4, 4), (5, 20), (6, 132)], .same rfl rfl (.same rfl rfl (.same rfl rfl (.eq rfl (.nil) (by rfl)))), .fzE rfl (.fzE rfl (.fzE rfl (.box (by rfl) (.box (by rfl) (.rowE rfl (.nil) (by rfl)))) (by rfl)) (by rfl)) (by rfl), rfl⟩
  refine W_seq ?_
  refine W_seq ?_
  refine W_seqK (b' := 87) rfl rfl ?_
  refine q0 14 7 1 rfl rfl (T_move rfl rfl) rfl ?_
  refine q0 15 23 2 rfl rfl (T_fa D (m := 1) rfl rfl rfl rfl rfl rfl) rfl ?_
  refine q0 16 39 3 rfl rfl (T_load_b D rfl rfl rfl rfl rfl rfl) rfl ?_
  refine q0 17 55 4 rfl rfl (T_len D rfl rfl rfl rfl rfl rfl) rfl ?_
  refine q0 18 71 5 rfl rfl (T_cmp rfl rfl rfl rfl) rfl ?_
  refine k_done rfl ?_
  refine thenK_n ?_
  refine W_cond rfl (fun g2 => ?_) (fun g2 => ?_)
  ·have h2 := c_lss_t g2
   refine W_skip ?_
   refine thenK_n ?_
   refine W_seq ?_
   refine W_block ?_
   refine W_seq ?_
   refine W_seq ?_
   refine W_seqK (b' := 103) rfl rfl ?_
   refine q0 7 87 1 rfl rfl (T_assign rfl rfl) rfl ?_
   refine k_done rfl ?_
   refine thenK_n ?_
   refine W_block ?_
   have hql := hfl ((nextL f).getD j default) (getD_mem (by omega))
   refine W_loop (ι := Nat) 7 (fun m => ⟨[(2, .p 4 0), (3, .p 5 0), (5, .r 6), (6, .v (.int .i64 (j : Int))), (7, .v (.int .i64 (m : Int)))], [(1, .fz 5 (f.blocks.map eBlock)), (2, .fz 1 (li.map eBs)), (3, .fz 1 (lo.map eBs)), (4, .box 29 [.v (.int .i64 f.regs), .r 1]), (5, .box 57 [.r 2, .r 3]), (6, .row 52 1 ((nextL f).map eIs))]⟩) (fun m => m ≤ ((nextL f).getD j default).length ∧ ∀ q, q < m → withinS (li.getD (((nextL f).getD j default).getD q default).toNat default) (lo.getD j default) = true) (fun m => ((nextL f).getD j default).length - m) (0) (by exact ⟨Nat.zero_le _, fun i h => absurd h (Nat.not_lt_zero _)⟩) ?_ (fun m hM => ?_)
   ·exact ⟨[(4, 4), (5, 5), (6, 6)], .same rfl rfl (.same rfl rfl (.same rfl rfl (.eq rfl (.eq rfl (.nil) (by rfl)) (by rfl)))), .fzE rfl (.fzE rfl (.fzE rfl (.box (by rfl) (.box (by rfl) (.rowE rfl (.nil) (by rfl)))) (by rfl)) (by rfl)) (by rfl), rfl⟩
   have hm := fun h => hF.follow (j := j) (m := m) (by omega) h
   refine W_seq ?_
   refine W_seq ?_
   refine W_seqK (b' := 119) rfl rfl ?_
   refine q0 21 7 1 rfl rfl (T_move rfl rfl) rfl ?_
   refine q0 22 23 2 rfl rfl (T_move rfl rfl) rfl ?_
   refine q0 23 39 3 rfl rfl (T_move rfl rfl) rfl ?_
   refine q0 24 55 4 rfl rfl (T_indexAddr D rfl rfl rfl rfl rfl rfl rfl rfl (by omega)) rfl ?_
   refine q1 25 71 5 rfl rfl (T_ldE D (lv := .r 71) (nn := 1) (upd := [(71, .fz 1 _)]) rfl rfl rfl rfl rfl (by omega) rfl rfl rfl rfl) rfl ?_
   refine q0 26 87 6 rfl rfl (T_len D rfl rfl rfl rfl rfl rfl) rfl ?_
   refine q0 27 103 7 rfl rfl (T_cmp rfl rfl rfl rfl) rfl ?_
   refine k_done rfl ?_
   refine thenK_n ?_
   refine W_cond rfl (fun g3 => ?_) (fun g3 => ?_)
   ·have h3 := c_lss_t g3
    refine W_skip ?_
    refine thenK_n ?_
    refine W_seq ?_
    refine W_block ?_
    refine W_seq ?_
    refine W_anyK (b' := 407) rfl rfl rfl ?_
    refine q0 30 119 1 rfl rfl (T_fa D (m := 0) rfl rfl rfl rfl rfl rfl) rfl ?_
    refine q0 31 135 2 rfl rfl (T_load_b D rfl rfl rfl rfl rfl rfl) rfl ?_
    refine q0 32 151 3 rfl rfl (T_move rfl rfl) rfl ?_
    refine q0 33 167 4 rfl rfl (T_move rfl rfl) rfl ?_
    refine q0 34 183 5 rfl rfl (T_indexAddr D rfl rfl rfl rfl rfl rfl rfl rfl (by omega)) rfl ?_
    refine q1 35 199 6 rfl rfl (T_ldE D (lv := .r 199) (nn := 1) (upd := [(199, .fz 1 _)]) rfl rfl rfl rfl rfl (by omega) rfl rfl rfl rfl) rfl ?_
    refine q0 36 215 7 rfl rfl (T_move rfl rfl) rfl ?_
    refine q0 37 231 8 rfl rfl (T_indexAddr D rfl rfl rfl rfl rfl rfl rfl rfl (by omega)) rfl ?_
    refine q0 38 247 9 rfl rfl (T_ldE D (lv := .v _) (nn := 0) (upd := []) rfl rfl rfl rfl rfl (by omega) rfl rfl rfl rfl) rfl ?_
    refine q0 39 263 10 rfl rfl (T_indexAddrZ D rfl rfl rfl rfl rfl rfl rfl rfl (by omega) (by omega)) rfl ?_
    refine q1 40 279 11 rfl rfl (T_ldE D (lv := .r 279) (nn := 1) (upd := [(279, .fz 1 _)]) rfl rfl rfl rfl rfl (by omega) rfl rfl rfl rfl) rfl ?_
    refine q0 41 295 12 rfl rfl (T_fa D (m := 1) rfl rfl rfl rfl rfl rfl) rfl ?_
    refine q0 42 311 13 rfl rfl (T_load_b D rfl rfl rfl rfl rfl rfl) rfl ?_
    refine q0 43 327 14 rfl rfl (T_move rfl rfl) rfl ?_
    refine q0 44 343 15 rfl rfl (T_indexAddr D rfl rfl rfl rfl rfl rfl rfl rfl (by omega)) rfl ?_
    refine q1 45 359 16 rfl rfl (T_ldE D (lv := .r 359) (nn := 1) (upd := [(359, .fz 1 _)]) rfl rfl rfl rfl rfl (by omega) rfl rfl rfl rfl) rfl ?_
    refine q0 46 375 17 rfl rfl (T_callV (lvs := [_, _]) (L := [(1, 279), (2, 359)]) (rwithin_spec (li.getD (((nextL f).getD j default).getD m default).toNat default) (lo.getD j default) (by have := hSi.at (k := (((nextL f).getD j default).getD m default).toNat) (by have := hm (by omega); omega); omega) (by have q1 := hSi.at (k := (((nextL f).getD j default).getD m default).toNat) (by have := hm (by omega); omega); have q2 := hSo.at (k := j) (by omega); omega)) body94 rfl rfl rfl rfl (.fz rfl (.fz rfl (.nil))) rfl) rfl ?_
    refine q0 47 391 18 rfl rfl (T_not rfl rfl) rfl ?_
    refine k_done rfl ?_
    refine ⟨rfl, ?_⟩
    refine thenK_n ?_
    refine W_cond rfl (fun g4 => ?_) (fun g4 => ?_)
    ·have h4 := g4; (try simp only [cmpB, decide_eq_true_eq, decide_eq_false_iff_not, beq_iff_eq, beq_eq_false_iff_ne, bne_iff_ne, ne_eq, bne_eq_false_iff_eq, Bool.not_eq_true', Bool.not_eq_false', Int.not_lt, Int.not_le] at h4)
     refine W_seq ?_
     refine W_seqK (b' := 423) rfl rfl ?_
     refine q0 4 407 1 rfl rfl (T_assign rfl rfl) rfl ?_
     refine k_done rfl ?_
     refine thenK_n ?_
     refine W_ret ?_
     refine blockK_r ?_
     refine thenK_r ?_
     refine thenK_r ?_
     refine blockK_r ?_
     refine thenK_r ?_
     refine blockK_r ?_
     refine thenK_r ?_
     refine thenK_r ?_
     refine blockK_r ?_
     refine thenK_r ?_
     exact .mk [] (.inr rfl) (.tmp rfl (.nil)) (by simp only [resLV, LV.ren, LV.v.injEq, Value.bool.injEq]; exact checkL_no (j := j) (by omega) (okB_no1 (m := m) (by omega) (by assumption))) (.nil) rfl
    ·have h4 := g4; (try simp only [cmpB, decide_eq_true_eq, decide_eq_false_iff_not, beq_iff_eq, beq_eq_false_iff_ne, bne_iff_ne, ne_eq, bne_eq_false_iff_eq, Bool.not_eq_true', Bool.not_eq_false', Int.not_lt, Int.not_le] at h4)
     refine W_skip ?_
     refine blockK_n ?_
     refine thenK_n ?_
     refine W_seqK (b' := 455) rfl rfl ?_
     refine q0 28 407 1 rfl rfl (T_move rfl rfl) rfl ?_
     refine q0 29 423 2 rfl rfl (T_add64 rfl rfl rfl (by omega)) rfl ?_
     refine q0 7 439 3 rfl rfl (T_assign rfl rfl) rfl ?_
     refine k_done rfl ?_
     refine thenK_n ?_
     refine ⟨m + 1, by (try dsimp only); exact ⟨by omega, fun q hq => by rcases Nat.lt_or_ge q m with h | h; exact hM.2 q h; rw [show q = m by omega]; assumption⟩, by (try dsimp only); omega, ?_⟩
     exact ⟨[(4, 4), (5, 5), (6, 6)], .same rfl rfl (.same rfl rfl (.same rfl rfl (.eq rfl (.eq rfl (.nil) (by rfl)) rfl))), .fzE rfl (.fzE rfl (.fzE rfl (.box (by rfl) (.box (by rfl) (.rowE rfl (.nil) (by rfl)))) rfl) rfl) rfl, rfl⟩
   ·have h3 := c_lss_f g3
    refine W_exit ?_
    refine thenK_e ?_
    refine thenK_e ?_
    refine blockK_hit ?_
    refine thenK_n ?_
    refine W_seq ?_
    refine W_anyK (b' := 407) rfl rfl rfl ?_
    refine q0 48 119 1 rfl rfl (T_fa D (m := 1) rfl rfl rfl rfl rfl rfl) rfl ?_
    refine q0 49 135 2 rfl rfl (T_load_b D rfl rfl rfl rfl rfl rfl) rfl ?_
    refine q0 50 151 3 rfl rfl (T_move rfl rfl) rfl ?_
    refine q0 51 167 4 rfl rfl (T_indexAddr D rfl rfl rfl rfl rfl rfl rfl rfl (by omega)) rfl ?_
    refine q1 52 183 5 rfl rfl (T_ldEA D (l := [.r 183, .v _, .v _, .v _, .v _]) (nn := 1) (upd := [(183, .fz 8 _)]) rfl rfl rfl rfl rfl (by omega) rfl rfl rfl rfl rfl) rfl ?_
    refine q0 53 199 6 rfl rfl (T_fa D (m := 1) rfl rfl rfl rfl rfl rfl) rfl ?_
    refine q0 54 215 7 rfl rfl (T_load_b D rfl rfl rfl rfl rfl rfl) rfl ?_
    refine q0 55 231 8 rfl rfl (T_move rfl rfl) rfl ?_
    refine q0 56 247 9 rfl rfl (T_indexAddr D rfl rfl rfl rfl rfl rfl rfl rfl (by omega)) rfl ?_
    refine q1 57 263 10 rfl rfl (T_ldE D (lv := .r 263) (nn := 1) (upd := [(263, .fz 1 _)]) rfl rfl rfl rfl rfl (by omega) rfl rfl rfl rfl) rfl ?_
    refine q1 58 279 11 rfl rfl (T_callR (lvs := [_, _]) (L := [(1, 183), (2, 263)]) (keep := false) (rahead_spec (f.blocks.getD j default) (lo.getD j default) (by have q2 := hSo.at (k := j) (by omega); omega) (by have := hF.ins _ (getD_mem (by omega : j < f.blocks.length)); omega) (by have q2 := hSo.at (k := j) (by omega); rw [q2]; exact hF.ok _ (getD_mem (by omega)))) body81 rfl rfl rfl rfl (.fz rfl (.fz rfl (.nil))) rfl (.inl rfl) rfl) rfl ?_
    refine q0 59 295 12 rfl rfl (T_fa D (m := 0) rfl rfl rfl rfl rfl rfl) rfl ?_
    refine q0 60 311 13 rfl rfl (T_load_b D rfl rfl rfl rfl rfl rfl) rfl ?_
    refine q0 61 327 14 rfl rfl (T_move rfl rfl) rfl ?_
    refine q0 62 343 15 rfl rfl (T_indexAddr D rfl rfl rfl rfl rfl rfl rfl rfl (by omega)) rfl ?_
    refine q1 63 359 16 rfl rfl (T_ldE D (lv := .r 359) (nn := 1) (upd := [(359, .fz 1 _)]) rfl rfl rfl rfl rfl (by omega) rfl rfl rfl rfl) rfl ?_
    refine q0 64 375 17 rfl rfl (T_callV (lvs := [_, _]) (L := [(1, 279), (2, 359)]) (rwithin_spec (thrS (f.blocks.getD j default) (lo.getD j default)) (li.getD j default) (by rw [thrS_len]; have q2 := hSo.at (k := j) (by omega); omega) (by rw [thrS_len]; have q1 := hSi.at (k := j) (by omega); have q2 := hSo.at (k := j) (by omega); omega)) body94 rfl rfl rfl rfl (.lend rfl (.fz rfl (.nil))) rfl) rfl ?_
    refine q0 65 391 18 rfl rfl (T_not rfl rfl) rfl ?_
    refine k_done rfl ?_
    refine ⟨rfl, ?_⟩
    refine thenK_n ?_
    refine W_cond rfl (fun g5 => ?_) (fun g5 => ?_)
    ·have h5 := g5; (try simp only [cmpB, decide_eq_true_eq, decide_eq_false_iff_not, beq_iff_eq, beq_eq_false_iff_ne, bne_iff_ne, ne_eq, bne_eq_false_iff_eq, Bool.not_eq_true', Bool.not_eq_false', Int.not_lt, Int.not_le] at h5)
     refine W_seq ?_
     refine W_seqK (b' := 423) rfl rfl ?_
     refine q0 4 407 1 rfl rfl (T_assign rfl rfl) rfl ?_
     refine k_done rfl ?_
     refine thenK_n ?_
     refine W_ret ?_
     refine blockK_r ?_
     refine thenK_r ?_
     refine thenK_r ?_
     refine blockK_r ?_
     refine thenK_r ?_
     exact .mk [] (.inr rfl) (.tmp rfl (.nil)) (by simp only [resLV, LV.ren, LV.v.injEq, Value.bool.injEq]; exact checkL_no (j := j) (by omega) (okB_no2 (by assumption))) (.nil) rfl
    ·have h5 := g5; (try simp only [cmpB, decide_eq_true_eq, decide_eq_false_iff_not, beq_iff_eq, beq_eq_false_iff_ne, bne_iff_ne, ne_eq, bne_eq_false_iff_eq, Bool.not_eq_true', Bool.not_eq_false', Int.not_lt, Int.not_le] at h5)
     refine W_skip ?_
     refine blockK_n ?_
     refine thenK_n ?_
     refine W_seqK (b' := 455) rfl rfl ?_
     refine q0 19 407 1 rfl rfl (T_move rfl rfl) rfl ?_
     refine q0 20 423 2 rfl rfl (T_add64 rfl rfl rfl (by omega)) rfl ?_
     refine q0 6 439 3 rfl rfl (T_assign rfl rfl) rfl ?_
     refine k_done rfl ?_
     refine thenK_n ?_
     refine ⟨j + 1, by (try dsimp only); exact ⟨by omega, fun i hi => by rcases Nat.lt_or_ge i j with h | h; exact hJ.2 i h; rw [show i = j by omega]; exact okB_iff.2 ⟨fun q hq => hM.2 q (by omega), by assumption⟩⟩, by (try dsimp only); omega, ?_⟩
     exact ⟨[(4, 4), (5, 5), (6, 6)], .same rfl rfl (.same rfl rfl (.same rfl rfl (.eq rfl (.nil) (by rfl)))), .fzE rfl (.fzE rfl (.fzE rfl (.box (by rfl) (.box (by rfl) (.rowE rfl (.nil) (by rfl)))) rfl) rfl) rfl, rfl⟩
  ·have h2 := c_lss_f g2
   refine W_exit ?_
   refine thenK_e ?_
   refine thenK_e ?_
   refine blockK_hit ?_
   refine thenK_n ?_
   refine W_seq ?_
   refine W_seqK (b' := 103) rfl rfl ?_
   refine q0 4 87 1 rfl rfl (T_assign rfl rfl) rfl ?_
   refine k_done rfl ?_
   refine thenK_n ?_
   refine W_ret ?_
   exact .mk [] (.inr rfl) (.tmp rfl (.nil)) (by simp only [resLV, LV.ren, LV.v.injEq, Value.bool.injEq]; exact checkL_yes hS (fun i h => hJ.2 i (by omega))) (.nil) rfl
end Lg
end Go.Proofs.Ytpfhmodjjljpjaa

namespace Go.Proofs.Ytpfhmodjjljpjaa
open Go.RowKit
namespace Lg
set_option linter.unusedSimpArgs false
set_option linter.unusedVariables false
abbrev IO2 := List (List Bool) × List (List Bool)
section
variable (f : GFn)
def outJ (li lo : List (List Bool)) (b m : Nat) : List Bool := (((nextL f).getD b default).take m).foldl (fun o (k : Int) => addS o (li.getD k.toNat default)) (lo.getD b default)
def outS (x : IO2) (b : Nat) : List Bool := outJ f x.1 x.2 b ((nextL f).getD b default).length
def thrO (x : IO2) (b : Nat) : List Bool := thrS (f.blocks.getD b default) (outS f x b)
def stepI (x : IO2) (b : Nat) : IO2 := (x.1.set b (addS (x.1.getD b default) (thrO f x b)), x.2.set b (outS f x b))
def stepM (x : IO2) (b : Nat) : Bool := moreS (x.1.getD b default) (thrO f x b)
def rndK (x : IO2) (k : Nat) : IO2 × Bool := ((List.range f.blocks.length).drop k).foldr (fun b (p : IO2 × Bool) => (stepI f p.1 b, stepM f p.1 b || p.2)) (x, false)
def iterL : Nat → IO2 → IO2
  | 0, x => x
  | m + 1, x => if (rndK f x 0).2 = true then iterL m (rndK f x 0).1 else (rndK f x 0).1
def zeroL : IO2 := (List.replicate f.blocks.length (List.replicate f.regs.toNat false), List.replicate f.blocks.length (List.replicate f.regs.toNat false))
def liveL : IO2 := iterL f (f.blocks.length * f.regs.toNat + 1) (zeroL f)
end
section
variable {f : GFn} {x : IO2}
theorem outJ_zero (li lo : List (List Bool)) (b : Nat) : outJ f li lo b 0 = lo.getD b default := by simp [outJ]
theorem outJ_succ {li lo : List (List Bool)} {b m : Nat} (h : m < ((nextL f).getD b default).length) : outJ f li lo b (m + 1) = addS (outJ f li lo b m) (li.getD (((nextL f).getD b default).getD m default).toNat default) := by
  unfold outJ
  have e : ((nextL f).getD b default).getD m default = ((nextL f).getD b default)[m] := by rw [List.getD, List.getElem?_eq_getElem h]; rfl
  rw [List.take_add_one, List.getElem?_eq_getElem h, List.foldl_append, e]
  rfl
theorem outJ_len (li lo : List (List Bool)) (b : Nat) : ∀ m, (outJ f li lo b m).length = (lo.getD b default).length := fun m => by
  unfold outJ
  generalize ((nextL f).getD b default).take m = l
  generalize lo.getD b default = s
  induction l generalizing s with
  | nil => rfl
  | cons k l ih => rw [List.foldl_cons, ih, addS_len]
theorem outS_len (x : IO2) (b : Nat) : (outS f x b).length = (x.2.getD b default).length := outJ_len _ _ _ _
theorem thrO_len (x : IO2) (b : Nat) : (thrO f x b).length = (x.2.getD b default).length := by unfold thrO; rw [thrS_len, outS_len]
theorem rndK_end (x : IO2) : rndK f x f.blocks.length = (x, false) := by unfold rndK; rw [List.drop_of_length_le (by simp)]; rfl
theorem rndK_step (x : IO2) {k : Nat} (h : k < f.blocks.length) : rndK f x k = (stepI f (rndK f x (k + 1)).1 k, stepM f (rndK f x (k + 1)).1 k || (rndK f x (k + 1)).2) := by
  unfold rndK
  rw [List.drop_eq_getElem_cons (by simpa using h), List.foldr_cons]
  simp
structure SzX (f : GFn) (x : IO2) : Prop where
  i : SzL f x.1
  o : SzL f x.2
theorem SzL.set {l : List (List Bool)} (h : SzL f l) {b : Nat} {s : List Bool} (hs : s.length = f.regs.toNat) : SzL f (l.set b s) :=
  ⟨by rw [List.length_set]; exact h.len, fun t ht => by
    rcases List.mem_or_eq_of_mem_set ht with h1 | h1
    · exact h.each t h1
    · rw [h1]; exact hs⟩
theorem SzX.step (h : SzX f x) {b : Nat} (hb : b < f.blocks.length) : SzX f (stepI f x b) :=
  ⟨h.i.set (by rw [addS_len, h.i.at hb]), h.o.set (by rw [outS_len, h.o.at hb])⟩
theorem SzX.rnd (h : SzX f x) : ∀ (q k : Nat), k + q = f.blocks.length → SzX f (rndK f x k).1
  | 0, k, e => by
    have : k = f.blocks.length := by omega
    subst this
    rw [rndK_end]; exact h
  | q + 1, k, e => by
    rw [rndK_step x (by omega)]
    exact (SzX.rnd h q (k + 1) (by omega)).step (by omega)
theorem SzX.rndk (h : SzX f x) {k : Nat} (hk : k ≤ f.blocks.length) : SzX f (rndK f x k).1 := h.rnd (f.blocks.length - k) k (by omega)
theorem zeroL_sz (f : GFn) : SzX f (zeroL f) := by
  have h : SzL f (List.replicate f.blocks.length (List.replicate f.regs.toNat false)) := ⟨by simp, fun s hs => by rw [List.eq_of_mem_replicate hs]; simp⟩
  exact ⟨h, h⟩
def cntF (s : List Bool) : Nat := s.countP (fun b => !b)
def cntL (l : List (List Bool)) : Nat := (l.map cntF).sum
theorem cntF_le (s : List Bool) : cntF s ≤ s.length := List.countP_le_length
theorem cntF_set {s : List Bool} {j : Nat} (hj : j < s.length) (h : s.getD j default = false) : cntF (s.set j true) + 1 = cntF s := by
  unfold cntF
  induction s generalizing j with
  | nil => simp at hj
  | cons a s ih =>
    cases j with
    | zero =>
      simp [List.getD] at h
      subst h
      simp
    | succ j =>
      have := ih (j := j) (by simpa using hj) (by simpa [List.getD] using h)
      simp only [List.set_cons_succ, List.countP_cons]
      omega
theorem addJ_cnt (s t : List Bool) (hl : t.length ≤ s.length) : ∀ j, j ≤ t.length → cntF (addJ s t j).1 ≤ cntF s ∧ ((addJ s t j).2 = true → cntF (addJ s t j).1 < cntF s) ∧ ((addJ s t j).2 = false → (addJ s t j).1 = s)
  | 0, _ => ⟨Nat.le_refl _, (fun h => absurd h (by simp [addJ])), fun _ => rfl⟩
  | j + 1, hj => by
    obtain ⟨h1, h2, h3⟩ := addJ_cnt s t hl j (by omega)
    have hlen := addJ_len s t j
    rw [addJ]
    split
    · rename_i h
      have := cntF_set (s := (addJ s t j).1) (j := j) (by omega) h.2
      exact ⟨by dsimp only; omega, fun _ => by dsimp only; omega, fun h => by cases h⟩
    · exact ⟨h1, h2, h3⟩
theorem addS_cnt {s t : List Bool} (hl : t.length ≤ s.length) : cntF (addS s t) ≤ cntF s ∧ (moreS s t = true → cntF (addS s t) < cntF s) ∧ (moreS s t = false → addS s t = s) := addJ_cnt s t hl _ (Nat.le_refl _)
theorem cntL_set {l : List (List Bool)} {b : Nat} (hb : b < l.length) (s : List Bool) : cntL (l.set b s) + cntF (l.getD b default) = cntL l + cntF s := by
  unfold cntL
  induction l generalizing b with
  | nil => simp at hb
  | cons a l ih =>
    cases b with
    | zero => simp [List.getD]; omega
    | succ b =>
      have := ih (b := b) (by simpa using hb)
      simp only [List.set_cons_succ, List.map_cons, List.sum_cons]
      have e : (a :: l).getD (b + 1) default = l.getD b default := by simp [List.getD]
      rw [e]; omega
theorem set_self {α : Type} [Inhabited α] {l : List α} {b : Nat} (hb : b < l.length) : l.set b (l.getD b default) = l := by
  refine List.ext_getElem (by simp) (fun i h1 h2 => ?_)
  rw [List.getElem_set]
  split
  · rename_i h; subst h; simp [List.getD, hb]
  · rfl
theorem getD_set_self {α : Type} [Inhabited α] {l : List α} {b : Nat} (hb : b < l.length) (s : α) : (l.set b s).getD b default = s := by simp [List.getD, hb]
theorem step_cnt (h : SzX f x) {b : Nat} (hb : b < f.blocks.length) : cntL (stepI f x b).1 ≤ cntL x.1 ∧ (stepM f x b = true → cntL (stepI f x b).1 < cntL x.1) ∧ (stepM f x b = false → (stepI f x b).1 = x.1) := by
  have hl : (thrO f x b).length ≤ (x.1.getD b default).length := by rw [thrO_len, h.i.at hb, h.o.at hb]; omega
  have hbl : b < x.1.length := by rw [h.i.len]; exact hb
  obtain ⟨h1, h2, h3⟩ := addS_cnt hl
  have hs := cntL_set hbl (addS (x.1.getD b default) (thrO f x b))
  refine ⟨by show cntL (x.1.set b _) ≤ _; omega, fun hm => ?_, fun hm => ?_⟩
  · have := h2 hm
    show cntL (x.1.set b _) < _
    omega
  · show x.1.set b _ = x.1
    rw [h3 hm]; exact set_self hbl
theorem rnd_cnt (h : SzX f x) : ∀ (q k : Nat), k + q = f.blocks.length → cntL (rndK f x k).1.1 ≤ cntL x.1 ∧ ((rndK f x k).2 = true → cntL (rndK f x k).1.1 < cntL x.1) ∧ ((rndK f x k).2 = false → (rndK f x k).1.1 = x.1)
  | 0, k, e => by
    have : k = f.blocks.length := by omega
    subst this
    rw [rndK_end]
    exact ⟨Nat.le_refl _, (fun h => absurd h (by simp)), fun _ => rfl⟩
  | q + 1, k, e => by
    obtain ⟨h1, h2, h3⟩ := rnd_cnt h q (k + 1) (by omega)
    obtain ⟨g1, g2, g3⟩ := step_cnt (h.rndk (k := k + 1) (by omega)) (b := k) (by omega)
    rw [rndK_step x (by omega)]
    dsimp only
    refine ⟨by omega, fun hm => ?_, fun hm => ?_⟩
    · rw [Bool.or_eq_true] at hm
      rcases hm with hm | hm
      · have := g2 hm; omega
      · have := h2 hm; omega
    · rw [Bool.or_eq_false_iff] at hm
      rw [g3 hm.1, h3 hm.2]
structure RndI (f : GFn) (x : Nat × IO2 × Bool) : Prop where
  sz : SzX f x.2.1
  t : x.2.2 = true → iterL f x.1 x.2.1 = liveL f ∧ cntL x.2.1.1 < x.1
  no : x.2.2 = false → x.2.1 = liveL f
theorem cntL_le {l : List (List Bool)} {c : Nat} (h : ∀ s ∈ l, s.length ≤ c) : cntL l ≤ l.length * c := by
  unfold cntL
  induction l with
  | nil => simp
  | cons a l ih =>
    have h1 := ih (fun s hs => h s (List.mem_cons_of_mem _ hs))
    have h2 := h a (by simp)
    have h3 := cntF_le a
    simp only [List.map_cons, List.sum_cons, List.length_cons, Nat.succ_mul]
    omega
theorem rndI_start (f : GFn) : RndI f (f.blocks.length * f.regs.toNat + 1, zeroL f, true) :=
  ⟨zeroL_sz f, fun _ => ⟨rfl, by
    have h := cntL_le (l := (zeroL f).1) (c := f.regs.toNat) (fun s hs => by rw [(zeroL_sz f).i.each s hs]; omega)
    rw [(zeroL_sz f).i.len] at h
    dsimp only
    omega⟩, fun h => by cases h⟩
theorem RndI.round {x : Nat × IO2 × Bool} (h : RndI f x) (ht : x.2.2 = true) : RndI f (x.1 - 1, (rndK f x.2.1 0).1, (rndK f x.2.1 0).2) := by
  obtain ⟨m, y, fl⟩ := x
  obtain ⟨h1, h2⟩ := h.t ht
  dsimp only at *
  obtain ⟨m, rfl⟩ : ∃ m', m = m' + 1 := ⟨m - 1, by omega⟩
  obtain ⟨g1, g2, g3⟩ := rnd_cnt h.sz f.blocks.length 0 (by omega)
  rw [iterL] at h1
  refine ⟨h.sz.rndk (Nat.zero_le _), fun hm => ?_, fun hm => ?_⟩
  · dsimp only at hm ⊢
    rw [if_pos hm] at h1
    have := g2 hm
    dsimp only at this
    exact ⟨by simpa using h1, by omega⟩
  · dsimp only at hm ⊢
    rw [if_neg (by rw [hm]; simp)] at h1
    exact h1
def muR (x : Nat × IO2 × Bool) : Nat := if x.2.2 = true then x.1 + 1 else 0
theorem RndI.mu {x : Nat × IO2 × Bool} (h : RndI f x) (ht : x.2.2 = true) : muR (x.1 - 1, (rndK f x.2.1 0).1, (rndK f x.2.1 0).2) < muR x := by
  have h2 := (h.t ht).2
  unfold muR
  rw [if_pos ht]
  dsimp only
  split <;> omega
theorem RndI.fin {x : Nat × IO2 × Bool} (h : RndI f x) (ht : x.2.2 = false) : x.2.1 = liveL f := h.no ht
end
def orJ (s t : List Bool) : Nat → List Bool
  | 0 => s
  | v + 1 => (orJ s t v).set v ((orJ s t v).getD v default || t.getD v default)
theorem orJ_len (s t : List Bool) : ∀ v, (orJ s t v).length = s.length
  | 0 => rfl
  | v + 1 => by rw [orJ, List.length_set]; exact orJ_len s t v
theorem orJ_get (s t : List Bool) : ∀ (v : Nat), v ≤ s.length → ∀ i, (orJ s t v).getD i default = (s.getD i default || (decide (i < v) && t.getD i default))
  | 0, _, i => by simp [orJ]
  | v + 1, hv, i => by
    have ih := orJ_get s t v (by omega)
    have hlen := orJ_len s t v
    rw [orJ, getD_set (by omega)]
    by_cases e : i = v
    · subst e; rw [if_pos rfl, ih i]; simp
    · rw [if_neg e, ih i]
      have : decide (i < v + 1) = decide (i < v) := by by_cases h : i < v <;> simp [h] <;> omega
      rw [this]
theorem orJ_all {s t : List Bool} (hl : t.length = s.length) : orJ s t s.length = addS s t := by
  refine List.ext_getElem (by rw [orJ_len, addS_len]) (fun i h1 h2 => ?_)
  rw [orJ_len] at h1
  have e1 := orJ_get s t s.length (Nat.le_refl _) i
  have e2 := addS_get (s := s) (t := t) (by omega) i
  have k1 : (orJ s t s.length).getD i default = (orJ s t s.length)[i] := by simp [List.getD, orJ_len, h1]
  have k2 : (addS s t).getD i default = (addS s t)[i] := by simp [List.getD, h2]
  rw [k1] at e1
  rw [k2] at e2
  rw [e1, e2]
  simp [h1]
section
variable {f : GFn} {x : IO2}
theorem iterL_sz : ∀ (m : Nat) (x : IO2), SzX f x → SzX f (iterL f m x)
  | 0, x, h => h
  | m + 1, x, h => by
    rw [iterL]
    split
    · exact iterL_sz m _ (h.rndk (Nat.zero_le _))
    · exact h.rndk (Nat.zero_le _)
theorem live_sz (f : GFn) : SzX f (liveL f) := iterL_sz _ _ (zeroL_sz f)
theorem repl_step {α : Type} {z d : α} {j n : Nat} (h : j < n) : (List.replicate j z ++ List.replicate (n - j) d).set j z = List.replicate (j + 1) z ++ List.replicate (n - (j + 1)) d := by
  rw [List.set_append, if_neg (by simp), List.length_replicate, Nat.sub_self, show n - j = (n - (j + 1)) + 1 by omega, List.replicate_succ, List.set_cons_zero, List.replicate_succ', List.append_assoc]
  rfl
theorem take_snoc {α : Type} [Inhabited α] {l : List α} {j : Nat} (h : j < l.length) : l.take j ++ [l.getD j default] = l.take (j + 1) := by
  rw [List.take_add_one, List.getElem?_eq_getElem h, List.getD, List.getElem?_eq_getElem h]; rfl
theorem out_round {li o : List (List Bool)} {k m : Nat} (hb : k < o.length) (h : m < ((nextL f).getD k default).length) :
    (o.set k (outJ f li o k m)).set k (addS ((o.set k (outJ f li o k m)).getD k default) (li.getD (((nextL f).getD k default).getD m default).toNat default)) = o.set k (outJ f li o k (m + 1)) := by
  rw [getD_set_self hb, List.set_set, outJ_succ h]
theorem outJ_fin {x : IO2} {k m : Nat} (hm : m = ((nextL f).getD k default).length) : outJ f x.1 x.2 k m = outS f x k := by rw [hm]; rfl
theorem thr_fin {x : IO2} {k m : Nat} (hb : k < x.2.length) (hm : m = ((nextL f).getD k default).length) : thrS (f.blocks.getD k default) ((x.2.set k (outJ f x.1 x.2 k m)).getD k default) = thrO f x k := by rw [getD_set_self hb, outJ_fin hm]; rfl
theorem in_round {k m : Nat} (hk : k < f.blocks.length) (hb : k < (rndK f x (k + 1)).1.2.length) (hm : m = ((nextL f).getD k default).length) :
    (rndK f x (k + 1)).1.1.set k (addS ((rndK f x (k + 1)).1.1.getD k default) (thrS (f.blocks.getD k default) (((rndK f x (k + 1)).1.2.set k (outJ f (rndK f x (k + 1)).1.1 (rndK f x (k + 1)).1.2 k m)).getD k default))) = (rndK f x k).1.1 := by
  rw [thr_fin hb hm, rndK_step x hk]; rfl
theorem out_fin {k m : Nat} (hk : k < f.blocks.length) (hm : m = ((nextL f).getD k default).length) : (rndK f x (k + 1)).1.2.set k (outJ f (rndK f x (k + 1)).1.1 (rndK f x (k + 1)).1.2 k m) = (rndK f x k).1.2 := by
  rw [outJ_fin hm, rndK_step x hk]; rfl
theorem out_fin2 {k m : Nat} (hk : k < f.blocks.length) (hb : k < (rndK f x (k + 1)).1.2.length) (hm : m = ((nextL f).getD k default).length) : ((rndK f x (k + 1)).1.2.set k (outJ f (rndK f x (k + 1)).1.1 (rndK f x (k + 1)).1.2 k m)).set k (((rndK f x (k + 1)).1.2.set k (outJ f (rndK f x (k + 1)).1.1 (rndK f x (k + 1)).1.2 k m)).getD k default) = (rndK f x k).1.2 := by
  rw [set_self (by simpa using hb)]; exact out_fin hk hm
theorem flag_t {k m : Nat} (hk : k < f.blocks.length) (hb : k < (rndK f x (k + 1)).1.2.length) (hm : m = ((nextL f).getD k default).length) (h : moreS ((rndK f x (k + 1)).1.1.getD k default) (thrS (f.blocks.getD k default) (((rndK f x (k + 1)).1.2.set k (outJ f (rndK f x (k + 1)).1.1 (rndK f x (k + 1)).1.2 k m)).getD k default)) = true) : (rndK f x k).2 = true := by
  rw [thr_fin hb hm] at h
  rw [rndK_step x hk]
  show (stepM f (rndK f x (k + 1)).1 k || _) = true
  unfold stepM
  rw [h]; rfl
theorem flag_f {k m : Nat} (hk : k < f.blocks.length) (hb : k < (rndK f x (k + 1)).1.2.length) (hm : m = ((nextL f).getD k default).length) (h : moreS ((rndK f x (k + 1)).1.1.getD k default) (thrS (f.blocks.getD k default) (((rndK f x (k + 1)).1.2.set k (outJ f (rndK f x (k + 1)).1.1 (rndK f x (k + 1)).1.2 k m)).getD k default)) = false) : (rndK f x k).2 = (rndK f x (k + 1)).2 := by
  rw [thr_fin hb hm] at h
  rw [rndK_step x hk]
  show (stepM f (rndK f x (k + 1)).1 k || _) = _
  unfold stepM
  rw [h]; rfl
end
section
variable {f : GFn} {x : IO2} {o : List (List Bool)} {s t : List Bool} {q v m : Nat}
theorem or_round_t (hb : q < o.length) (h : ((o.set q (orJ s t v)).getD q default).getD v default = true) : (o.set q (orJ s t v)).set q (((o.set q (orJ s t v)).getD q default).set v true) = o.set q (orJ s t (v + 1)) := by
  rw [getD_set_self hb] at h ⊢
  rw [List.set_set, orJ, h]; rfl
theorem or_round_f (hb : q < o.length) (h : ((o.set q (orJ s t v)).getD q default).getD v default = false) : (o.set q (orJ s t v)).set q (((o.set q (orJ s t v)).getD q default).set v (t.getD v default)) = o.set q (orJ s t (v + 1)) := by
  rw [getD_set_self hb] at h ⊢
  rw [List.set_set, orJ, h]; rfl
theorem or_fin {li : List (List Bool)} (hm : m < ((nextL f).getD q default).length) (hv : v = (outJ f li o q m).length) (hl : (li.getD (((nextL f).getD q default).getD m default).toNat default).length = (outJ f li o q m).length) :
    o.set q (orJ (outJ f li o q m) (li.getD (((nextL f).getD q default).getD m default).toNat default) v) = o.set q (outJ f li o q (m + 1)) := by
  rw [hv, orJ_all hl, outJ_succ hm]
theorem in_yes (hb : q < o.length) (h1 : t.getD v default = true) (h2 : ((o.set q (addJ s t v).1).getD q default).getD v default = false) :
    ((o.set q (addJ s t v).1).set q ((o.set q (addJ s t v).1).getD q default)).set q ((((o.set q (addJ s t v).1).set q ((o.set q (addJ s t v).1).getD q default)).getD q default).set v true) = o.set q (addJ s t (v + 1)).1 := by
  rw [set_self (l := o.set q (addJ s t v).1) (by simpa using hb)]
  rw [getD_set_self hb] at h2 ⊢
  rw [List.set_set, addJ_yes h1 h2]
theorem in_no1 (h1 : t.getD v default = false) : o.set q (addJ s t v).1 = o.set q (addJ s t (v + 1)).1 := by rw [addJ_no1 h1]
theorem in_no2 (hb : q < o.length) (h2 : ((o.set q (addJ s t v).1).getD q default).getD v default = true) : (o.set q (addJ s t v).1).set q ((o.set q (addJ s t v).1).getD q default) = o.set q (addJ s t (v + 1)).1 := by
  rw [set_self (l := o.set q (addJ s t v).1) (by simpa using hb)]
  rw [getD_set_self hb] at h2
  rw [addJ_no2 h2]
theorem fl_yes {c : Bool} (hb : q < o.length) (h1 : t.getD v default = true) (h2 : ((o.set q (addJ s t v).1).getD q default).getD v default = false) : ((addJ s t (v + 1)).2 || c) = true := by
  rw [getD_set_self hb] at h2
  rw [addJ_yes h1 h2]; rfl
theorem fl_no1 {c : Bool} (h1 : t.getD v default = false) : ((addJ s t (v + 1)).2 || c) = ((addJ s t v).2 || c) := by rw [addJ_no1 h1]
theorem fl_no2 {c : Bool} (hb : q < o.length) (h2 : ((o.set q (addJ s t v).1).getD q default).getD v default = true) : ((addJ s t (v + 1)).2 || c) = ((addJ s t v).2 || c) := by
  rw [getD_set_self hb] at h2
  rw [addJ_no2 h2]
theorem in_fin (hk : q < f.blocks.length) (hb : q < (rndK f x (q + 1)).1.2.length) (hm : m = ((nextL f).getD q default).length) (hv : v = (thrS (f.blocks.getD q default) (((rndK f x (q + 1)).1.2.set q (outJ f (rndK f x (q + 1)).1.1 (rndK f x (q + 1)).1.2 q m)).getD q default)).length) :
    (rndK f x (q + 1)).1.1.set q (addJ ((rndK f x (q + 1)).1.1.getD q default) (thrS (f.blocks.getD q default) (((rndK f x (q + 1)).1.2.set q (outJ f (rndK f x (q + 1)).1.1 (rndK f x (q + 1)).1.2 q m)).getD q default)) v).1 = (rndK f x q).1.1 := by
  rw [hv]; exact in_round hk hb hm
theorem fl_fin (hk : q < f.blocks.length) (hb : q < (rndK f x (q + 1)).1.2.length) (hm : m = ((nextL f).getD q default).length) (hv : v = (thrS (f.blocks.getD q default) (((rndK f x (q + 1)).1.2.set q (outJ f (rndK f x (q + 1)).1.1 (rndK f x (q + 1)).1.2 q m)).getD q default)).length) :
    (rndK f x q).2 = ((addJ ((rndK f x (q + 1)).1.1.getD q default) (thrS (f.blocks.getD q default) (((rndK f x (q + 1)).1.2.set q (outJ f (rndK f x (q + 1)).1.1 (rndK f x (q + 1)).1.2 q m)).getD q default)) v).2 || (rndK f x (q + 1)).2) := by
  rw [hv, rndK_step x hk]
  show (stepM f (rndK f x (q + 1)).1 q || _) = (moreS _ _ || _)
  unfold stepM
  rw [thr_fin hb hm]
end
end Lg
end Go.Proofs.Ytpfhmodjjljpjaa

namespace Go.Proofs.Ytpfhmodjjljpjaa
open Go.RowKit
namespace Lg
set_option linter.unusedSimpArgs false
set_option linter.unusedVariables false
theorem HR.openN {α : Type} [Inhabited α] {enc : α → List Cell} {xs : List (List α)} {i e e2 sz2 j b : Nat} {w0 w : World} {M : Fp} {U : Nat → Prop} {ρ : Nat → Value} {own : Nat → Option Nat} {o : List (Nat × Ob)} (hr : HR w0 M U ρ own o w) (hob' : o.lookup i = some (.nest e e2 sz2 (xs.map (List.map enc)) none)) (hj : j < xs.length) (hbU : ¬ U b) :
    ∃ ρ' own', (∀ q, U q → ρ' q = ρ q) ∧ HR w0 M (grow U b 1) ρ' own' ([(b, .row e2 sz2 ((xs.getD j default).map enc)), (i, .nest e e2 sz2 (xs.map (List.map enc)) (some (j, b)))] ++ o) w := by
  obtain ⟨⟨vs, hN⟩, hUi, _⟩ := hr.ob i _ hob'
  have hbi : b ≠ i := fun h => hbU (h ▸ hUi)
  have hrl : (xs.map (List.map enc)).length = xs.length := by simp
  have hvl : vs.length = xs.length := by rw [hN.out.1, hrl]; simp
  have hjv : vs[j]? = some vs[j] := List.getElem?_eq_getElem (by omega)
  have hrow : (xs.map (List.map enc))[j]? = some ((xs.getD j default).map enc) := by
    rw [List.getElem?_map, List.getElem?_eq_getElem hj, List.getD_eq_getElem?_getD, List.getElem?_eq_getElem hj]; rfl
  generalize hvj : vs[j] = v at hjv
  obtain ⟨cells, g1, g2, g3⟩ := hN.inn j _ v hrow hjv (fun b hb => by cases hb)
  let own' : Nat → Option Nat := fun k => if own k = some i ∧ v.ownBlock = some k then some b else own k
  have hρ : ∀ q, U q → upd1 ρ b v q = ρ q := fun q hq => upd1_other _ _ (fun h => hbU (h ▸ hq))
  have hnone : ∀ k, own k = none → k < w.heap.size → own' k = none ∧ w.heap[k]? = w.heap[k]? := fun k hk _ => ⟨by simp [own', hk], rfl⟩
  have hkeep : ∀ k, v.ownBlock ≠ some k → own' k = own k := fun k hk => by simp [own', hk]
  refine ⟨upd1 ρ b v, own', hρ, ?_⟩
  refine hr.step (fun q => q = i) rfl rfl rfl (Nat.le_refl _) (fun k hk hq => ⟨rfl, ?_⟩) hρ (fun q hq => .inl hq) (fun q hq => ⟨.nest e e2 sz2 (xs.map (List.map enc)) (some (j, b)), by subst hq; simp [List.lookup, show (q == b) = false by simpa using Ne.symm hbi]⟩) (fun q ob' hq => ?_) (fun q ob' hq => ?_)
  · have : own k ≠ some i := fun h => hq i h rfl
    simp [own', this]
  · simp only [List.lookup] at hq
    cases hqb : q == b with
    | true => exact .inr (by rw [show q = b by simpa using hqb]; exact hbU)
    | false =>
      rw [hqb] at hq
      cases hqi : q == i with
      | true => exact .inl (by rw [show q = i by simpa using hqi]; exact ⟨_, hob'⟩)
      | false => rw [hqi] at hq; cases hq
  · simp only [List.lookup] at hq
    cases hqb : q == b with
    | true =>
      rw [hqb] at hq
      obtain rfl : q = b := by simpa using hqb
      obtain rfl : Ob.row e2 sz2 ((xs.getD j default).map enc) = ob' := by injection hq
      refine ⟨⟨hN.pos, cells, by rw [upd1_same]; exact g1, fun k hk => ?_, g2.mono hnone⟩, .inr ⟨Nat.le_refl _, by omega⟩, trivial⟩
      rw [upd1_same] at hk
      simp [own', (g3 k hk).1, hk]
    | false =>
      rw [hqb] at hq
      cases hqi : q == i with
      | false => rw [hqi] at hq; cases hq
      | true =>
        rw [hqi] at hq
        obtain rfl : q = i := by simpa using hqi
        obtain rfl : Ob.nest e e2 sz2 (xs.map (List.map enc)) (some (j, b)) = ob' := by injection hq
        have hρi := hρ q hUi
        refine ⟨⟨vs, hN.pos, by rw [hρi]; exact hN.out, fun k hk => ?_, fun j' b' hb => ?_, fun j' r v' hj' hv' hh => ?_, fun j1 j2 v1 v2 k hne _ _ => hN.dis j1 j2 v1 v2 k hne (fun b hb => by cases hb) (fun b hb => by cases hb)⟩, .inl hUi, fun j' b' hb => ?_⟩
        · rw [hρi] at hk
          rw [hkeep k (fun h => (g3 k h).2 hk)]
          exact hN.blk k hk
        · cases hb
          rw [upd1_same]; exact hjv
        · have hjj : j ≠ j' := fun h => hh b (by rw [h])
          obtain ⟨cells', k1, k2, k3⟩ := hN.inn j' r v' hj' hv' (fun b hb => by cases hb)
          refine ⟨cells', k1, k2.mono hnone, fun k hk => ?_⟩
          rw [hkeep k (fun h => hN.dis j j' v v' k hjj (fun b hb => by cases hb) (fun b hb => by cases hb) hjv hv' h hk), hρi]
          exact k3 k hk
        · cases hb
          exact .inr ⟨Nat.le_refl _, by omega⟩
theorem W_open {α : Type} [Inhabited α] {enc : α → List Cell} {xs : List (List α)} {i e e2 sz2 j : Nat} {ro : Option Nat} {P : Program} {N n b b' : Nat} {st : St} {K : Exit → Nat → St → Prop} {c : Code} (hob : st.o.lookup i = some (.nest e e2 sz2 (xs.map (List.map enc)) none)) (hj : j < xs.length) (hb : b + 1 = b')
    (h : W ro P N n c b' ⟨st.s, (b, .row e2 sz2 ((xs.getD j default).map enc)) :: (i, .nest e e2 sz2 (xs.map (List.map enc)) (some (j, b))) :: st.o⟩ K) : W ro P N n c b st K := by
  intro w0 M Q a w hn hq hr
  subst hb
  obtain ⟨M', h1, h2, h3⟩ := hr.via
  obtain ⟨ρ, own, fr, hh, hd⟩ := h2
  obtain ⟨ρ', own', k1, k2⟩ := hh.openN hob hj (b := b) (by omega)
  refine h w0 M Q a w hn hq (h3 _ _ _ _ ⟨ρ', own', fr.keep k1 (fun i hi => by omega), HR.mono k2 (fun i hi => ?_), hd⟩)
  rcases hi with hi | hi <;> omega
end Lg
end Go.Proofs.Ytpfhmodjjljpjaa

namespace Go.Proofs.Ytpfhmodjjljpjaa
end Go.Proofs.Ytpfhmodjjljpjaa

namespace Go.Proofs.Ytpfhmodjjljpjaa
open Go.RowKit
namespace Lg
set_option maxRecDepth 100000
set_option linter.unusedVariables false
set_option linter.unusedSimpArgs false
theorem body80 : (Try.prog.funcs[80]?).map (fun fn => (fn.name == "runtime.NumGoroutine" || fn.body.isNone)) = some false := by kernel_rfl
theorem none_spec (n m : Int) (hn : 0 ≤ n ∧ n ≤ 1000) (hm : 0 ≤ m ∧ m ≤ 1000000) : Spec Try.prog 80 [.v (.int .i64 n), .v (.int .i64 m)] 1 [] (.r 1) 2 [(1, .nest 48 4 1 ((List.replicate n.toNat (List.replicate m.toNat false)).map (List.map eB)) none)] := by
 refine spec_of D (fn := Try.f80) rfl rfl (Nat.le_of_ble_eq_true rfl) ?_
 refine W_seq ?_
 refine W_seqK (b' := 17) rfl rfl ?_
 refine q1 4 1 1 rfl rfl (T_nils [(48, 1)] (T_assign rfl rfl) rfl (.inr ⟨rfl, rfl⟩) (.cons (.nil rfl) .nil) (lv' := .r 1) (upd' := [(1, .row 48 1 (List.map eBs ([] : List (List Bool))))]) (nn' := 1) rfl rfl) rfl ?_
 refine k_done rfl ?_
 refine thenK_n ?_
 refine W_seq ?_
 refine W_seqC (b' := 33) rfl rfl ?_
 refine q1 5 17 1 rfl rfl (T_nils [(48, 1)] (T_assign rfl rfl) rfl (.inr ⟨rfl, rfl⟩) (.cons (.nil rfl) .nil) (lv' := .r 17) (upd' := [(17, .row 48 1 (List.map eBs ([] : List (List Bool))))]) (nn' := 1) rfl rfl) rfl ?_
 refine k_done rfl ?_
 refine ⟨_, .nil (i := 17) (α := Bool) (enc := eB) (e2 := 4) (sz2 := 1) rfl (by simp) (.refl), ?_⟩
 refine thenK_n ?_
 refine W_seq ?_
 refine W_seq ?_
 refine W_seqK (b' := 49) rfl rfl ?_
 refine q0 6 33 1 rfl rfl (T_assign rfl rfl) rfl ?_
 refine k_done rfl ?_
 refine thenK_n ?_
 refine W_block ?_
 refine W_loop (ι := Nat) 2 (fun j => ⟨[(0, .v (.int .i64 n)), (1, .v (.int .i64 m)), (5, .r 1), (6, .v (.int .i64 (j : Int)))], [(1, .nest 48 4 1 ((List.replicate j (List.replicate m.toNat false)).map (List.map eB)) none)]⟩) (fun j => (j : Int) ≤ n) (fun j => n.toNat - j) (0) (by show ((0 : Nat) : Int) ≤ n; omega) ?_ (fun j hJ => ?_)
 ·exact ⟨[(1, 17)], .eq rfl (.eq rfl (.same rfl rfl (.eq rfl (.nil) (by rfl))) (by rfl)) (by rfl), .nestE rfl (.nil) (by rfl), rfl⟩
 refine W_seq ?_
 refine W_seq ?_
 refine W_seqK (b' := 50) rfl rfl ?_
 refine q0 7 2 1 rfl rfl (T_move rfl rfl) rfl ?_
 refine q0 8 18 2 rfl rfl (T_move rfl rfl) rfl ?_
 refine q0 9 34 3 rfl rfl (T_cmp rfl rfl rfl rfl) rfl ?_
 refine k_done rfl ?_
 refine thenK_n ?_
 refine W_cond rfl (fun g1 => ?_) (fun g1 => ?_)
 ·have h1 := c_lss_t g1
  refine W_skip ?_
  refine thenK_n ?_
  refine W_seq ?_
  refine W_block ?_
  refine W_seqK (b' := 146) rfl rfl ?_
  refine q0 12 50 1 rfl rfl (T_move rfl rfl) rfl ?_
  refine q0 13 66 2 rfl rfl (T_move rfl rfl) rfl ?_
  refine q1 14 82 3 rfl rfl (T_makeZ (x := .tmp 13) (y := .tmp 13) (m := m.toNat) (by omega) rfl rfl (fun k1 k2 => T_make D (zx := false) (enc := eB) rfl k1 k2 rfl rfl rfl rfl (.v rfl (.nil)) rfl (by (try simp only [ty4]); omega) (by (try simp only [ty4]); omega))) rfl ?_
  refine qn 15 98 4 rfl rfl (T_bsN D rfl rfl rfl rfl rfl rfl rfl rfl) rfl ?_
  refine qn 16 114 5 rfl rfl (T_appendN D rfl rfl rfl rfl rfl rfl rfl rfl rfl rfl rfl rfl (by (try simp only [ty48]); (simp only [List.length_replicate, List.length_cons, List.length_nil]; omega)) (by (try simp only [ty48]); (simp only [List.length_replicate, List.length_cons, List.length_nil]; omega))) rfl ?_
  refine q0 5 130 6 rfl rfl (T_assign rfl rfl) rfl ?_
  refine k_done rfl ?_
  refine blockK_n ?_
  refine thenK_n ?_
  refine W_seqK (b' := 194) rfl rfl ?_
  refine q0 10 146 1 rfl rfl (T_move rfl rfl) rfl ?_
  refine q0 11 162 2 rfl rfl (T_add64 rfl rfl rfl (by omega)) rfl ?_
  refine q0 6 178 3 rfl rfl (T_assign rfl rfl) rfl ?_
  refine k_done rfl ?_
  refine thenK_n ?_
  refine ⟨j + 1, by (try dsimp only); omega, by (try dsimp only); omega, ?_⟩
  exact ⟨[(1, 114)], .eq rfl (.eq rfl (.same rfl rfl (.eq rfl (.nil) (by rfl))) rfl) rfl, .nestE rfl (.nil) (by (exact congrArg (List.map (List.map eB)) List.replicate_succ'.symm)), rfl⟩
 ·have h1 := c_lss_f g1
  refine W_exit ?_
  refine thenK_e ?_
  refine thenK_e ?_
  refine blockK_hit ?_
  refine thenK_n ?_
  refine W_seq ?_
  refine W_seqK (b' := 82) rfl rfl ?_
  refine q0 17 50 1 rfl rfl (T_move rfl rfl) rfl ?_
  refine q0 4 66 2 rfl rfl (T_assign rfl rfl) rfl ?_
  refine k_done rfl ?_
  refine thenK_n ?_
  refine W_ret ?_
  exact .mk [(1, 1)] (.inr rfl) (.tmp rfl (.nil)) rfl (.nestE rfl (.nil) (by (have e : j = n.toNat := (by omega); rw [e]; done))) rfl
theorem body42 : (Try.prog.funcs[42]?).map (fun fn => (fn.name == "runtime.NumGoroutine" || fn.body.isNone)) = some false := by kernel_rfl
theorem rlive_spec (f : GFn) (hF : LF f) : Spec Try.prog 42 [.agg [.v (.int .i64 f.regs), .r 1]] 2 [(1, .fz 5 (f.blocks.map eBlock))] (.agg [.r 2, .r 3]) 4 [(2, .fz 1 ((liveL f).1.map eBs)), (3, .fz 1 ((liveL f).2.map eBs))] := by
 have hFl := hF.len
 have hFr := hF.regs
 have hnl := nextL_length f
 have hfl := follows_le f
 refine spec_of D (fn := Try.f42) rfl rfl (Nat.le_of_ble_eq_true rfl) ?_
 refine W_seq ?_
 refine W_seqK (b' := 34) rfl rfl ?_
 refine q1 1 2 1 rfl rfl (T_box rfl rfl flat_agg) rfl ?_
 refine qn 2 18 2 rfl rfl (T_nilbox [(48, 1), (48, 1)] (T_alloc D rfl rfl rfl) rfl (.cons (.nil rfl) <| .cons (.nil rfl) <| .nil) (upd' := [(18, .box 57 [.r 19, .r 20]), (19, .row 48 1 (List.map eBs ([] : List (List Bool)))), (20, .row 48 1 (List.map eBs ([] : List (List Bool))))]) (nn' := 3) rfl rfl) rfl ?_
 refine k_done rfl ?_
 refine thenK_n ?_
 refine W_seq ?_
 refine W_seqK (b' := 98) rfl rfl ?_
 refine q0 12 34 1 rfl rfl (T_fa D (m := 1) rfl rfl rfl rfl rfl rfl) rfl ?_
 refine q0 13 50 2 rfl rfl (T_load_b D rfl rfl rfl rfl rfl rfl) rfl ?_
 refine q0 14 66 3 rfl rfl (T_len D rfl rfl rfl rfl rfl rfl) rfl ?_
 refine q0 3 82 4 rfl rfl (T_assign rfl rfl) rfl ?_
 refine k_done rfl ?_
 refine thenK_n ?_
 refine W_seq ?_
 refine W_anyK (b' := 274) rfl rfl rfl ?_
 refine q0 15 98 1 rfl rfl (T_move rfl rfl) rfl ?_
 refine q0 16 114 2 rfl rfl (T_fa D (m := 0) rfl rfl rfl rfl rfl rfl) rfl ?_
 refine q0 17 130 3 rfl rfl (T_load_b D rfl rfl rfl rfl rfl rfl) rfl ?_
 refine q1 18 146 4 rfl rfl (T_call (lvs := [_, _]) (L := []) (lv := .r 146) (upd := [(146, .nest 48 4 1 _ none)]) (nn := 1) false (none_spec (f.blocks.length : Int) f.regs (by omega) (by omega)) body80 rfl rfl rfl rfl (.nil) rfl (.inl rfl) rfl rfl rfl) rfl ?_
 refine q0 19 162 5 rfl rfl (T_move rfl rfl) rfl ?_
 refine q0 20 178 6 rfl rfl (T_fa D (m := 0) rfl rfl rfl rfl rfl rfl) rfl ?_
 refine q0 21 194 7 rfl rfl (T_load_b D rfl rfl rfl rfl rfl rfl) rfl ?_
 refine q1 22 210 8 rfl rfl (T_call (lvs := [_, _]) (L := []) (lv := .r 210) (upd := [(210, .nest 48 4 1 _ none)]) (nn := 1) false (none_spec (f.blocks.length : Int) f.regs (by omega) (by omega)) body80 rfl rfl rfl rfl (.nil) rfl (.inl rfl) rfl rfl rfl) rfl ?_
 refine q0 23 226 9 rfl rfl (T_build D (l := [_, _]) rfl rfl rfl rfl (.cons rfl (flat_nest rfl) (.cons rfl (flat_nest rfl) (.nil))) rfl rfl) rfl ?_
 refine qn 4 242 10 rfl rfl (T_nilbox [(48, 1), (48, 1)] (T_alloc D rfl rfl rfl) rfl (.cons (.nil rfl) <| .cons (.nil rfl) <| .nil) (upd' := [(242, .box 57 [.r 243, .r 244]), (243, .row 48 1 (List.map eBs ([] : List (List Bool)))), (244, .row 48 1 (List.map eBs ([] : List (List Bool))))]) (nn' := 3) rfl rfl) rfl ?_
 refine s1 258 11 rfl rfl (T_stB D (cs' := [_, _]) rfl rfl rfl rfl flat_agg rfl rfl (Nat.le_of_ble_eq_true rfl) rfl) rfl ?_
 refine k_done rfl ?_
 refine ⟨rfl, ?_⟩
 refine thenK_n ?_
 refine W_seq ?_
 refine W_seqK (b' := 322) rfl rfl ?_
 refine q0 24 274 1 rfl rfl (T_load_bA D (l := [_, _]) rfl rfl rfl rfl rfl rfl rfl) rfl ?_
 refine q1 25 290 2 rfl rfl (T_call (lvs := [_]) (L := [(1, 1)]) (lv := .r 290) (upd := [(290, .row 52 1 _)]) (nn := 1) false (rnext_spec f (by omega)) body38 rfl rfl rfl rfl (.fz rfl (.nil)) rfl (.inl rfl) rfl rfl rfl) rfl ?_
 refine q0 5 306 3 rfl rfl (T_assign rfl rfl) rfl ?_
 refine k_done rfl ?_
 refine thenK_n ?_
 refine W_seq ?_
 refine W_seq ?_
 refine W_seqK (b' := 338) rfl rfl ?_
 refine q0 6 322 1 rfl rfl (T_assign rfl rfl) rfl ?_
 refine k_done rfl ?_
 refine thenK_n ?_
 refine W_block ?_
 refine W_loop (ι := Nat × IO2 × Bool) 10 (fun x => ⟨[(1, .p 2 0), (2, .p 3 0), (3, .v (.int .i64 (f.blocks.length : Int))), (4, .p 6 0), (5, .r 9), (6, .v (.bool x.2.2))], [(1, .fz 5 (f.blocks.map eBlock)), (2, .box 29 [.v (.int .i64 f.regs), .r 1]), (3, .box 57 [.r 4, .r 5]), (4, .row 48 1 (([] : List (List Bool)).map eBs)), (5, .row 48 1 (([] : List (List Bool)).map eBs)), (6, .box 57 [.r 7, .r 8]), (7, .nest 48 4 1 (x.2.1.1.map (List.map eB)) none), (8, .nest 48 4 1 (x.2.1.2.map (List.map eB)) none), (9, .row 52 1 ((nextL f).map eIs))]⟩) (fun x => RndI f x) (muR) ((f.blocks.length * f.regs.toNat + 1, zeroL f, true)) (by exact rndI_start f) ?_ (fun x hX => ?_)
 ·exact ⟨[(2, 2), (3, 18), (4, 19), (5, 20), (6, 242), (7, 146), (8, 210), (9, 290)], .same rfl rfl (.same rfl rfl (.eq rfl (.same rfl rfl (.same rfl rfl (.eq rfl (.nil) (by rfl)))) (by rfl))), .fzE rfl (.box (by rfl) (.box (by rfl) (.rowE rfl (.rowE rfl (.box (by rfl) (.nestE rfl (.nestE rfl (.rowE rfl (.nil) (by rfl)) (by rfl)) (by rfl))) (by rfl)) (by rfl)))) (by rfl), rfl⟩
 refine W_seq ?_
 refine W_seq ?_
 refine W_seqK (b' := 26) rfl rfl ?_
 refine q0 26 10 1 rfl rfl (T_move rfl rfl) rfl ?_
 refine k_done rfl ?_
 refine thenK_n ?_
 refine W_cond rfl (fun g1 => ?_) (fun g1 => ?_)
 ·have h1 := g1; (try simp only [cmpB, decide_eq_true_eq, decide_eq_false_iff_not, beq_iff_eq, beq_eq_false_iff_ne, bne_iff_ne, ne_eq, bne_eq_false_iff_eq, Bool.not_eq_true', Bool.not_eq_false', Int.not_lt, Int.not_le] at h1)
  refine W_skip ?_
  refine thenK_n ?_
  refine W_block ?_
  refine W_seq ?_
  refine W_seqK (b' := 42) rfl rfl ?_
  refine q0 6 26 1 rfl rfl (T_assign rfl rfl) rfl ?_
  refine k_done rfl ?_
  refine thenK_n ?_
  refine W_seq ?_
  refine W_seqK (b' := 90) rfl rfl ?_
  refine q0 27 42 1 rfl rfl (T_move rfl rfl) rfl ?_
  refine q0 28 58 2 rfl rfl (T_sub64 rfl rfl rfl (by omega)) rfl ?_
  refine q0 7 74 3 rfl rfl (T_assign rfl rfl) rfl ?_
  refine k_done rfl ?_
  refine thenK_n ?_
  refine W_block ?_
  refine W_loop (ι := Nat) 10 (fun k => ⟨[(1, .p 2 0), (2, .p 3 0), (3, .v (.int .i64 (f.blocks.length : Int))), (4, .p 6 0), (5, .r 9), (6, .v (.bool (rndK f x.2.1 k).2)), (7, .v (.int .i64 ((k : Int) - 1)))], [(1, .fz 5 (f.blocks.map eBlock)), (2, .box 29 [.v (.int .i64 f.regs), .r 1]), (3, .box 57 [.r 4, .r 5]), (4, .row 48 1 (([] : List (List Bool)).map eBs)), (5, .row 48 1 (([] : List (List Bool)).map eBs)), (6, .box 57 [.r 7, .r 8]), (7, .nest 48 4 1 ((rndK f x.2.1 k).1.1.map (List.map eB)) none), (8, .nest 48 4 1 ((rndK f x.2.1 k).1.2.map (List.map eB)) none), (9, .row 52 1 ((nextL f).map eIs))]⟩) (fun k => k ≤ f.blocks.length) (fun k => k) (f.blocks.length) (by exact Nat.le_refl _) ?_ (fun k hK => ?_)
  ·exact ⟨[(2, 2), (3, 3), (4, 4), (5, 5), (6, 6), (7, 7), (8, 8), (9, 9)], .same rfl rfl (.same rfl rfl (.eq rfl (.same rfl rfl (.same rfl rfl (.eq rfl (.eq rfl (.nil) (by rfl)) (by (rw [rndK_end]; done))))) (by rfl))), .fzE rfl (.box (by rfl) (.box (by rfl) (.rowE rfl (.rowE rfl (.box (by rfl) (.nestE rfl (.nestE rfl (.rowE rfl (.nil) (by rfl)) (by (rw [rndK_end]; done))) (by (rw [rndK_end]; done)))) (by rfl)) (by rfl)))) (by rfl), rfl⟩
  refine W_seq ?_
  refine W_seq ?_
  refine W_seqK (b' := 42) rfl rfl ?_
  refine q0 29 10 1 rfl rfl (T_move rfl rfl) rfl ?_
  refine q0 30 26 2 rfl rfl (T_cmp rfl rfl rfl rfl) rfl ?_
  refine k_done rfl ?_
  refine thenK_n ?_
  refine W_cond rfl (fun g2 => ?_) (fun g2 => ?_)
  ·have h2 := c_geq_t g2
   refine W_skip ?_
   refine thenK_n ?_
   refine W_seq ?_
   refine W_block ?_
   refine W_seq ?_
   refine W_seq ?_
   refine W_seqK (b' := 58) rfl rfl ?_
   refine q0 8 42 1 rfl rfl (T_assign rfl rfl) rfl ?_
   refine k_done rfl ?_
   refine thenK_n ?_
   refine W_block ?_
   obtain ⟨q, rfl⟩ : ∃ q, k = q + 1 := ⟨k - 1, by omega⟩
   have e7 : ((q + 1 : Nat) : Int) - 1 = (q : Int) := by omega
   rw [e7]
   have hR := hX.sz.rndk (k := q + 1) (by omega)
   have hRi := hR.i.len
   have hRo := hR.o.len
   have hO : ∀ m, SzL f ((rndK f x.2.1 (q + 1)).1.2.set q (outJ f (rndK f x.2.1 (q + 1)).1.1 (rndK f x.2.1 (q + 1)).1.2 q m)) := fun m => hR.o.set (by rw [outJ_len]; exact hR.o.at (by omega))
   have hOl : ∀ m, (outJ f (rndK f x.2.1 (q + 1)).1.1 (rndK f x.2.1 (q + 1)).1.2 q m).length = f.regs.toNat := fun m => by rw [outJ_len]; exact hR.o.at (by omega)
   have hql := hfl ((nextL f).getD q default) (getD_mem (by omega))
   refine W_loop (ι := Nat) 10 (fun m => ⟨[(1, .p 2 0), (2, .p 3 0), (3, .v (.int .i64 (f.blocks.length : Int))), (4, .p 6 0), (5, .r 9), (6, .v (.bool (rndK f x.2.1 (q + 1)).2)), (7, .v (.int .i64 (q : Int))), (8, .v (.int .i64 (m : Int)))], [(1, .fz 5 (f.blocks.map eBlock)), (2, .box 29 [.v (.int .i64 f.regs), .r 1]), (3, .box 57 [.r 4, .r 5]), (4, .row 48 1 (([] : List (List Bool)).map eBs)), (5, .row 48 1 (([] : List (List Bool)).map eBs)), (6, .box 57 [.r 7, .r 8]), (7, .nest 48 4 1 ((rndK f x.2.1 (q + 1)).1.1.map (List.map eB)) none), (8, .nest 48 4 1 (((rndK f x.2.1 (q + 1)).1.2.set q (outJ f (rndK f x.2.1 (q + 1)).1.1 (rndK f x.2.1 (q + 1)).1.2 q m)).map (List.map eB)) none), (9, .row 52 1 ((nextL f).map eIs))]⟩) (fun m => m ≤ ((nextL f).getD q default).length) (fun m => ((nextL f).getD q default).length - m) (0) (by exact Nat.zero_le _) ?_ (fun m hM => ?_)
   ·exact ⟨[(2, 2), (3, 3), (4, 4), (5, 5), (6, 6), (7, 7), (8, 8), (9, 9)], .same rfl rfl (.same rfl rfl (.eq rfl (.same rfl rfl (.same rfl rfl (.eq rfl (.eq rfl (.eq rfl (.nil) (by rfl)) (by rfl)) (by rfl)))) (by rfl))), .fzE rfl (.box (by rfl) (.box (by rfl) (.rowE rfl (.rowE rfl (.box (by rfl) (.nestE rfl (.nestE rfl (.rowE rfl (.nil) (by rfl)) (by (rw [outJ_zero, set_self (by omega)]; done))) (by rfl))) (by rfl)) (by rfl)))) (by rfl), rfl⟩
   have hm := fun h => hF.follow (j := q) (m := m) (by omega) h
   have hOlm := hOl m
   have hOm := (hO m).at (k := q) (by omega)
   refine W_seq ?_
   refine W_seq ?_
   refine W_seqK (b' := 122) rfl rfl ?_
   refine q0 33 10 1 rfl rfl (T_move rfl rfl) rfl ?_
   refine q0 34 26 2 rfl rfl (T_move rfl rfl) rfl ?_
   refine q0 35 42 3 rfl rfl (T_move rfl rfl) rfl ?_
   refine q0 36 58 4 rfl rfl (T_indexAddr D rfl rfl rfl rfl rfl rfl rfl rfl (by omega)) rfl ?_
   refine q1 37 74 5 rfl rfl (T_ldE D (lv := .r 74) (nn := 1) (upd := [(74, .fz 1 _)]) rfl rfl rfl rfl rfl (by omega) rfl rfl rfl rfl) rfl ?_
   refine q0 38 90 6 rfl rfl (T_len D rfl rfl rfl rfl rfl rfl) rfl ?_
   refine q0 39 106 7 rfl rfl (T_cmp rfl rfl rfl rfl) rfl ?_
   refine k_done rfl ?_
   refine thenK_n ?_
   refine W_cond rfl (fun g3 => ?_) (fun g3 => ?_)
   ·have h3 := c_lss_t g3
    refine W_skip ?_
    refine thenK_n ?_
    refine W_seq ?_
    refine W_block ?_
    refine W_seq ?_
    refine W_seqK (b' := 138) rfl rfl ?_
    refine q0 9 122 1 rfl rfl (T_assign rfl rfl) rfl ?_
    refine k_done rfl ?_
    refine thenK_n ?_
    refine W_block ?_
    have hLl := hR.i.at (k := (((nextL f).getD q default).getD m default).toNat) (by have := hm (by omega); omega)
    refine W_loop (ι := Nat) 10 (fun v => ⟨[(1, .p 2 0), (2, .p 3 0), (3, .v (.int .i64 (f.blocks.length : Int))), (4, .p 6 0), (5, .r 9), (6, .v (.bool (rndK f x.2.1 (q + 1)).2)), (7, .v (.int .i64 (q : Int))), (8, .v (.int .i64 (m : Int))), (9, .v (.int .i64 (v : Int)))], [(1, .fz 5 (f.blocks.map eBlock)), (2, .box 29 [.v (.int .i64 f.regs), .r 1]), (3, .box 57 [.r 4, .r 5]), (4, .row 48 1 (([] : List (List Bool)).map eBs)), (5, .row 48 1 (([] : List (List Bool)).map eBs)), (6, .box 57 [.r 7, .r 8]), (7, .nest 48 4 1 ((rndK f x.2.1 (q + 1)).1.1.map (List.map eB)) none), (8, .nest 48 4 1 (((rndK f x.2.1 (q + 1)).1.2.set q (orJ (outJ f (rndK f x.2.1 (q + 1)).1.1 (rndK f x.2.1 (q + 1)).1.2 q m) ((rndK f x.2.1 (q + 1)).1.1.getD (((nextL f).getD q default).getD m default).toNat default) v)).map (List.map eB)) none), (9, .row 52 1 ((nextL f).map eIs))]⟩) (fun v => v ≤ f.regs.toNat) (fun v => f.regs.toNat - v) (0) (by exact Nat.zero_le _) ?_ (fun v hV => ?_)
    ·exact ⟨[(2, 2), (3, 3), (4, 4), (5, 5), (6, 6), (7, 7), (8, 8), (9, 9)], .same rfl rfl (.same rfl rfl (.eq rfl (.same rfl rfl (.same rfl rfl (.eq rfl (.eq rfl (.eq rfl (.eq rfl (.nil) (by rfl)) (by rfl)) (by rfl)) (by rfl)))) (by rfl))), .fzE rfl (.box (by rfl) (.box (by rfl) (.rowE rfl (.rowE rfl (.box (by rfl) (.nestE rfl (.nestE rfl (.rowE rfl (.nil) (by rfl)) (by rfl)) (by rfl))) (by rfl)) (by rfl)))) (by rfl), rfl⟩
    have hol := orJ_len (outJ f (rndK f x.2.1 (q + 1)).1.1 (rndK f x.2.1 (q + 1)).1.2 q m) ((rndK f x.2.1 (q + 1)).1.1.getD (((nextL f).getD q default).getD m default).toNat default) v
    have hod : ((((rndK f x.2.1 (q + 1)).1.2.set q (orJ (outJ f (rndK f x.2.1 (q + 1)).1.1 (rndK f x.2.1 (q + 1)).1.2 q m) ((rndK f x.2.1 (q + 1)).1.1.getD (((nextL f).getD q default).getD m default).toNat default) v))).getD q default).length = f.regs.toNat := by rw [getD_set_self (by omega)]; omega
    refine W_seq ?_
    refine W_seq ?_
    refine W_seqK (b' := 74) rfl rfl ?_
    refine q0 42 10 1 rfl rfl (T_move rfl rfl) rfl ?_
    refine q0 43 26 2 rfl rfl (T_fa D (m := 0) rfl rfl rfl rfl rfl rfl) rfl ?_
    refine q0 44 42 3 rfl rfl (T_load_b D rfl rfl rfl rfl rfl rfl) rfl ?_
    refine q0 45 58 4 rfl rfl (T_cmp rfl rfl rfl rfl) rfl ?_
    refine k_done rfl ?_
    refine thenK_n ?_
    refine W_cond rfl (fun g4 => ?_) (fun g4 => ?_)
    ·have h4 := c_lss_t g4
     refine W_skip ?_
     refine thenK_n ?_
     refine W_seq ?_
     refine W_block ?_
     refine W_open (i := 8) (j := q) (b' := 75) rfl (by (simp; omega)) rfl ?_
     refine W_anyC (b' := 587) rfl rfl rfl ?_
     refine q0 48 75 1 rfl rfl (T_fa D (m := 1) rfl rfl rfl rfl rfl rfl) rfl ?_
     refine q0 49 91 2 rfl rfl (T_load_b D rfl rfl rfl rfl rfl rfl) rfl ?_
     refine q0 50 107 3 rfl rfl (T_move rfl rfl) rfl ?_
     refine q0 51 123 4 rfl rfl (T_indexAddrM D rfl rfl rfl rfl rfl rfl rfl rfl (by (simp only [List.length_set]; omega))) rfl ?_
     refine q0 52 139 5 rfl rfl (T_ldN2 D rfl rfl rfl rfl rfl (by rfl)) rfl ?_
     refine q0 53 155 6 rfl rfl (T_move rfl rfl) rfl ?_
     refine q0 54 171 7 rfl rfl (T_fa D (m := 1) rfl rfl rfl rfl rfl rfl) rfl ?_
     refine q0 55 187 8 rfl rfl (T_load_b D rfl rfl rfl rfl rfl rfl) rfl ?_
     refine q0 56 203 9 rfl rfl (T_move rfl rfl) rfl ?_
     refine q0 57 219 10 rfl rfl (T_indexAddrM D rfl rfl rfl rfl rfl rfl rfl rfl (by (simp only [List.length_set]; omega))) rfl ?_
     refine q0 58 235 11 rfl rfl (T_ldN2 D rfl rfl rfl rfl rfl (by rfl)) rfl ?_
     refine q0 59 251 12 rfl rfl (T_move rfl rfl) rfl ?_
     refine q0 60 267 13 rfl rfl (T_indexAddr D rfl rfl rfl rfl rfl rfl rfl rfl (by omega)) rfl ?_
     refine q0 61 283 14 rfl rfl (T_ldE D (lv := .v _) (nn := 0) (upd := []) rfl rfl rfl rfl rfl (by omega) rfl rfl rfl rfl) rfl ?_
     refine q0 62 299 15 rfl rfl (T_move rfl rfl) rfl ?_
     refine k_split (d := 62) rfl (fun g5 => ?_) (fun g5 => ?_)
     ·have h5 := g5; (try simp only [cmpB, decide_eq_true_eq, decide_eq_false_iff_not, beq_iff_eq, beq_eq_false_iff_ne, bne_iff_ne, ne_eq, bne_eq_false_iff_eq, Bool.not_eq_true', Bool.not_eq_false', Int.not_lt, Int.not_le] at h5)
      refine k_no (d := 63) (j' := 16) rfl rfl rfl (g_ft rfl rfl rfl g5) ?_
      refine k_no (d := 64) (j' := 17) rfl rfl rfl (g_ft rfl rfl rfl g5) ?_
      refine k_no (d := 65) (j' := 18) rfl rfl rfl (g_ft rfl rfl rfl g5) ?_
      refine k_no (d := 66) (j' := 19) rfl rfl rfl (g_ft rfl rfl rfl g5) ?_
      refine k_no (d := 67) (j' := 20) rfl rfl rfl (g_ft rfl rfl rfl g5) ?_
      refine k_no (d := 68) (j' := 21) rfl rfl rfl (g_ft rfl rfl rfl g5) ?_
      refine k_no (d := 69) (j' := 22) rfl rfl rfl (g_ft rfl rfl rfl g5) ?_
      refine k_no (d := 70) (j' := 23) rfl rfl rfl (g_ft rfl rfl rfl g5) ?_
      refine k_no (d := 71) (j' := 24) rfl rfl rfl (g_ft rfl rfl rfl g5) ?_
      refine k_no (d := 72) (j' := 25) rfl rfl rfl (g_ft rfl rfl rfl g5) ?_
      refine k_no (d := 73) (j' := 26) rfl rfl rfl (g_ft rfl rfl rfl g5) ?_
      refine k_no (d := 74) (j' := 27) rfl rfl rfl (g_ft rfl rfl rfl g5) ?_
      refine k_no (d := 75) (j' := 28) rfl rfl rfl (g_ft rfl rfl rfl g5) ?_
      refine k_no (d := 76) (j' := 29) rfl rfl rfl (g_ft rfl rfl rfl g5) ?_
      refine q0 77 539 30 rfl rfl (T_pick_t rfl rfl rfl g5) rfl ?_
      refine q0 78 555 31 rfl rfl (T_indexAddr D rfl rfl rfl rfl rfl rfl rfl rfl (by omega)) rfl ?_
      refine s1 571 32 rfl rfl (T_store_e D (z := _) rfl rfl rfl rfl (flat_v rfl) rfl rfl (by omega) (.v rfl (.nil)) rfl (Nat.le_of_ble_eq_true rfl) rfl) rfl ?_
      refine k_done rfl ?_
      refine ⟨rfl, ?_⟩
      refine ⟨_, .step (i := 8) (q := 74) rfl rfl (.refl), ?_⟩
      refine blockK_n ?_
      refine thenK_n ?_
      refine W_seqK (b' := 635) rfl rfl ?_
      refine q0 46 587 1 rfl rfl (T_move rfl rfl) rfl ?_
      refine q0 47 603 2 rfl rfl (T_add64 rfl rfl rfl (by omega)) rfl ?_
      refine q0 9 619 3 rfl rfl (T_assign rfl rfl) rfl ?_
      refine k_done rfl ?_
      refine thenK_n ?_
      refine ⟨v + 1, by (try dsimp only); omega, by (try dsimp only); omega, ?_⟩
      exact ⟨[(2, 2), (3, 3), (4, 4), (5, 5), (6, 6), (7, 7), (8, 8), (9, 9)], .same rfl rfl (.same rfl rfl (.eq rfl (.same rfl rfl (.same rfl rfl (.eq rfl (.eq rfl (.eq rfl (.eq rfl (.nil) (by rfl)) rfl) rfl) rfl))) rfl)), .fzE rfl (.box (by rfl) (.box (by rfl) (.rowE rfl (.rowE rfl (.box (by rfl) (.nestE rfl (.nestE rfl (.rowE rfl (.nil) (by rfl)) (by (exact congrArg (List.map (List.map eB)) (or_round_t (by omega) (by assumption))))) (by rfl))) (by rfl)) (by rfl)))) rfl, rfl⟩
     ·have h5 := g5; (try simp only [cmpB, decide_eq_true_eq, decide_eq_false_iff_not, beq_iff_eq, beq_eq_false_iff_ne, bne_iff_ne, ne_eq, bne_eq_false_iff_eq, Bool.not_eq_true', Bool.not_eq_false', Int.not_lt, Int.not_le] at h5)
      refine k_op0 (d := 63) (b := 315) (j' := 16) rfl rfl rfl rfl (g_ff rfl rfl rfl g5) (T_fa D (m := 0) rfl rfl rfl rfl rfl rfl) rfl ?_
      refine k_op0 (d := 64) (b := 331) (j' := 17) rfl rfl rfl rfl (g_ff rfl rfl rfl g5) (T_load_b D rfl rfl rfl rfl rfl rfl) rfl ?_
      refine k_op0 (d := 65) (b := 347) (j' := 18) rfl rfl rfl rfl (g_ff rfl rfl rfl g5) (T_move rfl rfl) rfl ?_
      refine k_op0 (d := 66) (b := 363) (j' := 19) rfl rfl rfl rfl (g_ff rfl rfl rfl g5) (T_move rfl rfl) rfl ?_
      refine k_op0 (d := 67) (b := 379) (j' := 20) rfl rfl rfl rfl (g_ff rfl rfl rfl g5) (T_indexAddr D rfl rfl rfl rfl rfl rfl rfl rfl (by omega)) rfl ?_
      refine k_op1 (d := 68) (b := 395) (j' := 21) rfl rfl rfl rfl (g_ff rfl rfl rfl g5) (T_ldE D (lv := .r 395) (nn := 1) (upd := [(395, .fz 1 _)]) rfl rfl rfl rfl rfl (by omega) rfl rfl rfl rfl) rfl ?_
      refine k_op0 (d := 69) (b := 411) (j' := 22) rfl rfl rfl rfl (g_ff rfl rfl rfl g5) (T_move rfl rfl) rfl ?_
      refine k_op0 (d := 70) (b := 427) (j' := 23) rfl rfl rfl rfl (g_ff rfl rfl rfl g5) (T_indexAddr D rfl rfl rfl rfl rfl rfl rfl rfl (by omega)) rfl ?_
      refine k_op0 (d := 71) (b := 443) (j' := 24) rfl rfl rfl rfl (g_ff rfl rfl rfl g5) (T_ldE D (lv := .v _) (nn := 0) (upd := []) rfl rfl rfl rfl rfl (by omega) rfl rfl rfl rfl) rfl ?_
      refine k_op0 (d := 72) (b := 459) (j' := 25) rfl rfl rfl rfl (g_ff rfl rfl rfl g5) (T_indexAddrN D rfl rfl rfl rfl rfl rfl rfl rfl (by omega) (by omega)) rfl ?_
      refine k_opn (d := 73) (b := 475) (j' := 26) rfl rfl rfl rfl (g_ff rfl rfl rfl g5) (T_ldN D rfl rfl rfl rfl rfl (by omega)) rfl ?_
      refine k_op0 (d := 74) (b := 491) (j' := 27) rfl rfl rfl rfl (g_ff rfl rfl rfl g5) (T_move rfl rfl) rfl ?_
      refine k_op0 (d := 75) (b := 507) (j' := 28) rfl rfl rfl rfl (g_ff rfl rfl rfl g5) (T_indexAddr D rfl rfl rfl rfl rfl rfl rfl rfl (by omega)) rfl ?_
      refine k_op0 (d := 76) (b := 523) (j' := 29) rfl rfl rfl rfl (g_ff rfl rfl rfl g5) (T_ldE D (lv := .v _) (nn := 0) (upd := []) rfl rfl rfl rfl rfl (by omega) rfl rfl rfl rfl) rfl ?_
      refine q0 77 539 30 rfl rfl (T_pick_f rfl rfl rfl g5) rfl ?_
      refine q0 78 555 31 rfl rfl (T_indexAddr D rfl rfl rfl rfl rfl rfl rfl rfl (by omega)) rfl ?_
      refine s1 571 32 rfl rfl (T_store_e D (z := _) rfl rfl rfl rfl (flat_v rfl) rfl rfl (by omega) (.v rfl (.nil)) rfl (Nat.le_of_ble_eq_true rfl) rfl) rfl ?_
      refine k_done rfl ?_
      refine ⟨rfl, ?_⟩
      refine ⟨_, .step (i := 7) (q := 475) rfl rfl (.step (i := 8) (q := 74) rfl rfl (.refl)), ?_⟩
      refine blockK_n ?_
      refine thenK_n ?_
      refine W_seqK (b' := 635) rfl rfl ?_
      refine q0 46 587 1 rfl rfl (T_move rfl rfl) rfl ?_
      refine q0 47 603 2 rfl rfl (T_add64 rfl rfl rfl (by omega)) rfl ?_
      refine q0 9 619 3 rfl rfl (T_assign rfl rfl) rfl ?_
      refine k_done rfl ?_
      refine thenK_n ?_
      refine ⟨v + 1, by (try dsimp only); omega, by (try dsimp only); omega, ?_⟩
      exact ⟨[(2, 2), (3, 3), (4, 4), (5, 5), (6, 6), (7, 7), (8, 8), (9, 9)], .same rfl rfl (.same rfl rfl (.eq rfl (.same rfl rfl (.same rfl rfl (.eq rfl (.eq rfl (.eq rfl (.eq rfl (.nil) (by rfl)) rfl) rfl) rfl))) rfl)), .fzE rfl (.box (by rfl) (.box (by rfl) (.rowE rfl (.rowE rfl (.box (by rfl) (.nestE rfl (.nestE rfl (.rowE rfl (.nil) (by rfl)) (by (exact congrArg (List.map (List.map eB)) (or_round_f (by omega) (by assumption))))) (by (exact congrArg (List.map (List.map eB)) (set_self (by have := hm (by omega); omega)))))) (by rfl)) (by rfl)))) rfl, rfl⟩
    ·have h4 := c_lss_f g4
     refine W_exit ?_
     refine thenK_e ?_
     refine thenK_e ?_
     refine blockK_hit ?_
     refine blockK_n ?_
     refine thenK_n ?_
     refine W_seqK (b' := 122) rfl rfl ?_
     refine q0 40 74 1 rfl rfl (T_move rfl rfl) rfl ?_
     refine q0 41 90 2 rfl rfl (T_add64 rfl rfl rfl (by omega)) rfl ?_
     refine q0 8 106 3 rfl rfl (T_assign rfl rfl) rfl ?_
     refine k_done rfl ?_
     refine thenK_n ?_
     refine ⟨m + 1, by (try dsimp only); omega, by (try dsimp only); omega, ?_⟩
     exact ⟨[(2, 2), (3, 3), (4, 4), (5, 5), (6, 6), (7, 7), (8, 8), (9, 9)], .same rfl rfl (.same rfl rfl (.eq rfl (.same rfl rfl (.same rfl rfl (.eq rfl (.eq rfl (.eq rfl (.nil) (by rfl)) rfl) rfl))) rfl)), .fzE rfl (.box (by rfl) (.box (by rfl) (.rowE rfl (.rowE rfl (.box (by rfl) (.nestE rfl (.nestE rfl (.rowE rfl (.nil) (by rfl)) (by (exact congrArg (List.map (List.map eB)) (or_fin (m := m) (v := v) (by omega) (by omega) (by have q2 := hR.i.at (k := (((nextL f).getD q default).getD m default).toNat) (by have := hm (by omega); omega); omega))))) (by rfl))) (by rfl)) (by rfl)))) rfl, rfl⟩
   ·have h3 := c_lss_f g3
    refine W_exit ?_
    refine thenK_e ?_
    refine thenK_e ?_
    refine blockK_hit ?_
    refine thenK_n ?_
    refine W_seq ?_
    refine W_anyC (b' := 314) rfl rfl rfl ?_
    refine q0 79 122 1 rfl rfl (T_fa D (m := 1) rfl rfl rfl rfl rfl rfl) rfl ?_
    refine q0 80 138 2 rfl rfl (T_load_b D rfl rfl rfl rfl rfl rfl) rfl ?_
    refine q0 81 154 3 rfl rfl (T_move rfl rfl) rfl ?_
    refine q0 82 170 4 rfl rfl (T_indexAddr D rfl rfl rfl rfl rfl rfl rfl rfl (by assumption)) rfl ?_
    refine q1 83 186 5 rfl rfl (T_ldEA D (l := [.r 186, .v _, .v _, .v _, .v _]) (nn := 1) (upd := [(186, .fz 8 _)]) rfl rfl rfl rfl rfl (by assumption) rfl rfl rfl rfl rfl) rfl ?_
    refine q0 84 202 6 rfl rfl (T_fa D (m := 1) rfl rfl rfl rfl rfl rfl) rfl ?_
    refine q0 85 218 7 rfl rfl (T_load_b D rfl rfl rfl rfl rfl rfl) rfl ?_
    refine q0 86 234 8 rfl rfl (T_move rfl rfl) rfl ?_
    refine q0 87 250 9 rfl rfl (T_indexAddrM D rfl rfl rfl rfl rfl rfl rfl rfl (by (simp only [List.length_set]; omega))) rfl ?_
    refine qn 88 266 10 rfl rfl (T_ldN D rfl rfl rfl rfl rfl (by (simp only [List.length_set]; omega))) rfl ?_
    refine q1 89 282 11 rfl rfl (T_callR (lvs := [_, _]) (L := [(1, 186), (2, 266)]) (keep := true) (rahead_spec (f.blocks.getD q default) (((rndK f x.2.1 (q + 1)).1.2.set q (outJ f (rndK f x.2.1 (q + 1)).1.1 (rndK f x.2.1 (q + 1)).1.2 q m)).getD q default) (by have q1 := (hO m).at (k := q) (by omega); omega) (by have := hF.ins _ (getD_mem (by omega : q < f.blocks.length)); omega) (by rw [(hO m).at (k := q) (by omega)]; exact hF.ok _ (getD_mem (by omega)))) body81 rfl rfl rfl rfl (.fz rfl (.lend rfl (.nil))) rfl (.inr (flat_eB _)) rfl) rfl ?_
    refine q0 10 298 12 rfl rfl (T_assign rfl rfl) rfl ?_
    refine k_done rfl ?_
    refine ⟨rfl, ?_⟩
    refine ⟨_, .step (i := 8) (q := 266) rfl rfl (.refl), ?_⟩
    refine thenK_n ?_
    refine W_seq ?_
    refine W_seqK (b' := 330) rfl rfl ?_
    refine q0 11 314 1 rfl rfl (T_assign rfl rfl) rfl ?_
    refine k_done rfl ?_
    refine thenK_n ?_
    refine W_block ?_
    have hTl : (thrS (f.blocks.getD q default) (((rndK f x.2.1 (q + 1)).1.2.set q (outJ f (rndK f x.2.1 (q + 1)).1.1 (rndK f x.2.1 (q + 1)).1.2 q m)).getD q default)).length = f.regs.toNat := by rw [thrS_len]; exact hOm
    refine W_loop (ι := Nat) 11 (fun v => ⟨[(1, .p 2 0), (2, .p 3 0), (3, .v (.int .i64 (f.blocks.length : Int))), (4, .p 6 0), (5, .r 9), (6, .v (.bool ((addJ ((rndK f x.2.1 (q + 1)).1.1.getD q default) (thrS (f.blocks.getD q default) (((rndK f x.2.1 (q + 1)).1.2.set q (outJ f (rndK f x.2.1 (q + 1)).1.1 (rndK f x.2.1 (q + 1)).1.2 q m)).getD q default)) v).2 || (rndK f x.2.1 (q + 1)).2))), (7, .v (.int .i64 (q : Int))), (10, .r 10), (11, .v (.int .i64 (v : Int)))], [(1, .fz 5 (f.blocks.map eBlock)), (2, .box 29 [.v (.int .i64 f.regs), .r 1]), (3, .box 57 [.r 4, .r 5]), (4, .row 48 1 (([] : List (List Bool)).map eBs)), (5, .row 48 1 (([] : List (List Bool)).map eBs)), (6, .box 57 [.r 7, .r 8]), (7, .nest 48 4 1 (((rndK f x.2.1 (q + 1)).1.1.set q (addJ ((rndK f x.2.1 (q + 1)).1.1.getD q default) (thrS (f.blocks.getD q default) (((rndK f x.2.1 (q + 1)).1.2.set q (outJ f (rndK f x.2.1 (q + 1)).1.1 (rndK f x.2.1 (q + 1)).1.2 q m)).getD q default)) v).1).map (List.map eB)) none), (8, .nest 48 4 1 (((rndK f x.2.1 (q + 1)).1.2.set q (outJ f (rndK f x.2.1 (q + 1)).1.1 (rndK f x.2.1 (q + 1)).1.2 q m)).map (List.map eB)) none), (9, .row 52 1 ((nextL f).map eIs)), (10, .row 4 1 ((thrS (f.blocks.getD q default) (((rndK f x.2.1 (q + 1)).1.2.set q (outJ f (rndK f x.2.1 (q + 1)).1.1 (rndK f x.2.1 (q + 1)).1.2 q m)).getD q default)).map eB))]⟩) (fun v => v ≤ f.regs.toNat) (fun v => f.regs.toNat - v) (0) (by exact Nat.zero_le _) ?_ (fun v hV => ?_)
    ·exact ⟨[(2, 2), (3, 3), (4, 4), (5, 5), (6, 6), (7, 7), (8, 8), (9, 9), (10, 282)], .same rfl rfl (.same rfl rfl (.eq rfl (.same rfl rfl (.same rfl rfl (.eq rfl (.eq rfl (.same rfl rfl (.eq rfl (.nil) (by rfl))) (by rfl)) (by rfl)))) (by rfl))), .fzE rfl (.box (by rfl) (.box (by rfl) (.rowE rfl (.rowE rfl (.box (by rfl) (.nestE rfl (.nestE rfl (.rowE rfl (.rowE rfl (.nil) (by rfl)) (by rfl)) (by (exact congrArg (List.map (List.map eB)) (set_self (by simp; omega))))) (by (exact congrArg (List.map (List.map eB)) ((set_self (by omega)).symm))))) (by rfl)) (by rfl)))) (by rfl), rfl⟩
    have hal := addJ_len ((rndK f x.2.1 (q + 1)).1.1.getD q default) (thrS (f.blocks.getD q default) (((rndK f x.2.1 (q + 1)).1.2.set q (outJ f (rndK f x.2.1 (q + 1)).1.1 (rndK f x.2.1 (q + 1)).1.2 q m)).getD q default)) v
    have hil := hR.i.at (k := q) (by omega)
    have had : (((rndK f x.2.1 (q + 1)).1.1.set q (addJ ((rndK f x.2.1 (q + 1)).1.1.getD q default) (thrS (f.blocks.getD q default) (((rndK f x.2.1 (q + 1)).1.2.set q (outJ f (rndK f x.2.1 (q + 1)).1.1 (rndK f x.2.1 (q + 1)).1.2 q m)).getD q default)) v).1).getD q default).length = f.regs.toNat := by rw [getD_set_self (by omega)]; omega
    have had2 : ((((rndK f x.2.1 (q + 1)).1.1.set q (addJ ((rndK f x.2.1 (q + 1)).1.1.getD q default) (thrS (f.blocks.getD q default) (((rndK f x.2.1 (q + 1)).1.2.set q (outJ f (rndK f x.2.1 (q + 1)).1.1 (rndK f x.2.1 (q + 1)).1.2 q m)).getD q default)) v).1).set q (((rndK f x.2.1 (q + 1)).1.1.set q (addJ ((rndK f x.2.1 (q + 1)).1.1.getD q default) (thrS (f.blocks.getD q default) (((rndK f x.2.1 (q + 1)).1.2.set q (outJ f (rndK f x.2.1 (q + 1)).1.1 (rndK f x.2.1 (q + 1)).1.2 q m)).getD q default)) v).1).getD q default)).getD q default).length = f.regs.toNat := by rw [getD_set_self (by simp; omega)]; exact had
    refine W_seq ?_
    refine W_seq ?_
    refine W_seqK (b' := 75) rfl rfl ?_
    refine q0 90 11 1 rfl rfl (T_move rfl rfl) rfl ?_
    refine q0 91 27 2 rfl rfl (T_fa D (m := 0) rfl rfl rfl rfl rfl rfl) rfl ?_
    refine q0 92 43 3 rfl rfl (T_load_b D rfl rfl rfl rfl rfl rfl) rfl ?_
    refine q0 93 59 4 rfl rfl (T_cmp rfl rfl rfl rfl) rfl ?_
    refine k_done rfl ?_
    refine thenK_n ?_
    refine W_cond rfl (fun g6 => ?_) (fun g6 => ?_)
    ·have h6 := c_lss_t g6
     refine W_skip ?_
     refine thenK_n ?_
     refine W_seq ?_
     refine W_block ?_
     refine W_seq ?_
     refine W_seqC (b' := 315) rfl rfl ?_
     refine q0 96 75 1 rfl rfl (T_move rfl rfl) rfl ?_
     refine q0 97 91 2 rfl rfl (T_move rfl rfl) rfl ?_
     refine q0 98 107 3 rfl rfl (T_indexAddr D rfl rfl rfl rfl rfl rfl rfl rfl (by omega)) rfl ?_
     refine q0 99 123 4 rfl rfl (T_ldE D (lv := .v _) (nn := 0) (upd := []) rfl rfl rfl rfl rfl (by omega) rfl rfl rfl rfl) rfl ?_
     refine q0 100 139 5 rfl rfl (T_move rfl rfl) rfl ?_
     refine k_split (d := 100) rfl (fun g7 => ?_) (fun g7 => ?_)
     ·have h7 := g7; (try simp only [cmpB, decide_eq_true_eq, decide_eq_false_iff_not, beq_iff_eq, beq_eq_false_iff_ne, bne_iff_ne, ne_eq, bne_eq_false_iff_eq, Bool.not_eq_true', Bool.not_eq_false', Int.not_lt, Int.not_le] at h7)
      refine k_op0 (d := 101) (b := 155) (j' := 6) rfl rfl rfl rfl (g_tt rfl rfl rfl g7) (T_fa D (m := 0) rfl rfl rfl rfl rfl rfl) rfl ?_
      refine k_op0 (d := 102) (b := 171) (j' := 7) rfl rfl rfl rfl (g_tt rfl rfl rfl g7) (T_load_b D rfl rfl rfl rfl rfl rfl) rfl ?_
      refine k_op0 (d := 103) (b := 187) (j' := 8) rfl rfl rfl rfl (g_tt rfl rfl rfl g7) (T_move rfl rfl) rfl ?_
      refine k_op0 (d := 104) (b := 203) (j' := 9) rfl rfl rfl rfl (g_tt rfl rfl rfl g7) (T_indexAddrM D rfl rfl rfl rfl rfl rfl rfl rfl (by (simp only [List.length_set]; omega))) rfl ?_
      refine k_opn (d := 105) (b := 219) (j' := 10) rfl rfl rfl rfl (g_tt rfl rfl rfl g7) (T_ldN D rfl rfl rfl rfl rfl (by (simp only [List.length_set]; omega))) rfl ?_
      refine k_op0 (d := 106) (b := 235) (j' := 11) rfl rfl rfl rfl (g_tt rfl rfl rfl g7) (T_move rfl rfl) rfl ?_
      refine k_op0 (d := 107) (b := 251) (j' := 12) rfl rfl rfl rfl (g_tt rfl rfl rfl g7) (T_indexAddr D rfl rfl rfl rfl rfl rfl rfl rfl (by omega)) rfl ?_
      refine k_op0 (d := 108) (b := 267) (j' := 13) rfl rfl rfl rfl (g_tt rfl rfl rfl g7) (T_ldE D (lv := .v _) (nn := 0) (upd := []) rfl rfl rfl rfl rfl (by omega) rfl rfl rfl rfl) rfl ?_
      refine k_op0 (d := 109) (b := 283) (j' := 14) rfl rfl rfl rfl (g_tt rfl rfl rfl g7) (T_not rfl rfl) rfl ?_
      refine q0 110 299 15 rfl rfl (T_pick_t rfl rfl rfl g7) rfl ?_
      refine k_done rfl ?_
      refine ⟨_, .step (i := 7) (q := 219) rfl rfl (.refl), ?_⟩
      refine thenK_n ?_
      refine W_cond rfl (fun g8 => ?_) (fun g8 => ?_)
      ·have h8 := g8; (try simp only [cmpB, decide_eq_true_eq, decide_eq_false_iff_not, beq_iff_eq, beq_eq_false_iff_ne, bne_iff_ne, ne_eq, bne_eq_false_iff_eq, Bool.not_eq_true', Bool.not_eq_false', Int.not_lt, Int.not_le] at h8)
       refine W_seq ?_
       refine W_seqC (b' := 443) rfl rfl ?_
       refine q0 111 315 1 rfl rfl (T_fa D (m := 0) rfl rfl rfl rfl rfl rfl) rfl ?_
       refine q0 112 331 2 rfl rfl (T_load_b D rfl rfl rfl rfl rfl rfl) rfl ?_
       refine q0 113 347 3 rfl rfl (T_move rfl rfl) rfl ?_
       refine q0 114 363 4 rfl rfl (T_indexAddrM D rfl rfl rfl rfl rfl rfl rfl rfl (by (simp only [List.length_set]; omega))) rfl ?_
       refine qn 115 379 5 rfl rfl (T_ldN D rfl rfl rfl rfl rfl (by (simp only [List.length_set]; omega))) rfl ?_
       refine q0 116 395 6 rfl rfl (T_move rfl rfl) rfl ?_
       refine q0 117 411 7 rfl rfl (T_indexAddr D rfl rfl rfl rfl rfl rfl rfl rfl (by omega)) rfl ?_
       refine s1 427 8 rfl rfl (T_store_e D (z := _) rfl rfl rfl rfl (flat_v rfl) rfl rfl (by omega) (.v rfl (.nil)) rfl (Nat.le_of_ble_eq_true rfl) rfl) rfl ?_
       refine k_done rfl ?_
       refine ⟨_, .step (i := 7) (q := 379) rfl rfl (.refl), ?_⟩
       refine thenK_n ?_
       refine W_seqK (b' := 459) rfl rfl ?_
       refine q0 6 443 1 rfl rfl (T_assign rfl rfl) rfl ?_
       refine k_done rfl ?_
       refine blockK_n ?_
       refine thenK_n ?_
       refine W_seqK (b' := 507) rfl rfl ?_
       refine q0 94 459 1 rfl rfl (T_move rfl rfl) rfl ?_
       refine q0 95 475 2 rfl rfl (T_add64 rfl rfl rfl (by omega)) rfl ?_
       refine q0 11 491 3 rfl rfl (T_assign rfl rfl) rfl ?_
       refine k_done rfl ?_
       refine thenK_n ?_
       refine ⟨v + 1, by (try dsimp only); omega, by (try dsimp only); omega, ?_⟩
       exact ⟨[(2, 2), (3, 3), (4, 4), (5, 5), (6, 6), (7, 7), (8, 8), (9, 9), (10, 10)], .same rfl rfl (.same rfl rfl (.eq rfl (.same rfl rfl (.same rfl rfl (.eq rfl (.eq rfl (.same rfl rfl (.eq rfl (.nil) (by rfl))) rfl) (by (rw [fl_yes (o := (rndK f x.2.1 (q + 1)).1.1) (q := q) (by omega) (by assumption) (by assumption)]; done))))) rfl)), .fzE rfl (.box (by rfl) (.box (by rfl) (.rowE rfl (.rowE rfl (.box (by rfl) (.nestE rfl (.nestE rfl (.rowE rfl (.rowE rfl (.nil) (by rfl)) (by rfl)) (by rfl)) (by (exact congrArg (List.map (List.map eB)) (in_yes (by omega) (by assumption) (by assumption)))))) (by rfl)) (by rfl)))) rfl, rfl⟩
      ·have h8 := g8; (try simp only [cmpB, decide_eq_true_eq, decide_eq_false_iff_not, beq_iff_eq, beq_eq_false_iff_ne, bne_iff_ne, ne_eq, bne_eq_false_iff_eq, Bool.not_eq_true', Bool.not_eq_false', Int.not_lt, Int.not_le] at h8)
       refine W_skip ?_
       refine blockK_n ?_
       refine thenK_n ?_
       refine W_seqK (b' := 363) rfl rfl ?_
       refine q0 94 315 1 rfl rfl (T_move rfl rfl) rfl ?_
       refine q0 95 331 2 rfl rfl (T_add64 rfl rfl rfl (by omega)) rfl ?_
       refine q0 11 347 3 rfl rfl (T_assign rfl rfl) rfl ?_
       refine k_done rfl ?_
       refine thenK_n ?_
       refine ⟨v + 1, by (try dsimp only); omega, by (try dsimp only); omega, ?_⟩
       exact ⟨[(2, 2), (3, 3), (4, 4), (5, 5), (6, 6), (7, 7), (8, 8), (9, 9), (10, 10)], .same rfl rfl (.same rfl rfl (.eq rfl (.same rfl rfl (.same rfl rfl (.eq rfl (.eq rfl (.same rfl rfl (.eq rfl (.nil) (by rfl))) rfl) (by (rw [fl_no2 (o := (rndK f x.2.1 (q + 1)).1.1) (q := q) (by omega) (by assumption)]; done))))) rfl)), .fzE rfl (.box (by rfl) (.box (by rfl) (.rowE rfl (.rowE rfl (.box (by rfl) (.nestE rfl (.nestE rfl (.rowE rfl (.rowE rfl (.nil) (by rfl)) (by rfl)) (by rfl)) (by (exact congrArg (List.map (List.map eB)) (in_no2 (by omega) (by assumption)))))) (by rfl)) (by rfl)))) rfl, rfl⟩
     ·have h7 := g7; (try simp only [cmpB, decide_eq_true_eq, decide_eq_false_iff_not, beq_iff_eq, beq_eq_false_iff_ne, bne_iff_ne, ne_eq, bne_eq_false_iff_eq, Bool.not_eq_true', Bool.not_eq_false', Int.not_lt, Int.not_le] at h7)
      refine k_no (d := 101) (j' := 6) rfl rfl rfl (g_tf rfl rfl rfl g7) ?_
      refine k_no (d := 102) (j' := 7) rfl rfl rfl (g_tf rfl rfl rfl g7) ?_
      refine k_no (d := 103) (j' := 8) rfl rfl rfl (g_tf rfl rfl rfl g7) ?_
      refine k_no (d := 104) (j' := 9) rfl rfl rfl (g_tf rfl rfl rfl g7) ?_
      refine k_no (d := 105) (j' := 10) rfl rfl rfl (g_tf rfl rfl rfl g7) ?_
      refine k_no (d := 106) (j' := 11) rfl rfl rfl (g_tf rfl rfl rfl g7) ?_
      refine k_no (d := 107) (j' := 12) rfl rfl rfl (g_tf rfl rfl rfl g7) ?_
      refine k_no (d := 108) (j' := 13) rfl rfl rfl (g_tf rfl rfl rfl g7) ?_
      refine k_no (d := 109) (j' := 14) rfl rfl rfl (g_tf rfl rfl rfl g7) ?_
      refine q0 110 299 15 rfl rfl (T_pick_f rfl rfl rfl g7) rfl ?_
      refine k_done rfl ?_
      refine ⟨_, .refl, ?_⟩
      refine thenK_n ?_
      refine W_cond rfl (fun g9 => ?_) (fun g9 => ?_)
      ·exact absurd (g9.symm.trans rfl) (by decide)
      ·skip
       refine W_skip ?_
       refine blockK_n ?_
       refine thenK_n ?_
       refine W_seqK (b' := 363) rfl rfl ?_
       refine q0 94 315 1 rfl rfl (T_move rfl rfl) rfl ?_
       refine q0 95 331 2 rfl rfl (T_add64 rfl rfl rfl (by omega)) rfl ?_
       refine q0 11 347 3 rfl rfl (T_assign rfl rfl) rfl ?_
       refine k_done rfl ?_
       refine thenK_n ?_
       refine ⟨v + 1, by (try dsimp only); omega, by (try dsimp only); omega, ?_⟩
       exact ⟨[(2, 2), (3, 3), (4, 4), (5, 5), (6, 6), (7, 7), (8, 8), (9, 9), (10, 10)], .same rfl rfl (.same rfl rfl (.eq rfl (.same rfl rfl (.same rfl rfl (.eq rfl (.eq rfl (.same rfl rfl (.eq rfl (.nil) (by rfl))) rfl) (by (rw [fl_no1 (by assumption)]; done))))) rfl)), .fzE rfl (.box (by rfl) (.box (by rfl) (.rowE rfl (.rowE rfl (.box (by rfl) (.nestE rfl (.nestE rfl (.rowE rfl (.rowE rfl (.nil) (by rfl)) (by rfl)) (by rfl)) (by (exact congrArg (List.map (List.map eB)) (in_no1 (by assumption)))))) (by rfl)) (by rfl)))) rfl, rfl⟩
    ·have h6 := c_lss_f g6
     refine W_exit ?_
     refine thenK_e ?_
     refine thenK_e ?_
     refine blockK_hit ?_
     refine blockK_n ?_
     refine thenK_n ?_
     refine W_seqK (b' := 123) rfl rfl ?_
     refine q0 31 75 1 rfl rfl (T_move rfl rfl) rfl ?_
     refine q0 32 91 2 rfl rfl (T_sub64 rfl rfl rfl (by omega)) rfl ?_
     refine q0 7 107 3 rfl rfl (T_assign rfl rfl) rfl ?_
     refine k_done rfl ?_
     refine thenK_n ?_
     refine ⟨q, by (try dsimp only); omega, by (try dsimp only); omega, ?_⟩
     exact ⟨[(2, 2), (3, 3), (4, 4), (5, 5), (6, 6), (7, 7), (8, 8), (9, 9)], .same rfl rfl (.same rfl rfl (.eq rfl (.same rfl rfl (.same rfl rfl (.eq rfl (.eq rfl (.nil) (by rfl)) (by (rw [fl_fin (q := q) (x := x.2.1) (m := m) (v := v) (by omega) (by omega) (by omega) (by rw [thrS_len]; omega)]; done))))) rfl)), .fzE rfl (.box (by rfl) (.box (by rfl) (.rowE rfl (.rowE rfl (.box (by rfl) (.nestE rfl (.nestE rfl (.rowE rfl (.nil) (by rfl)) (by (exact congrArg (List.map (List.map eB)) (out_fin (m := m) (by omega) (by omega))))) (by (exact congrArg (List.map (List.map eB)) (in_fin (m := m) (v := v) (by omega) (by omega) (by omega) (by rw [thrS_len]; omega)))))) (by rfl)) (by rfl)))) rfl, rfl⟩
  ·have h2 := c_geq_f g2
   refine W_exit ?_
   refine thenK_e ?_
   refine thenK_e ?_
   refine blockK_hit ?_
   refine blockK_n ?_
   refine thenK_n ?_
   refine ⟨(x.1 - 1, (rndK f x.2.1 0).1, (rndK f x.2.1 0).2), by (try dsimp only); (have e : k = 0 := (by omega); subst e; exact hX.round (by assumption)), by (try dsimp only); exact hX.mu (by assumption), ?_⟩
   exact ⟨[(2, 2), (3, 3), (4, 4), (5, 5), (6, 6), (7, 7), (8, 8), (9, 9)], .same rfl rfl (.same rfl rfl (.eq rfl (.same rfl rfl (.same rfl rfl (.eq rfl (.nil) (by (have e : k = 0 := (by omega); subst e; rfl))))) rfl)), .fzE rfl (.box (by rfl) (.box (by rfl) (.rowE rfl (.rowE rfl (.box (by rfl) (.nestE rfl (.nestE rfl (.rowE rfl (.nil) (by rfl)) (by (have e : k = 0 := (by omega); subst e; rfl))) (by (have e : k = 0 := (by omega); subst e; rfl)))) (by rfl)) (by rfl)))) rfl, rfl⟩
 ·have h1 := g1; (try simp only [cmpB, decide_eq_true_eq, decide_eq_false_iff_not, beq_iff_eq, beq_eq_false_iff_ne, bne_iff_ne, ne_eq, bne_eq_false_iff_eq, Bool.not_eq_true', Bool.not_eq_false', Int.not_lt, Int.not_le] at h1)
  refine W_exit ?_
  refine thenK_e ?_
  refine thenK_e ?_
  refine blockK_hit ?_
  refine thenK_n ?_
  refine W_seq ?_
  refine W_seqK (b' := 58) rfl rfl ?_
  refine q0 118 26 1 rfl rfl (T_load_bA D (l := [_, _]) rfl rfl rfl rfl rfl rfl rfl) rfl ?_
  refine s1 42 2 rfl rfl (T_stB D (cs' := [_, _]) rfl rfl rfl rfl flat_agg rfl rfl (Nat.le_of_ble_eq_true rfl) rfl) rfl ?_
  refine k_done rfl ?_
  refine thenK_n ?_
  refine W_ret ?_
  exact .mk [(2, 7), (3, 8)] (.inr rfl) (.cellA rfl rfl rfl rfl rfl (.nil)) (by rfl) (.lendNE rfl (.lendNE rfl (.nil) (by (rw [hX.fin (by assumption)]; exact nestRows_eBs _))) (by (rw [hX.fin (by assumption)]; exact nestRows_eBs _))) rfl
end Lg
end Go.Proofs.Ytpfhmodjjljpjaa

namespace Go.Proofs.Ytpfhmodjjljpjaa
open Go.RowKit
namespace Lg
set_option linter.unusedSimpArgs false
set_option linter.unusedVariables false
theorem withinB_iff {i n : Int} : withinB i n = true ↔ 0 ≤ i ∧ i < n := by unfold withinB; simp
theorem one_all {f : GFn} {i w : Int} (h : oneB f i w = true) : (0 ≤ f.regs ∧ f.regs ≤ 4000 ∧ f.blocks ≠ []) ∧ ∀ b ∈ f.blocks, endsB b f.blocks.length f.regs = true ∧ ∀ t ∈ b.ins, FitsP t i f.regs w := by
  unfold oneB at h
  simp only [Bool.and_eq_true, decide_eq_true_eq, List.all_eq_true] at h
  refine ⟨h.1, fun b hb => ?_⟩
  have h1 := h.2 b hb
  unfold blockB at h1
  simp only [Bool.and_eq_true, List.all_eq_true] at h1
  exact ⟨h1.1, fun t ht => of_decide_eq_true (h1.2 t ht)⟩
theorem tok_of {t : GTac} {i r w : Int} (h : FitsP t i r w) (hr : 0 ≤ r) : TOk r.toNat t := by
  refine ⟨fun hs => ?_, fun u hu => ?_⟩
  · have h1 := setsT_ge hs
    have h2 := withinB_iff.1 (h.2.1 h1)
    unfold setsT
    rw [if_pos h1]; omega
  · have h2 := withinB_iff.1 (h.2.2.1 u hu)
    omega
theorem follows_in {b : GBlock} {n r : Int} (h : endsB b n r = true) : (∀ x ∈ follows b, 0 ≤ x ∧ x < n) ∧ (b.fin = 2 → 0 ≤ b.v ∧ b.v < r) ∧ (b.fin = 1 ∨ b.fin = 2 ∨ b.fin = 3) := by
  unfold endsB at h
  unfold follows
  by_cases h1 : b.fin = 1
  · rw [if_pos h1] at h ⊢
    simp only [Bool.and_eq_true] at h
    exact ⟨fun x hx => by simp at hx; subst hx; exact withinB_iff.1 h.1.1, fun h2 => by omega, .inl h1⟩
  · rw [if_neg h1] at h ⊢
    by_cases h2 : b.fin = 2
    · rw [if_pos h2] at h ⊢
      simp only [Bool.and_eq_true] at h
      exact ⟨fun x hx => by
        simp at hx
        rcases hx with rfl | rfl
        · exact withinB_iff.1 h.1.1
        · exact withinB_iff.1 h.1.2, fun _ => withinB_iff.1 h.2, .inr (.inl h2)⟩
    · rw [if_neg h2] at h ⊢
      simp only [Bool.and_eq_true, beq_iff_eq] at h
      exact ⟨fun x hx => (by cases hx), fun h => absurd h h2, .inr (.inr h.1.1.1)⟩
theorem lf_of {f : GFn} {i w : Int} (h : oneB f i w = true) (hl : f.blocks.length ≤ 1000) (hi : ∀ b ∈ f.blocks, b.ins.length ≤ 1000) : LF f := by
  obtain ⟨h1, h2⟩ := one_all h
  refine ⟨hl, ⟨h1.1, h1.2.1⟩, hi, fun b hb => ⟨fun t ht => tok_of ((h2 b hb).2 t ht) h1.1, fun hf => ?_⟩, fun b hb => (follows_in (h2 b hb).1).1⟩
  have := (follows_in (h2 b hb).1).2.1 hf
  omega
def aloneP (f : GFn) : GProg := ⟨16, [f]⟩
theorem alone_ok {f : GFn} (h : FnOk f) : PgOk (aloneP f) := ⟨by simp [aloneP], fun g hg => by simp [aloneP] at hg; subst hg; exact h⟩
theorem alone_one {f : GFn} (h : rightB (aloneP f) = true) : oneB f 0 16 = true := by
  unfold rightB at h
  simp only [Bool.and_eq_true, List.all_eq_true] at h
  have := h.2 0 (by simp [aloneP])
  simpa [aloneP] using this
def small27 (f : GFn) (x y : Int) : Bool := decide ((f.blocks.length : Int) ≤ x) && (decide (f.regs ≤ 40) && (decide (0 ≤ f.regs) && (decide ((sumLen (insOf f) : Int) ≤ y) && rightB (aloneP f))))
theorem small27_iff {f : GFn} {x y : Int} : small27 f x y = true ↔ (f.blocks.length : Int) ≤ x ∧ f.regs ≤ 40 ∧ 0 ≤ f.regs ∧ (sumLen (insOf f) : Int) ≤ y ∧ rightB (aloneP f) = true := by
  unfold small27
  simp only [Bool.and_eq_true, decide_eq_true_eq]
theorem small27_no {f : GFn} {x y : Int} (h : ¬ ((f.blocks.length : Int) ≤ x ∧ f.regs ≤ 40 ∧ 0 ≤ f.regs ∧ (sumLen (insOf f) : Int) ≤ y)) : false = small27 f x y := by
  cases h1 : small27 f x y
  · rfl
  · have := small27_iff.1 h1
    exact absurd ⟨this.1, this.2.1, this.2.2.1, this.2.2.2.1⟩ h
theorem small27_eq {f : GFn} {x y : Int} (h1 : (f.blocks.length : Int) ≤ x) (h2 : f.regs ≤ 40) (h3 : 0 ≤ f.regs) (h4 : (sumLen (insOf f) : Int) ≤ y) : rightB (aloneP f) = small27 f x y := by
  unfold small27
  rw [decide_eq_true h1, decide_eq_true h2, decide_eq_true h3, decide_eq_true h4]; rfl
theorem insOf_take_len {f : GFn} {j : Nat} (h : j < f.blocks.length) : sumLen ((insOf f).take (j + 1)) = sumLen ((insOf f).take j) + (f.blocks.getD j default).ins.length := by
  rw [sumLen_take _ j (by simpa [insOf] using h)]
  simp [insOf, List.getD_eq_getElem?_getD, h]
theorem insOf_le {f : GFn} {b : GBlock} (hb : b ∈ f.blocks) : b.ins.length ≤ sumLen (insOf f) := by
  obtain ⟨k, hk, rfl⟩ := mem_getD hb
  have h1 := insOf_take_len hk
  have h2 := sumLen_take_le (insOf f) (k + 1)
  omega
structure S27 (f : GFn) : Prop where
  lf : LF f
  len : f.blocks.length ≤ 12
  regs : 0 ≤ f.regs ∧ f.regs ≤ 40
  sum : sumLen (insOf f) ≤ 60
  ins : ∀ b ∈ f.blocks, b.ins.length ≤ 60
  one : oneB f 0 16 = true
  pos : 0 < f.blocks.length
theorem s27 {f : GFn} (h : small27 f 12 60 = true) : S27 f := by
  obtain ⟨h1, h2, h3, h4, h5⟩ := small27_iff.1 h
  have h6 := alone_one h5
  have hi : ∀ b ∈ f.blocks, b.ins.length ≤ 60 := fun b hb => by have := insOf_le hb; omega
  exact ⟨lf_of h6 (by omega) (fun b hb => by have := hi b hb; omega), by omega, ⟨h3, h2⟩, by omega, hi, h6, List.length_pos_iff.2 (one_all h6).1.2.2⟩
theorem fill_back' {α : Type} [Inhabited α] (L : List α) (d z : α) {q : Nat} (h0 : 0 < q) (h : q ≤ L.length) (hz : z = L.getD (q - 1) default) : (List.replicate q d ++ L.drop q).set ((q : Int) - 1).toNat z = List.replicate (q - 1) d ++ L.drop (q - 1) := by
  obtain ⟨p, rfl⟩ : ∃ p, q = p + 1 := ⟨q - 1, by omega⟩
  rw [show (((p + 1 : Nat) : Int) - 1).toNat = p by omega]
  exact fill_back L d z (by omega) (by simpa using hz)
end Lg
end Go.Proofs.Ytpfhmodjjljpjaa

namespace Go.Proofs.Ytpfhmodjjljpjaa
end Go.Proofs.Ytpfhmodjjljpjaa
