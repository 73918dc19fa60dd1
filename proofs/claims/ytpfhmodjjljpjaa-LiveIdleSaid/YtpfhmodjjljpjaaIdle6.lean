import Derived.Test.YtpfhmodjjljpjaaIdle5
set_option linter.unusedVariables false
set_option linter.unusedSimpArgs false
namespace Go.Proofs.Ytpfhmodjjljpjaa
open Go.RowKit
namespace Lg
set_option maxRecDepth 100000
set_option linter.unusedVariables false
set_option linter.unusedSimpArgs false
theorem body49 : (Try.prog.funcs[49]?).map (fun fn => (fn.name == "runtime.NumGoroutine" || fn.body.isNone)) = some false := by kernel_rfl
theorem awake27_spec  : Spec Try.prog 49 [] 1 [] (.v (.bool true)) 1 [] := by
 refine spec_of D (fn := Try.f49) rfl rfl (Nat.le_of_ble_eq_true rfl) ?_
 refine W_seq ?_
 refine W_seqK (b' := 17) rfl rfl ?_
 refine q0 0 1 1 rfl rfl (T_assign rfl rfl) rfl ?_
 refine k_done rfl ?_
 refine thenK_n ?_
 refine W_seq ?_
 refine W_seqK (b' := 145) rfl rfl ?_
 refine q0 7 17 1 rfl rfl (T_build D (l := [_, _, _, _, _, _, _, _]) rfl rfl rfl rfl (.cons rfl (flat_v rfl) (.cons rfl (flat_v rfl) (.nil))) rfl rfl) rfl ?_
 refine q0 8 33 2 rfl rfl (T_build D (l := [_, _, _, _, _, _, _, _]) rfl rfl rfl rfl (.cons rfl (flat_v rfl) (.nil)) rfl rfl) rfl ?_
 refine q1 9 49 3 rfl rfl (T_bs D (ys := [⟨_, _, _, _, _, _, _, _⟩, ⟨_, _, _, _, _, _, _, _⟩]) (enc := eTac) (l := [_, _, _, _, _, _, _, _, _, _, _, _, _, _, _, _]) rfl rfl rfl rfl rfl rfl (.cons rfl flat_agg (.cons rfl flat_agg (.nil))) rfl rfl rfl rfl (.v rfl (.v rfl (.v rfl (.v rfl (.v rfl (.v rfl (.v rfl (.v rfl (.v rfl (.v rfl (.v rfl (.v rfl (.v rfl (.v rfl (.v rfl (.v rfl (.nil))))))))))))))))) rfl rfl) rfl ?_
 refine q0 10 65 4 rfl rfl (T_build D (l := [_, _, _, _, _]) rfl rfl rfl rfl (.cons rfl (flat_sl rfl) (.cons rfl (flat_v rfl) (.nil))) rfl rfl) rfl ?_
 refine qn 11 81 5 rfl rfl (T_bs D (ys := [⟨_, _, _, _, _⟩]) (enc := eBlock) (l := [_, _, _, _, _]) rfl rfl rfl rfl rfl rfl (.cons rfl flat_agg (.nil)) rfl rfl rfl rfl (.row rfl (.v rfl (.v rfl (.v rfl (.v rfl (.nil))))) (by rfl)) rfl rfl) rfl ?_
 refine q0 12 97 6 rfl rfl (T_build D (l := [_, _]) rfl rfl rfl rfl (.cons rfl (flat_v rfl) (.cons rfl (flat_sl rfl) (.nil))) rfl rfl) rfl ?_
 refine qn 1 113 7 rfl rfl (T_nilbox [(72, 5)] (T_alloc D rfl rfl rfl) rfl (.cons (.same _) <| .cons (.nil rfl) <| .nil) (upd' := [(113, .box 29 [.v (.int .i64 0), .r 114]), (114, .row 72 5 (List.map eBlock ([] : List (GBlock))))]) (nn' := 2) rfl rfl) rfl ?_
 refine s1 129 8 rfl rfl (T_stB D (cs' := [_, _]) rfl rfl rfl rfl flat_agg rfl rfl (Nat.le_of_ble_eq_true rfl) rfl) rfl ?_
 refine k_done rfl ?_
 refine thenK_n ?_
 refine W_seq ?_
 refine W_seqK (b' := 209) rfl rfl ?_
 refine q0 13 145 1 rfl rfl (T_load_bA D (l := [_, _]) rfl rfl rfl rfl rfl rfl rfl) rfl ?_
 refine qn 14 161 2 rfl rfl (T_call (lvs := [_]) (L := [(1, 81)]) (lv := .agg [.r 161, .r 162]) (upd := [(161, .fz 1 _), (162, .fz 1 _), (81, .fz 5 _)]) (nn := 2) false (live_spec vF vF_lf) body50 rfl rfl rfl rfl (.lend rfl (.nil)) rfl (.inl rfl) rfl rfl rfl) rfl ?_
 refine qn 2 177 3 rfl rfl (T_nilbox [(48, 1), (48, 1)] (T_alloc D rfl rfl rfl) rfl (.cons (.nil rfl) <| .cons (.nil rfl) <| .nil) (upd' := [(177, .box 57 [.r 178, .r 179]), (178, .row 48 1 (List.map eBs ([] : List (List Bool)))), (179, .row 48 1 (List.map eBs ([] : List (List Bool))))]) (nn' := 3) rfl rfl) rfl ?_
 refine s1 193 4 rfl rfl (T_stB D (cs' := [_, _]) rfl rfl rfl rfl flat_agg rfl rfl (Nat.le_of_ble_eq_true rfl) rfl) rfl ?_
 refine k_done rfl ?_
 refine thenK_n ?_
 refine W_seq ?_
 refine W_seqK (b' := 273) rfl rfl ?_
 refine q0 15 209 1 rfl rfl (T_load_bA D (l := [_, _]) rfl rfl rfl rfl rfl rfl rfl) rfl ?_
 refine q0 16 225 2 rfl rfl (T_load_bA D (l := [_, _]) rfl rfl rfl rfl rfl rfl rfl) rfl ?_
 refine q1 17 241 3 rfl rfl (T_call (lvs := [_, _, _]) (L := [(1, 81), (2, 161), (3, 162)]) (lv := .r 241) (upd := [(241, .fz 1 _)]) (nn := 1) false (beh_spec vF (liveL vF).1 (liveL vF).2 0 vF_lf (by decide) (live_sz vF).o) body58 rfl rfl rfl rfl (.fz rfl (.fz rfl (.fz rfl (.nil)))) rfl (.inl rfl) rfl rfl rfl) rfl ?_
 refine q0 3 257 4 rfl rfl (T_assign rfl rfl) rfl ?_
 refine k_done rfl ?_
 refine thenK_n ?_
 refine W_seq ?_
 refine W_seqK (b' := 449) rfl rfl ?_
 refine q0 18 273 1 rfl rfl (T_build D (l := [_, _, _, _, _, _, _, _]) rfl rfl rfl rfl (.cons rfl (flat_v rfl) (.cons rfl (flat_v rfl) (.nil))) rfl rfl) rfl ?_
 refine q1 19 289 2 rfl rfl (T_bs D (ys := [⟨_, _, _, _, _, _, _, _⟩]) (enc := eTac) (l := [_, _, _, _, _, _, _, _]) rfl rfl rfl rfl rfl rfl (.cons rfl flat_agg (.nil)) rfl rfl rfl rfl (.v rfl (.v rfl (.v rfl (.v rfl (.v rfl (.v rfl (.v rfl (.v rfl (.nil))))))))) rfl rfl) rfl ?_
 refine q0 20 305 3 rfl rfl (T_build D (l := [_, _, _, _, _]) rfl rfl rfl rfl (.cons rfl (flat_sl rfl) (.cons rfl (flat_v rfl) (.cons rfl (flat_v rfl) (.nil)))) rfl rfl) rfl ?_
 refine q0 21 321 4 rfl rfl (T_build D (l := [_, _, _, _, _, _, _, _]) rfl rfl rfl rfl (.cons rfl (flat_v rfl) (.cons rfl (flat_v rfl) (.nil))) rfl rfl) rfl ?_
 refine q1 22 337 5 rfl rfl (T_bs D (ys := [⟨_, _, _, _, _, _, _, _⟩]) (enc := eTac) (l := [_, _, _, _, _, _, _, _]) rfl rfl rfl rfl rfl rfl (.cons rfl flat_agg (.nil)) rfl rfl rfl rfl (.v rfl (.v rfl (.v rfl (.v rfl (.v rfl (.v rfl (.v rfl (.v rfl (.nil))))))))) rfl rfl) rfl ?_
 refine q0 23 353 6 rfl rfl (T_build D (l := [_, _, _, _, _]) rfl rfl rfl rfl (.cons rfl (flat_sl rfl) (.cons rfl (flat_v rfl) (.cons rfl (flat_v rfl) (.cons rfl (flat_v rfl) (.nil))))) rfl rfl) rfl ?_
 refine q1 24 369 7 rfl rfl (T_nils [(70, 8)] (T_build D (l := [_, _, _, _, _]) rfl rfl rfl rfl (.cons rfl (flat_v rfl) (.nil)) rfl rfl) rfl (.inl ⟨rfl, rfl⟩) (.cons (.nil rfl) <| .cons (.same _) <| .cons (.same _) <| .cons (.same _) <| .cons (.same _) <| .nil) (lv' := .agg [.r 369, _, _, _, _]) (upd' := [(369, .row 70 8 (List.map eTac ([] : List (GTac))))]) (nn' := 1) rfl rfl) rfl ?_
 refine qn 25 385 8 rfl rfl (T_bs D (ys := [⟨_, _, _, _, _⟩, ⟨_, _, _, _, _⟩, ⟨_, _, _, _, _⟩]) (enc := eBlock) (l := [_, _, _, _, _, _, _, _, _, _, _, _, _, _, _]) rfl rfl rfl rfl rfl rfl (.cons rfl flat_agg (.cons rfl flat_agg (.cons rfl flat_agg (.nil)))) rfl rfl rfl rfl (.row rfl (.v rfl (.v rfl (.v rfl (.v rfl (.row rfl (.v rfl (.v rfl (.v rfl (.v rfl (.row rfl (.v rfl (.v rfl (.v rfl (.v rfl (.nil))))) (by rfl)))))) (by rfl)))))) (by rfl)) rfl rfl) rfl ?_
 refine q0 26 401 9 rfl rfl (T_build D (l := [_, _]) rfl rfl rfl rfl (.cons rfl (flat_v rfl) (.cons rfl (flat_sl rfl) (.nil))) rfl rfl) rfl ?_
 refine qn 4 417 10 rfl rfl (T_nilbox [(72, 5)] (T_alloc D rfl rfl rfl) rfl (.cons (.same _) <| .cons (.nil rfl) <| .nil) (upd' := [(417, .box 29 [.v (.int .i64 0), .r 418]), (418, .row 72 5 (List.map eBlock ([] : List (GBlock))))]) (nn' := 2) rfl rfl) rfl ?_
 refine s1 433 11 rfl rfl (T_stB D (cs' := [_, _]) rfl rfl rfl rfl flat_agg rfl rfl (Nat.le_of_ble_eq_true rfl) rfl) rfl ?_
 refine k_done rfl ?_
 refine thenK_n ?_
 refine W_seq ?_
 refine W_seqK (b' := 513) rfl rfl ?_
 refine q0 27 449 1 rfl rfl (T_load_bA D (l := [_, _]) rfl rfl rfl rfl rfl rfl rfl) rfl ?_
 refine qn 28 465 2 rfl rfl (T_call (lvs := [_]) (L := [(1, 385)]) (lv := .agg [.r 465, .r 466]) (upd := [(465, .fz 1 _), (466, .fz 1 _), (385, .fz 5 _)]) (nn := 2) false (live_spec vG vG_lf) body50 rfl rfl rfl rfl (.lend rfl (.nil)) rfl (.inl rfl) rfl rfl rfl) rfl ?_
 refine qn 5 481 3 rfl rfl (T_nilbox [(48, 1), (48, 1)] (T_alloc D rfl rfl rfl) rfl (.cons (.nil rfl) <| .cons (.nil rfl) <| .nil) (upd' := [(481, .box 57 [.r 482, .r 483]), (482, .row 48 1 (List.map eBs ([] : List (List Bool)))), (483, .row 48 1 (List.map eBs ([] : List (List Bool))))]) (nn' := 3) rfl rfl) rfl ?_
 refine s1 497 4 rfl rfl (T_stB D (cs' := [_, _]) rfl rfl rfl rfl flat_agg rfl rfl (Nat.le_of_ble_eq_true rfl) rfl) rfl ?_
 refine k_done rfl ?_
 refine thenK_n ?_
 refine W_seq ?_
 refine W_seqK (b' := 689) rfl rfl ?_
 refine q1 29 513 1 rfl rfl (T_bs D (ys := [_, _]) (enc := eB) (l := [_, _]) rfl rfl rfl rfl rfl rfl (.cons rfl (flat_v rfl) (.cons rfl (flat_v rfl) (.nil))) rfl rfl rfl rfl (.v rfl (.v rfl (.nil))) rfl rfl) rfl ?_
 refine q1 30 529 2 rfl rfl (T_bs D (ys := [_, _]) (enc := eB) (l := [_, _]) rfl rfl rfl rfl rfl rfl (.cons rfl (flat_v rfl) (.cons rfl (flat_v rfl) (.nil))) rfl rfl rfl rfl (.v rfl (.v rfl (.nil))) rfl rfl) rfl ?_
 refine q1 31 545 3 rfl rfl (T_bs D (ys := [_, _]) (enc := eB) (l := [_, _]) rfl rfl rfl rfl rfl rfl (.cons rfl (flat_v rfl) (.cons rfl (flat_v rfl) (.nil))) rfl rfl rfl rfl (.v rfl (.v rfl (.nil))) rfl rfl) rfl ?_
 refine qn 32 561 4 rfl rfl (T_bs D (ys := [_, _, _]) (enc := eBs) (l := [_, _, _]) rfl rfl rfl rfl rfl rfl (.cons rfl (flat_sl rfl) (.cons rfl (flat_sl rfl) (.cons rfl (flat_sl rfl) (.nil)))) rfl rfl rfl rfl (.row rfl (.row rfl (.row rfl (.nil) (by rfl)) (by rfl)) (by rfl)) rfl rfl) rfl ?_
 refine q1 33 577 5 rfl rfl (T_bs D (ys := [_, _]) (enc := eB) (l := [_, _]) rfl rfl rfl rfl rfl rfl (.cons rfl (flat_v rfl) (.cons rfl (flat_v rfl) (.nil))) rfl rfl rfl rfl (.v rfl (.v rfl (.nil))) rfl rfl) rfl ?_
 refine q1 34 593 6 rfl rfl (T_bs D (ys := [_, _]) (enc := eB) (l := [_, _]) rfl rfl rfl rfl rfl rfl (.cons rfl (flat_v rfl) (.cons rfl (flat_v rfl) (.nil))) rfl rfl rfl rfl (.v rfl (.v rfl (.nil))) rfl rfl) rfl ?_
 refine q1 35 609 7 rfl rfl (T_bs D (ys := [_, _]) (enc := eB) (l := [_, _]) rfl rfl rfl rfl rfl rfl (.cons rfl (flat_v rfl) (.cons rfl (flat_v rfl) (.nil))) rfl rfl rfl rfl (.v rfl (.v rfl (.nil))) rfl rfl) rfl ?_
 refine qn 36 625 8 rfl rfl (T_bs D (ys := [_, _, _]) (enc := eBs) (l := [_, _, _]) rfl rfl rfl rfl rfl rfl (.cons rfl (flat_sl rfl) (.cons rfl (flat_sl rfl) (.cons rfl (flat_sl rfl) (.nil)))) rfl rfl rfl rfl (.row rfl (.row rfl (.row rfl (.nil) (by rfl)) (by rfl)) (by rfl)) rfl rfl) rfl ?_
 refine q0 37 641 9 rfl rfl (T_build D (l := [_, _]) rfl rfl rfl rfl (.cons rfl (flat_sl rfl) (.cons rfl (flat_sl rfl) (.nil))) rfl rfl) rfl ?_
 refine qn 6 657 10 rfl rfl (T_nilbox [(48, 1), (48, 1)] (T_alloc D rfl rfl rfl) rfl (.cons (.nil rfl) <| .cons (.nil rfl) <| .nil) (upd' := [(657, .box 57 [.r 658, .r 659]), (658, .row 48 1 (List.map eBs ([] : List (List Bool)))), (659, .row 48 1 (List.map eBs ([] : List (List Bool))))]) (nn' := 3) rfl rfl) rfl ?_
 refine s1 673 11 rfl rfl (T_stB D (cs' := [_, _]) rfl rfl rfl rfl flat_agg rfl rfl (Nat.le_of_ble_eq_true rfl) rfl) rfl ?_
 refine k_done rfl ?_
 refine thenK_n ?_
 refine W_seq ?_
 refine W_seqK (b' := 1361) rfl rfl ?_
 refine q0 38 689 1 rfl rfl (T_load_bA D (l := [_, _]) rfl rfl rfl rfl rfl rfl rfl) rfl ?_
 refine q1 39 705 2 rfl rfl (T_bs D (ys := [_]) (enc := eB) (l := [_]) rfl rfl rfl rfl rfl rfl (.cons rfl (flat_v rfl) (.nil)) rfl rfl rfl rfl (.v rfl (.nil)) rfl rfl) rfl ?_
 refine qn 40 721 3 rfl rfl (T_bs D (ys := [_]) (enc := eBs) (l := [_]) rfl rfl rfl rfl rfl rfl (.cons rfl (flat_sl rfl) (.nil)) rfl rfl rfl rfl (.row rfl (.nil) (by rfl)) rfl rfl) rfl ?_
 refine q1 41 737 4 rfl rfl (T_bs D (ys := [_]) (enc := eB) (l := [_]) rfl rfl rfl rfl rfl rfl (.cons rfl (flat_v rfl) (.nil)) rfl rfl rfl rfl (.v rfl (.nil)) rfl rfl) rfl ?_
 refine qn 42 753 5 rfl rfl (T_bs D (ys := [_]) (enc := eBs) (l := [_]) rfl rfl rfl rfl rfl rfl (.cons rfl (flat_sl rfl) (.nil)) rfl rfl rfl rfl (.row rfl (.nil) (by rfl)) rfl rfl) rfl ?_
 refine q0 43 769 6 rfl rfl (T_build D (l := [_, _]) rfl rfl rfl rfl (.cons rfl (flat_sl rfl) (.cons rfl (flat_sl rfl) (.nil))) rfl rfl) rfl ?_
 refine q0 44 785 7 rfl rfl (T_callV (lvs := [_, _]) (L := [(1, 161), (2, 162), (3, 721), (4, 753)]) (rsame_spec (liveL vF).1 (liveL vF).2 [[false]] [[false]] (by decide +kernel) (by decide +kernel) (by decide +kernel) (by decide +kernel) (by decide +kernel) (by decide +kernel)) body51 rfl rfl rfl rfl (.fz rfl (.fz rfl (.lend rfl (.lend rfl (.nil))))) rfl) rfl ?_
 refine q0 45 801 8 rfl rfl (T_move rfl rfl) rfl ?_
 refine k_split (d := 45) rfl (fun g1 => ?_) (fun g1 => ?_)
 ·have h1 := g1; (try simp only [cmpB, decide_eq_true_eq, decide_eq_false_iff_not, beq_iff_eq, beq_eq_false_iff_ne, bne_iff_ne, ne_eq, bne_eq_false_iff_eq, Bool.not_eq_true', Bool.not_eq_false', Int.not_lt, Int.not_le] at h1)
  refine k_op0 (d := 46) (b := 817) (j' := 9) rfl rfl rfl rfl (g_tt rfl rfl rfl g1) (T_move rfl rfl) rfl ?_
  refine k_op1 (d := 47) (b := 833) (j' := 10) rfl rfl rfl rfl (g_tt rfl rfl rfl g1) (T_bs D (ys := [_]) (enc := eB) (l := [_]) rfl rfl rfl rfl rfl rfl (.cons rfl (flat_v rfl) (.nil)) rfl rfl rfl rfl (.v rfl (.nil)) rfl rfl) rfl ?_
  refine k_op1 (d := 48) (b := 849) (j' := 11) rfl rfl rfl rfl (g_tt rfl rfl rfl g1) (T_bs D (ys := [_]) (enc := eB) (l := [_]) rfl rfl rfl rfl rfl rfl (.cons rfl (flat_v rfl) (.nil)) rfl rfl rfl rfl (.v rfl (.nil)) rfl rfl) rfl ?_
  refine k_opn (d := 49) (b := 865) (j' := 12) rfl rfl rfl rfl (g_tt rfl rfl rfl g1) (T_bs D (ys := [_, _]) (enc := eBs) (l := [_, _]) rfl rfl rfl rfl rfl rfl (.cons rfl (flat_sl rfl) (.cons rfl (flat_sl rfl) (.nil))) rfl rfl rfl rfl (.row rfl (.row rfl (.nil) (by rfl)) (by rfl)) rfl rfl) rfl ?_
  refine k_op0 (d := 50) (b := 881) (j' := 13) rfl rfl rfl rfl (g_tt rfl rfl rfl g1) (T_callV (lvs := [_, _]) (L := [(1, 241), (2, 865)]) (rows_spec (behL (vF.blocks.getD (0 : Int).toNat default) ((liveL vF).2.getD (0 : Int).toNat default)) [[true], [false]] (by decide +kernel) (by decide +kernel) (by decide +kernel)) body57 rfl rfl rfl rfl (.fz rfl (.lend rfl (.nil))) rfl) rfl ?_
  refine q0 51 897 14 rfl rfl (T_pick_t rfl rfl rfl g1) rfl ?_
  refine q0 52 913 15 rfl rfl (T_move rfl rfl) rfl ?_
  refine k_split (d := 52) rfl (fun g2 => ?_) (fun g2 => ?_)
  ·have h2 := g2; (try simp only [cmpB, decide_eq_true_eq, decide_eq_false_iff_not, beq_iff_eq, beq_eq_false_iff_ne, bne_iff_ne, ne_eq, bne_eq_false_iff_eq, Bool.not_eq_true', Bool.not_eq_false', Int.not_lt, Int.not_le] at h2)
   refine k_op0 (d := 53) (b := 929) (j' := 16) rfl rfl rfl rfl (g_tt rfl rfl rfl g2) (T_load_bA D (l := [_, _]) rfl rfl rfl rfl rfl rfl rfl) rfl ?_
   refine k_op0 (d := 54) (b := 945) (j' := 17) rfl rfl rfl rfl (g_tt rfl rfl rfl g2) (T_load_bA D (l := [_, _]) rfl rfl rfl rfl rfl rfl rfl) rfl ?_
   refine k_op0 (d := 55) (b := 961) (j' := 18) rfl rfl rfl rfl (g_tt rfl rfl rfl g2) (T_callV (lvs := [_, _]) (L := [(1, 465), (2, 466), (3, 561), (4, 625)]) (rsame_spec (liveL vG).1 (liveL vG).2 vI vO (by decide +kernel) (by decide +kernel) (by decide +kernel) (by decide +kernel) (by decide +kernel) (by decide +kernel)) body51 rfl rfl rfl rfl (.fz rfl (.fz rfl (.lend rfl (.lend rfl (.nil))))) rfl) rfl ?_
   refine q0 56 977 19 rfl rfl (T_pick_t rfl rfl rfl g2) rfl ?_
   refine q0 57 993 20 rfl rfl (T_move rfl rfl) rfl ?_
   refine k_split (d := 57) rfl (fun g3 => ?_) (fun g3 => ?_)
   ·have h3 := g3; (try simp only [cmpB, decide_eq_true_eq, decide_eq_false_iff_not, beq_iff_eq, beq_eq_false_iff_ne, bne_iff_ne, ne_eq, bne_eq_false_iff_eq, Bool.not_eq_true', Bool.not_eq_false', Int.not_lt, Int.not_le] at h3)
    refine k_op0 (d := 58) (b := 1009) (j' := 21) rfl rfl rfl rfl (g_tt rfl rfl rfl g3) (T_load_bA D (l := [_, _]) rfl rfl rfl rfl rfl rfl rfl) rfl ?_
    refine k_op0 (d := 59) (b := 1025) (j' := 22) rfl rfl rfl rfl (g_tt rfl rfl rfl g3) (T_load_bA D (l := [_, _]) rfl rfl rfl rfl rfl rfl rfl) rfl ?_
    refine k_op0 (d := 60) (b := 1041) (j' := 23) rfl rfl rfl rfl (g_tt rfl rfl rfl g3) (T_callV (lvs := [_, _]) (L := [(1, 385), (2, 561), (3, 625)]) (lcheck_spec vG vI vO vG_lf (by decide) (by decide)) body53 rfl rfl rfl rfl (.fz rfl (.lend rfl (.lend rfl (.nil)))) rfl) rfl ?_
    refine q0 61 1057 24 rfl rfl (T_pick_t rfl rfl rfl g3) rfl ?_
    refine q0 62 1073 25 rfl rfl (T_move rfl rfl) rfl ?_
    refine k_split (d := 62) rfl (fun g4 => ?_) (fun g4 => ?_)
    ·have h4 := g4; (try simp only [cmpB, decide_eq_true_eq, decide_eq_false_iff_not, beq_iff_eq, beq_eq_false_iff_ne, bne_iff_ne, ne_eq, bne_eq_false_iff_eq, Bool.not_eq_true', Bool.not_eq_false', Int.not_lt, Int.not_le] at h4)
     refine k_op0 (d := 63) (b := 1089) (j' := 26) rfl rfl rfl rfl (g_tt rfl rfl rfl g4) (T_load_bA D (l := [_, _]) rfl rfl rfl rfl rfl rfl rfl) rfl ?_
     refine k_opn (d := 64) (b := 1105) (j' := 27) rfl rfl rfl rfl (g_tt rfl rfl rfl g4) (T_nils [(48, 1), (48, 1)] (T_build D (l := [_, _]) rfl rfl rfl rfl (.nil) rfl rfl) rfl (.inl ⟨rfl, rfl⟩) (.cons (.nil rfl) <| .cons (.nil rfl) <| .nil) (lv' := .agg [.r 1105, .r 1106]) (upd' := [(1105, .row 48 1 (List.map eBs ([] : List (List Bool)))), (1106, .row 48 1 (List.map eBs ([] : List (List Bool))))]) (nn' := 2) rfl rfl) rfl ?_
     refine k_op0 (d := 65) (b := 1121) (j' := 28) rfl rfl rfl rfl (g_tt rfl rfl rfl g4) (T_callV (lvs := [_, _]) (L := [(1, 81), (2, 1105), (3, 1106)]) (lcheck_spec vF [] [] vF_lf (by decide) (by decide)) body53 rfl rfl rfl rfl (.fz rfl (.lend rfl (.lend rfl (.nil)))) rfl) rfl ?_
     refine k_op0 (d := 66) (b := 1137) (j' := 29) rfl rfl rfl rfl (g_tt rfl rfl rfl g4) (T_not rfl rfl) rfl ?_
     refine q0 67 1153 30 rfl rfl (T_pick_t rfl rfl rfl g4) rfl ?_
     refine q0 68 1169 31 rfl rfl (T_move rfl rfl) rfl ?_
     refine k_split (d := 68) rfl (fun g5 => ?_) (fun g5 => ?_)
     ·have h5 := g5; (try simp only [cmpB, decide_eq_true_eq, decide_eq_false_iff_not, beq_iff_eq, beq_eq_false_iff_ne, bne_iff_ne, ne_eq, bne_eq_false_iff_eq, Bool.not_eq_true', Bool.not_eq_false', Int.not_lt, Int.not_le] at h5)
      refine k_op0 (d := 69) (b := 1185) (j' := 32) rfl rfl rfl rfl (g_tt rfl rfl rfl g5) (T_load_bA D (l := [_, _]) rfl rfl rfl rfl rfl rfl rfl) rfl ?_
      refine k_op0 (d := 70) (b := 1201) (j' := 33) rfl rfl rfl rfl (g_tt rfl rfl rfl g5) (T_load_bA D (l := [_, _]) rfl rfl rfl rfl rfl rfl rfl) rfl ?_
      refine k_op0 (d := 71) (b := 1217) (j' := 34) rfl rfl rfl rfl (g_tt rfl rfl rfl g5) (T_callV (lvs := [_, _]) (L := [(1, 465), (2, 466), (3, 561), (4, 625)]) (lsame_spec (liveL vG).1 (liveL vG).2 vI vO (by decide +kernel) (by decide +kernel) (by decide +kernel) (by decide +kernel) (by decide +kernel) (by decide +kernel)) body55 rfl rfl rfl rfl (.fz rfl (.fz rfl (.lend rfl (.lend rfl (.nil))))) rfl) rfl ?_
      refine q0 72 1233 35 rfl rfl (T_pick_t rfl rfl rfl g5) rfl ?_
      refine q0 73 1249 36 rfl rfl (T_move rfl rfl) rfl ?_
      refine k_split (d := 73) rfl (fun g6 => ?_) (fun g6 => ?_)
      ·have h6 := g6; (try simp only [cmpB, decide_eq_true_eq, decide_eq_false_iff_not, beq_iff_eq, beq_eq_false_iff_ne, bne_iff_ne, ne_eq, bne_eq_false_iff_eq, Bool.not_eq_true', Bool.not_eq_false', Int.not_lt, Int.not_le] at h6)
       refine k_op0 (d := 74) (b := 1265) (j' := 37) rfl rfl rfl rfl (g_tt rfl rfl rfl g6) (T_load_bA D (l := [_, _]) rfl rfl rfl rfl rfl rfl rfl) rfl ?_
       refine k_op0 (d := 75) (b := 1281) (j' := 38) rfl rfl rfl rfl (g_tt rfl rfl rfl g6) (T_load_bA D (l := [_, _]) rfl rfl rfl rfl rfl rfl rfl) rfl ?_
       refine k_op0 (d := 76) (b := 1297) (j' := 39) rfl rfl rfl rfl (g_tt rfl rfl rfl g6) (T_callV (lvs := [_, _]) (L := [(1, 161), (2, 162), (3, 465), (4, 466)]) (lsame_spec (liveL vF).1 (liveL vF).2 (liveL vG).1 (liveL vG).2 (by decide +kernel) (by decide +kernel) (by decide +kernel) (by decide +kernel) (by decide +kernel) (by decide +kernel)) body55 rfl rfl rfl rfl (.fz rfl (.fz rfl (.fz rfl (.fz rfl (.nil))))) rfl) rfl ?_
       refine k_op0 (d := 77) (b := 1313) (j' := 40) rfl rfl rfl rfl (g_tt rfl rfl rfl g6) (T_not rfl rfl) rfl ?_
       refine q0 78 1329 41 rfl rfl (T_pick_t rfl rfl rfl g6) rfl ?_
       refine q0 0 1345 42 rfl rfl (T_assign rfl rfl) rfl ?_
       refine k_done rfl ?_
       refine thenK_n ?_
       refine W_ret ?_
       exact .mk [] (.inr rfl) (.tmp rfl (.nil)) (by first | rfl | exact absurd g1 (by decide +kernel) | exact absurd g2 (by decide +kernel) | exact absurd g3 (by decide +kernel) | exact absurd g4 (by decide +kernel) | exact absurd g5 (by decide +kernel) | exact absurd g6 (by decide +kernel) | exact absurd g7 (by decide +kernel) | exact absurd g8 (by decide +kernel) | decide +kernel) (.nil) rfl
      ·have h6 := g6; (try simp only [cmpB, decide_eq_true_eq, decide_eq_false_iff_not, beq_iff_eq, beq_eq_false_iff_ne, bne_iff_ne, ne_eq, bne_eq_false_iff_eq, Bool.not_eq_true', Bool.not_eq_false', Int.not_lt, Int.not_le] at h6)
       refine k_no (d := 74) (j' := 37) rfl rfl rfl (g_tf rfl rfl rfl g6) ?_
       refine k_no (d := 75) (j' := 38) rfl rfl rfl (g_tf rfl rfl rfl g6) ?_
       refine k_no (d := 76) (j' := 39) rfl rfl rfl (g_tf rfl rfl rfl g6) ?_
       refine k_no (d := 77) (j' := 40) rfl rfl rfl (g_tf rfl rfl rfl g6) ?_
       refine q0 78 1329 41 rfl rfl (T_pick_f rfl rfl rfl g6) rfl ?_
       refine q0 0 1345 42 rfl rfl (T_assign rfl rfl) rfl ?_
       refine k_done rfl ?_
       refine thenK_n ?_
       refine W_ret ?_
       exact .mk [] (.inr rfl) (.tmp rfl (.nil)) (by first | rfl | exact absurd g1 (by decide +kernel) | exact absurd g2 (by decide +kernel) | exact absurd g3 (by decide +kernel) | exact absurd g4 (by decide +kernel) | exact absurd g5 (by decide +kernel) | exact absurd g6 (by decide +kernel) | exact absurd g7 (by decide +kernel) | exact absurd g8 (by decide +kernel) | decide +kernel) (.nil) rfl
     ·have h5 := g5; (try simp only [cmpB, decide_eq_true_eq, decide_eq_false_iff_not, beq_iff_eq, beq_eq_false_iff_ne, bne_iff_ne, ne_eq, bne_eq_false_iff_eq, Bool.not_eq_true', Bool.not_eq_false', Int.not_lt, Int.not_le] at h5)
      refine k_no (d := 69) (j' := 32) rfl rfl rfl (g_tf rfl rfl rfl g5) ?_
      refine k_no (d := 70) (j' := 33) rfl rfl rfl (g_tf rfl rfl rfl g5) ?_
      refine k_no (d := 71) (j' := 34) rfl rfl rfl (g_tf rfl rfl rfl g5) ?_
      refine q0 72 1233 35 rfl rfl (T_pick_f rfl rfl rfl g5) rfl ?_
      refine q0 73 1249 36 rfl rfl (T_move rfl rfl) rfl ?_
      refine k_no (d := 74) (j' := 37) rfl rfl rfl (g_tf rfl rfl rfl rfl) ?_
      refine k_no (d := 75) (j' := 38) rfl rfl rfl (g_tf rfl rfl rfl rfl) ?_
      refine k_no (d := 76) (j' := 39) rfl rfl rfl (g_tf rfl rfl rfl rfl) ?_
      refine k_no (d := 77) (j' := 40) rfl rfl rfl (g_tf rfl rfl rfl rfl) ?_
      refine q0 78 1329 41 rfl rfl (T_pick_f rfl rfl rfl rfl) rfl ?_
      refine q0 0 1345 42 rfl rfl (T_assign rfl rfl) rfl ?_
      refine k_done rfl ?_
      refine thenK_n ?_
      refine W_ret ?_
      exact .mk [] (.inr rfl) (.tmp rfl (.nil)) (by first | rfl | exact absurd g1 (by decide +kernel) | exact absurd g2 (by decide +kernel) | exact absurd g3 (by decide +kernel) | exact absurd g4 (by decide +kernel) | exact absurd g5 (by decide +kernel) | exact absurd g6 (by decide +kernel) | exact absurd g7 (by decide +kernel) | exact absurd g8 (by decide +kernel) | decide +kernel) (.nil) rfl
    ·have h4 := g4; (try simp only [cmpB, decide_eq_true_eq, decide_eq_false_iff_not, beq_iff_eq, beq_eq_false_iff_ne, bne_iff_ne, ne_eq, bne_eq_false_iff_eq, Bool.not_eq_true', Bool.not_eq_false', Int.not_lt, Int.not_le] at h4)
     refine k_no (d := 63) (j' := 26) rfl rfl rfl (g_tf rfl rfl rfl g4) ?_
     refine k_no (d := 64) (j' := 27) rfl rfl rfl (g_tf rfl rfl rfl g4) ?_
     refine k_no (d := 65) (j' := 28) rfl rfl rfl (g_tf rfl rfl rfl g4) ?_
     refine k_no (d := 66) (j' := 29) rfl rfl rfl (g_tf rfl rfl rfl g4) ?_
     refine q0 67 1153 30 rfl rfl (T_pick_f rfl rfl rfl g4) rfl ?_
     refine q0 68 1169 31 rfl rfl (T_move rfl rfl) rfl ?_
     refine k_no (d := 69) (j' := 32) rfl rfl rfl (g_tf rfl rfl rfl rfl) ?_
     refine k_no (d := 70) (j' := 33) rfl rfl rfl (g_tf rfl rfl rfl rfl) ?_
     refine k_no (d := 71) (j' := 34) rfl rfl rfl (g_tf rfl rfl rfl rfl) ?_
     refine q0 72 1233 35 rfl rfl (T_pick_f rfl rfl rfl rfl) rfl ?_
     refine q0 73 1249 36 rfl rfl (T_move rfl rfl) rfl ?_
     refine k_no (d := 74) (j' := 37) rfl rfl rfl (g_tf rfl rfl rfl rfl) ?_
     refine k_no (d := 75) (j' := 38) rfl rfl rfl (g_tf rfl rfl rfl rfl) ?_
     refine k_no (d := 76) (j' := 39) rfl rfl rfl (g_tf rfl rfl rfl rfl) ?_
     refine k_no (d := 77) (j' := 40) rfl rfl rfl (g_tf rfl rfl rfl rfl) ?_
     refine q0 78 1329 41 rfl rfl (T_pick_f rfl rfl rfl rfl) rfl ?_
     refine q0 0 1345 42 rfl rfl (T_assign rfl rfl) rfl ?_
     refine k_done rfl ?_
     refine thenK_n ?_
     refine W_ret ?_
     exact .mk [] (.inr rfl) (.tmp rfl (.nil)) (by first | rfl | exact absurd g1 (by decide +kernel) | exact absurd g2 (by decide +kernel) | exact absurd g3 (by decide +kernel) | exact absurd g4 (by decide +kernel) | exact absurd g5 (by decide +kernel) | exact absurd g6 (by decide +kernel) | exact absurd g7 (by decide +kernel) | exact absurd g8 (by decide +kernel) | decide +kernel) (.nil) rfl
   ·have h3 := g3; (try simp only [cmpB, decide_eq_true_eq, decide_eq_false_iff_not, beq_iff_eq, beq_eq_false_iff_ne, bne_iff_ne, ne_eq, bne_eq_false_iff_eq, Bool.not_eq_true', Bool.not_eq_false', Int.not_lt, Int.not_le] at h3)
    refine k_no (d := 58) (j' := 21) rfl rfl rfl (g_tf rfl rfl rfl g3) ?_
    refine k_no (d := 59) (j' := 22) rfl rfl rfl (g_tf rfl rfl rfl g3) ?_
    refine k_no (d := 60) (j' := 23) rfl rfl rfl (g_tf rfl rfl rfl g3) ?_
    refine q0 61 1057 24 rfl rfl (T_pick_f rfl rfl rfl g3) rfl ?_
    refine q0 62 1073 25 rfl rfl (T_move rfl rfl) rfl ?_
    refine k_no (d := 63) (j' := 26) rfl rfl rfl (g_tf rfl rfl rfl rfl) ?_
    refine k_no (d := 64) (j' := 27) rfl rfl rfl (g_tf rfl rfl rfl rfl) ?_
    refine k_no (d := 65) (j' := 28) rfl rfl rfl (g_tf rfl rfl rfl rfl) ?_
    refine k_no (d := 66) (j' := 29) rfl rfl rfl (g_tf rfl rfl rfl rfl) ?_
    refine q0 67 1153 30 rfl rfl (T_pick_f rfl rfl rfl rfl) rfl ?_
    refine q0 68 1169 31 rfl rfl (T_move rfl rfl) rfl ?_
    refine k_no (d := 69) (j' := 32) rfl rfl rfl (g_tf rfl rfl rfl rfl) ?_
    refine k_no (d := 70) (j' := 33) rfl rfl rfl (g_tf rfl rfl rfl rfl) ?_
    refine k_no (d := 71) (j' := 34) rfl rfl rfl (g_tf rfl rfl rfl rfl) ?_
    refine q0 72 1233 35 rfl rfl (T_pick_f rfl rfl rfl rfl) rfl ?_
    refine q0 73 1249 36 rfl rfl (T_move rfl rfl) rfl ?_
    refine k_no (d := 74) (j' := 37) rfl rfl rfl (g_tf rfl rfl rfl rfl) ?_
    refine k_no (d := 75) (j' := 38) rfl rfl rfl (g_tf rfl rfl rfl rfl) ?_
    refine k_no (d := 76) (j' := 39) rfl rfl rfl (g_tf rfl rfl rfl rfl) ?_
    refine k_no (d := 77) (j' := 40) rfl rfl rfl (g_tf rfl rfl rfl rfl) ?_
    refine q0 78 1329 41 rfl rfl (T_pick_f rfl rfl rfl rfl) rfl ?_
    refine q0 0 1345 42 rfl rfl (T_assign rfl rfl) rfl ?_
    refine k_done rfl ?_
    refine thenK_n ?_
    refine W_ret ?_
    exact .mk [] (.inr rfl) (.tmp rfl (.nil)) (by first | rfl | exact absurd g1 (by decide +kernel) | exact absurd g2 (by decide +kernel) | exact absurd g3 (by decide +kernel) | exact absurd g4 (by decide +kernel) | exact absurd g5 (by decide +kernel) | exact absurd g6 (by decide +kernel) | exact absurd g7 (by decide +kernel) | exact absurd g8 (by decide +kernel) | decide +kernel) (.nil) rfl
  ·have h2 := g2; (try simp only [cmpB, decide_eq_true_eq, decide_eq_false_iff_not, beq_iff_eq, beq_eq_false_iff_ne, bne_iff_ne, ne_eq, bne_eq_false_iff_eq, Bool.not_eq_true', Bool.not_eq_false', Int.not_lt, Int.not_le] at h2)
   refine k_no (d := 53) (j' := 16) rfl rfl rfl (g_tf rfl rfl rfl g2) ?_
   refine k_no (d := 54) (j' := 17) rfl rfl rfl (g_tf rfl rfl rfl g2) ?_
   refine k_no (d := 55) (j' := 18) rfl rfl rfl (g_tf rfl rfl rfl g2) ?_
   refine q0 56 977 19 rfl rfl (T_pick_f rfl rfl rfl g2) rfl ?_
   refine q0 57 993 20 rfl rfl (T_move rfl rfl) rfl ?_
   refine k_no (d := 58) (j' := 21) rfl rfl rfl (g_tf rfl rfl rfl rfl) ?_
   refine k_no (d := 59) (j' := 22) rfl rfl rfl (g_tf rfl rfl rfl rfl) ?_
   refine k_no (d := 60) (j' := 23) rfl rfl rfl (g_tf rfl rfl rfl rfl) ?_
   refine q0 61 1057 24 rfl rfl (T_pick_f rfl rfl rfl rfl) rfl ?_
   refine q0 62 1073 25 rfl rfl (T_move rfl rfl) rfl ?_
   refine k_no (d := 63) (j' := 26) rfl rfl rfl (g_tf rfl rfl rfl rfl) ?_
   refine k_no (d := 64) (j' := 27) rfl rfl rfl (g_tf rfl rfl rfl rfl) ?_
   refine k_no (d := 65) (j' := 28) rfl rfl rfl (g_tf rfl rfl rfl rfl) ?_
   refine k_no (d := 66) (j' := 29) rfl rfl rfl (g_tf rfl rfl rfl rfl) ?_
   refine q0 67 1153 30 rfl rfl (T_pick_f rfl rfl rfl rfl) rfl ?_
   refine q0 68 1169 31 rfl rfl (T_move rfl rfl) rfl ?_
   refine k_no (d := 69) (j' := 32) rfl rfl rfl (g_tf rfl rfl rfl rfl) ?_
   refine k_no (d := 70) (j' := 33) rfl rfl rfl (g_tf rfl rfl rfl rfl) ?_
   refine k_no (d := 71) (j' := 34) rfl rfl rfl (g_tf rfl rfl rfl rfl) ?_
   refine q0 72 1233 35 rfl rfl (T_pick_f rfl rfl rfl rfl) rfl ?_
   refine q0 73 1249 36 rfl rfl (T_move rfl rfl) rfl ?_
   refine k_no (d := 74) (j' := 37) rfl rfl rfl (g_tf rfl rfl rfl rfl) ?_
   refine k_no (d := 75) (j' := 38) rfl rfl rfl (g_tf rfl rfl rfl rfl) ?_
   refine k_no (d := 76) (j' := 39) rfl rfl rfl (g_tf rfl rfl rfl rfl) ?_
   refine k_no (d := 77) (j' := 40) rfl rfl rfl (g_tf rfl rfl rfl rfl) ?_
   refine q0 78 1329 41 rfl rfl (T_pick_f rfl rfl rfl rfl) rfl ?_
   refine q0 0 1345 42 rfl rfl (T_assign rfl rfl) rfl ?_
   refine k_done rfl ?_
   refine thenK_n ?_
   refine W_ret ?_
   exact .mk [] (.inr rfl) (.tmp rfl (.nil)) (by first | rfl | exact absurd g1 (by decide +kernel) | exact absurd g2 (by decide +kernel) | exact absurd g3 (by decide +kernel) | exact absurd g4 (by decide +kernel) | exact absurd g5 (by decide +kernel) | exact absurd g6 (by decide +kernel) | exact absurd g7 (by decide +kernel) | exact absurd g8 (by decide +kernel) | decide +kernel) (.nil) rfl
 ·have h1 := g1; (try simp only [cmpB, decide_eq_true_eq, decide_eq_false_iff_not, beq_iff_eq, beq_eq_false_iff_ne, bne_iff_ne, ne_eq, bne_eq_false_iff_eq, Bool.not_eq_true', Bool.not_eq_false', Int.not_lt, Int.not_le] at h1)
  refine k_no (d := 46) (j' := 9) rfl rfl rfl (g_tf rfl rfl rfl g1) ?_
  refine k_no (d := 47) (j' := 10) rfl rfl rfl (g_tf rfl rfl rfl g1) ?_
  refine k_no (d := 48) (j' := 11) rfl rfl rfl (g_tf rfl rfl rfl g1) ?_
  refine k_no (d := 49) (j' := 12) rfl rfl rfl (g_tf rfl rfl rfl g1) ?_
  refine k_no (d := 50) (j' := 13) rfl rfl rfl (g_tf rfl rfl rfl g1) ?_
  refine q0 51 897 14 rfl rfl (T_pick_f rfl rfl rfl g1) rfl ?_
  refine q0 52 913 15 rfl rfl (T_move rfl rfl) rfl ?_
  refine k_no (d := 53) (j' := 16) rfl rfl rfl (g_tf rfl rfl rfl rfl) ?_
  refine k_no (d := 54) (j' := 17) rfl rfl rfl (g_tf rfl rfl rfl rfl) ?_
  refine k_no (d := 55) (j' := 18) rfl rfl rfl (g_tf rfl rfl rfl rfl) ?_
  refine q0 56 977 19 rfl rfl (T_pick_f rfl rfl rfl rfl) rfl ?_
  refine q0 57 993 20 rfl rfl (T_move rfl rfl) rfl ?_
  refine k_no (d := 58) (j' := 21) rfl rfl rfl (g_tf rfl rfl rfl rfl) ?_
  refine k_no (d := 59) (j' := 22) rfl rfl rfl (g_tf rfl rfl rfl rfl) ?_
  refine k_no (d := 60) (j' := 23) rfl rfl rfl (g_tf rfl rfl rfl rfl) ?_
  refine q0 61 1057 24 rfl rfl (T_pick_f rfl rfl rfl rfl) rfl ?_
  refine q0 62 1073 25 rfl rfl (T_move rfl rfl) rfl ?_
  refine k_no (d := 63) (j' := 26) rfl rfl rfl (g_tf rfl rfl rfl rfl) ?_
  refine k_no (d := 64) (j' := 27) rfl rfl rfl (g_tf rfl rfl rfl rfl) ?_
  refine k_no (d := 65) (j' := 28) rfl rfl rfl (g_tf rfl rfl rfl rfl) ?_
  refine k_no (d := 66) (j' := 29) rfl rfl rfl (g_tf rfl rfl rfl rfl) ?_
  refine q0 67 1153 30 rfl rfl (T_pick_f rfl rfl rfl rfl) rfl ?_
  refine q0 68 1169 31 rfl rfl (T_move rfl rfl) rfl ?_
  refine k_no (d := 69) (j' := 32) rfl rfl rfl (g_tf rfl rfl rfl rfl) ?_
  refine k_no (d := 70) (j' := 33) rfl rfl rfl (g_tf rfl rfl rfl rfl) ?_
  refine k_no (d := 71) (j' := 34) rfl rfl rfl (g_tf rfl rfl rfl rfl) ?_
  refine q0 72 1233 35 rfl rfl (T_pick_f rfl rfl rfl rfl) rfl ?_
  refine q0 73 1249 36 rfl rfl (T_move rfl rfl) rfl ?_
  refine k_no (d := 74) (j' := 37) rfl rfl rfl (g_tf rfl rfl rfl rfl) ?_
  refine k_no (d := 75) (j' := 38) rfl rfl rfl (g_tf rfl rfl rfl rfl) ?_
  refine k_no (d := 76) (j' := 39) rfl rfl rfl (g_tf rfl rfl rfl rfl) ?_
  refine k_no (d := 77) (j' := 40) rfl rfl rfl (g_tf rfl rfl rfl rfl) ?_
  refine q0 78 1329 41 rfl rfl (T_pick_f rfl rfl rfl rfl) rfl ?_
  refine q0 0 1345 42 rfl rfl (T_assign rfl rfl) rfl ?_
  refine k_done rfl ?_
  refine thenK_n ?_
  refine W_ret ?_
  exact .mk [] (.inr rfl) (.tmp rfl (.nil)) (by first | rfl | exact absurd g1 (by decide +kernel) | exact absurd g2 (by decide +kernel) | exact absurd g3 (by decide +kernel) | exact absurd g4 (by decide +kernel) | exact absurd g5 (by decide +kernel) | exact absurd g6 (by decide +kernel) | exact absurd g7 (by decide +kernel) | exact absurd g8 (by decide +kernel) | decide +kernel) (.nil) rfl
end Lg
end Go.Proofs.Ytpfhmodjjljpjaa

namespace Go.Proofs.Ytpfhmodjjljpjaa
open Go.RowKit
namespace Lg
set_option linter.unusedSimpArgs false
set_option linter.unusedVariables false
def isW (x : Int) : Prop := 0 ≤ x ∧ x < 4294967296
def flagU (c : Bool) : Int := if c then 1 else 0
def bitsR : Nat → Int → List Int
  | 0, _ => []
  | n + 1, a => (a % 2) :: bitsR n (a / 2)
def ofR : List Int → Int
  | [] => 0
  | b :: l => 2 * ofR l + b
def bothBit (op x y : Int) : Int := if (x + y = 2 ∧ op ≠ 11) ∨ (x + y = 1 ∧ op ≠ 9) then 1 else 0
def bothL (op : Int) (x y : List Int) : List Int := List.zipWith (bothBit op) x y
def bothU (op a b : Int) : Int := ofR (bothL op (bitsR 32 a) (bitsR 32 b)) % 4294967296
def shiftN (op : Int) : Nat → Int → Int
  | 0, n => n
  | k + 1, n => shiftN op k (if op = 12 then 2 * n % 4294967296 else n / 2)
def shiftU (op a b : Int) : Int := if b ≥ 32 then 0 else shiftN op b.toNat a
def appV (op a b : Int) : Int :=
  if op = 4 then (a + b) % 4294967296 else if op = 5 then (a + 4294967296 - b) % 4294967296 else if op = 6 then (a * b) % 4294967296
  else if op = 7 then (if b = 0 then 0 else a / b) else if op = 8 then (if b = 0 then 0 else a % b)
  else if op = 9 ∨ op = 10 ∨ op = 11 then bothU op a b else if op = 12 ∨ op = 13 then shiftU op a b
  else if op = 14 then flagU (decide (a < b)) else if op = 15 then flagU (decide (a = b)) else 0
def appE (op b : Int) : Int := if (op = 7 ∨ op = 8) ∧ b = 0 then 14 else if 4 ≤ op ∧ op ≤ 15 then 0 else 1
theorem bitsR_len : ∀ (n : Nat) (a : Int), (bitsR n a).length = n
  | 0, _ => rfl
  | n + 1, a => by simp [bitsR, bitsR_len n]
theorem bitsR_bit : ∀ (n : Nat) (a : Int), ∀ x ∈ bitsR n a, x = 0 ∨ x = 1
  | 0, _, x, h => by cases h
  | n + 1, a, x, h => by
    rcases List.mem_cons.1 h with rfl | h
    · omega
    · exact bitsR_bit n _ x h
theorem bothBit_bit (op x y : Int) : bothBit op x y = 0 ∨ bothBit op x y = 1 := by
  unfold bothBit; split <;> simp
theorem bothL_bit {op : Int} {x y : List Int} : ∀ z ∈ bothL op x y, z = 0 ∨ z = 1 := fun z hz => by
  unfold bothL at hz
  obtain ⟨i, hi, rfl⟩ := List.getElem_of_mem hz
  simp only [List.getElem_zipWith]
  exact bothBit_bit _ _ _
theorem ofR_bd : ∀ (l : List Int), (∀ x ∈ l, x = 0 ∨ x = 1) → 0 ≤ ofR l ∧ ofR l < 2 ^ l.length
  | [], _ => by simp [ofR]
  | b :: l, h => by
    obtain ⟨h1, h2⟩ := ofR_bd l (fun x hx => h x (List.mem_cons_of_mem _ hx))
    have h3 := h b (by simp)
    simp only [ofR, List.length_cons, Int.pow_succ]
    omega
theorem ofR_drop {l : List Int} {j : Nat} (h : j < l.length) : ofR (l.drop j) = 2 * ofR (l.drop (j + 1)) + l.getD j default := by
  rw [List.drop_eq_getElem_cons h]
  simp [ofR, List.getD, h]
theorem ofR_bd32 {l : List Int} (hb : ∀ x ∈ l, x = 0 ∨ x = 1) (hl : l.length ≤ 32) (j : Nat) : 0 ≤ ofR (l.drop j) ∧ ofR (l.drop j) < 4294967296 := by
  obtain ⟨h1, h2⟩ := ofR_bd (l.drop j) (fun x hx => hb x (List.mem_of_mem_drop hx))
  refine ⟨h1, Int.lt_of_lt_of_le h2 ?_⟩
  have h3 : (l.drop j).length ≤ 32 := by simp; omega
  have h4 : (2 : Int) ^ (l.drop j).length ≤ 2 ^ 32 := by exact_mod_cast Nat.pow_le_pow_right (by omega) h3
  simpa using h4
theorem mul_bd {a b : Int} (ha : isW a) (hb : isW b) : 0 ≤ a * b ∧ a * b < 18446744073709551616 := by
  obtain ⟨a1, a2⟩ := ha
  obtain ⟨b1, b2⟩ := hb
  refine ⟨Int.mul_nonneg a1 b1, ?_⟩
  have h : a * b ≤ 4294967295 * 4294967295 := Int.mul_le_mul (by omega) (by omega) b1 (by omega)
  omega
theorem div_bd {a b : Int} (ha : isW a) (hb : isW b) : 0 ≤ a / b ∧ a / b < 4294967296 :=
  ⟨Int.ediv_nonneg ha.1 hb.1, Int.lt_of_le_of_lt (Int.ediv_le_self _ ha.1) ha.2⟩
theorem mod_bd {a b : Int} (ha : isW a) (hb : isW b) (h : b ≠ 0) : 0 ≤ a % b ∧ a % b < 4294967296 :=
  ⟨Int.emod_nonneg _ h, by have := Int.emod_lt_of_pos a (show 0 < b by have := hb.1; omega); have := hb.2; omega⟩
theorem shiftN_isW {op : Int} : ∀ (k : Nat) (n : Int), isW n → isW (shiftN op k n)
  | 0, n, h => h
  | k + 1, n, h => by
    refine shiftN_isW k _ ?_
    obtain ⟨h1, h2⟩ := h
    split <;> constructor <;> omega
theorem appV_isW {op a b : Int} (ha : isW a) (hb : isW b) : isW (appV op a b) := by
  have hz : isW 0 := ⟨by omega, by omega⟩
  have hf : ∀ c, isW (flagU c) := fun c => by cases c <;> constructor <;> decide
  have hm : ∀ x : Int, isW (x % 4294967296) := fun x => ⟨by omega, by omega⟩
  unfold appV
  by_cases h4 : op = 4
  · rw [if_pos h4]; exact hm _
  rw [if_neg h4]
  by_cases h5 : op = 5
  · rw [if_pos h5]; exact hm _
  rw [if_neg h5]
  by_cases h6 : op = 6
  · rw [if_pos h6]; exact hm _
  rw [if_neg h6]
  by_cases h7 : op = 7
  · rw [if_pos h7]; by_cases hb0 : b = 0
    · rw [if_pos hb0]; exact hz
    · rw [if_neg hb0]; exact div_bd ha hb
  rw [if_neg h7]
  by_cases h8 : op = 8
  · rw [if_pos h8]; by_cases hb0 : b = 0
    · rw [if_pos hb0]; exact hz
    · rw [if_neg hb0]; exact mod_bd ha hb hb0
  rw [if_neg h8]
  by_cases h9 : op = 9 ∨ op = 10 ∨ op = 11
  · rw [if_pos h9]; exact hm _
  rw [if_neg h9]
  by_cases h12 : op = 12 ∨ op = 13
  · rw [if_pos h12]; unfold shiftU
    by_cases h32 : b ≥ 32
    · rw [if_pos h32]; exact hz
    · rw [if_neg h32]; exact shiftN_isW _ _ ha
  rw [if_neg h12]
  by_cases h14 : op = 14
  · rw [if_pos h14]; exact hf _
  rw [if_neg h14]
  by_cases h15 : op = 15
  · rw [if_pos h15]; exact hf _
  rw [if_neg h15]
  exact hz
theorem bits_fin {n : Nat} {acc L : List Int} {y : Int} (h0 : n ≤ 32) (h1 : 32 ≤ (n : Int)) (h : acc ++ bitsR (32 - n) y = L) : L = acc := by
  have e : n = 32 := by omega
  subst e
  rw [← h]
  exact List.append_nil _
def mixB (op : Int) (x y : List Int) (j : Nat) : List Int := (bothL op x y).take j ++ x.drop j
section
variable {op : Int} {x y : List Int} {j : Nat}
theorem bothL_len (hx : x.length = 32) (hy : y.length = 32) : (bothL op x y).length = 32 := by simp [bothL, hx, hy]
theorem mixB_len (hx : x.length = 32) (hy : y.length = 32) (hj : j ≤ 32) : (mixB op x y j).length = 32 := by
  have := bothL_len (op := op) hx hy
  simp [mixB, hx, this]; omega
theorem mixB_get (hx : x.length = 32) (hy : y.length = 32) (hj : j < 32) : (mixB op x y j).getD j default = x.getD j default := by
  have := bothL_len (op := op) hx hy
  have h1 : ((bothL op x y).take j).length = j := by simp [this]; omega
  simp only [mixB, List.getD]
  rw [List.getElem?_append_right (by omega), h1]
  simp
theorem mixB_set (hx : x.length = 32) (hy : y.length = 32) (hj : j < 32) {v : Int} (hv : v = bothBit op (x.getD j default) (y.getD j default)) : (mixB op x y j).set j v = mixB op x y (j + 1) := by
  have hl := bothL_len (op := op) hx hy
  apply List.ext_getElem?
  intro i
  rw [List.getElem?_set]
  have hm := mixB_len (op := op) (j := j) hx hy (by omega)
  by_cases hi : j = i
  · subst hi
    rw [if_pos rfl, if_pos (by omega)]
    simp only [mixB]
    rw [List.getElem?_append_left (by simp [hl]; omega), List.getElem?_take, if_pos (by omega), hv]
    simp [bothL, List.getElem?_zipWith, List.getD, show j < x.length by omega, show j < y.length by omega]
  · rw [if_neg hi]
    simp only [mixB]
    by_cases h2 : i < j
    · rw [List.getElem?_append_left (by simp [hl]; omega), List.getElem?_append_left (by simp [hl]; omega), List.getElem?_take, List.getElem?_take, if_pos h2, if_pos (by omega)]
    · rw [List.getElem?_append_right (by simp [hl]; omega), List.getElem?_append_right (by simp [hl]; omega)]
      simp only [List.getElem?_drop, List.length_take, hl]
      congr 1
      omega
theorem mixB_end (hx : x.length = 32) (hy : y.length = 32) (hj : j = 32) : mixB op x y j = bothL op x y := by
  subst hj
  rw [mixB, List.take_of_length_le (by rw [bothL_len hx hy]; omega), List.drop_of_length_le (by omega), List.append_nil]
theorem bb_one {op a b : Int} (h : (a + b = 2 ∧ op ≠ 11) ∨ (a + b = 1 ∧ op ≠ 9)) : 1 = bothBit op a b := by unfold bothBit; rw [if_pos h]
theorem bb_zero {op a b : Int} (h : ¬ ((a + b = 2 ∧ op ≠ 11) ∨ (a + b = 1 ∧ op ≠ 9))) : 0 = bothBit op a b := by unfold bothBit; rw [if_neg h]
theorem mix_one (hx : x.length = 32) (hy : y.length = 32) (hj : j < 32) (h : ((mixB op x y j).getD j default + y.getD j default = 2 ∧ op ≠ 11) ∨ ((mixB op x y j).getD j default + y.getD j default = 1 ∧ op ≠ 9)) : ((mixB op x y j).set j 0).set j 1 = mixB op x y (j + 1) := by
  rw [List.set_set]
  rw [mixB_get hx hy hj] at h
  exact mixB_set hx hy hj (bb_one h)
theorem mix_zero (hx : x.length = 32) (hy : y.length = 32) (hj : j < 32) (h : ¬ (((mixB op x y j).getD j default + y.getD j default = 2 ∧ op ≠ 11) ∨ ((mixB op x y j).getD j default + y.getD j default = 1 ∧ op ≠ 9))) : (mixB op x y j).set j 0 = mixB op x y (j + 1) := by
  rw [mixB_get hx hy hj] at h
  exact mixB_set hx hy hj (bb_zero h)
theorem mix_bd (hx : x.length = 32) (hy : y.length = 32) (hj : j < 32) (hbx : ∀ z ∈ x, z = 0 ∨ z = 1) (hby : ∀ z ∈ y, z = 0 ∨ z = 1) : (0 ≤ (mixB op x y j).getD j default ∧ (mixB op x y j).getD j default ≤ 1) ∧ 0 ≤ y.getD j default ∧ y.getD j default ≤ 1 := by
  rw [mixB_get hx hy hj]
  have h1 := hbx (x.getD j default) (getD_mem (by omega))
  have h2 := hby (y.getD j default) (getD_mem (by omega))
  omega
end
theorem shift_hi {op a b : Int} (h : b ≥ 32) : shiftU op a b = 0 := by unfold shiftU; rw [if_pos h]
theorem shift_lo {op a b y : Int} {n : Nat} (h : b < 32) (hn : (n : Int) ≤ b) (hn2 : b ≤ (n : Int)) (he : shiftN op (b.toNat - n) y = shiftN op b.toNat a) : shiftU op a b = y := by
  unfold shiftU
  rw [if_neg (by omega), ← he, show b.toNat - n = 0 by omega]
  rfl
theorem app_end {σ : Nat → Nat} {op a b x e : Int} (h1 : appV op a b = x) (h2 : appE op b = e) : resLV [.v (.int .u32 x), .v (.int .i64 e)] = LV.ren σ (.tup [.v (.int .u32 (appV op a b)), .v (.int .i64 (appE op b))]) := by subst h1 h2; rfl
end Lg
end Go.Proofs.Ytpfhmodjjljpjaa

namespace Go.Proofs.Ytpfhmodjjljpjaa
open Go.RowKit
namespace Lg
set_option linter.unusedSimpArgs false
set_option linter.unusedVariables false
structure RS where
  ws : List Int
  out : List Int
  read : Int
  steps : Int
  fin : Int
def RS.tick (s : RS) : RS := { s with steps := s.steps + 1 }
def RS.stop (s : RS) (e : Int) : RS := { s with fin := e }
section
variable (inp : ByteArray) (fuel : Int)
def oneR (t : GTac) (regs : List Int) (s : RS) : List Int :=
  if t.op = 1 then regs.set t.d.toNat t.n
  else if t.op = 2 then regs.set t.d.toNat (regs.getD t.a.toNat default)
  else if t.op = 3 then (if appE t.k (regs.getD t.b.toNat default) = 0 then regs.set t.d.toNat (appV t.k (regs.getD t.a.toNat default) (regs.getD t.b.toNat default)) else regs)
  else if t.op = 4 then regs.set t.d.toNat (s.ws.getD t.base.toNat default)
  else if t.op = 6 then (if regs.getD t.a.toNat default < t.size then regs.set t.d.toNat (s.ws.getD (t.base + regs.getD t.a.toNat default).toNat default) else regs)
  else if t.op = 8 then (if s.read < (inp.size : Int) then (regs.set t.d.toNat 256).set t.d.toNat (byteAt inp s.read) else regs.set t.d.toNat 256)
  else regs
def oneS (call : Int → RS → RS) (t : GTac) (regs : List Int) (s : RS) : RS :=
  if t.op = 3 then (if appE t.k (regs.getD t.b.toNat default) = 0 then s else s.stop 2)
  else if t.op = 5 then { s with ws := s.ws.set t.base.toNat (regs.getD t.a.toNat default) }
  else if t.op = 6 then (if regs.getD t.a.toNat default < t.size then s else s.stop 3)
  else if t.op = 7 then (if regs.getD t.a.toNat default < t.size then { s with ws := s.ws.set (t.base + regs.getD t.a.toNat default).toNat (regs.getD t.b.toNat default) } else s.stop 3)
  else if t.op = 8 then (if s.read < (inp.size : Int) then { s with read := s.read + 1 } else s)
  else if t.op = 9 then (if (s.out.length : Int) < 65536 then { s with out := s.out ++ [regs.getD t.a.toNat default % 256] } else s.stop 4)
  else if t.op = 10 then call t.base s
  else s
def insL (call : Int → RS → RS) : List GTac → List Int → RS → List Int × RS × Bool
  | [], regs, s => (regs, s, false)
  | t :: ts, regs, s =>
    if s.steps < fuel then
      if (oneS inp call t regs s.tick).fin = 0 then insL call ts (oneR inp t regs s.tick) (oneS inp call t regs s.tick)
      else (oneR inp t regs s.tick, oneS inp call t regs s.tick, true)
    else (regs, s.stop 5, true)
def nextB (b : GBlock) (regs : List Int) : Int := if b.fin = 2 ∧ regs.getD b.v.toNat default = 0 then b.els else b.to
def blkL (call : Int → RS → RS) (f : GFn) : Nat → Int → List Int → RS → RS
  | 0, _, _, s => s
  | m + 1, at_, regs, s =>
    let b := f.blocks.getD at_.toNat default
    let q := insL inp fuel call b.ins regs s
    if q.2.2 = true then q.2.1
    else if q.2.1.steps < fuel then
      if b.fin = 3 then q.2.1.tick else blkL call f m (nextB b q.1) q.1 q.2.1.tick
    else q.2.1.stop 5
def callF (fs : List GFn) : Nat → Int → RS → RS
  | 0, _, s => s
  | d + 1, i, s => blkL inp fuel (callF fs d) (fs.getD i.toNat default) ((fuel - s.steps).toNat + 1) 0 (List.replicate (fs.getD i.toNat default).regs.toNat 0) s
end
structure SOk (words : Int) (inp : ByteArray) (fuel : Int) (s : RS) : Prop where
  len : (s.ws.length : Int) = words
  ws : ∀ x ∈ s.ws, isW x
  out : (s.out.length : Int) ≤ 65536
  read : 0 ≤ s.read ∧ s.read ≤ (inp.size : Int)
  steps : 0 ≤ s.steps ∧ s.steps ≤ fuel
structure ROk (n : Int) (regs : List Int) : Prop where
  len : (regs.length : Int) = n
  ws : ∀ x ∈ regs, isW x
theorem isW0 : isW 0 := ⟨by omega, by omega⟩
theorem all_getD {l : List Int} (h : ∀ x ∈ l, isW x) (j : Nat) : isW (l.getD j default) := by
  rcases Nat.lt_or_ge j l.length with hj | hj
  · exact h _ (getD_mem hj)
  · rw [List.getD, List.getElem?_eq_none hj]; exact isW0
theorem all_set {l : List Int} (h : ∀ x ∈ l, isW x) {v : Int} (hv : isW v) (j : Nat) : ∀ x ∈ l.set j v, isW x := fun x hx => by
  rcases List.mem_or_eq_of_mem_set hx with h1 | h1
  · exact h x h1
  · rw [h1]; exact hv
theorem byteAt_isW (s : ByteArray) (j : Int) : isW (byteAt s j) := by
  unfold byteAt
  split
  · rename_i b _; have := b.toNat_lt; constructor <;> omega
  · exact isW0
theorem ROk.set {n : Int} {regs : List Int} (h : ROk n regs) (j : Nat) {v : Int} (hv : isW v) : ROk n (regs.set j v) := ⟨by rw [List.length_set]; exact h.len, all_set h.ws hv j⟩
theorem ROk.at {n : Int} {regs : List Int} (h : ROk n regs) (j : Nat) : isW (regs.getD j default) := all_getD h.ws j
theorem oneR_ok {n words fuel : Int} {inp : ByteArray} {t : GTac} {regs : List Int} {s : RS} (h : ROk n regs) (hs : SOk words inp fuel s) (ht : isW t.n) : ROk n (oneR inp t regs s) := by
  unfold oneR
  repeat' split
  all_goals first | exact h | exact h.set _ ht | exact h.set _ (h.at _) | exact h.set _ (appV_isW (h.at _) (h.at _)) | exact h.set _ (all_getD hs.ws _) | exact (h.set _ (by constructor <;> omega)).set _ (byteAt_isW _ _) | exact h.set _ (by constructor <;> omega)
def Keeps (words : Int) (inp : ByteArray) (fuel : Int) (call : Int → RS → RS) (i : Int) : Prop := ∀ s, SOk words inp fuel s → SOk words inp fuel (call i s) ∧ s.steps ≤ (call i s).steps
section
variable {n words fuel : Int} {inp : ByteArray} {call : Int → RS → RS} {regs : List Int} {s : RS}
theorem SOk.stop (h : SOk words inp fuel s) (e : Int) : SOk words inp fuel (s.stop e) := ⟨h.len, h.ws, h.out, h.read, h.steps⟩
theorem SOk.tick (h : SOk words inp fuel s) (hs : s.steps < fuel) : SOk words inp fuel s.tick := ⟨h.len, h.ws, h.out, h.read, by have := h.steps; show 0 ≤ s.steps + 1 ∧ s.steps + 1 ≤ fuel; omega⟩
theorem oneS_ok {t : GTac} (h : ROk n regs) (hs : SOk words inp fuel s) (hc : t.op = 10 → Keeps words inp fuel call t.base) : SOk words inp fuel (oneS inp call t regs s) ∧ s.steps ≤ (oneS inp call t regs s).steps := by
  have hw : ∀ j v, isW v → SOk words inp fuel { s with ws := s.ws.set j v } := fun j v hv => ⟨by rw [← hs.len]; simp, all_set hs.ws hv j, hs.out, hs.read, hs.steps⟩
  unfold oneS
  repeat' split
  all_goals first | exact ⟨hs, Int.le_refl _⟩ | exact ⟨hs.stop _, Int.le_refl _⟩ | exact ⟨hw _ _ (h.at _), Int.le_refl _⟩ | exact hc (by assumption) s hs | skip
  · refine ⟨⟨hs.len, hs.ws, hs.out, ?_, hs.steps⟩, Int.le_refl _⟩
    have := hs.read
    show 0 ≤ s.read + 1 ∧ s.read + 1 ≤ _
    omega
  · refine ⟨⟨hs.len, hs.ws, ?_, hs.read, hs.steps⟩, Int.le_refl _⟩
    show ((s.out ++ [_]).length : Int) ≤ _
    rw [List.length_append, List.length_singleton]
    omega
theorem insL_ok : ∀ (l : List GTac) (regs : List Int) (s : RS), ROk n regs → SOk words inp fuel s → (∀ t ∈ l, isW t.n ∧ (t.op = 10 → Keeps words inp fuel call t.base)) →
    ROk n (insL inp fuel call l regs s).1 ∧ SOk words inp fuel (insL inp fuel call l regs s).2.1 ∧ s.steps ≤ (insL inp fuel call l regs s).2.1.steps
  | [], regs, s, h, hs, _ => ⟨h, hs, Int.le_refl _⟩
  | t :: ts, regs, s, h, hs, hl => by
    simp only [insL]
    by_cases h1 : s.steps < fuel
    · rw [if_pos h1]
      have ht := hs.tick h1
      have h2 := oneR_ok h ht (hl t (by simp)).1
      obtain ⟨h3, h4⟩ := oneS_ok (t := t) h ht (hl t (by simp)).2
      have h5 : s.steps ≤ s.tick.steps := by show s.steps ≤ s.steps + 1; omega
      by_cases h6 : (oneS inp call t regs s.tick).fin = 0
      · rw [if_pos h6]
        obtain ⟨k1, k2, k3⟩ := insL_ok ts _ _ h2 h3 (fun t ht => hl t (List.mem_cons_of_mem _ ht))
        exact ⟨k1, k2, by omega⟩
      · rw [if_neg h6]
        exact ⟨h2, h3, by show _ ≤ (oneS inp call t regs s.tick).steps; omega⟩
    · rw [if_neg h1]
      exact ⟨h, hs.stop 5, Int.le_refl _⟩
theorem blkL_ok {f : GFn} (hf : ∀ b ∈ f.blocks, ∀ t ∈ b.ins, isW t.n ∧ (t.op = 10 → Keeps words inp fuel call t.base)) : ∀ (m : Nat) (at_ : Int) (regs : List Int) (s : RS), ROk n regs → SOk words inp fuel s → SOk words inp fuel (blkL inp fuel call f m at_ regs s) ∧ s.steps ≤ (blkL inp fuel call f m at_ regs s).steps
  | 0, _, _, s, _, hs => ⟨hs, Int.le_refl _⟩
  | m + 1, at_, regs, s, h, hs => by
    have hb : ∀ t ∈ (f.blocks.getD at_.toNat default).ins, isW t.n ∧ (t.op = 10 → Keeps words inp fuel call t.base) := fun t ht => by
      rcases Nat.lt_or_ge at_.toNat f.blocks.length with hj | hj
      · exact hf _ (getD_mem hj) t ht
      · rw [List.getD, List.getElem?_eq_none hj] at ht; cases ht
    obtain ⟨k1, k2, k3⟩ := insL_ok (call := call) _ _ _ h hs hb
    simp only [blkL]
    generalize insL inp fuel call (f.blocks.getD at_.toNat default).ins regs s = q at k1 k2 k3
    by_cases h1 : q.2.2 = true
    · rw [if_pos h1]; exact ⟨k2, k3⟩
    rw [if_neg h1]
    by_cases h2 : q.2.1.steps < fuel
    · rw [if_pos h2]
      have ht := k2.tick h2
      have h5 : q.2.1.steps ≤ q.2.1.tick.steps := by show q.2.1.steps ≤ q.2.1.steps + 1; omega
      by_cases h3 : (f.blocks.getD at_.toNat default).fin = 3
      · rw [if_pos h3]; exact ⟨ht, by omega⟩
      · rw [if_neg h3]
        obtain ⟨j1, j2⟩ := blkL_ok hf m (nextB (f.blocks.getD at_.toNat default) q.1) q.1 q.2.1.tick k1 ht
        exact ⟨j1, by omega⟩
    · rw [if_neg h2]; exact ⟨k2.stop 5, k3⟩
end
structure RunOk (p : GProg) : Prop where
  right : rightB p = true
  n : ∀ f ∈ p.funcs, ∀ b ∈ f.blocks, ∀ t ∈ b.ins, isW t.n
theorem right_oneB {p : GProg} (h : rightB p = true) {i : Nat} (hi : i < p.funcs.length) : oneB (p.funcs.getD i default) (i : Int) p.words = true := by
  unfold rightB at h
  simp only [Bool.and_eq_true] at h
  exact List.all_eq_true.1 h.2 i (List.mem_range.2 hi)
theorem right_words {p : GProg} (h : rightB p = true) : 0 ≤ p.words ∧ p.words ≤ 1048576 := by
  unfold rightB at h
  simp only [Bool.and_eq_true, decide_eq_true_eq] at h
  exact ⟨h.1.1, h.1.2.1⟩
theorem one_regs {f : GFn} {i words : Int} (h : oneB f i words = true) : 0 ≤ f.regs ∧ f.regs ≤ 4000 ∧ 0 < f.blocks.length := by
  unfold oneB at h
  simp only [Bool.and_eq_true, decide_eq_true_eq] at h
  exact ⟨h.1.1, h.1.2.1, List.length_pos_iff.2 h.1.2.2⟩
theorem one_blk {f : GFn} {i words : Int} (h : oneB f i words = true) : ∀ b ∈ f.blocks, blockB b f.blocks.length i f.regs words = true := by
  unfold oneB at h
  simp only [Bool.and_eq_true] at h
  exact List.all_eq_true.1 h.2
theorem blk_fits {b : GBlock} {k i regs words : Int} (h : blockB b k i regs words = true) : endsB b k regs = true ∧ ∀ t ∈ b.ins, FitsP t i regs words := by
  unfold blockB at h
  simp only [Bool.and_eq_true] at h
  exact ⟨h.1, fun t ht => of_decide_eq_true (List.all_eq_true.1 h.2 t ht)⟩
theorem fits_call {t : GTac} {i regs words : Int} (h : FitsP t i regs words) (ho : t.op = 10) : 0 ≤ t.base ∧ t.base < i := by
  have h1 := h.2.2.2.2.2.2.1 ho
  unfold withinB at h1
  simpa using h1
theorem callF_keeps {p : GProg} (hp : RunOk p) {inp : ByteArray} {fuel : Int} : ∀ (d : Nat) (i : Int), 0 ≤ i → i < d → i < p.funcs.length → Keeps p.words inp fuel (callF inp fuel p.funcs d) i
  | 0, i, h0, h1, _ => by omega
  | d + 1, i, h0, h1, h2 => fun s hs => by
    have h3 := right_oneB hp.right (i := i.toNat) (by omega)
    obtain ⟨r1, r2, r3⟩ := one_regs h3
    refine blkL_ok (n := (p.funcs.getD i.toNat default).regs) (fun b hb t ht => ?_) _ _ _ _ ⟨by rw [List.length_replicate]; omega, fun x hx => by rw [List.eq_of_mem_replicate hx]; exact isW0⟩ hs
    have h4 := (blk_fits (one_blk h3 b hb)).2 t ht
    refine ⟨hp.n _ (getD_mem (by omega)) b hb t ht, fun ho => ?_⟩
    have h5 := fits_call h4 ho
    exact callF_keeps hp d t.base h5.1 (by omega) (by omega)
end Lg
end Go.Proofs.Ytpfhmodjjljpjaa

namespace Go.Proofs.Ytpfhmodjjljpjaa
open Go.RowKit
namespace Lg
set_option maxRecDepth 100000
set_option linter.unusedVariables false
set_option linter.unusedSimpArgs false
theorem body120 : (Try.prog.funcs[120]?).map (fun fn => (fn.name == "runtime.NumGoroutine" || fn.body.isNone)) = some false := by kernel_rfl
theorem step_yes (fs : List GFn) (ws out : List Int) (words fuel rd steps fin : Int) (inp : ByteArray) (hb : -9000000000000000000 ≤ steps ∧ steps ≤ 9000000000000000000) (hs : steps < fuel) : Spec Try.prog 120 [.p 1 0] 5 [(1, .box 107 [.v (.int .i64 words), .r 2, .v (.string inp), .v (.int .i64 fuel), .r 3, .r 4, .v (.int .i64 rd), .v (.int .i64 steps), .v (.int .i64 fin)]), (2, .fz 2 (fs.map eFn)), (3, .row 68 1 (ws.map eU32)), (4, .row 5 1 (out.map eU8))] (.v (.bool true)) 5 [(1, .box 107 [.v (.int .i64 words), .r 2, .v (.string inp), .v (.int .i64 fuel), .r 3, .r 4, .v (.int .i64 rd), .v (.int .i64 (steps + 1)), .v (.int .i64 fin)]), (3, .row 68 1 (ws.map eU32)), (4, .row 5 1 (out.map eU8))] := by
 refine spec_of D (fn := Try.f120) rfl rfl (Nat.le_of_ble_eq_true rfl) ?_
 refine W_seq ?_
 refine W_seqK (b' := 21) rfl rfl ?_
 refine q0 2 5 1 rfl rfl (T_assign rfl rfl) rfl ?_
 refine k_done rfl ?_
 refine thenK_n ?_
 refine W_seq ?_
 refine W_seq ?_
 refine W_anyK (b' := 165) rfl rfl rfl ?_
 refine q0 3 21 1 rfl rfl (T_move rfl rfl) rfl ?_
 refine q0 4 37 2 rfl rfl (T_nilCheck rfl rfl) rfl ?_
 refine q0 5 53 3 rfl rfl (T_fa D (m := 7) rfl rfl rfl rfl rfl rfl) rfl ?_
 refine q0 6 69 4 rfl rfl (T_load_b D rfl rfl rfl rfl rfl rfl) rfl ?_
 refine q0 7 85 5 rfl rfl (T_move rfl rfl) rfl ?_
 refine q0 8 101 6 rfl rfl (T_nilCheck rfl rfl) rfl ?_
 refine q0 9 117 7 rfl rfl (T_fa D (m := 3) rfl rfl rfl rfl rfl rfl) rfl ?_
 refine q0 10 133 8 rfl rfl (T_load_b D rfl rfl rfl rfl rfl rfl) rfl ?_
 refine q0 11 149 9 rfl rfl (T_cmp rfl rfl rfl rfl) rfl ?_
 refine k_done rfl ?_
 refine ⟨rfl, ?_⟩
 refine thenK_n ?_
 refine W_cond rfl (fun g1 => ?_) (fun g1 => ?_)
 ·have h1 := c_geq_t g1
  refine W_seq ?_
  refine W_seqK (b' := 229) rfl rfl ?_
  refine q0 12 165 1 rfl rfl (T_move rfl rfl) rfl ?_
  refine q0 13 181 2 rfl rfl (T_nilCheck rfl rfl) rfl ?_
  refine q0 14 197 3 rfl rfl (T_fa D (m := 8) rfl rfl rfl rfl rfl rfl) rfl ?_
  refine s1 213 4 rfl rfl (T_stB D (cs' := [_, _, _, _, _, _, _, _, _]) rfl rfl rfl rfl (flat_v rfl) rfl rfl (Nat.le_of_ble_eq_true rfl) rfl) rfl ?_
  refine k_done rfl ?_
  refine thenK_n ?_
  refine W_seq ?_
  refine W_seqK (b' := 245) rfl rfl ?_
  refine q0 2 229 1 rfl rfl (T_assign rfl rfl) rfl ?_
  refine k_done rfl ?_
  refine thenK_n ?_
  refine W_ret ?_
  refine thenK_r ?_
  exact .mk [] (.inr rfl) (.tmp rfl (.nil)) (by first | rfl | (exfalso; omega)) (.box (by first | rfl | (exfalso; omega)) (.rowE rfl (.rowE rfl (.nil) (by first | rfl | (exfalso; omega))) (by first | rfl | (exfalso; omega)))) rfl
 ·have h1 := c_geq_f g1
  refine W_skip ?_
  refine thenK_n ?_
  refine W_seq ?_
  refine W_seqK (b' := 293) rfl rfl ?_
  refine q0 15 165 1 rfl rfl (T_move rfl rfl) rfl ?_
  refine q0 16 181 2 rfl rfl (T_nilCheck rfl rfl) rfl ?_
  refine q0 17 197 3 rfl rfl (T_fa D (m := 7) rfl rfl rfl rfl rfl rfl) rfl ?_
  refine q0 18 213 4 rfl rfl (T_load_b D rfl rfl rfl rfl rfl rfl) rfl ?_
  refine q0 19 229 5 rfl rfl (T_add64 rfl rfl rfl (by first | assumption | omega | (simp; omega))) rfl ?_
  refine q0 20 245 6 rfl rfl (T_nilCheck rfl rfl) rfl ?_
  refine q0 21 261 7 rfl rfl (T_fa D (m := 7) rfl rfl rfl rfl rfl rfl) rfl ?_
  refine s1 277 8 rfl rfl (T_stB D (cs' := [_, _, _, _, _, _, _, _, _]) rfl rfl rfl rfl (flat_v rfl) rfl rfl (Nat.le_of_ble_eq_true rfl) rfl) rfl ?_
  refine k_done rfl ?_
  refine thenK_n ?_
  refine W_seq ?_
  refine W_seqK (b' := 309) rfl rfl ?_
  refine q0 2 293 1 rfl rfl (T_assign rfl rfl) rfl ?_
  refine k_done rfl ?_
  refine thenK_n ?_
  refine W_ret ?_
  exact .mk [] (.inr rfl) (.tmp rfl (.nil)) (by first | rfl | (exfalso; omega)) (.box (by first | rfl | (exfalso; omega)) (.rowE rfl (.rowE rfl (.nil) (by first | rfl | (exfalso; omega))) (by first | rfl | (exfalso; omega)))) rfl
theorem step_no (fs : List GFn) (ws out : List Int) (words fuel rd steps fin : Int) (inp : ByteArray) (hb : -9000000000000000000 ≤ steps ∧ steps ≤ 9000000000000000000) (hs : ¬ steps < fuel) : Spec Try.prog 120 [.p 1 0] 5 [(1, .box 107 [.v (.int .i64 words), .r 2, .v (.string inp), .v (.int .i64 fuel), .r 3, .r 4, .v (.int .i64 rd), .v (.int .i64 steps), .v (.int .i64 fin)]), (2, .fz 2 (fs.map eFn)), (3, .row 68 1 (ws.map eU32)), (4, .row 5 1 (out.map eU8))] (.v (.bool false)) 5 [(1, .box 107 [.v (.int .i64 words), .r 2, .v (.string inp), .v (.int .i64 fuel), .r 3, .r 4, .v (.int .i64 rd), .v (.int .i64 steps), .v (.int .i64 5)]), (3, .row 68 1 (ws.map eU32)), (4, .row 5 1 (out.map eU8))] := by
 refine spec_of D (fn := Try.f120) rfl rfl (Nat.le_of_ble_eq_true rfl) ?_
 refine W_seq ?_
 refine W_seqK (b' := 21) rfl rfl ?_
 refine q0 2 5 1 rfl rfl (T_assign rfl rfl) rfl ?_
 refine k_done rfl ?_
 refine thenK_n ?_
 refine W_seq ?_
 refine W_seq ?_
 refine W_anyK (b' := 165) rfl rfl rfl ?_
 refine q0 3 21 1 rfl rfl (T_move rfl rfl) rfl ?_
 refine q0 4 37 2 rfl rfl (T_nilCheck rfl rfl) rfl ?_
 refine q0 5 53 3 rfl rfl (T_fa D (m := 7) rfl rfl rfl rfl rfl rfl) rfl ?_
 refine q0 6 69 4 rfl rfl (T_load_b D rfl rfl rfl rfl rfl rfl) rfl ?_
 refine q0 7 85 5 rfl rfl (T_move rfl rfl) rfl ?_
 refine q0 8 101 6 rfl rfl (T_nilCheck rfl rfl) rfl ?_
 refine q0 9 117 7 rfl rfl (T_fa D (m := 3) rfl rfl rfl rfl rfl rfl) rfl ?_
 refine q0 10 133 8 rfl rfl (T_load_b D rfl rfl rfl rfl rfl rfl) rfl ?_
 refine q0 11 149 9 rfl rfl (T_cmp rfl rfl rfl rfl) rfl ?_
 refine k_done rfl ?_
 refine ⟨rfl, ?_⟩
 refine thenK_n ?_
 refine W_cond rfl (fun g1 => ?_) (fun g1 => ?_)
 ·have h1 := c_geq_t g1
  refine W_seq ?_
  refine W_seqK (b' := 229) rfl rfl ?_
  refine q0 12 165 1 rfl rfl (T_move rfl rfl) rfl ?_
  refine q0 13 181 2 rfl rfl (T_nilCheck rfl rfl) rfl ?_
  refine q0 14 197 3 rfl rfl (T_fa D (m := 8) rfl rfl rfl rfl rfl rfl) rfl ?_
  refine s1 213 4 rfl rfl (T_stB D (cs' := [_, _, _, _, _, _, _, _, _]) rfl rfl rfl rfl (flat_v rfl) rfl rfl (Nat.le_of_ble_eq_true rfl) rfl) rfl ?_
  refine k_done rfl ?_
  refine thenK_n ?_
  refine W_seq ?_
  refine W_seqK (b' := 245) rfl rfl ?_
  refine q0 2 229 1 rfl rfl (T_assign rfl rfl) rfl ?_
  refine k_done rfl ?_
  refine thenK_n ?_
  refine W_ret ?_
  refine thenK_r ?_
  exact .mk [] (.inr rfl) (.tmp rfl (.nil)) (by first | rfl | (exfalso; omega)) (.box (by first | rfl | (exfalso; omega)) (.rowE rfl (.rowE rfl (.nil) (by first | rfl | (exfalso; omega))) (by first | rfl | (exfalso; omega)))) rfl
 ·have h1 := c_geq_f g1
  refine W_skip ?_
  refine thenK_n ?_
  refine W_seq ?_
  refine W_seqK (b' := 293) rfl rfl ?_
  refine q0 15 165 1 rfl rfl (T_move rfl rfl) rfl ?_
  refine q0 16 181 2 rfl rfl (T_nilCheck rfl rfl) rfl ?_
  refine q0 17 197 3 rfl rfl (T_fa D (m := 7) rfl rfl rfl rfl rfl rfl) rfl ?_
  refine q0 18 213 4 rfl rfl (T_load_b D rfl rfl rfl rfl rfl rfl) rfl ?_
  refine q0 19 229 5 rfl rfl (T_add64 rfl rfl rfl (by first | assumption | omega | (simp; omega))) rfl ?_
  refine q0 20 245 6 rfl rfl (T_nilCheck rfl rfl) rfl ?_
  refine q0 21 261 7 rfl rfl (T_fa D (m := 7) rfl rfl rfl rfl rfl rfl) rfl ?_
  refine s1 277 8 rfl rfl (T_stB D (cs' := [_, _, _, _, _, _, _, _, _]) rfl rfl rfl rfl (flat_v rfl) rfl rfl (Nat.le_of_ble_eq_true rfl) rfl) rfl ?_
  refine k_done rfl ?_
  refine thenK_n ?_
  refine W_seq ?_
  refine W_seqK (b' := 309) rfl rfl ?_
  refine q0 2 293 1 rfl rfl (T_assign rfl rfl) rfl ?_
  refine k_done rfl ?_
  refine thenK_n ?_
  refine W_ret ?_
  exact .mk [] (.inr rfl) (.tmp rfl (.nil)) (by first | rfl | (exfalso; omega)) (.box (by first | rfl | (exfalso; omega)) (.rowE rfl (.rowE rfl (.nil) (by first | rfl | (exfalso; omega))) (by first | rfl | (exfalso; omega)))) rfl
end Lg
end Go.Proofs.Ytpfhmodjjljpjaa

namespace Go.Proofs.Ytpfhmodjjljpjaa
open Go.RowKit
namespace Lg
set_option maxRecDepth 100000
set_option linter.unusedVariables false
set_option linter.unusedSimpArgs false
theorem body139 : (Try.prog.funcs[139]?).map (fun fn => (fn.name == "runtime.NumGoroutine" || fn.body.isNone)) = some false := by kernel_rfl
theorem flag_spec (c : Bool) : Spec Try.prog 139 [.v (.bool c)] 1 [] (.v (.int .u32 (flagU c))) 1 [] := by
 refine spec_of D (fn := Try.f139) rfl rfl (Nat.le_of_ble_eq_true rfl) ?_
 refine W_seq ?_
 refine W_seqK (b' := 17) rfl rfl ?_
 refine q0 2 1 1 rfl rfl (T_assign rfl rfl) rfl ?_
 refine k_done rfl ?_
 refine thenK_n ?_
 refine W_seq ?_
 refine W_seq ?_
 refine W_seqK (b' := 33) rfl rfl ?_
 refine q0 3 17 1 rfl rfl (T_move rfl rfl) rfl ?_
 refine k_done rfl ?_
 refine thenK_n ?_
 refine W_cond rfl (fun g1 => ?_) (fun g1 => ?_)
 ·have h1 := g1; (try simp only [cmpB, decide_eq_true_eq, decide_eq_false_iff_not, beq_iff_eq, beq_eq_false_iff_ne, bne_iff_ne, ne_eq, bne_eq_false_iff_eq, Bool.not_eq_true', Bool.not_eq_false', Int.not_lt, Int.not_le] at h1)
  refine W_seq ?_
  refine W_seqK (b' := 49) rfl rfl ?_
  refine q0 2 33 1 rfl rfl (T_assign rfl rfl) rfl ?_
  refine k_done rfl ?_
  refine thenK_n ?_
  refine W_ret ?_
  refine thenK_r ?_
  exact .mk [] (.inr rfl) (.tmp rfl (.nil)) (by first | rfl | (cases c <;> first | rfl | simp_all)) (.nil) rfl
 ·have h1 := g1; (try simp only [cmpB, decide_eq_true_eq, decide_eq_false_iff_not, beq_iff_eq, beq_eq_false_iff_ne, bne_iff_ne, ne_eq, bne_eq_false_iff_eq, Bool.not_eq_true', Bool.not_eq_false', Int.not_lt, Int.not_le] at h1)
  refine W_skip ?_
  refine thenK_n ?_
  refine W_seq ?_
  refine W_seqK (b' := 49) rfl rfl ?_
  refine q0 2 33 1 rfl rfl (T_assign rfl rfl) rfl ?_
  refine k_done rfl ?_
  refine thenK_n ?_
  refine W_ret ?_
  exact .mk [] (.inr rfl) (.tmp rfl (.nil)) (by first | rfl | (cases c <;> first | rfl | simp_all)) (.nil) rfl
theorem body140 : (Try.prog.funcs[140]?).map (fun fn => (fn.name == "runtime.NumGoroutine" || fn.body.isNone)) = some false := by kernel_rfl
theorem bits_spec (a : Int) (ha : isW a) : Spec Try.prog 140 [.v (.int .u32 a)] 1 [] (.r 1) 2 [(1, .row 3 1 ((bitsR 32 a).map eI))] := by
 refine spec_of D (fn := Try.f140) rfl rfl (Nat.le_of_ble_eq_true rfl) ?_
 refine W_seq ?_
 refine W_seqK (b' := 17) rfl rfl ?_
 refine q1 2 1 1 rfl rfl (T_nils [(3, 1)] (T_assign rfl rfl) rfl (.inr ⟨rfl, rfl⟩) (.cons (.nil rfl) .nil) (lv' := .r 1) (upd' := [(1, .row 3 1 (List.map eI ([] : List (Int))))]) (nn' := 1) rfl rfl) rfl ?_
 refine k_done rfl ?_
 refine thenK_n ?_
 refine W_seq ?_
 refine W_seqK (b' := 33) rfl rfl ?_
 refine q1 3 17 1 rfl rfl (T_nils [(3, 1)] (T_assign rfl rfl) rfl (.inr ⟨rfl, rfl⟩) (.cons (.nil rfl) .nil) (lv' := .r 17) (upd' := [(17, .row 3 1 (List.map eI ([] : List (Int))))]) (nn' := 1) rfl rfl) rfl ?_
 refine k_done rfl ?_
 refine thenK_n ?_
 refine W_seq ?_
 refine W_seq ?_
 refine W_seqK (b' := 49) rfl rfl ?_
 refine q0 4 33 1 rfl rfl (T_assign rfl rfl) rfl ?_
 refine k_done rfl ?_
 refine thenK_n ?_
 refine W_block ?_
 refine W_loop (ι := Nat × Int × List Int) 2 (fun x => ⟨[(0, .v (.int .u32 x.2.1)), (3, .r 1), (4, .v (.int .i64 (x.1 : Int)))], [(1, .row 3 1 (x.2.2.map eI))]⟩) (fun x => x.1 ≤ 32 ∧ x.2.2 ++ bitsR (32 - x.1) x.2.1 = bitsR 32 a ∧ isW x.2.1 ∧ x.2.2.length = x.1) (fun x => 32 - x.1) ((0, a, [])) (by exact ⟨by omega, rfl, ha, rfl⟩) ?_ (fun x hJ => ?_)
 ·exact ⟨[(1, 17)], .eq rfl (.same rfl rfl (.eq rfl (.nil) (by first | rfl | simp))) (by first | rfl | simp), .rowE rfl (.nil) (by first | rfl | simp), rfl⟩
 have k1 := hJ.2.2.1.1
 have k2 := hJ.2.2.1.2
 have k3 := hJ.2.2.2
 refine W_seq ?_
 refine W_seq ?_
 refine W_seqK (b' := 34) rfl rfl ?_
 refine q0 5 2 1 rfl rfl (T_move rfl rfl) rfl ?_
 refine q0 6 18 2 rfl rfl (T_cmp rfl rfl rfl rfl) rfl ?_
 refine k_done rfl ?_
 refine thenK_n ?_
 refine W_cond rfl (fun g1 => ?_) (fun g1 => ?_)
 ·have h1 := c_lss_t g1
  refine W_skip ?_
  refine thenK_n ?_
  refine W_seq ?_
  refine W_block ?_
  refine W_seq ?_
  refine W_seqK (b' := 146) rfl rfl ?_
  refine q0 9 34 1 rfl rfl (T_move rfl rfl) rfl ?_
  refine q0 10 50 2 rfl rfl (T_move rfl rfl) rfl ?_
  refine q0 11 66 3 rfl rfl (T_remU rfl rfl rfl (by first | assumption | omega | (simp; omega))) rfl ?_
  refine q0 12 82 4 rfl rfl (T_conv64 rfl rfl (by rw [Try.underlying68]; rfl) (by first | assumption | omega | (simp; omega))) rfl ?_
  refine q1 13 98 5 rfl rfl (T_bs D (ys := [_]) (enc := eI) (l := [_]) rfl rfl rfl rfl rfl rfl (.cons rfl (flat_v rfl) (.nil)) rfl rfl rfl rfl (.v rfl (.nil)) rfl rfl) rfl ?_
  refine qn 14 114 6 rfl rfl (T_append D rfl rfl rfl rfl rfl rfl rfl rfl rfl rfl rfl rfl (by (try simp only [ty3]); first | assumption | omega | (simp; omega)) (by (try simp only [ty3]); first | assumption | omega | (simp; omega))) rfl ?_
  refine q0 3 130 7 rfl rfl (T_assign rfl rfl) rfl ?_
  refine k_done rfl ?_
  refine thenK_n ?_
  refine W_seqK (b' := 194) rfl rfl ?_
  refine q0 15 146 1 rfl rfl (T_move rfl rfl) rfl ?_
  refine q0 16 162 2 rfl rfl (T_quoU (top := 4294967296) rfl rfl rfl rfl rfl (by first | assumption | omega | (simp; omega))) rfl ?_
  refine q0 0 178 3 rfl rfl (T_assign rfl rfl) rfl ?_
  refine k_done rfl ?_
  refine blockK_n ?_
  refine thenK_n ?_
  refine W_seqK (b' := 242) rfl rfl ?_
  refine q0 7 194 1 rfl rfl (T_move rfl rfl) rfl ?_
  refine q0 8 210 2 rfl rfl (T_add64 rfl rfl rfl (by first | assumption | omega | (simp; omega))) rfl ?_
  refine q0 4 226 3 rfl rfl (T_assign rfl rfl) rfl ?_
  refine k_done rfl ?_
  refine thenK_n ?_
  refine ⟨(x.1 + 1, x.2.1 / 2, x.2.2 ++ [x.2.1 % 2]), by (try dsimp only); exact ⟨by omega, by rw [← hJ.2.1, show 32 - x.1 = (32 - (x.1 + 1)) + 1 by omega]; simp [bitsR], ⟨by omega, by omega⟩, by simp [k3]⟩, by (try dsimp only); omega, ?_⟩
  exact ⟨[(1, 114)], .eq rfl (.same rfl rfl (.eq rfl (.nil) (by first | rfl | simp))) (by first | rfl | simp), .rowE rfl (.nil) (by first | rfl | simp), rfl⟩
 ·have h1 := c_lss_f g1
  refine W_exit ?_
  refine thenK_e ?_
  refine thenK_e ?_
  refine blockK_hit ?_
  refine thenK_n ?_
  refine W_seq ?_
  refine W_seqK (b' := 66) rfl rfl ?_
  refine q0 17 34 1 rfl rfl (T_move rfl rfl) rfl ?_
  refine q0 2 50 2 rfl rfl (T_assign rfl rfl) rfl ?_
  refine k_done rfl ?_
  refine thenK_n ?_
  refine W_ret ?_
  exact .mk [(1, 1)] (.inr rfl) (.tmp rfl (.nil)) rfl (.rowE rfl (.nil) (by first | rfl | (rw [bits_fin hJ.1 (by omega) hJ.2.1]))) rfl
theorem body141 : (Try.prog.funcs[141]?).map (fun fn => (fn.name == "runtime.NumGoroutine" || fn.body.isNone)) = some false := by kernel_rfl
theorem of_word_spec (l : List Int) (hb : ∀ x ∈ l, x = 0 ∨ x = 1) (hl : l.length ≤ 32) : Spec Try.prog 141 [.r 1] 2 [(1, .fz 1 (l.map eI))] (.v (.int .u32 (ofR l % 4294967296))) 2 [] := by
 refine spec_of D (fn := Try.f141) rfl rfl (Nat.le_of_ble_eq_true rfl) ?_
 refine W_seq ?_
 refine W_seqK (b' := 18) rfl rfl ?_
 refine q0 2 2 1 rfl rfl (T_assign rfl rfl) rfl ?_
 refine k_done rfl ?_
 refine thenK_n ?_
 refine W_seq ?_
 refine W_seqK (b' := 34) rfl rfl ?_
 refine q0 3 18 1 rfl rfl (T_assign rfl rfl) rfl ?_
 refine k_done rfl ?_
 refine thenK_n ?_
 refine W_seq ?_
 refine W_seq ?_
 refine W_seqK (b' := 98) rfl rfl ?_
 refine q0 5 34 1 rfl rfl (T_move rfl rfl) rfl ?_
 refine q0 6 50 2 rfl rfl (T_len D rfl rfl rfl rfl rfl rfl) rfl ?_
 refine q0 7 66 3 rfl rfl (T_sub64 rfl rfl rfl (by first | assumption | omega | (rw [k3 (by omega)]; have q := k2 (by omega); omega) | (have q := k2 (by omega); rw [k3 (by omega)]; omega))) rfl ?_
 refine q0 4 82 4 rfl rfl (T_assign rfl rfl) rfl ?_
 refine k_done rfl ?_
 refine thenK_n ?_
 refine W_block ?_
 refine W_loop (ι := Nat) 2 (fun j => ⟨[(0, .r 1), (3, .v (.int .u64 (ofR (l.drop j)))), (4, .v (.int .i64 ((j : Int) - 1)))], [(1, .fz 1 (l.map eI))]⟩) (fun j => j ≤ l.length) (fun j => j) (l.length) (by exact Nat.le_refl _) ?_ (fun j hJ => ?_)
 ·exact ⟨[], .same rfl rfl (.eq rfl (.eq rfl (.nil) (by first | rfl | simp [ofR])) (by first | rfl | simp [ofR])), .fzE rfl (.nil) (by first | rfl | simp [ofR]), rfl⟩
 have k1 := ofR_bd32 hb hl j
 have k2 : 0 < j → l.getD (j - 1) default = 0 ∨ l.getD (j - 1) default = 1 := fun h => hb _ (getD_mem (by omega))
 have k3 : 0 < j → ((j : Int) - 1).toNat = j - 1 := fun h => by omega
 refine W_seq ?_
 refine W_seq ?_
 refine W_seqK (b' := 34) rfl rfl ?_
 refine q0 8 2 1 rfl rfl (T_move rfl rfl) rfl ?_
 refine q0 9 18 2 rfl rfl (T_cmp rfl rfl rfl rfl) rfl ?_
 refine k_done rfl ?_
 refine thenK_n ?_
 refine W_cond rfl (fun g1 => ?_) (fun g1 => ?_)
 ·have h1 := c_geq_t g1
  refine W_skip ?_
  refine thenK_n ?_
  refine W_seq ?_
  refine W_block ?_
  refine W_seqK (b' := 178) rfl rfl ?_
  refine q0 12 34 1 rfl rfl (T_move rfl rfl) rfl ?_
  refine q0 13 50 2 rfl rfl (T_mulU (top := 18446744073709551616) rfl rfl rfl rfl rfl (by first | assumption | omega | (rw [k3 (by omega)]; have q := k2 (by omega); omega) | (have q := k2 (by omega); rw [k3 (by omega)]; omega))) rfl ?_
  refine q0 14 66 3 rfl rfl (T_move rfl rfl) rfl ?_
  refine q0 15 82 4 rfl rfl (T_move rfl rfl) rfl ?_
  first | refine q0 16 98 5 rfl rfl (T_indexAddr D rfl rfl rfl rfl rfl rfl rfl rfl (by first | assumption | omega | (rw [k3 (by omega)]; have q := k2 (by omega); omega) | (have q := k2 (by omega); rw [k3 (by omega)]; omega))) rfl ?_ | refine q0 16 98 5 rfl rfl (T_indexAddrZ D rfl rfl rfl rfl rfl rfl rfl rfl (by first | assumption | omega | (rw [k3 (by omega)]; have q := k2 (by omega); omega) | (have q := k2 (by omega); rw [k3 (by omega)]; omega)) (by first | assumption | omega | (rw [k3 (by omega)]; have q := k2 (by omega); omega) | (have q := k2 (by omega); rw [k3 (by omega)]; omega))) rfl ?_
  refine q0 17 114 6 rfl rfl (T_ldE D (lv := .v _) (nn := 0) (upd := []) rfl rfl rfl rfl rfl (by first | assumption | omega | (rw [k3 (by omega)]; have q := k2 (by omega); omega) | (have q := k2 (by omega); rw [k3 (by omega)]; omega)) rfl rfl rfl rfl) rfl ?_
  refine q0 18 130 7 rfl rfl (T_convU (top := 18446744073709551616) rfl rfl (by rw [Try.underlying3]; rfl) Try.underlying164 rfl rfl (by first | assumption | omega | (rw [k3 (by omega)]; have q := k2 (by omega); omega) | (have q := k2 (by omega); rw [k3 (by omega)]; omega))) rfl ?_
  refine q0 19 146 8 rfl rfl (T_addU (top := 18446744073709551616) rfl rfl rfl rfl rfl (by first | assumption | omega | (rw [k3 (by omega)]; have q := k2 (by omega); omega) | (have q := k2 (by omega); rw [k3 (by omega)]; omega))) rfl ?_
  refine q0 3 162 9 rfl rfl (T_assign rfl rfl) rfl ?_
  refine k_done rfl ?_
  refine blockK_n ?_
  refine thenK_n ?_
  refine W_seqK (b' := 226) rfl rfl ?_
  refine q0 10 178 1 rfl rfl (T_move rfl rfl) rfl ?_
  refine q0 11 194 2 rfl rfl (T_sub64 rfl rfl rfl (by first | assumption | omega | (rw [k3 (by omega)]; have q := k2 (by omega); omega) | (have q := k2 (by omega); rw [k3 (by omega)]; omega))) rfl ?_
  refine q0 4 210 3 rfl rfl (T_assign rfl rfl) rfl ?_
  refine k_done rfl ?_
  refine thenK_n ?_
  refine ⟨j - 1, by (try dsimp only); omega, by (try dsimp only); omega, ?_⟩
  exact ⟨[], .same rfl rfl (.eq rfl (.eq rfl (.nil) (by first | rfl | (rw [k3 (by omega), ofR_drop (l := l) (j := j - 1) (by omega), show j - 1 + 1 = j by omega]; first | done | rfl) | (show Value.int _ _ = Value.int _ _; congr 1; omega))) (by first | rfl | (rw [k3 (by omega), ofR_drop (l := l) (j := j - 1) (by omega), show j - 1 + 1 = j by omega]; first | done | rfl) | (show Value.int _ _ = Value.int _ _; congr 1; omega))), .fzE rfl (.nil) rfl, rfl⟩
 ·have h1 := c_geq_f g1
  refine W_exit ?_
  refine thenK_e ?_
  refine thenK_e ?_
  refine blockK_hit ?_
  refine thenK_n ?_
  refine W_seq ?_
  refine W_seqK (b' := 98) rfl rfl ?_
  refine q0 20 34 1 rfl rfl (T_move rfl rfl) rfl ?_
  refine q0 21 50 2 rfl rfl (T_remU rfl rfl rfl (by first | assumption | omega | (rw [k3 (by omega)]; have q := k2 (by omega); omega) | (have q := k2 (by omega); rw [k3 (by omega)]; omega))) rfl ?_
  refine q0 22 66 3 rfl rfl (T_convU (top := 4294967296) rfl rfl (by rw [Try.underlying164]; rfl) Try.underlying68 rfl rfl (by first | assumption | omega | (rw [k3 (by omega)]; have q := k2 (by omega); omega) | (have q := k2 (by omega); rw [k3 (by omega)]; omega))) rfl ?_
  refine q0 2 82 4 rfl rfl (T_assign rfl rfl) rfl ?_
  refine k_done rfl ?_
  refine thenK_n ?_
  refine W_ret ?_
  exact .mk [] (.inr rfl) (.tmp rfl (.nil)) (by first | rfl | (have e : j = 0 := (by omega); subst e; rfl)) (.nil) rfl
theorem body137 : (Try.prog.funcs[137]?).map (fun fn => (fn.name == "runtime.NumGoroutine" || fn.body.isNone)) = some false := by kernel_rfl
theorem both_spec (op a b : Int) (ha : isW a) (hb : isW b) : Spec Try.prog 137 [.v (.int .i64 op), .v (.int .u32 a), .v (.int .u32 b)] 1 [] (.v (.int .u32 (bothU op a b))) 1 [] := by
 have hla := bitsR_len 32 a
 have hlb := bitsR_len 32 b
 have hba := bitsR_bit 32 a
 have hbb := bitsR_bit 32 b
 refine spec_of D (fn := Try.f137) rfl rfl (Nat.le_of_ble_eq_true rfl) ?_
 refine W_seq ?_
 refine W_seqK (b' := 17) rfl rfl ?_
 refine q0 6 1 1 rfl rfl (T_assign rfl rfl) rfl ?_
 refine k_done rfl ?_
 refine thenK_n ?_
 refine W_seq ?_
 refine W_seqK (b' := 113) rfl rfl ?_
 refine q0 11 17 1 rfl rfl (T_move rfl rfl) rfl ?_
 refine q1 12 33 2 rfl rfl (T_callR (lvs := [_]) (L := []) (keep := false) (bits_spec _ ha) body140 rfl rfl rfl rfl (.nil) rfl (.inl rfl) rfl) rfl ?_
 refine q0 13 49 3 rfl rfl (T_move rfl rfl) rfl ?_
 refine q1 14 65 4 rfl rfl (T_callR (lvs := [_]) (L := []) (keep := false) (bits_spec _ hb) body140 rfl rfl rfl rfl (.nil) rfl (.inl rfl) rfl) rfl ?_
 refine q0 7 81 5 rfl rfl (T_assign rfl rfl) rfl ?_
 refine q0 8 97 6 rfl rfl (T_assign rfl rfl) rfl ?_
 refine k_done rfl ?_
 refine thenK_n ?_
 refine W_seq ?_
 refine W_seq ?_
 refine W_seqK (b' := 129) rfl rfl ?_
 refine q0 9 113 1 rfl rfl (T_assign rfl rfl) rfl ?_
 refine k_done rfl ?_
 refine thenK_n ?_
 refine W_block ?_
 refine W_loop (ι := Nat) 3 (fun j => ⟨[(0, .v (.int .i64 op)), (7, .r 1), (8, .r 2), (9, .v (.int .i64 (j : Int)))], [(1, .row 3 1 ((mixB op (bitsR 32 a) (bitsR 32 b) j).map eI)), (2, .row 3 1 ((bitsR 32 b).map eI))]⟩) (fun j => j ≤ 32) (fun j => 32 - j) (0) (by exact Nat.zero_le _) ?_ (fun j hJ => ?_)
 ·exact ⟨[(1, 33), (2, 65)], .eq rfl (.same rfl rfl (.same rfl rfl (.eq rfl (.nil) (by first | rfl | simp [mixB])))) (by first | rfl | simp [mixB]), .rowE rfl (.rowE rfl (.nil) (by first | rfl | simp [mixB])) (by first | rfl | simp [mixB]), rfl⟩
 have k1 := mixB_len (op := op) (j := j) hla hlb hJ
 refine W_seq ?_
 refine W_seq ?_
 refine W_seqK (b' := 35) rfl rfl ?_
 refine q0 15 3 1 rfl rfl (T_move rfl rfl) rfl ?_
 refine q0 16 19 2 rfl rfl (T_cmp rfl rfl rfl rfl) rfl ?_
 refine k_done rfl ?_
 refine thenK_n ?_
 refine W_cond rfl (fun g1 => ?_) (fun g1 => ?_)
 ·have h1 := c_lss_t g1
  refine W_skip ?_
  refine thenK_n ?_
  refine W_seq ?_
  refine W_block ?_
  refine W_seq ?_
  refine W_anyK (b' := 195) rfl rfl rfl ?_
  refine q0 19 35 1 rfl rfl (T_move rfl rfl) rfl ?_
  refine q0 20 51 2 rfl rfl (T_move rfl rfl) rfl ?_
  first | refine q0 21 67 3 rfl rfl (T_indexAddr D rfl rfl rfl rfl rfl rfl rfl rfl (by first | assumption | omega | (rw [bitsR_len]; omega) | (have q := mixB_len (op := op) (j := j) hla hlb (by omega); simp only [List.length_set]; omega) | (have q := mix_bd (op := op) hla hlb (show j < 32 by omega) hba hbb; omega))) rfl ?_ | refine q0 21 67 3 rfl rfl (T_indexAddrZ D rfl rfl rfl rfl rfl rfl rfl rfl (by first | assumption | omega | (rw [bitsR_len]; omega) | (have q := mixB_len (op := op) (j := j) hla hlb (by omega); simp only [List.length_set]; omega) | (have q := mix_bd (op := op) hla hlb (show j < 32 by omega) hba hbb; omega)) (by first | assumption | omega | (rw [bitsR_len]; omega) | (have q := mixB_len (op := op) (j := j) hla hlb (by omega); simp only [List.length_set]; omega) | (have q := mix_bd (op := op) hla hlb (show j < 32 by omega) hba hbb; omega))) rfl ?_
  refine q0 22 83 4 rfl rfl (T_ldE D (lv := .v _) (nn := 0) (upd := []) rfl rfl rfl rfl rfl (by first | assumption | omega | (rw [bitsR_len]; omega) | (have q := mixB_len (op := op) (j := j) hla hlb (by omega); simp only [List.length_set]; omega) | (have q := mix_bd (op := op) hla hlb (show j < 32 by omega) hba hbb; omega)) rfl rfl rfl rfl) rfl ?_
  refine q0 23 99 5 rfl rfl (T_move rfl rfl) rfl ?_
  refine q0 24 115 6 rfl rfl (T_move rfl rfl) rfl ?_
  first | refine q0 25 131 7 rfl rfl (T_indexAddr D rfl rfl rfl rfl rfl rfl rfl rfl (by first | assumption | omega | (rw [bitsR_len]; omega) | (have q := mixB_len (op := op) (j := j) hla hlb (by omega); simp only [List.length_set]; omega) | (have q := mix_bd (op := op) hla hlb (show j < 32 by omega) hba hbb; omega))) rfl ?_ | refine q0 25 131 7 rfl rfl (T_indexAddrZ D rfl rfl rfl rfl rfl rfl rfl rfl (by first | assumption | omega | (rw [bitsR_len]; omega) | (have q := mixB_len (op := op) (j := j) hla hlb (by omega); simp only [List.length_set]; omega) | (have q := mix_bd (op := op) hla hlb (show j < 32 by omega) hba hbb; omega)) (by first | assumption | omega | (rw [bitsR_len]; omega) | (have q := mixB_len (op := op) (j := j) hla hlb (by omega); simp only [List.length_set]; omega) | (have q := mix_bd (op := op) hla hlb (show j < 32 by omega) hba hbb; omega))) rfl ?_
  refine q0 26 147 8 rfl rfl (T_ldE D (lv := .v _) (nn := 0) (upd := []) rfl rfl rfl rfl rfl (by first | assumption | omega | (rw [bitsR_len]; omega) | (have q := mixB_len (op := op) (j := j) hla hlb (by omega); simp only [List.length_set]; omega) | (have q := mix_bd (op := op) hla hlb (show j < 32 by omega) hba hbb; omega)) rfl rfl rfl rfl) rfl ?_
  refine q0 27 163 9 rfl rfl (T_add64 rfl rfl rfl (by first | assumption | omega | (rw [bitsR_len]; omega) | (have q := mixB_len (op := op) (j := j) hla hlb (by omega); simp only [List.length_set]; omega) | (have q := mix_bd (op := op) hla hlb (show j < 32 by omega) hba hbb; omega))) rfl ?_
  refine q0 10 179 10 rfl rfl (T_assign rfl rfl) rfl ?_
  refine k_done rfl ?_
  refine ⟨rfl, ?_⟩
  refine thenK_n ?_
  refine W_seq ?_
  refine W_seqK (b' := 259) rfl rfl ?_
  refine q0 28 195 1 rfl rfl (T_move rfl rfl) rfl ?_
  refine q0 29 211 2 rfl rfl (T_move rfl rfl) rfl ?_
  first | refine q0 30 227 3 rfl rfl (T_indexAddr D rfl rfl rfl rfl rfl rfl rfl rfl (by first | assumption | omega | (rw [bitsR_len]; omega) | (have q := mixB_len (op := op) (j := j) hla hlb (by omega); simp only [List.length_set]; omega) | (have q := mix_bd (op := op) hla hlb (show j < 32 by omega) hba hbb; omega))) rfl ?_ | refine q0 30 227 3 rfl rfl (T_indexAddrZ D rfl rfl rfl rfl rfl rfl rfl rfl (by first | assumption | omega | (rw [bitsR_len]; omega) | (have q := mixB_len (op := op) (j := j) hla hlb (by omega); simp only [List.length_set]; omega) | (have q := mix_bd (op := op) hla hlb (show j < 32 by omega) hba hbb; omega)) (by first | assumption | omega | (rw [bitsR_len]; omega) | (have q := mixB_len (op := op) (j := j) hla hlb (by omega); simp only [List.length_set]; omega) | (have q := mix_bd (op := op) hla hlb (show j < 32 by omega) hba hbb; omega))) rfl ?_
  refine s1 243 4 rfl rfl (T_store_e D (z := _) rfl rfl rfl rfl (flat_v rfl) rfl rfl (by first | assumption | omega | (rw [bitsR_len]; omega) | (have q := mixB_len (op := op) (j := j) hla hlb (by omega); simp only [List.length_set]; omega) | (have q := mix_bd (op := op) hla hlb (show j < 32 by omega) hba hbb; omega)) (.v rfl (.nil)) rfl (Nat.le_of_ble_eq_true rfl) rfl) rfl ?_
  refine k_done rfl ?_
  refine thenK_n ?_
  refine W_seq ?_
  refine W_seqK (b' := 483) rfl rfl ?_
  refine q0 31 259 1 rfl rfl (T_move rfl rfl) rfl ?_
  refine q0 32 275 2 rfl rfl (T_cmp rfl rfl rfl rfl) rfl ?_
  refine q0 33 291 3 rfl rfl (T_move rfl rfl) rfl ?_
  refine k_split (d := 33) rfl (fun g2 => ?_) (fun g2 => ?_)
  ·have h2 := c_eql_t g2
   refine k_op0 (d := 34) (b := 307) (j' := 4) rfl rfl rfl rfl (g_tt rfl rfl rfl g2) (T_move rfl rfl) rfl ?_
   refine k_op0 (d := 35) (b := 323) (j' := 5) rfl rfl rfl rfl (g_tt rfl rfl rfl g2) (T_cmp rfl rfl rfl rfl) rfl ?_
   refine q0 36 339 6 rfl rfl (T_pick_t rfl rfl rfl g2) rfl ?_
   refine q0 37 355 7 rfl rfl (T_move rfl rfl) rfl ?_
   refine k_split (d := 37) rfl (fun g3 => ?_) (fun g3 => ?_)
   ·have h3 := c_neq_t g3
    refine k_no (d := 38) (j' := 8) rfl rfl rfl (g_ft rfl rfl rfl g3) ?_
    refine k_no (d := 39) (j' := 9) rfl rfl rfl (g_ft rfl rfl rfl g3) ?_
    refine k_no (d := 40) (j' := 10) rfl rfl rfl (g_ft rfl rfl rfl g3) ?_
    refine k_no (d := 41) (j' := 11) rfl rfl rfl (.und rfl rfl rfl) ?_
    refine k_no (d := 42) (j' := 12) rfl rfl rfl (.und rfl rfl rfl) ?_
    refine k_no (d := 43) (j' := 13) rfl rfl rfl (g_ft rfl rfl rfl g3) ?_
    refine q0 44 467 14 rfl rfl (T_pick_t rfl rfl rfl g3) rfl ?_
    refine k_done rfl ?_
    refine thenK_n ?_
    refine W_cond rfl (fun g4 => ?_) (fun g4 => ?_)
    ·skip
     refine W_seqK (b' := 547) rfl rfl ?_
     refine q0 45 483 1 rfl rfl (T_move rfl rfl) rfl ?_
     refine q0 46 499 2 rfl rfl (T_move rfl rfl) rfl ?_
     first | refine q0 47 515 3 rfl rfl (T_indexAddr D rfl rfl rfl rfl rfl rfl rfl rfl (by first | assumption | omega | (rw [bitsR_len]; omega) | (have q := mixB_len (op := op) (j := j) hla hlb (by omega); simp only [List.length_set]; omega) | (have q := mix_bd (op := op) hla hlb (show j < 32 by omega) hba hbb; omega))) rfl ?_ | refine q0 47 515 3 rfl rfl (T_indexAddrZ D rfl rfl rfl rfl rfl rfl rfl rfl (by first | assumption | omega | (rw [bitsR_len]; omega) | (have q := mixB_len (op := op) (j := j) hla hlb (by omega); simp only [List.length_set]; omega) | (have q := mix_bd (op := op) hla hlb (show j < 32 by omega) hba hbb; omega)) (by first | assumption | omega | (rw [bitsR_len]; omega) | (have q := mixB_len (op := op) (j := j) hla hlb (by omega); simp only [List.length_set]; omega) | (have q := mix_bd (op := op) hla hlb (show j < 32 by omega) hba hbb; omega))) rfl ?_
     refine s1 531 4 rfl rfl (T_store_e D (z := _) rfl rfl rfl rfl (flat_v rfl) rfl rfl (by first | assumption | omega | (rw [bitsR_len]; omega) | (have q := mixB_len (op := op) (j := j) hla hlb (by omega); simp only [List.length_set]; omega) | (have q := mix_bd (op := op) hla hlb (show j < 32 by omega) hba hbb; omega)) (.v rfl (.nil)) rfl (Nat.le_of_ble_eq_true rfl) rfl) rfl ?_
     refine k_done rfl ?_
     refine blockK_n ?_
     refine thenK_n ?_
     refine W_seqK (b' := 595) rfl rfl ?_
     refine q0 17 547 1 rfl rfl (T_move rfl rfl) rfl ?_
     refine q0 18 563 2 rfl rfl (T_add64 rfl rfl rfl (by first | assumption | omega | (rw [bitsR_len]; omega) | (have q := mixB_len (op := op) (j := j) hla hlb (by omega); simp only [List.length_set]; omega) | (have q := mix_bd (op := op) hla hlb (show j < 32 by omega) hba hbb; omega))) rfl ?_
     refine q0 9 579 3 rfl rfl (T_assign rfl rfl) rfl ?_
     refine k_done rfl ?_
     refine thenK_n ?_
     refine ⟨j + 1, by (try dsimp only); omega, by (try dsimp only); omega, ?_⟩
     exact ⟨[(1, 1), (2, 2)], .eq rfl (.same rfl rfl (.same rfl rfl (.eq rfl (.nil) (by first | rfl | (rw [mix_one hla hlb (by omega) (by omega)]) | (rw [mix_zero hla hlb (by omega) (by omega)]))))) rfl, .rowE rfl (.rowE rfl (.nil) (by first | rfl | (rw [mix_one hla hlb (by omega) (by omega)]) | (rw [mix_zero hla hlb (by omega) (by omega)]))) (by first | rfl | (rw [mix_one hla hlb (by omega) (by omega)]) | (rw [mix_zero hla hlb (by omega) (by omega)])), rfl⟩
    ·exact absurd (g4.symm.trans rfl) (by decide)
   ·have h3 := c_neq_f g3
    refine k_op0 (d := 38) (b := 371) (j' := 8) rfl rfl rfl rfl (g_ff rfl rfl rfl g3) (T_move rfl rfl) rfl ?_
    refine k_op0 (d := 39) (b := 387) (j' := 9) rfl rfl rfl rfl (g_ff rfl rfl rfl g3) (T_cmp rfl rfl rfl rfl) rfl ?_
    refine k_op0 (d := 40) (b := 403) (j' := 10) rfl rfl rfl rfl (g_ff rfl rfl rfl g3) (T_move rfl rfl) rfl ?_
    refine k_split (d := 40) rfl (fun g5 => ?_) (fun g5 => ?_)
    ·have h5 := c_eql_t g5
     refine k_op0 (d := 41) (b := 419) (j' := 11) rfl rfl rfl rfl (g_tt rfl rfl rfl g5) (T_move rfl rfl) rfl ?_
     refine k_op0 (d := 42) (b := 435) (j' := 12) rfl rfl rfl rfl (g_tt rfl rfl rfl g5) (T_cmp rfl rfl rfl rfl) rfl ?_
     refine k_op0 (d := 43) (b := 451) (j' := 13) rfl rfl rfl rfl (g_ff rfl rfl rfl g3) (T_pick_t rfl rfl rfl g5) rfl ?_
     refine q0 44 467 14 rfl rfl (T_pick_f rfl rfl rfl g3) rfl ?_
     refine k_done rfl ?_
     refine thenK_n ?_
     refine W_cond rfl (fun g6 => ?_) (fun g6 => ?_)
     ·have h6 := c_neq_t g6
      refine W_seqK (b' := 547) rfl rfl ?_
      refine q0 45 483 1 rfl rfl (T_move rfl rfl) rfl ?_
      refine q0 46 499 2 rfl rfl (T_move rfl rfl) rfl ?_
      first | refine q0 47 515 3 rfl rfl (T_indexAddr D rfl rfl rfl rfl rfl rfl rfl rfl (by first | assumption | omega | (rw [bitsR_len]; omega) | (have q := mixB_len (op := op) (j := j) hla hlb (by omega); simp only [List.length_set]; omega) | (have q := mix_bd (op := op) hla hlb (show j < 32 by omega) hba hbb; omega))) rfl ?_ | refine q0 47 515 3 rfl rfl (T_indexAddrZ D rfl rfl rfl rfl rfl rfl rfl rfl (by first | assumption | omega | (rw [bitsR_len]; omega) | (have q := mixB_len (op := op) (j := j) hla hlb (by omega); simp only [List.length_set]; omega) | (have q := mix_bd (op := op) hla hlb (show j < 32 by omega) hba hbb; omega)) (by first | assumption | omega | (rw [bitsR_len]; omega) | (have q := mixB_len (op := op) (j := j) hla hlb (by omega); simp only [List.length_set]; omega) | (have q := mix_bd (op := op) hla hlb (show j < 32 by omega) hba hbb; omega))) rfl ?_
      refine s1 531 4 rfl rfl (T_store_e D (z := _) rfl rfl rfl rfl (flat_v rfl) rfl rfl (by first | assumption | omega | (rw [bitsR_len]; omega) | (have q := mixB_len (op := op) (j := j) hla hlb (by omega); simp only [List.length_set]; omega) | (have q := mix_bd (op := op) hla hlb (show j < 32 by omega) hba hbb; omega)) (.v rfl (.nil)) rfl (Nat.le_of_ble_eq_true rfl) rfl) rfl ?_
      refine k_done rfl ?_
      refine blockK_n ?_
      refine thenK_n ?_
      refine W_seqK (b' := 595) rfl rfl ?_
      refine q0 17 547 1 rfl rfl (T_move rfl rfl) rfl ?_
      refine q0 18 563 2 rfl rfl (T_add64 rfl rfl rfl (by first | assumption | omega | (rw [bitsR_len]; omega) | (have q := mixB_len (op := op) (j := j) hla hlb (by omega); simp only [List.length_set]; omega) | (have q := mix_bd (op := op) hla hlb (show j < 32 by omega) hba hbb; omega))) rfl ?_
      refine q0 9 579 3 rfl rfl (T_assign rfl rfl) rfl ?_
      refine k_done rfl ?_
      refine thenK_n ?_
      refine ⟨j + 1, by (try dsimp only); omega, by (try dsimp only); omega, ?_⟩
      exact ⟨[(1, 1), (2, 2)], .eq rfl (.same rfl rfl (.same rfl rfl (.eq rfl (.nil) (by first | rfl | (rw [mix_one hla hlb (by omega) (by omega)]) | (rw [mix_zero hla hlb (by omega) (by omega)]))))) rfl, .rowE rfl (.rowE rfl (.nil) (by first | rfl | (rw [mix_one hla hlb (by omega) (by omega)]) | (rw [mix_zero hla hlb (by omega) (by omega)]))) (by first | rfl | (rw [mix_one hla hlb (by omega) (by omega)]) | (rw [mix_zero hla hlb (by omega) (by omega)])), rfl⟩
     ·have h6 := c_neq_f g6
      refine W_skip ?_
      refine blockK_n ?_
      refine thenK_n ?_
      refine W_seqK (b' := 531) rfl rfl ?_
      refine q0 17 483 1 rfl rfl (T_move rfl rfl) rfl ?_
      refine q0 18 499 2 rfl rfl (T_add64 rfl rfl rfl (by first | assumption | omega | (rw [bitsR_len]; omega) | (have q := mixB_len (op := op) (j := j) hla hlb (by omega); simp only [List.length_set]; omega) | (have q := mix_bd (op := op) hla hlb (show j < 32 by omega) hba hbb; omega))) rfl ?_
      refine q0 9 515 3 rfl rfl (T_assign rfl rfl) rfl ?_
      refine k_done rfl ?_
      refine thenK_n ?_
      refine ⟨j + 1, by (try dsimp only); omega, by (try dsimp only); omega, ?_⟩
      exact ⟨[(1, 1), (2, 2)], .eq rfl (.same rfl rfl (.same rfl rfl (.eq rfl (.nil) (by first | rfl | (rw [mix_one hla hlb (by omega) (by omega)]) | (rw [mix_zero hla hlb (by omega) (by omega)]))))) rfl, .rowE rfl (.rowE rfl (.nil) (by first | rfl | (rw [mix_one hla hlb (by omega) (by omega)]) | (rw [mix_zero hla hlb (by omega) (by omega)]))) (by first | rfl | (rw [mix_one hla hlb (by omega) (by omega)]) | (rw [mix_zero hla hlb (by omega) (by omega)])), rfl⟩
    ·have h5 := c_eql_f g5
     refine k_no (d := 41) (j' := 11) rfl rfl rfl (g_tf rfl rfl rfl g5) ?_
     refine k_no (d := 42) (j' := 12) rfl rfl rfl (g_tf rfl rfl rfl g5) ?_
     refine k_op0 (d := 43) (b := 451) (j' := 13) rfl rfl rfl rfl (g_ff rfl rfl rfl g3) (T_pick_f rfl rfl rfl g5) rfl ?_
     refine q0 44 467 14 rfl rfl (T_pick_f rfl rfl rfl g3) rfl ?_
     refine k_done rfl ?_
     refine thenK_n ?_
     refine W_cond rfl (fun g7 => ?_) (fun g7 => ?_)
     ·exact absurd (g7.symm.trans rfl) (by decide)
     ·skip
      refine W_skip ?_
      refine blockK_n ?_
      refine thenK_n ?_
      refine W_seqK (b' := 531) rfl rfl ?_
      refine q0 17 483 1 rfl rfl (T_move rfl rfl) rfl ?_
      refine q0 18 499 2 rfl rfl (T_add64 rfl rfl rfl (by first | assumption | omega | (rw [bitsR_len]; omega) | (have q := mixB_len (op := op) (j := j) hla hlb (by omega); simp only [List.length_set]; omega) | (have q := mix_bd (op := op) hla hlb (show j < 32 by omega) hba hbb; omega))) rfl ?_
      refine q0 9 515 3 rfl rfl (T_assign rfl rfl) rfl ?_
      refine k_done rfl ?_
      refine thenK_n ?_
      refine ⟨j + 1, by (try dsimp only); omega, by (try dsimp only); omega, ?_⟩
      exact ⟨[(1, 1), (2, 2)], .eq rfl (.same rfl rfl (.same rfl rfl (.eq rfl (.nil) (by first | rfl | (rw [mix_one hla hlb (by omega) (by omega)]) | (rw [mix_zero hla hlb (by omega) (by omega)]))))) rfl, .rowE rfl (.rowE rfl (.nil) (by first | rfl | (rw [mix_one hla hlb (by omega) (by omega)]) | (rw [mix_zero hla hlb (by omega) (by omega)]))) (by first | rfl | (rw [mix_one hla hlb (by omega) (by omega)]) | (rw [mix_zero hla hlb (by omega) (by omega)])), rfl⟩
  ·have h2 := c_eql_f g2
   refine k_no (d := 34) (j' := 4) rfl rfl rfl (g_tf rfl rfl rfl g2) ?_
   refine k_no (d := 35) (j' := 5) rfl rfl rfl (g_tf rfl rfl rfl g2) ?_
   refine q0 36 339 6 rfl rfl (T_pick_f rfl rfl rfl g2) rfl ?_
   refine q0 37 355 7 rfl rfl (T_move rfl rfl) rfl ?_
   refine k_op0 (d := 38) (b := 371) (j' := 8) rfl rfl rfl rfl (g_ff rfl rfl rfl rfl) (T_move rfl rfl) rfl ?_
   refine k_op0 (d := 39) (b := 387) (j' := 9) rfl rfl rfl rfl (g_ff rfl rfl rfl rfl) (T_cmp rfl rfl rfl rfl) rfl ?_
   refine k_op0 (d := 40) (b := 403) (j' := 10) rfl rfl rfl rfl (g_ff rfl rfl rfl rfl) (T_move rfl rfl) rfl ?_
   refine k_split (d := 40) rfl (fun g8 => ?_) (fun g8 => ?_)
   ·have h8 := c_eql_t g8
    refine k_op0 (d := 41) (b := 419) (j' := 11) rfl rfl rfl rfl (g_tt rfl rfl rfl g8) (T_move rfl rfl) rfl ?_
    refine k_op0 (d := 42) (b := 435) (j' := 12) rfl rfl rfl rfl (g_tt rfl rfl rfl g8) (T_cmp rfl rfl rfl rfl) rfl ?_
    refine k_op0 (d := 43) (b := 451) (j' := 13) rfl rfl rfl rfl (g_ff rfl rfl rfl rfl) (T_pick_t rfl rfl rfl g8) rfl ?_
    refine q0 44 467 14 rfl rfl (T_pick_f rfl rfl rfl rfl) rfl ?_
    refine k_done rfl ?_
    refine thenK_n ?_
    refine W_cond rfl (fun g9 => ?_) (fun g9 => ?_)
    ·have h9 := c_neq_t g9
     refine W_seqK (b' := 547) rfl rfl ?_
     refine q0 45 483 1 rfl rfl (T_move rfl rfl) rfl ?_
     refine q0 46 499 2 rfl rfl (T_move rfl rfl) rfl ?_
     first | refine q0 47 515 3 rfl rfl (T_indexAddr D rfl rfl rfl rfl rfl rfl rfl rfl (by first | assumption | omega | (rw [bitsR_len]; omega) | (have q := mixB_len (op := op) (j := j) hla hlb (by omega); simp only [List.length_set]; omega) | (have q := mix_bd (op := op) hla hlb (show j < 32 by omega) hba hbb; omega))) rfl ?_ | refine q0 47 515 3 rfl rfl (T_indexAddrZ D rfl rfl rfl rfl rfl rfl rfl rfl (by first | assumption | omega | (rw [bitsR_len]; omega) | (have q := mixB_len (op := op) (j := j) hla hlb (by omega); simp only [List.length_set]; omega) | (have q := mix_bd (op := op) hla hlb (show j < 32 by omega) hba hbb; omega)) (by first | assumption | omega | (rw [bitsR_len]; omega) | (have q := mixB_len (op := op) (j := j) hla hlb (by omega); simp only [List.length_set]; omega) | (have q := mix_bd (op := op) hla hlb (show j < 32 by omega) hba hbb; omega))) rfl ?_
     refine s1 531 4 rfl rfl (T_store_e D (z := _) rfl rfl rfl rfl (flat_v rfl) rfl rfl (by first | assumption | omega | (rw [bitsR_len]; omega) | (have q := mixB_len (op := op) (j := j) hla hlb (by omega); simp only [List.length_set]; omega) | (have q := mix_bd (op := op) hla hlb (show j < 32 by omega) hba hbb; omega)) (.v rfl (.nil)) rfl (Nat.le_of_ble_eq_true rfl) rfl) rfl ?_
     refine k_done rfl ?_
     refine blockK_n ?_
     refine thenK_n ?_
     refine W_seqK (b' := 595) rfl rfl ?_
     refine q0 17 547 1 rfl rfl (T_move rfl rfl) rfl ?_
     refine q0 18 563 2 rfl rfl (T_add64 rfl rfl rfl (by first | assumption | omega | (rw [bitsR_len]; omega) | (have q := mixB_len (op := op) (j := j) hla hlb (by omega); simp only [List.length_set]; omega) | (have q := mix_bd (op := op) hla hlb (show j < 32 by omega) hba hbb; omega))) rfl ?_
     refine q0 9 579 3 rfl rfl (T_assign rfl rfl) rfl ?_
     refine k_done rfl ?_
     refine thenK_n ?_
     refine ⟨j + 1, by (try dsimp only); omega, by (try dsimp only); omega, ?_⟩
     exact ⟨[(1, 1), (2, 2)], .eq rfl (.same rfl rfl (.same rfl rfl (.eq rfl (.nil) (by first | rfl | (rw [mix_one hla hlb (by omega) (by omega)]) | (rw [mix_zero hla hlb (by omega) (by omega)]))))) rfl, .rowE rfl (.rowE rfl (.nil) (by first | rfl | (rw [mix_one hla hlb (by omega) (by omega)]) | (rw [mix_zero hla hlb (by omega) (by omega)]))) (by first | rfl | (rw [mix_one hla hlb (by omega) (by omega)]) | (rw [mix_zero hla hlb (by omega) (by omega)])), rfl⟩
    ·have h9 := c_neq_f g9
     refine W_skip ?_
     refine blockK_n ?_
     refine thenK_n ?_
     refine W_seqK (b' := 531) rfl rfl ?_
     refine q0 17 483 1 rfl rfl (T_move rfl rfl) rfl ?_
     refine q0 18 499 2 rfl rfl (T_add64 rfl rfl rfl (by first | assumption | omega | (rw [bitsR_len]; omega) | (have q := mixB_len (op := op) (j := j) hla hlb (by omega); simp only [List.length_set]; omega) | (have q := mix_bd (op := op) hla hlb (show j < 32 by omega) hba hbb; omega))) rfl ?_
     refine q0 9 515 3 rfl rfl (T_assign rfl rfl) rfl ?_
     refine k_done rfl ?_
     refine thenK_n ?_
     refine ⟨j + 1, by (try dsimp only); omega, by (try dsimp only); omega, ?_⟩
     exact ⟨[(1, 1), (2, 2)], .eq rfl (.same rfl rfl (.same rfl rfl (.eq rfl (.nil) (by first | rfl | (rw [mix_one hla hlb (by omega) (by omega)]) | (rw [mix_zero hla hlb (by omega) (by omega)]))))) rfl, .rowE rfl (.rowE rfl (.nil) (by first | rfl | (rw [mix_one hla hlb (by omega) (by omega)]) | (rw [mix_zero hla hlb (by omega) (by omega)]))) (by first | rfl | (rw [mix_one hla hlb (by omega) (by omega)]) | (rw [mix_zero hla hlb (by omega) (by omega)])), rfl⟩
   ·have h8 := c_eql_f g8
    refine k_no (d := 41) (j' := 11) rfl rfl rfl (g_tf rfl rfl rfl g8) ?_
    refine k_no (d := 42) (j' := 12) rfl rfl rfl (g_tf rfl rfl rfl g8) ?_
    refine k_op0 (d := 43) (b := 451) (j' := 13) rfl rfl rfl rfl (g_ff rfl rfl rfl rfl) (T_pick_f rfl rfl rfl g8) rfl ?_
    refine q0 44 467 14 rfl rfl (T_pick_f rfl rfl rfl rfl) rfl ?_
    refine k_done rfl ?_
    refine thenK_n ?_
    refine W_cond rfl (fun g10 => ?_) (fun g10 => ?_)
    ·exact absurd (g10.symm.trans rfl) (by decide)
    ·skip
     refine W_skip ?_
     refine blockK_n ?_
     refine thenK_n ?_
     refine W_seqK (b' := 531) rfl rfl ?_
     refine q0 17 483 1 rfl rfl (T_move rfl rfl) rfl ?_
     refine q0 18 499 2 rfl rfl (T_add64 rfl rfl rfl (by first | assumption | omega | (rw [bitsR_len]; omega) | (have q := mixB_len (op := op) (j := j) hla hlb (by omega); simp only [List.length_set]; omega) | (have q := mix_bd (op := op) hla hlb (show j < 32 by omega) hba hbb; omega))) rfl ?_
     refine q0 9 515 3 rfl rfl (T_assign rfl rfl) rfl ?_
     refine k_done rfl ?_
     refine thenK_n ?_
     refine ⟨j + 1, by (try dsimp only); omega, by (try dsimp only); omega, ?_⟩
     exact ⟨[(1, 1), (2, 2)], .eq rfl (.same rfl rfl (.same rfl rfl (.eq rfl (.nil) (by first | rfl | (rw [mix_one hla hlb (by omega) (by omega)]) | (rw [mix_zero hla hlb (by omega) (by omega)]))))) rfl, .rowE rfl (.rowE rfl (.nil) (by first | rfl | (rw [mix_one hla hlb (by omega) (by omega)]) | (rw [mix_zero hla hlb (by omega) (by omega)]))) (by first | rfl | (rw [mix_one hla hlb (by omega) (by omega)]) | (rw [mix_zero hla hlb (by omega) (by omega)])), rfl⟩
 ·have h1 := c_lss_f g1
  refine W_exit ?_
  refine thenK_e ?_
  refine thenK_e ?_
  refine blockK_hit ?_
  refine thenK_n ?_
  refine W_seq ?_
  refine W_seqK (b' := 83) rfl rfl ?_
  refine q0 48 35 1 rfl rfl (T_move rfl rfl) rfl ?_
  refine q0 49 51 2 rfl rfl (T_callV (lvs := [_]) (L := [(1, 1)]) (of_word_spec (mixB op (bitsR 32 a) (bitsR 32 b) j) (by rw [mixB_end hla hlb (by omega)]; exact bothL_bit) (by omega)) body141 rfl rfl rfl rfl (.lend rfl (.nil)) rfl) rfl ?_
  refine q0 6 67 3 rfl rfl (T_assign rfl rfl) rfl ?_
  refine k_done rfl ?_
  refine thenK_n ?_
  refine W_ret ?_
  exact .mk [] (.inr rfl) (.tmp rfl (.nil)) (by first | rfl | (rw [mixB_end hla hlb (by omega)]; first | done | rfl)) (.nil) rfl
theorem body138 : (Try.prog.funcs[138]?).map (fun fn => (fn.name == "runtime.NumGoroutine" || fn.body.isNone)) = some false := by kernel_rfl
theorem shift_spec (op a b : Int) (ha : isW a) (hb : isW b) : Spec Try.prog 138 [.v (.int .i64 op), .v (.int .u32 a), .v (.int .u32 b)] 1 [] (.v (.int .u32 (shiftU op a b))) 1 [] := by
 refine spec_of D (fn := Try.f138) rfl rfl (Nat.le_of_ble_eq_true rfl) ?_
 refine W_seq ?_
 refine W_seqK (b' := 17) rfl rfl ?_
 refine q0 6 1 1 rfl rfl (T_assign rfl rfl) rfl ?_
 refine k_done rfl ?_
 refine thenK_n ?_
 refine W_seq ?_
 refine W_seq ?_
 refine W_seqK (b' := 49) rfl rfl ?_
 refine q0 9 17 1 rfl rfl (T_move rfl rfl) rfl ?_
 refine q0 10 33 2 rfl rfl (T_cmp rfl rfl rfl rfl) rfl ?_
 refine k_done rfl ?_
 refine thenK_n ?_
 refine W_cond rfl (fun g1 => ?_) (fun g1 => ?_)
 ·have h1 := c_geq_t g1
  refine W_seq ?_
  refine W_seqK (b' := 65) rfl rfl ?_
  refine q0 6 49 1 rfl rfl (T_assign rfl rfl) rfl ?_
  refine k_done rfl ?_
  refine thenK_n ?_
  refine W_ret ?_
  refine thenK_r ?_
  exact .mk [] (.inr rfl) (.tmp rfl (.nil)) (by simp only [resLV, LV.ren, LV.v.injEq, Value.int.injEq, true_and]; exact (shift_hi (by omega)).symm) (.nil) rfl
 ·have h1 := c_geq_f g1
  refine W_skip ?_
  refine thenK_n ?_
  refine W_seq ?_
  refine W_seqK (b' := 97) rfl rfl ?_
  refine q0 11 49 1 rfl rfl (T_move rfl rfl) rfl ?_
  refine q0 12 65 2 rfl rfl (T_convU (top := 18446744073709551616) rfl rfl (by rw [Try.underlying68]; rfl) Try.underlying164 rfl rfl (by first | assumption | omega | exact ⟨(mul_bd ha hb).1, by omega⟩ | exact mul_bd ha hb | exact ha | exact hb | exact div_bd ha hb | exact mod_bd ha hb (by omega) | (have q1 := ha.1; have q2 := ha.2; omega) | (have q1 := ha.1; have q2 := ha.2; have q3 := hb.1; have q4 := hb.2; omega))) rfl ?_
  refine q0 7 81 3 rfl rfl (T_assign rfl rfl) rfl ?_
  refine k_done rfl ?_
  refine thenK_n ?_
  refine W_seq ?_
  refine W_seq ?_
  refine W_seqK (b' := 113) rfl rfl ?_
  refine q0 8 97 1 rfl rfl (T_assign rfl rfl) rfl ?_
  refine k_done rfl ?_
  refine thenK_n ?_
  refine W_block ?_
  refine W_loop (ι := Nat × Int) 1 (fun x => ⟨[(0, .v (.int .i64 op)), (2, .v (.int .u32 b)), (7, .v (.int .u64 x.2)), (8, .v (.int .u32 (x.1 : Int)))], []⟩) (fun x => (x.1 : Int) ≤ b ∧ isW x.2 ∧ shiftN op (b.toNat - x.1) x.2 = shiftN op b.toNat a) (fun x => b.toNat - x.1) ((0, a)) (by exact ⟨hb.1, ha, rfl⟩) ?_ (fun x hJ => ?_)
  ·exact ⟨[], .eq rfl (.eq rfl (.eq rfl (.eq rfl (.nil) (by first | rfl | simp)) (by first | rfl | simp)) (by first | rfl | simp)) (by first | rfl | simp), .nil, rfl⟩
  have k1 := hJ.2.1.1
  have k2 := hJ.2.1.2
  have k3 := hJ.1
  refine W_seq ?_
  refine W_seq ?_
  refine W_seqK (b' := 49) rfl rfl ?_
  refine q0 13 1 1 rfl rfl (T_move rfl rfl) rfl ?_
  refine q0 14 17 2 rfl rfl (T_move rfl rfl) rfl ?_
  refine q0 15 33 3 rfl rfl (T_cmp rfl rfl rfl rfl) rfl ?_
  refine k_done rfl ?_
  refine thenK_n ?_
  refine W_cond rfl (fun g2 => ?_) (fun g2 => ?_)
  ·have h2 := c_lss_t g2
   refine W_skip ?_
   refine thenK_n ?_
   refine W_seq ?_
   refine W_block ?_
   refine W_seq ?_
   refine W_seqK (b' := 81) rfl rfl ?_
   refine q0 18 49 1 rfl rfl (T_move rfl rfl) rfl ?_
   refine q0 19 65 2 rfl rfl (T_cmp rfl rfl rfl rfl) rfl ?_
   refine k_done rfl ?_
   refine thenK_n ?_
   refine W_cond rfl (fun g3 => ?_) (fun g3 => ?_)
   ·have h3 := c_eql_t g3
    refine W_seqK (b' := 145) rfl rfl ?_
    refine q0 20 81 1 rfl rfl (T_move rfl rfl) rfl ?_
    refine q0 21 97 2 rfl rfl (T_mulU (top := 18446744073709551616) rfl rfl rfl rfl rfl (by first | assumption | omega | exact ⟨(mul_bd ha hb).1, by omega⟩ | exact mul_bd ha hb | exact ha | exact hb | exact div_bd ha hb | exact mod_bd ha hb (by omega) | (have q1 := ha.1; have q2 := ha.2; omega) | (have q1 := ha.1; have q2 := ha.2; have q3 := hb.1; have q4 := hb.2; omega))) rfl ?_
    refine q0 22 113 3 rfl rfl (T_remU rfl rfl rfl (by first | assumption | omega | exact ⟨(mul_bd ha hb).1, by omega⟩ | exact mul_bd ha hb | exact ha | exact hb | exact div_bd ha hb | exact mod_bd ha hb (by omega) | (have q1 := ha.1; have q2 := ha.2; omega) | (have q1 := ha.1; have q2 := ha.2; have q3 := hb.1; have q4 := hb.2; omega))) rfl ?_
    refine q0 7 129 4 rfl rfl (T_assign rfl rfl) rfl ?_
    refine k_done rfl ?_
    refine blockK_n ?_
    refine thenK_n ?_
    refine W_seqK (b' := 193) rfl rfl ?_
    refine q0 16 145 1 rfl rfl (T_move rfl rfl) rfl ?_
    refine q0 17 161 2 rfl rfl (T_addU (top := 4294967296) rfl rfl rfl rfl rfl (by first | assumption | omega | exact ⟨(mul_bd ha hb).1, by omega⟩ | exact mul_bd ha hb | exact ha | exact hb | exact div_bd ha hb | exact mod_bd ha hb (by omega) | (have q1 := ha.1; have q2 := ha.2; omega) | (have q1 := ha.1; have q2 := ha.2; have q3 := hb.1; have q4 := hb.2; omega))) rfl ?_
    refine q0 8 177 3 rfl rfl (T_assign rfl rfl) rfl ?_
    refine k_done rfl ?_
    refine thenK_n ?_
    refine ⟨(x.1 + 1, 2 * x.2 % 4294967296), by (try dsimp only); exact ⟨by omega, ⟨by omega, by omega⟩, by rw [← hJ.2.2, show b.toNat - x.1 = (b.toNat - (x.1 + 1)) + 1 by omega]; simp only [shiftN]; rw [if_pos (by assumption)]⟩, by (try dsimp only); omega, ?_⟩
    exact ⟨[], .eq rfl (.eq rfl (.eq rfl (.eq rfl (.nil) (by first | rfl | simp)) (by first | rfl | simp)) rfl) rfl, .nil, rfl⟩
   ·have h3 := c_eql_f g3
    refine W_seqK (b' := 129) rfl rfl ?_
    refine q0 23 81 1 rfl rfl (T_move rfl rfl) rfl ?_
    refine q0 24 97 2 rfl rfl (T_quoU (top := 18446744073709551616) rfl rfl rfl rfl rfl (by first | assumption | omega | exact ⟨(mul_bd ha hb).1, by omega⟩ | exact mul_bd ha hb | exact ha | exact hb | exact div_bd ha hb | exact mod_bd ha hb (by omega) | (have q1 := ha.1; have q2 := ha.2; omega) | (have q1 := ha.1; have q2 := ha.2; have q3 := hb.1; have q4 := hb.2; omega))) rfl ?_
    refine q0 7 113 3 rfl rfl (T_assign rfl rfl) rfl ?_
    refine k_done rfl ?_
    refine blockK_n ?_
    refine thenK_n ?_
    refine W_seqK (b' := 177) rfl rfl ?_
    refine q0 16 129 1 rfl rfl (T_move rfl rfl) rfl ?_
    refine q0 17 145 2 rfl rfl (T_addU (top := 4294967296) rfl rfl rfl rfl rfl (by first | assumption | omega | exact ⟨(mul_bd ha hb).1, by omega⟩ | exact mul_bd ha hb | exact ha | exact hb | exact div_bd ha hb | exact mod_bd ha hb (by omega) | (have q1 := ha.1; have q2 := ha.2; omega) | (have q1 := ha.1; have q2 := ha.2; have q3 := hb.1; have q4 := hb.2; omega))) rfl ?_
    refine q0 8 161 3 rfl rfl (T_assign rfl rfl) rfl ?_
    refine k_done rfl ?_
    refine thenK_n ?_
    refine ⟨(x.1 + 1, x.2 / 2), by (try dsimp only); exact ⟨by omega, ⟨by omega, by omega⟩, by rw [← hJ.2.2, show b.toNat - x.1 = (b.toNat - (x.1 + 1)) + 1 by omega]; simp only [shiftN]; rw [if_neg (by assumption)]⟩, by (try dsimp only); omega, ?_⟩
    exact ⟨[], .eq rfl (.eq rfl (.eq rfl (.eq rfl (.nil) (by first | rfl | simp)) (by first | rfl | simp)) rfl) rfl, .nil, rfl⟩
  ·have h2 := c_lss_f g2
   refine W_exit ?_
   refine thenK_e ?_
   refine thenK_e ?_
   refine blockK_hit ?_
   refine thenK_n ?_
   refine W_seq ?_
   refine W_seqK (b' := 97) rfl rfl ?_
   refine q0 25 49 1 rfl rfl (T_move rfl rfl) rfl ?_
   refine q0 26 65 2 rfl rfl (T_convU (top := 4294967296) rfl rfl (by rw [Try.underlying164]; rfl) Try.underlying68 rfl rfl (by first | assumption | omega | exact ⟨(mul_bd ha hb).1, by omega⟩ | exact mul_bd ha hb | exact ha | exact hb | exact div_bd ha hb | exact mod_bd ha hb (by omega) | (have q1 := ha.1; have q2 := ha.2; omega) | (have q1 := ha.1; have q2 := ha.2; have q3 := hb.1; have q4 := hb.2; omega))) rfl ?_
   refine q0 6 81 3 rfl rfl (T_assign rfl rfl) rfl ?_
   refine k_done rfl ?_
   refine thenK_n ?_
   refine W_ret ?_
   exact .mk [] (.inr rfl) (.tmp rfl (.nil)) (by simp only [resLV, LV.ren, LV.v.injEq, Value.int.injEq, true_and]; exact (shift_lo (by omega) hJ.1 (by omega) hJ.2.2).symm) (.nil) rfl
theorem body134 : (Try.prog.funcs[134]?).map (fun fn => (fn.name == "runtime.NumGoroutine" || fn.body.isNone)) = some false := by kernel_rfl
theorem apply_spec (op a b : Int) (ha : isW a) (hb : isW b) : Spec Try.prog 134 [.v (.int .i64 op), .v (.int .u32 a), .v (.int .u32 b)] 1 [] (.tup [.v (.int .u32 (appV op a b)), .v (.int .i64 (appE op b))]) 1 [] := by
 refine spec_of D (fn := Try.f134) rfl rfl (Nat.le_of_ble_eq_true rfl) ?_
 refine W_seq ?_
 refine W_seqK (b' := 33) rfl rfl ?_
 refine q0 6 1 1 rfl rfl (T_assign rfl rfl) rfl ?_
 refine q0 7 17 2 rfl rfl (T_assign rfl rfl) rfl ?_
 refine k_done rfl ?_
 refine thenK_n ?_
 refine W_seq ?_
 refine W_seqK (b' := 129) rfl rfl ?_
 refine q0 10 33 1 rfl rfl (T_move rfl rfl) rfl ?_
 refine q0 11 49 2 rfl rfl (T_convU (top := 18446744073709551616) rfl rfl (by rw [Try.underlying68]; rfl) Try.underlying164 rfl rfl (by first | assumption | omega | exact ⟨(mul_bd ha hb).1, by omega⟩ | exact mul_bd ha hb | exact ha | exact hb | exact div_bd ha hb | exact mod_bd ha hb (by omega) | (have q1 := ha.1; have q2 := ha.2; omega) | (have q1 := ha.1; have q2 := ha.2; have q3 := hb.1; have q4 := hb.2; omega))) rfl ?_
 refine q0 12 65 3 rfl rfl (T_move rfl rfl) rfl ?_
 refine q0 13 81 4 rfl rfl (T_convU (top := 18446744073709551616) rfl rfl (by rw [Try.underlying68]; rfl) Try.underlying164 rfl rfl (by first | assumption | omega | exact ⟨(mul_bd ha hb).1, by omega⟩ | exact mul_bd ha hb | exact ha | exact hb | exact div_bd ha hb | exact mod_bd ha hb (by omega) | (have q1 := ha.1; have q2 := ha.2; omega) | (have q1 := ha.1; have q2 := ha.2; have q3 := hb.1; have q4 := hb.2; omega))) rfl ?_
 refine q0 8 97 5 rfl rfl (T_assign rfl rfl) rfl ?_
 refine q0 9 113 6 rfl rfl (T_assign rfl rfl) rfl ?_
 refine k_done rfl ?_
 refine thenK_n ?_
 refine W_seq ?_
 refine W_seq ?_
 refine W_seqK (b' := 145) rfl rfl ?_
 refine q0 14 129 1 rfl rfl (T_move rfl rfl) rfl ?_
 refine k_done rfl ?_
 refine thenK_n ?_
 refine W_block ?_
 refine W_seq ?_
 refine W_seqK (b' := 177) rfl rfl ?_
 refine q0 16 145 1 rfl rfl (T_cmp rfl rfl rfl rfl) rfl ?_
 refine q0 15 161 2 rfl rfl (T_assign rfl rfl) rfl ?_
 refine k_done rfl ?_
 refine thenK_n ?_
 refine W_cond rfl (fun g1 => ?_) (fun g1 => ?_)
 ·have h1 := c_eql_t g1
  refine W_seq ?_
  refine W_seqK (b' := 289) rfl rfl ?_
  refine q0 17 177 1 rfl rfl (T_move rfl rfl) rfl ?_
  refine q0 18 193 2 rfl rfl (T_move rfl rfl) rfl ?_
  refine q0 19 209 3 rfl rfl (T_addU (top := 18446744073709551616) rfl rfl rfl rfl rfl (by first | assumption | omega | exact ⟨(mul_bd ha hb).1, by omega⟩ | exact mul_bd ha hb | exact ha | exact hb | exact div_bd ha hb | exact mod_bd ha hb (by omega) | (have q1 := ha.1; have q2 := ha.2; omega) | (have q1 := ha.1; have q2 := ha.2; have q3 := hb.1; have q4 := hb.2; omega))) rfl ?_
  refine q0 20 225 4 rfl rfl (T_remU rfl rfl rfl (by first | assumption | omega | exact ⟨(mul_bd ha hb).1, by omega⟩ | exact mul_bd ha hb | exact ha | exact hb | exact div_bd ha hb | exact mod_bd ha hb (by omega) | (have q1 := ha.1; have q2 := ha.2; omega) | (have q1 := ha.1; have q2 := ha.2; have q3 := hb.1; have q4 := hb.2; omega))) rfl ?_
  refine q0 21 241 5 rfl rfl (T_convU (top := 4294967296) rfl rfl (by rw [Try.underlying164]; rfl) Try.underlying68 rfl rfl (by first | assumption | omega | exact ⟨(mul_bd ha hb).1, by omega⟩ | exact mul_bd ha hb | exact ha | exact hb | exact div_bd ha hb | exact mod_bd ha hb (by omega) | (have q1 := ha.1; have q2 := ha.2; omega) | (have q1 := ha.1; have q2 := ha.2; have q3 := hb.1; have q4 := hb.2; omega))) rfl ?_
  refine q0 6 257 6 rfl rfl (T_assign rfl rfl) rfl ?_
  refine q0 7 273 7 rfl rfl (T_assign rfl rfl) rfl ?_
  refine k_done rfl ?_
  refine thenK_n ?_
  refine W_ret ?_
  refine blockK_r ?_
  refine thenK_r ?_
  exact .mk [] (.inr rfl) (.tmp rfl (.tmp rfl (.nil))) (by exact app_end (by simp [*, appV, cmpB] <;> first | rfl | omega) (by simp [*, appE] <;> omega)) (.nil) rfl
 ·have h1 := c_eql_f g1
  refine W_seq ?_
  refine W_seqK (b' := 209) rfl rfl ?_
  refine q0 23 177 1 rfl rfl (T_cmp rfl rfl rfl rfl) rfl ?_
  refine q0 22 193 2 rfl rfl (T_assign rfl rfl) rfl ?_
  refine k_done rfl ?_
  refine thenK_n ?_
  refine W_cond rfl (fun g2 => ?_) (fun g2 => ?_)
  ·have h2 := c_eql_t g2
   refine W_seq ?_
   refine W_seqK (b' := 337) rfl rfl ?_
   refine q0 24 209 1 rfl rfl (T_move rfl rfl) rfl ?_
   refine q0 25 225 2 rfl rfl (T_addU (top := 18446744073709551616) rfl rfl rfl rfl rfl (by first | assumption | omega | exact ⟨(mul_bd ha hb).1, by omega⟩ | exact mul_bd ha hb | exact ha | exact hb | exact div_bd ha hb | exact mod_bd ha hb (by omega) | (have q1 := ha.1; have q2 := ha.2; omega) | (have q1 := ha.1; have q2 := ha.2; have q3 := hb.1; have q4 := hb.2; omega))) rfl ?_
   refine q0 26 241 3 rfl rfl (T_move rfl rfl) rfl ?_
   refine q0 27 257 4 rfl rfl (T_subU (top := 18446744073709551616) rfl rfl rfl rfl rfl (by first | assumption | omega | exact ⟨(mul_bd ha hb).1, by omega⟩ | exact mul_bd ha hb | exact ha | exact hb | exact div_bd ha hb | exact mod_bd ha hb (by omega) | (have q1 := ha.1; have q2 := ha.2; omega) | (have q1 := ha.1; have q2 := ha.2; have q3 := hb.1; have q4 := hb.2; omega))) rfl ?_
   refine q0 28 273 5 rfl rfl (T_remU rfl rfl rfl (by first | assumption | omega | exact ⟨(mul_bd ha hb).1, by omega⟩ | exact mul_bd ha hb | exact ha | exact hb | exact div_bd ha hb | exact mod_bd ha hb (by omega) | (have q1 := ha.1; have q2 := ha.2; omega) | (have q1 := ha.1; have q2 := ha.2; have q3 := hb.1; have q4 := hb.2; omega))) rfl ?_
   refine q0 29 289 6 rfl rfl (T_convU (top := 4294967296) rfl rfl (by rw [Try.underlying164]; rfl) Try.underlying68 rfl rfl (by first | assumption | omega | exact ⟨(mul_bd ha hb).1, by omega⟩ | exact mul_bd ha hb | exact ha | exact hb | exact div_bd ha hb | exact mod_bd ha hb (by omega) | (have q1 := ha.1; have q2 := ha.2; omega) | (have q1 := ha.1; have q2 := ha.2; have q3 := hb.1; have q4 := hb.2; omega))) rfl ?_
   refine q0 6 305 7 rfl rfl (T_assign rfl rfl) rfl ?_
   refine q0 7 321 8 rfl rfl (T_assign rfl rfl) rfl ?_
   refine k_done rfl ?_
   refine thenK_n ?_
   refine W_ret ?_
   refine blockK_r ?_
   refine thenK_r ?_
   exact .mk [] (.inr rfl) (.tmp rfl (.tmp rfl (.nil))) (by exact app_end (by simp [*, appV, cmpB] <;> first | rfl | omega) (by simp [*, appE] <;> omega)) (.nil) rfl
  ·have h2 := c_eql_f g2
   refine W_seq ?_
   refine W_seqK (b' := 241) rfl rfl ?_
   refine q0 31 209 1 rfl rfl (T_cmp rfl rfl rfl rfl) rfl ?_
   refine q0 30 225 2 rfl rfl (T_assign rfl rfl) rfl ?_
   refine k_done rfl ?_
   refine thenK_n ?_
   refine W_cond rfl (fun g3 => ?_) (fun g3 => ?_)
   ·have h3 := c_eql_t g3
    refine W_seq ?_
    refine W_seqK (b' := 353) rfl rfl ?_
    refine q0 32 241 1 rfl rfl (T_move rfl rfl) rfl ?_
    refine q0 33 257 2 rfl rfl (T_move rfl rfl) rfl ?_
    refine q0 34 273 3 rfl rfl (T_mulU (top := 18446744073709551616) rfl rfl rfl rfl rfl (by first | assumption | omega | exact ⟨(mul_bd ha hb).1, by omega⟩ | exact mul_bd ha hb | exact ha | exact hb | exact div_bd ha hb | exact mod_bd ha hb (by omega) | (have q1 := ha.1; have q2 := ha.2; omega) | (have q1 := ha.1; have q2 := ha.2; have q3 := hb.1; have q4 := hb.2; omega))) rfl ?_
    refine q0 35 289 4 rfl rfl (T_remU rfl rfl rfl (by first | assumption | omega | exact ⟨(mul_bd ha hb).1, by omega⟩ | exact mul_bd ha hb | exact ha | exact hb | exact div_bd ha hb | exact mod_bd ha hb (by omega) | (have q1 := ha.1; have q2 := ha.2; omega) | (have q1 := ha.1; have q2 := ha.2; have q3 := hb.1; have q4 := hb.2; omega))) rfl ?_
    refine q0 36 305 5 rfl rfl (T_convU (top := 4294967296) rfl rfl (by rw [Try.underlying164]; rfl) Try.underlying68 rfl rfl (by first | assumption | omega | exact ⟨(mul_bd ha hb).1, by omega⟩ | exact mul_bd ha hb | exact ha | exact hb | exact div_bd ha hb | exact mod_bd ha hb (by omega) | (have q1 := ha.1; have q2 := ha.2; omega) | (have q1 := ha.1; have q2 := ha.2; have q3 := hb.1; have q4 := hb.2; omega))) rfl ?_
    refine q0 6 321 6 rfl rfl (T_assign rfl rfl) rfl ?_
    refine q0 7 337 7 rfl rfl (T_assign rfl rfl) rfl ?_
    refine k_done rfl ?_
    refine thenK_n ?_
    refine W_ret ?_
    refine blockK_r ?_
    refine thenK_r ?_
    exact .mk [] (.inr rfl) (.tmp rfl (.tmp rfl (.nil))) (by exact app_end (by simp [*, appV, cmpB] <;> first | rfl | omega) (by simp [*, appE] <;> omega)) (.nil) rfl
   ·have h3 := c_eql_f g3
    refine W_seq ?_
    refine W_seqK (b' := 273) rfl rfl ?_
    refine q0 38 241 1 rfl rfl (T_cmp rfl rfl rfl rfl) rfl ?_
    refine q0 37 257 2 rfl rfl (T_assign rfl rfl) rfl ?_
    refine k_done rfl ?_
    refine thenK_n ?_
    refine W_cond rfl (fun g4 => ?_) (fun g4 => ?_)
    ·have h4 := c_eql_t g4
     refine W_seq ?_
     refine W_seq ?_
     refine W_seqK (b' := 305) rfl rfl ?_
     refine q0 39 273 1 rfl rfl (T_move rfl rfl) rfl ?_
     refine q0 40 289 2 rfl rfl (T_cmp rfl rfl rfl rfl) rfl ?_
     refine k_done rfl ?_
     refine thenK_n ?_
     refine W_cond rfl (fun g5 => ?_) (fun g5 => ?_)
     ·have h5 := c_eql_t g5
      refine W_seq ?_
      refine W_seqK (b' := 337) rfl rfl ?_
      refine q0 6 305 1 rfl rfl (T_assign rfl rfl) rfl ?_
      refine q0 7 321 2 rfl rfl (T_assign rfl rfl) rfl ?_
      refine k_done rfl ?_
      refine thenK_n ?_
      refine W_ret ?_
      refine thenK_r ?_
      refine blockK_r ?_
      refine thenK_r ?_
      exact .mk [] (.inr rfl) (.tmp rfl (.tmp rfl (.nil))) (by exact app_end (by simp [*, appV, cmpB] <;> first | rfl | omega) (by simp [*, appE] <;> omega)) (.nil) rfl
     ·have h5 := c_eql_f g5
      refine W_skip ?_
      refine thenK_n ?_
      refine W_seq ?_
      refine W_seqK (b' := 401) rfl rfl ?_
      refine q0 41 305 1 rfl rfl (T_move rfl rfl) rfl ?_
      refine q0 42 321 2 rfl rfl (T_move rfl rfl) rfl ?_
      refine q0 43 337 3 rfl rfl (T_quoU (top := 18446744073709551616) rfl rfl rfl rfl rfl (by first | assumption | omega | exact ⟨(mul_bd ha hb).1, by omega⟩ | exact mul_bd ha hb | exact ha | exact hb | exact div_bd ha hb | exact mod_bd ha hb (by omega) | (have q1 := ha.1; have q2 := ha.2; omega) | (have q1 := ha.1; have q2 := ha.2; have q3 := hb.1; have q4 := hb.2; omega))) rfl ?_
      refine q0 44 353 4 rfl rfl (T_convU (top := 4294967296) rfl rfl (by rw [Try.underlying164]; rfl) Try.underlying68 rfl rfl (by first | assumption | omega | exact ⟨(mul_bd ha hb).1, by omega⟩ | exact mul_bd ha hb | exact ha | exact hb | exact div_bd ha hb | exact mod_bd ha hb (by omega) | (have q1 := ha.1; have q2 := ha.2; omega) | (have q1 := ha.1; have q2 := ha.2; have q3 := hb.1; have q4 := hb.2; omega))) rfl ?_
      refine q0 6 369 5 rfl rfl (T_assign rfl rfl) rfl ?_
      refine q0 7 385 6 rfl rfl (T_assign rfl rfl) rfl ?_
      refine k_done rfl ?_
      refine thenK_n ?_
      refine W_ret ?_
      refine blockK_r ?_
      refine thenK_r ?_
      exact .mk [] (.inr rfl) (.tmp rfl (.tmp rfl (.nil))) (by exact app_end (by simp [*, appV, cmpB] <;> first | rfl | omega) (by simp [*, appE] <;> omega)) (.nil) rfl
    ·have h4 := c_eql_f g4
     refine W_seq ?_
     refine W_seqK (b' := 305) rfl rfl ?_
     refine q0 46 273 1 rfl rfl (T_cmp rfl rfl rfl rfl) rfl ?_
     refine q0 45 289 2 rfl rfl (T_assign rfl rfl) rfl ?_
     refine k_done rfl ?_
     refine thenK_n ?_
     refine W_cond rfl (fun g6 => ?_) (fun g6 => ?_)
     ·have h6 := c_eql_t g6
      refine W_seq ?_
      refine W_seq ?_
      refine W_seqK (b' := 337) rfl rfl ?_
      refine q0 47 305 1 rfl rfl (T_move rfl rfl) rfl ?_
      refine q0 48 321 2 rfl rfl (T_cmp rfl rfl rfl rfl) rfl ?_
      refine k_done rfl ?_
      refine thenK_n ?_
      refine W_cond rfl (fun g7 => ?_) (fun g7 => ?_)
      ·have h7 := c_eql_t g7
       refine W_seq ?_
       refine W_seqK (b' := 369) rfl rfl ?_
       refine q0 6 337 1 rfl rfl (T_assign rfl rfl) rfl ?_
       refine q0 7 353 2 rfl rfl (T_assign rfl rfl) rfl ?_
       refine k_done rfl ?_
       refine thenK_n ?_
       refine W_ret ?_
       refine thenK_r ?_
       refine blockK_r ?_
       refine thenK_r ?_
       exact .mk [] (.inr rfl) (.tmp rfl (.tmp rfl (.nil))) (by exact app_end (by simp [*, appV, cmpB] <;> first | rfl | omega) (by simp [*, appE] <;> omega)) (.nil) rfl
      ·have h7 := c_eql_f g7
       refine W_skip ?_
       refine thenK_n ?_
       refine W_seq ?_
       refine W_seqK (b' := 433) rfl rfl ?_
       refine q0 49 337 1 rfl rfl (T_move rfl rfl) rfl ?_
       refine q0 50 353 2 rfl rfl (T_move rfl rfl) rfl ?_
       refine q0 51 369 3 rfl rfl (T_remU rfl rfl rfl (by first | assumption | omega | exact ⟨(mul_bd ha hb).1, by omega⟩ | exact mul_bd ha hb | exact ha | exact hb | exact div_bd ha hb | exact mod_bd ha hb (by omega) | (have q1 := ha.1; have q2 := ha.2; omega) | (have q1 := ha.1; have q2 := ha.2; have q3 := hb.1; have q4 := hb.2; omega))) rfl ?_
       refine q0 52 385 4 rfl rfl (T_convU (top := 4294967296) rfl rfl (by rw [Try.underlying164]; rfl) Try.underlying68 rfl rfl (by first | assumption | omega | exact ⟨(mul_bd ha hb).1, by omega⟩ | exact mul_bd ha hb | exact ha | exact hb | exact div_bd ha hb | exact mod_bd ha hb (by omega) | (have q1 := ha.1; have q2 := ha.2; omega) | (have q1 := ha.1; have q2 := ha.2; have q3 := hb.1; have q4 := hb.2; omega))) rfl ?_
       refine q0 6 401 5 rfl rfl (T_assign rfl rfl) rfl ?_
       refine q0 7 417 6 rfl rfl (T_assign rfl rfl) rfl ?_
       refine k_done rfl ?_
       refine thenK_n ?_
       refine W_ret ?_
       refine blockK_r ?_
       refine thenK_r ?_
       exact .mk [] (.inr rfl) (.tmp rfl (.tmp rfl (.nil))) (by exact app_end (by simp [*, appV, cmpB] <;> first | rfl | omega) (by simp [*, appE] <;> omega)) (.nil) rfl
     ·have h6 := c_eql_f g6
      refine W_seq ?_
      refine W_seq ?_
      refine W_seqK (b' := 337) rfl rfl ?_
      refine q0 54 305 1 rfl rfl (T_cmp rfl rfl rfl rfl) rfl ?_
      refine q0 53 321 2 rfl rfl (T_assign rfl rfl) rfl ?_
      refine k_done rfl ?_
      refine thenK_n ?_
      refine W_cond rfl (fun g8 => ?_) (fun g8 => ?_)
      ·have h8 := c_eql_t g8
       refine W_skip ?_
       refine thenK_n ?_
       refine W_cond rfl (fun g9 => ?_) (fun g9 => ?_)
       ·skip
        refine W_seq ?_
        refine W_seqK (b' := 433) rfl rfl ?_
        refine q0 57 337 1 rfl rfl (T_move rfl rfl) rfl ?_
        refine q0 58 353 2 rfl rfl (T_move rfl rfl) rfl ?_
        refine q0 59 369 3 rfl rfl (T_move rfl rfl) rfl ?_
        refine q0 60 385 4 rfl rfl (T_callV (lvs := [_, _, _]) (L := []) (both_spec _ _ _ (by assumption) (by assumption)) body137 rfl rfl rfl rfl (.nil) rfl) rfl ?_
        refine q0 6 401 5 rfl rfl (T_assign rfl rfl) rfl ?_
        refine q0 7 417 6 rfl rfl (T_assign rfl rfl) rfl ?_
        refine k_done rfl ?_
        refine thenK_n ?_
        refine W_ret ?_
        refine blockK_r ?_
        refine thenK_r ?_
        exact .mk [] (.inr rfl) (.tmp rfl (.tmp rfl (.nil))) (by exact app_end (by simp [*, appV, cmpB] <;> first | rfl | omega) (by simp [*, appE] <;> omega)) (.nil) rfl
       ·exact absurd (g9.symm.trans g8) (by decide)
      ·have h8 := c_eql_f g8
       refine W_seq ?_
       refine W_seqK (b' := 369) rfl rfl ?_
       refine q0 55 337 1 rfl rfl (T_cmp rfl rfl rfl rfl) rfl ?_
       refine q0 53 353 2 rfl rfl (T_assign rfl rfl) rfl ?_
       refine k_done rfl ?_
       refine thenK_n ?_
       refine W_cond rfl (fun g10 => ?_) (fun g10 => ?_)
       ·have h10 := c_eql_t g10
        refine W_skip ?_
        refine thenK_n ?_
        refine W_cond rfl (fun g11 => ?_) (fun g11 => ?_)
        ·skip
         refine W_seq ?_
         refine W_seqK (b' := 465) rfl rfl ?_
         refine q0 57 369 1 rfl rfl (T_move rfl rfl) rfl ?_
         refine q0 58 385 2 rfl rfl (T_move rfl rfl) rfl ?_
         refine q0 59 401 3 rfl rfl (T_move rfl rfl) rfl ?_
         refine q0 60 417 4 rfl rfl (T_callV (lvs := [_, _, _]) (L := []) (both_spec _ _ _ (by assumption) (by assumption)) body137 rfl rfl rfl rfl (.nil) rfl) rfl ?_
         refine q0 6 433 5 rfl rfl (T_assign rfl rfl) rfl ?_
         refine q0 7 449 6 rfl rfl (T_assign rfl rfl) rfl ?_
         refine k_done rfl ?_
         refine thenK_n ?_
         refine W_ret ?_
         refine blockK_r ?_
         refine thenK_r ?_
         exact .mk [] (.inr rfl) (.tmp rfl (.tmp rfl (.nil))) (by exact app_end (by simp [*, appV, cmpB] <;> first | rfl | omega) (by simp [*, appE] <;> omega)) (.nil) rfl
        ·exact absurd (g11.symm.trans g10) (by decide)
       ·have h10 := c_eql_f g10
        refine W_seqK (b' := 401) rfl rfl ?_
        refine q0 56 369 1 rfl rfl (T_cmp rfl rfl rfl rfl) rfl ?_
        refine q0 53 385 2 rfl rfl (T_assign rfl rfl) rfl ?_
        refine k_done rfl ?_
        refine thenK_n ?_
        refine W_cond rfl (fun g12 => ?_) (fun g12 => ?_)
        ·have h12 := c_eql_t g12
         refine W_seq ?_
         refine W_seqK (b' := 497) rfl rfl ?_
         refine q0 57 401 1 rfl rfl (T_move rfl rfl) rfl ?_
         refine q0 58 417 2 rfl rfl (T_move rfl rfl) rfl ?_
         refine q0 59 433 3 rfl rfl (T_move rfl rfl) rfl ?_
         refine q0 60 449 4 rfl rfl (T_callV (lvs := [_, _, _]) (L := []) (both_spec _ _ _ (by assumption) (by assumption)) body137 rfl rfl rfl rfl (.nil) rfl) rfl ?_
         refine q0 6 465 5 rfl rfl (T_assign rfl rfl) rfl ?_
         refine q0 7 481 6 rfl rfl (T_assign rfl rfl) rfl ?_
         refine k_done rfl ?_
         refine thenK_n ?_
         refine W_ret ?_
         refine blockK_r ?_
         refine thenK_r ?_
         exact .mk [] (.inr rfl) (.tmp rfl (.tmp rfl (.nil))) (by exact app_end (by simp [*, appV, cmpB] <;> first | rfl | omega) (by simp [*, appE] <;> omega)) (.nil) rfl
        ·have h12 := c_eql_f g12
         refine W_seq ?_
         refine W_seq ?_
         refine W_seqK (b' := 433) rfl rfl ?_
         refine q0 62 401 1 rfl rfl (T_cmp rfl rfl rfl rfl) rfl ?_
         refine q0 61 417 2 rfl rfl (T_assign rfl rfl) rfl ?_
         refine k_done rfl ?_
         refine thenK_n ?_
         refine W_cond rfl (fun g13 => ?_) (fun g13 => ?_)
         ·have h13 := c_eql_t g13
          refine W_skip ?_
          refine thenK_n ?_
          refine W_cond rfl (fun g14 => ?_) (fun g14 => ?_)
          ·skip
           refine W_seq ?_
           refine W_seqK (b' := 529) rfl rfl ?_
           refine q0 64 433 1 rfl rfl (T_move rfl rfl) rfl ?_
           refine q0 65 449 2 rfl rfl (T_move rfl rfl) rfl ?_
           refine q0 66 465 3 rfl rfl (T_move rfl rfl) rfl ?_
           refine q0 67 481 4 rfl rfl (T_callV (lvs := [_, _, _]) (L := []) (shift_spec _ _ _ (by assumption) (by assumption)) body138 rfl rfl rfl rfl (.nil) rfl) rfl ?_
           refine q0 6 497 5 rfl rfl (T_assign rfl rfl) rfl ?_
           refine q0 7 513 6 rfl rfl (T_assign rfl rfl) rfl ?_
           refine k_done rfl ?_
           refine thenK_n ?_
           refine W_ret ?_
           refine blockK_r ?_
           refine thenK_r ?_
           exact .mk [] (.inr rfl) (.tmp rfl (.tmp rfl (.nil))) (by exact app_end (by simp [*, appV, cmpB] <;> first | rfl | omega) (by simp [*, appE] <;> omega)) (.nil) rfl
          ·exact absurd (g14.symm.trans g13) (by decide)
         ·have h13 := c_eql_f g13
          refine W_seqK (b' := 465) rfl rfl ?_
          refine q0 63 433 1 rfl rfl (T_cmp rfl rfl rfl rfl) rfl ?_
          refine q0 61 449 2 rfl rfl (T_assign rfl rfl) rfl ?_
          refine k_done rfl ?_
          refine thenK_n ?_
          refine W_cond rfl (fun g15 => ?_) (fun g15 => ?_)
          ·have h15 := c_eql_t g15
           refine W_seq ?_
           refine W_seqK (b' := 561) rfl rfl ?_
           refine q0 64 465 1 rfl rfl (T_move rfl rfl) rfl ?_
           refine q0 65 481 2 rfl rfl (T_move rfl rfl) rfl ?_
           refine q0 66 497 3 rfl rfl (T_move rfl rfl) rfl ?_
           refine q0 67 513 4 rfl rfl (T_callV (lvs := [_, _, _]) (L := []) (shift_spec _ _ _ (by assumption) (by assumption)) body138 rfl rfl rfl rfl (.nil) rfl) rfl ?_
           refine q0 6 529 5 rfl rfl (T_assign rfl rfl) rfl ?_
           refine q0 7 545 6 rfl rfl (T_assign rfl rfl) rfl ?_
           refine k_done rfl ?_
           refine thenK_n ?_
           refine W_ret ?_
           refine blockK_r ?_
           refine thenK_r ?_
           exact .mk [] (.inr rfl) (.tmp rfl (.tmp rfl (.nil))) (by exact app_end (by simp [*, appV, cmpB] <;> first | rfl | omega) (by simp [*, appE] <;> omega)) (.nil) rfl
          ·have h15 := c_eql_f g15
           refine W_seq ?_
           refine W_seqK (b' := 497) rfl rfl ?_
           refine q0 69 465 1 rfl rfl (T_cmp rfl rfl rfl rfl) rfl ?_
           refine q0 68 481 2 rfl rfl (T_assign rfl rfl) rfl ?_
           refine k_done rfl ?_
           refine thenK_n ?_
           refine W_cond rfl (fun g16 => ?_) (fun g16 => ?_)
           ·have h16 := c_eql_t g16
            refine W_seq ?_
            refine W_seqK (b' := 593) rfl rfl ?_
            refine q0 70 497 1 rfl rfl (T_move rfl rfl) rfl ?_
            refine q0 71 513 2 rfl rfl (T_move rfl rfl) rfl ?_
            refine q0 72 529 3 rfl rfl (T_cmp rfl rfl rfl rfl) rfl ?_
            refine q0 73 545 4 rfl rfl (T_callV (lvs := [_]) (L := []) (flag_spec _) body139 rfl rfl rfl rfl (.nil) rfl) rfl ?_
            refine q0 6 561 5 rfl rfl (T_assign rfl rfl) rfl ?_
            refine q0 7 577 6 rfl rfl (T_assign rfl rfl) rfl ?_
            refine k_done rfl ?_
            refine thenK_n ?_
            refine W_ret ?_
            refine blockK_r ?_
            refine thenK_r ?_
            exact .mk [] (.inr rfl) (.tmp rfl (.tmp rfl (.nil))) (by exact app_end (by simp [*, appV, cmpB] <;> first | rfl | omega) (by simp [*, appE] <;> omega)) (.nil) rfl
           ·have h16 := c_eql_f g16
            refine W_seq ?_
            refine W_seqK (b' := 529) rfl rfl ?_
            refine q0 75 497 1 rfl rfl (T_cmp rfl rfl rfl rfl) rfl ?_
            refine q0 74 513 2 rfl rfl (T_assign rfl rfl) rfl ?_
            refine k_done rfl ?_
            refine thenK_n ?_
            refine W_cond rfl (fun g17 => ?_) (fun g17 => ?_)
            ·have h17 := c_eql_t g17
             refine W_seq ?_
             refine W_seqK (b' := 625) rfl rfl ?_
             refine q0 76 529 1 rfl rfl (T_move rfl rfl) rfl ?_
             refine q0 77 545 2 rfl rfl (T_move rfl rfl) rfl ?_
             refine q0 78 561 3 rfl rfl (T_cmp rfl rfl rfl rfl) rfl ?_
             refine q0 79 577 4 rfl rfl (T_callV (lvs := [_]) (L := []) (flag_spec _) body139 rfl rfl rfl rfl (.nil) rfl) rfl ?_
             refine q0 6 593 5 rfl rfl (T_assign rfl rfl) rfl ?_
             refine q0 7 609 6 rfl rfl (T_assign rfl rfl) rfl ?_
             refine k_done rfl ?_
             refine thenK_n ?_
             refine W_ret ?_
             refine blockK_r ?_
             refine thenK_r ?_
             exact .mk [] (.inr rfl) (.tmp rfl (.tmp rfl (.nil))) (by exact app_end (by simp [*, appV, cmpB] <;> first | rfl | omega) (by simp [*, appE] <;> omega)) (.nil) rfl
            ·have h17 := c_eql_f g17
             refine W_skip ?_
             refine blockK_n ?_
             refine thenK_n ?_
             refine W_seq ?_
             refine W_seqK (b' := 561) rfl rfl ?_
             refine q0 6 529 1 rfl rfl (T_assign rfl rfl) rfl ?_
             refine q0 7 545 2 rfl rfl (T_assign rfl rfl) rfl ?_
             refine k_done rfl ?_
             refine thenK_n ?_
             refine W_ret ?_
             exact .mk [] (.inr rfl) (.tmp rfl (.tmp rfl (.nil))) (by exact app_end (by simp [*, appV, cmpB] <;> first | rfl | omega) (by simp [*, appE] <;> omega)) (.nil) rfl
end Lg
end Go.Proofs.Ytpfhmodjjljpjaa

namespace Go.Proofs.Ytpfhmodjjljpjaa
open Go.RowKit
namespace Lg
set_option linter.unusedSimpArgs false
set_option linter.unusedVariables false
def FunS (p : GProg) (inp : ByteArray) (fuel : Int) (call : Int → RS → RS) (i : Int) : Prop := ∀ s, SOk p.words inp fuel s → s.fin = 0 →
  Spec Try.prog 77 [.p 1 0, .v (.int .i64 i)] 5
    [(1, .box 107 [.v (.int .i64 p.words), .r 2, .v (.string inp), .v (.int .i64 fuel), .r 3, .r 4, .v (.int .i64 s.read), .v (.int .i64 s.steps), .v (.int .i64 s.fin)]), (2, .fz 2 (p.funcs.map eFn)), (3, .row 68 1 (s.ws.map eU32)), (4, .row 5 1 (s.out.map eU8))] (.tup []) 6
    [(1, .box 107 [.v (.int .i64 p.words), .r 2, .v (.string inp), .v (.int .i64 fuel), .r 3, .r 5, .v (.int .i64 (call i s).read), .v (.int .i64 (call i s).steps), .v (.int .i64 (call i s).fin)]), (3, .row 68 1 ((call i s).ws.map eU32)), (4, .no), (5, .row 5 1 ((call i s).out.map eU8))]
structure FB (t : GTac) (nr nw num : Int) : Prop where
  op : 1 ≤ t.op ∧ t.op ≤ 10
  d : (t.op = 1 ∨ t.op = 2 ∨ t.op = 3 ∨ t.op = 4 ∨ t.op = 6 ∨ t.op = 8) → 0 ≤ t.d ∧ t.d < nr
  a : (t.op = 2 ∨ t.op = 5 ∨ t.op = 6 ∨ t.op = 9 ∨ t.op = 3 ∨ t.op = 7) → 0 ≤ t.a ∧ t.a < nr
  b : (t.op = 3 ∨ t.op = 7) → 0 ≤ t.b ∧ t.b < nr
  k : t.op = 3 → 4 ≤ t.k ∧ t.k ≤ 15
  base : (t.op = 4 ∨ t.op = 5) → 0 ≤ t.base ∧ t.base < nw
  size : (t.op = 6 ∨ t.op = 7) → (1 ≤ t.size ∧ t.size ≤ 4096) ∧ 0 ≤ t.base ∧ t.base ≤ nw - t.size
  call : t.op = 10 → 0 ≤ t.base ∧ t.base < num
theorem within_iff {i n : Int} (h : withinB i n = true) : 0 ≤ i ∧ i < n := by
  unfold withinB at h
  simpa using h
theorem fits_fb {t : GTac} {num nr nw : Int} (h : FitsP t num nr nw) : FB t nr nw num := by
  obtain ⟨h1, h2, h3, h4, h5, h6, h7, _⟩ := h
  refine ⟨h1, fun ho => within_iff (h2 (setsOp_t ho)), fun ho => within_iff (h3 _ ?_), fun ho => within_iff (h3 _ ?_), h4, fun ho => within_iff (h5 ho), fun ho => ?_, fun ho => within_iff (h7 ho)⟩
  · unfold usesT
    split
    · simp
    · rw [if_pos (by omega)]; simp
  · unfold usesT
    rw [if_neg (by omega), if_pos ho]; simp
  · obtain ⟨q1, q2, q3, q4⟩ := h6 ho; exact ⟨⟨q1, q2⟩, q3, q4⟩
theorem box9 {w f rd st fn rd' st' fn' : Int} {i : ByteArray} {a b c : Nat} (h1 : rd = rd') (h2 : st = st') (h3 : fn = fn') : some (Ob.box 107 [.v (.int .i64 w), .r a, .v (.string i), .v (.int .i64 f), .r b, .r c, .v (.int .i64 rd), .v (.int .i64 st), .v (.int .i64 fn)]) = some (Ob.box 107 [.v (.int .i64 w), .r a, .v (.string i), .v (.int .i64 f), .r b, .r c, .v (.int .i64 rd'), .v (.int .i64 st'), .v (.int .i64 fn')]) := by subst h1 h2 h3; rfl
theorem body77 : (Try.prog.funcs[77]?).map (fun fn => (fn.name == "runtime.NumGoroutine" || fn.body.isNone)) = some false := by kernel_rfl
end Lg
end Go.Proofs.Ytpfhmodjjljpjaa

namespace Go.Proofs.Ytpfhmodjjljpjaa
open Go.RowKit
namespace Lg
set_option maxRecDepth 100000
set_option linter.unusedVariables false
set_option linter.unusedSimpArgs false
set_option maxHeartbeats 1600000
theorem body121 : (Try.prog.funcs[121]?).map (fun fn => (fn.name == "runtime.NumGoroutine" || fn.body.isNone)) = some false := by kernel_rfl
theorem oneIns_spec (p : GProg) (inp : ByteArray) (fuel : Int) (call : Int → RS → RS) (t : GTac) (regs : List Int) (s : RS) (num nr : Int) (hf : FB t nr p.words num) (hr : ROk nr regs) (hs : SOk p.words inp fuel s) (h0 : s.fin = 0) (hn : isW t.n) (hw : 0 ≤ p.words ∧ p.words ≤ 1048576) (hi : (inp.size : Int) ≤ 1000000) (hc : t.op = 10 → FunS p inp fuel call t.base) : Spec Try.prog 121 [.p 1 0, .agg [.v (.int .i64 t.op), .v (.int .i64 t.d), .v (.int .i64 t.a), .v (.int .i64 t.b), .v (.int .i64 t.k), .v (.int .i64 t.base), .v (.int .i64 t.size), .v (.int .u32 t.n)], .r 2] 6 [(1, .box 107 [.v (.int .i64 p.words), .r 3, .v (.string inp), .v (.int .i64 fuel), .r 4, .r 5, .v (.int .i64 s.read), .v (.int .i64 s.steps), .v (.int .i64 s.fin)]), (2, .row 68 1 (regs.map eU32)), (3, .fz 2 (p.funcs.map eFn)), (4, .row 68 1 (s.ws.map eU32)), (5, .row 5 1 (s.out.map eU8))] (.tup []) 7 [(1, .box 107 [.v (.int .i64 p.words), .r 3, .v (.string inp), .v (.int .i64 fuel), .r 4, .r 6, .v (.int .i64 (oneS inp call t regs s).read), .v (.int .i64 (oneS inp call t regs s).steps), .v (.int .i64 (oneS inp call t regs s).fin)]), (2, .row 68 1 ((oneR inp t regs s).map eU32)), (4, .row 68 1 ((oneS inp call t regs s).ws.map eU32)), (5, .no), (6, .row 5 1 ((oneS inp call t regs s).out.map eU8))] := by
 have f1 := hf.op
 have f2 := hf.d
 have f3 := hf.a
 have f4 := hf.b
 have f5 := hf.k
 have f6 := hf.base
 have f7 := hf.size
 have f8 := hf.call
 have f9 := hr.len
 have f10 := hs.len
 have f11 := hs.read
 have f12 := hs.steps
 have f13 := hs.out
 have f14 := hr.at t.a.toNat
 have f15 := hr.at t.b.toNat
 have f16 := f14.1
 have f17 := f14.2
 refine spec_of D (fn := Try.f121) rfl rfl (Nat.le_of_ble_eq_true rfl) ?_
 refine W_seq ?_
 refine W_seqK (b' := 22) rfl rfl ?_
 refine q1 4 6 1 rfl rfl (T_box rfl rfl flat_agg) rfl ?_
 refine k_done rfl ?_
 refine thenK_n ?_
 refine W_seq ?_
 refine W_seqK (b' := 54) rfl rfl ?_
 refine q0 8 22 1 rfl rfl (T_fa D (m := 0) rfl rfl rfl rfl rfl rfl) rfl ?_
 refine q0 9 38 2 rfl rfl (T_load_b D rfl rfl rfl rfl rfl rfl) rfl ?_
 refine k_done rfl ?_
 refine thenK_n ?_
 refine W_block ?_
 refine W_seq ?_
 refine W_seqK (b' := 86) rfl rfl ?_
 refine q0 11 54 1 rfl rfl (T_cmp rfl rfl rfl rfl) rfl ?_
 refine q0 10 70 2 rfl rfl (T_assign rfl rfl) rfl ?_
 refine k_done rfl ?_
 refine thenK_n ?_
 refine W_cond rfl (fun g1 => ?_) (fun g1 => ?_)
 ·have h1 := c_eql_t g1
  refine W_seqK (b' := 198) rfl rfl ?_
  refine q0 12 86 1 rfl rfl (T_move rfl rfl) rfl ?_
  refine q0 13 102 2 rfl rfl (T_fa D (m := 1) rfl rfl rfl rfl rfl rfl) rfl ?_
  refine q0 14 118 3 rfl rfl (T_load_b D rfl rfl rfl rfl rfl rfl) rfl ?_
  refine q0 15 134 4 rfl rfl (T_fa D (m := 7) rfl rfl rfl rfl rfl rfl) rfl ?_
  refine q0 16 150 5 rfl rfl (T_load_b D rfl rfl rfl rfl rfl rfl) rfl ?_
  first | refine q0 17 166 6 rfl rfl (T_indexAddr D rfl rfl rfl rfl rfl rfl rfl rfl (by first | omega | exact byteAt_isW _ _ | (simp; omega))) rfl ?_ | refine q0 17 166 6 rfl rfl (T_indexAddrZ D rfl rfl rfl rfl rfl rfl rfl rfl (by first | omega | exact byteAt_isW _ _ | (simp; omega)) (by first | omega | exact byteAt_isW _ _ | (simp; omega))) rfl ?_
  refine s1 182 7 rfl rfl (T_store_e D (z := _) rfl rfl rfl rfl (flat_v rfl) rfl rfl (by first | omega | exact byteAt_isW _ _ | (simp; omega)) (.v rfl (.nil)) rfl (Nat.le_of_ble_eq_true rfl) rfl) rfl ?_
  refine k_done rfl ?_
  refine blockK_n ?_
  have hO : oneS inp call t regs s = s := by unfold oneS; repeat first | rw [if_pos (by omega)] | rw [if_neg (by omega)]
  have hR : oneR inp t regs s = regs.set t.d.toNat t.n := by unfold oneR; repeat first | rw [if_pos (by omega)] | rw [if_neg (by omega)]
  exact .mk [(6, 5)] (.inl rfl) (.nil) rfl (.box (by first | rfl | (rw [hO]; first | done | rfl) | (rw [hR]; first | done | rfl) | exact box9 (by first | rfl | (rw [hO]; first | done | rfl) | (rw [hR]; first | done | rfl)) (by first | rfl | (rw [hO]; first | done | rfl) | (rw [hR]; first | done | rfl)) (by first | rfl | (rw [hO]; first | done | rfl) | (rw [hR]; first | done | rfl))) (.rowE rfl (.rowE rfl (.no (.rowE rfl (.nil) (by first | rfl | (rw [hO]; first | done | rfl) | (rw [hR]; first | done | rfl) | exact box9 (by first | rfl | (rw [hO]; first | done | rfl) | (rw [hR]; first | done | rfl)) (by first | rfl | (rw [hO]; first | done | rfl) | (rw [hR]; first | done | rfl)) (by first | rfl | (rw [hO]; first | done | rfl) | (rw [hR]; first | done | rfl))))) (by first | rfl | (rw [hO]; first | done | rfl) | (rw [hR]; first | done | rfl) | exact box9 (by first | rfl | (rw [hO]; first | done | rfl) | (rw [hR]; first | done | rfl)) (by first | rfl | (rw [hO]; first | done | rfl) | (rw [hR]; first | done | rfl)) (by first | rfl | (rw [hO]; first | done | rfl) | (rw [hR]; first | done | rfl)))) (by first | rfl | (rw [hO]; first | done | rfl) | (rw [hR]; first | done | rfl) | exact box9 (by first | rfl | (rw [hO]; first | done | rfl) | (rw [hR]; first | done | rfl)) (by first | rfl | (rw [hO]; first | done | rfl) | (rw [hR]; first | done | rfl)) (by first | rfl | (rw [hO]; first | done | rfl) | (rw [hR]; first | done | rfl))))) rfl
 ·have h1 := c_eql_f g1
  refine W_seq ?_
  refine W_seqK (b' := 118) rfl rfl ?_
  refine q0 19 86 1 rfl rfl (T_cmp rfl rfl rfl rfl) rfl ?_
  refine q0 18 102 2 rfl rfl (T_assign rfl rfl) rfl ?_
  refine k_done rfl ?_
  refine thenK_n ?_
  refine W_cond rfl (fun g2 => ?_) (fun g2 => ?_)
  ·have h2 := c_eql_t g2
   refine W_anyK (b' := 278) rfl rfl rfl ?_
   refine q0 20 118 1 rfl rfl (T_move rfl rfl) rfl ?_
   refine q0 21 134 2 rfl rfl (T_fa D (m := 1) rfl rfl rfl rfl rfl rfl) rfl ?_
   refine q0 22 150 3 rfl rfl (T_load_b D rfl rfl rfl rfl rfl rfl) rfl ?_
   refine q0 23 166 4 rfl rfl (T_move rfl rfl) rfl ?_
   refine q0 24 182 5 rfl rfl (T_fa D (m := 2) rfl rfl rfl rfl rfl rfl) rfl ?_
   refine q0 25 198 6 rfl rfl (T_load_b D rfl rfl rfl rfl rfl rfl) rfl ?_
   first | refine q0 26 214 7 rfl rfl (T_indexAddr D rfl rfl rfl rfl rfl rfl rfl rfl (by first | omega | exact byteAt_isW _ _ | (simp; omega))) rfl ?_ | refine q0 26 214 7 rfl rfl (T_indexAddrZ D rfl rfl rfl rfl rfl rfl rfl rfl (by first | omega | exact byteAt_isW _ _ | (simp; omega)) (by first | omega | exact byteAt_isW _ _ | (simp; omega))) rfl ?_
   refine q0 27 230 8 rfl rfl (T_ldE D (lv := .v _) (nn := 0) (upd := []) rfl rfl rfl rfl rfl (by first | omega | exact byteAt_isW _ _ | (simp; omega)) rfl rfl rfl rfl) rfl ?_
   first | refine q0 28 246 9 rfl rfl (T_indexAddr D rfl rfl rfl rfl rfl rfl rfl rfl (by first | omega | exact byteAt_isW _ _ | (simp; omega))) rfl ?_ | refine q0 28 246 9 rfl rfl (T_indexAddrZ D rfl rfl rfl rfl rfl rfl rfl rfl (by first | omega | exact byteAt_isW _ _ | (simp; omega)) (by first | omega | exact byteAt_isW _ _ | (simp; omega))) rfl ?_
   refine s1 262 10 rfl rfl (T_store_e D (z := _) rfl rfl rfl rfl (flat_v rfl) rfl rfl (by first | omega | exact byteAt_isW _ _ | (simp; omega)) (.v rfl (.nil)) rfl (Nat.le_of_ble_eq_true rfl) rfl) rfl ?_
   refine k_done rfl ?_
   refine ⟨rfl, ?_⟩
   refine blockK_n ?_
   have hO : oneS inp call t regs s = s := by unfold oneS; repeat first | rw [if_pos (by omega)] | rw [if_neg (by omega)]
   have hR : oneR inp t regs s = regs.set t.d.toNat (regs.getD t.a.toNat default) := by unfold oneR; repeat first | rw [if_pos (by omega)] | rw [if_neg (by omega)]
   exact .mk [(6, 5)] (.inl rfl) (.nil) rfl (.box (by first | rfl | (rw [hO]; first | done | rfl) | (rw [hR]; first | done | rfl) | exact box9 (by first | rfl | (rw [hO]; first | done | rfl) | (rw [hR]; first | done | rfl)) (by first | rfl | (rw [hO]; first | done | rfl) | (rw [hR]; first | done | rfl)) (by first | rfl | (rw [hO]; first | done | rfl) | (rw [hR]; first | done | rfl))) (.rowE rfl (.rowE rfl (.no (.rowE rfl (.nil) (by first | rfl | (rw [hO]; first | done | rfl) | (rw [hR]; first | done | rfl) | exact box9 (by first | rfl | (rw [hO]; first | done | rfl) | (rw [hR]; first | done | rfl)) (by first | rfl | (rw [hO]; first | done | rfl) | (rw [hR]; first | done | rfl)) (by first | rfl | (rw [hO]; first | done | rfl) | (rw [hR]; first | done | rfl))))) (by first | rfl | (rw [hO]; first | done | rfl) | (rw [hR]; first | done | rfl) | exact box9 (by first | rfl | (rw [hO]; first | done | rfl) | (rw [hR]; first | done | rfl)) (by first | rfl | (rw [hO]; first | done | rfl) | (rw [hR]; first | done | rfl)) (by first | rfl | (rw [hO]; first | done | rfl) | (rw [hR]; first | done | rfl)))) (by first | rfl | (rw [hO]; first | done | rfl) | (rw [hR]; first | done | rfl) | exact box9 (by first | rfl | (rw [hO]; first | done | rfl) | (rw [hR]; first | done | rfl)) (by first | rfl | (rw [hO]; first | done | rfl) | (rw [hR]; first | done | rfl)) (by first | rfl | (rw [hO]; first | done | rfl) | (rw [hR]; first | done | rfl))))) rfl
  ·have h2 := c_eql_f g2
   refine W_seq ?_
   refine W_seqK (b' := 150) rfl rfl ?_
   refine q0 30 118 1 rfl rfl (T_cmp rfl rfl rfl rfl) rfl ?_
   refine q0 29 134 2 rfl rfl (T_assign rfl rfl) rfl ?_
   refine k_done rfl ?_
   refine thenK_n ?_
   refine W_cond rfl (fun g3 => ?_) (fun g3 => ?_)
   ·have h3 := c_eql_t g3
    refine W_seq ?_
    refine W_anyK (b' := 438) rfl rfl rfl ?_
    refine q0 32 150 1 rfl rfl (T_fa D (m := 4) rfl rfl rfl rfl rfl rfl) rfl ?_
    refine q0 33 166 2 rfl rfl (T_load_b D rfl rfl rfl rfl rfl rfl) rfl ?_
    refine q0 34 182 3 rfl rfl (T_move rfl rfl) rfl ?_
    refine q0 35 198 4 rfl rfl (T_fa D (m := 2) rfl rfl rfl rfl rfl rfl) rfl ?_
    refine q0 36 214 5 rfl rfl (T_load_b D rfl rfl rfl rfl rfl rfl) rfl ?_
    first | refine q0 37 230 6 rfl rfl (T_indexAddr D rfl rfl rfl rfl rfl rfl rfl rfl (by first | omega | exact byteAt_isW _ _ | (simp; omega))) rfl ?_ | refine q0 37 230 6 rfl rfl (T_indexAddrZ D rfl rfl rfl rfl rfl rfl rfl rfl (by first | omega | exact byteAt_isW _ _ | (simp; omega)) (by first | omega | exact byteAt_isW _ _ | (simp; omega))) rfl ?_
    refine q0 38 246 7 rfl rfl (T_ldE D (lv := .v _) (nn := 0) (upd := []) rfl rfl rfl rfl rfl (by first | omega | exact byteAt_isW _ _ | (simp; omega)) rfl rfl rfl rfl) rfl ?_
    refine q0 39 262 8 rfl rfl (T_move rfl rfl) rfl ?_
    refine q0 40 278 9 rfl rfl (T_fa D (m := 3) rfl rfl rfl rfl rfl rfl) rfl ?_
    refine q0 41 294 10 rfl rfl (T_load_b D rfl rfl rfl rfl rfl rfl) rfl ?_
    first | refine q0 42 310 11 rfl rfl (T_indexAddr D rfl rfl rfl rfl rfl rfl rfl rfl (by first | omega | exact byteAt_isW _ _ | (simp; omega))) rfl ?_ | refine q0 42 310 11 rfl rfl (T_indexAddrZ D rfl rfl rfl rfl rfl rfl rfl rfl (by first | omega | exact byteAt_isW _ _ | (simp; omega)) (by first | omega | exact byteAt_isW _ _ | (simp; omega))) rfl ?_
    refine q0 43 326 12 rfl rfl (T_ldE D (lv := .v _) (nn := 0) (upd := []) rfl rfl rfl rfl rfl (by first | omega | exact byteAt_isW _ _ | (simp; omega)) rfl rfl rfl rfl) rfl ?_
    refine qn 44 342 13 rfl rfl (T_call (lvs := [_, _, _]) (L := []) (lv := .tup [.v _, .v _]) (upd := []) (nn := 0) false (apply_spec _ _ _ f14 f15) body134 rfl rfl rfl rfl (.nil) rfl (.inl rfl) rfl rfl rfl) rfl ?_
    refine q0 31 358 14 rfl rfl (T_move rfl rfl) rfl ?_
    refine q0 45 374 15 rfl rfl (T_extract rfl rfl rfl) rfl ?_
    refine q0 46 390 16 rfl rfl (T_extract rfl rfl rfl) rfl ?_
    refine q0 6 406 17 rfl rfl (T_assign rfl rfl) rfl ?_
    refine q0 7 422 18 rfl rfl (T_assign rfl rfl) rfl ?_
    refine k_done rfl ?_
    refine ⟨rfl, ?_⟩
    refine thenK_n ?_
    refine W_seq ?_
    refine W_seq ?_
    refine W_seqK (b' := 470) rfl rfl ?_
    refine q0 47 438 1 rfl rfl (T_move rfl rfl) rfl ?_
    refine q0 48 454 2 rfl rfl (T_cmp rfl rfl rfl rfl) rfl ?_
    refine k_done rfl ?_
    refine thenK_n ?_
    refine W_cond rfl (fun g4 => ?_) (fun g4 => ?_)
    ·have h4 := c_neq_t g4
     refine W_seq ?_
     refine W_seqK (b' := 534) rfl rfl ?_
     refine q0 49 470 1 rfl rfl (T_move rfl rfl) rfl ?_
     refine q0 50 486 2 rfl rfl (T_nilCheck rfl rfl) rfl ?_
     refine q0 51 502 3 rfl rfl (T_fa D (m := 8) rfl rfl rfl rfl rfl rfl) rfl ?_
     refine s1 518 4 rfl rfl (T_stB D (cs' := [_, _, _, _, _, _, _, _, _]) rfl rfl rfl rfl (flat_v rfl) rfl rfl (Nat.le_of_ble_eq_true rfl) rfl) rfl ?_
     refine k_done rfl ?_
     refine thenK_n ?_
     refine W_ret ?_
     refine thenK_r ?_
     refine blockK_r ?_
     have hO : oneS inp call t regs s = s.stop 2 := by unfold oneS; repeat first | rw [if_pos (by omega)] | rw [if_neg (by omega)]
     have hR : oneR inp t regs s = regs := by unfold oneR; repeat first | rw [if_pos (by omega)] | rw [if_neg (by omega)]
     exact .mk [(6, 5)] (.inr rfl) (.nil) rfl (.box (by first | rfl | (rw [hO]; first | done | rfl) | (rw [hR]; first | done | rfl) | exact box9 (by first | rfl | (rw [hO]; first | done | rfl) | (rw [hR]; first | done | rfl)) (by first | rfl | (rw [hO]; first | done | rfl) | (rw [hR]; first | done | rfl)) (by first | rfl | (rw [hO]; first | done | rfl) | (rw [hR]; first | done | rfl))) (.rowE rfl (.rowE rfl (.no (.rowE rfl (.nil) (by first | rfl | (rw [hO]; first | done | rfl) | (rw [hR]; first | done | rfl) | exact box9 (by first | rfl | (rw [hO]; first | done | rfl) | (rw [hR]; first | done | rfl)) (by first | rfl | (rw [hO]; first | done | rfl) | (rw [hR]; first | done | rfl)) (by first | rfl | (rw [hO]; first | done | rfl) | (rw [hR]; first | done | rfl))))) (by first | rfl | (rw [hO]; first | done | rfl) | (rw [hR]; first | done | rfl) | exact box9 (by first | rfl | (rw [hO]; first | done | rfl) | (rw [hR]; first | done | rfl)) (by first | rfl | (rw [hO]; first | done | rfl) | (rw [hR]; first | done | rfl)) (by first | rfl | (rw [hO]; first | done | rfl) | (rw [hR]; first | done | rfl)))) (by first | rfl | (rw [hO]; first | done | rfl) | (rw [hR]; first | done | rfl) | exact box9 (by first | rfl | (rw [hO]; first | done | rfl) | (rw [hR]; first | done | rfl)) (by first | rfl | (rw [hO]; first | done | rfl) | (rw [hR]; first | done | rfl)) (by first | rfl | (rw [hO]; first | done | rfl) | (rw [hR]; first | done | rfl))))) rfl
    ·have h4 := c_neq_f g4
     refine W_skip ?_
     refine thenK_n ?_
     refine W_seqK (b' := 566) rfl rfl ?_
     refine q0 52 470 1 rfl rfl (T_move rfl rfl) rfl ?_
     refine q0 53 486 2 rfl rfl (T_fa D (m := 1) rfl rfl rfl rfl rfl rfl) rfl ?_
     refine q0 54 502 3 rfl rfl (T_load_b D rfl rfl rfl rfl rfl rfl) rfl ?_
     refine q0 55 518 4 rfl rfl (T_move rfl rfl) rfl ?_
     first | refine q0 56 534 5 rfl rfl (T_indexAddr D rfl rfl rfl rfl rfl rfl rfl rfl (by first | omega | exact byteAt_isW _ _ | (simp; omega))) rfl ?_ | refine q0 56 534 5 rfl rfl (T_indexAddrZ D rfl rfl rfl rfl rfl rfl rfl rfl (by first | omega | exact byteAt_isW _ _ | (simp; omega)) (by first | omega | exact byteAt_isW _ _ | (simp; omega))) rfl ?_
     refine s1 550 6 rfl rfl (T_store_e D (z := _) rfl rfl rfl rfl (flat_v rfl) rfl rfl (by first | omega | exact byteAt_isW _ _ | (simp; omega)) (.v rfl (.nil)) rfl (Nat.le_of_ble_eq_true rfl) rfl) rfl ?_
     refine k_done rfl ?_
     refine blockK_n ?_
     have hO : oneS inp call t regs s = s := by unfold oneS; repeat first | rw [if_pos (by omega)] | rw [if_neg (by omega)]
     have hR : oneR inp t regs s = regs.set t.d.toNat (appV t.k (regs.getD t.a.toNat default) (regs.getD t.b.toNat default)) := by unfold oneR; repeat first | rw [if_pos (by omega)] | rw [if_neg (by omega)]
     exact .mk [(6, 5)] (.inl rfl) (.nil) rfl (.box (by first | rfl | (rw [hO]; first | done | rfl) | (rw [hR]; first | done | rfl) | exact box9 (by first | rfl | (rw [hO]; first | done | rfl) | (rw [hR]; first | done | rfl)) (by first | rfl | (rw [hO]; first | done | rfl) | (rw [hR]; first | done | rfl)) (by first | rfl | (rw [hO]; first | done | rfl) | (rw [hR]; first | done | rfl))) (.rowE rfl (.rowE rfl (.no (.rowE rfl (.nil) (by first | rfl | (rw [hO]; first | done | rfl) | (rw [hR]; first | done | rfl) | exact box9 (by first | rfl | (rw [hO]; first | done | rfl) | (rw [hR]; first | done | rfl)) (by first | rfl | (rw [hO]; first | done | rfl) | (rw [hR]; first | done | rfl)) (by first | rfl | (rw [hO]; first | done | rfl) | (rw [hR]; first | done | rfl))))) (by first | rfl | (rw [hO]; first | done | rfl) | (rw [hR]; first | done | rfl) | exact box9 (by first | rfl | (rw [hO]; first | done | rfl) | (rw [hR]; first | done | rfl)) (by first | rfl | (rw [hO]; first | done | rfl) | (rw [hR]; first | done | rfl)) (by first | rfl | (rw [hO]; first | done | rfl) | (rw [hR]; first | done | rfl)))) (by first | rfl | (rw [hO]; first | done | rfl) | (rw [hR]; first | done | rfl) | exact box9 (by first | rfl | (rw [hO]; first | done | rfl) | (rw [hR]; first | done | rfl)) (by first | rfl | (rw [hO]; first | done | rfl) | (rw [hR]; first | done | rfl)) (by first | rfl | (rw [hO]; first | done | rfl) | (rw [hR]; first | done | rfl))))) rfl
   ·have h3 := c_eql_f g3
    refine W_seq ?_
    refine W_seqK (b' := 182) rfl rfl ?_
    refine q0 58 150 1 rfl rfl (T_cmp rfl rfl rfl rfl) rfl ?_
    refine q0 57 166 2 rfl rfl (T_assign rfl rfl) rfl ?_
    refine k_done rfl ?_
    refine thenK_n ?_
    refine W_cond rfl (fun g5 => ?_) (fun g5 => ?_)
    ·have h5 := c_eql_t g5
     refine W_anyK (b' := 390) rfl rfl rfl ?_
     refine q0 59 182 1 rfl rfl (T_move rfl rfl) rfl ?_
     refine q0 60 198 2 rfl rfl (T_fa D (m := 1) rfl rfl rfl rfl rfl rfl) rfl ?_
     refine q0 61 214 3 rfl rfl (T_load_b D rfl rfl rfl rfl rfl rfl) rfl ?_
     refine q0 62 230 4 rfl rfl (T_move rfl rfl) rfl ?_
     refine q0 63 246 5 rfl rfl (T_nilCheck rfl rfl) rfl ?_
     refine q0 64 262 6 rfl rfl (T_fa D (m := 4) rfl rfl rfl rfl rfl rfl) rfl ?_
     refine q0 65 278 7 rfl rfl (T_load_b D rfl rfl rfl rfl rfl rfl) rfl ?_
     refine q0 66 294 8 rfl rfl (T_fa D (m := 5) rfl rfl rfl rfl rfl rfl) rfl ?_
     refine q0 67 310 9 rfl rfl (T_load_b D rfl rfl rfl rfl rfl rfl) rfl ?_
     first | refine q0 68 326 10 rfl rfl (T_indexAddr D rfl rfl rfl rfl rfl rfl rfl rfl (by first | omega | exact byteAt_isW _ _ | (simp; omega))) rfl ?_ | refine q0 68 326 10 rfl rfl (T_indexAddrZ D rfl rfl rfl rfl rfl rfl rfl rfl (by first | omega | exact byteAt_isW _ _ | (simp; omega)) (by first | omega | exact byteAt_isW _ _ | (simp; omega))) rfl ?_
     refine q0 69 342 11 rfl rfl (T_ldE D (lv := .v _) (nn := 0) (upd := []) rfl rfl rfl rfl rfl (by first | omega | exact byteAt_isW _ _ | (simp; omega)) rfl rfl rfl rfl) rfl ?_
     first | refine q0 70 358 12 rfl rfl (T_indexAddr D rfl rfl rfl rfl rfl rfl rfl rfl (by first | omega | exact byteAt_isW _ _ | (simp; omega))) rfl ?_ | refine q0 70 358 12 rfl rfl (T_indexAddrZ D rfl rfl rfl rfl rfl rfl rfl rfl (by first | omega | exact byteAt_isW _ _ | (simp; omega)) (by first | omega | exact byteAt_isW _ _ | (simp; omega))) rfl ?_
     refine s1 374 13 rfl rfl (T_store_e D (z := _) rfl rfl rfl rfl (flat_v rfl) rfl rfl (by first | omega | exact byteAt_isW _ _ | (simp; omega)) (.v rfl (.nil)) rfl (Nat.le_of_ble_eq_true rfl) rfl) rfl ?_
     refine k_done rfl ?_
     refine ⟨rfl, ?_⟩
     refine blockK_n ?_
     have hO : oneS inp call t regs s = s := by unfold oneS; repeat first | rw [if_pos (by omega)] | rw [if_neg (by omega)]
     have hR : oneR inp t regs s = regs.set t.d.toNat (s.ws.getD t.base.toNat default) := by unfold oneR; repeat first | rw [if_pos (by omega)] | rw [if_neg (by omega)]
     exact .mk [(6, 5)] (.inl rfl) (.nil) rfl (.box (by first | rfl | (rw [hO]; first | done | rfl) | (rw [hR]; first | done | rfl) | exact box9 (by first | rfl | (rw [hO]; first | done | rfl) | (rw [hR]; first | done | rfl)) (by first | rfl | (rw [hO]; first | done | rfl) | (rw [hR]; first | done | rfl)) (by first | rfl | (rw [hO]; first | done | rfl) | (rw [hR]; first | done | rfl))) (.rowE rfl (.rowE rfl (.no (.rowE rfl (.nil) (by first | rfl | (rw [hO]; first | done | rfl) | (rw [hR]; first | done | rfl) | exact box9 (by first | rfl | (rw [hO]; first | done | rfl) | (rw [hR]; first | done | rfl)) (by first | rfl | (rw [hO]; first | done | rfl) | (rw [hR]; first | done | rfl)) (by first | rfl | (rw [hO]; first | done | rfl) | (rw [hR]; first | done | rfl))))) (by first | rfl | (rw [hO]; first | done | rfl) | (rw [hR]; first | done | rfl) | exact box9 (by first | rfl | (rw [hO]; first | done | rfl) | (rw [hR]; first | done | rfl)) (by first | rfl | (rw [hO]; first | done | rfl) | (rw [hR]; first | done | rfl)) (by first | rfl | (rw [hO]; first | done | rfl) | (rw [hR]; first | done | rfl)))) (by first | rfl | (rw [hO]; first | done | rfl) | (rw [hR]; first | done | rfl) | exact box9 (by first | rfl | (rw [hO]; first | done | rfl) | (rw [hR]; first | done | rfl)) (by first | rfl | (rw [hO]; first | done | rfl) | (rw [hR]; first | done | rfl)) (by first | rfl | (rw [hO]; first | done | rfl) | (rw [hR]; first | done | rfl))))) rfl
    ·have h5 := c_eql_f g5
     refine W_seq ?_
     refine W_seqK (b' := 214) rfl rfl ?_
     refine q0 72 182 1 rfl rfl (T_cmp rfl rfl rfl rfl) rfl ?_
     refine q0 71 198 2 rfl rfl (T_assign rfl rfl) rfl ?_
     refine k_done rfl ?_
     refine thenK_n ?_
     refine W_cond rfl (fun g6 => ?_) (fun g6 => ?_)
     ·have h6 := c_eql_t g6
      refine W_anyK (b' := 422) rfl rfl rfl ?_
      refine q0 73 214 1 rfl rfl (T_move rfl rfl) rfl ?_
      refine q0 74 230 2 rfl rfl (T_nilCheck rfl rfl) rfl ?_
      refine q0 75 246 3 rfl rfl (T_fa D (m := 4) rfl rfl rfl rfl rfl rfl) rfl ?_
      refine q0 76 262 4 rfl rfl (T_load_b D rfl rfl rfl rfl rfl rfl) rfl ?_
      refine q0 77 278 5 rfl rfl (T_fa D (m := 5) rfl rfl rfl rfl rfl rfl) rfl ?_
      refine q0 78 294 6 rfl rfl (T_load_b D rfl rfl rfl rfl rfl rfl) rfl ?_
      refine q0 79 310 7 rfl rfl (T_move rfl rfl) rfl ?_
      refine q0 80 326 8 rfl rfl (T_fa D (m := 2) rfl rfl rfl rfl rfl rfl) rfl ?_
      refine q0 81 342 9 rfl rfl (T_load_b D rfl rfl rfl rfl rfl rfl) rfl ?_
      first | refine q0 82 358 10 rfl rfl (T_indexAddr D rfl rfl rfl rfl rfl rfl rfl rfl (by first | omega | exact byteAt_isW _ _ | (simp; omega))) rfl ?_ | refine q0 82 358 10 rfl rfl (T_indexAddrZ D rfl rfl rfl rfl rfl rfl rfl rfl (by first | omega | exact byteAt_isW _ _ | (simp; omega)) (by first | omega | exact byteAt_isW _ _ | (simp; omega))) rfl ?_
      refine q0 83 374 11 rfl rfl (T_ldE D (lv := .v _) (nn := 0) (upd := []) rfl rfl rfl rfl rfl (by first | omega | exact byteAt_isW _ _ | (simp; omega)) rfl rfl rfl rfl) rfl ?_
      first | refine q0 84 390 12 rfl rfl (T_indexAddr D rfl rfl rfl rfl rfl rfl rfl rfl (by first | omega | exact byteAt_isW _ _ | (simp; omega))) rfl ?_ | refine q0 84 390 12 rfl rfl (T_indexAddrZ D rfl rfl rfl rfl rfl rfl rfl rfl (by first | omega | exact byteAt_isW _ _ | (simp; omega)) (by first | omega | exact byteAt_isW _ _ | (simp; omega))) rfl ?_
      refine s1 406 13 rfl rfl (T_store_e D (z := _) rfl rfl rfl rfl (flat_v rfl) rfl rfl (by first | omega | exact byteAt_isW _ _ | (simp; omega)) (.v rfl (.nil)) rfl (Nat.le_of_ble_eq_true rfl) rfl) rfl ?_
      refine k_done rfl ?_
      refine ⟨rfl, ?_⟩
      refine blockK_n ?_
      have hO : oneS inp call t regs s = { s with ws := s.ws.set t.base.toNat (regs.getD t.a.toNat default) } := by unfold oneS; repeat first | rw [if_pos (by omega)] | rw [if_neg (by omega)]
      have hR : oneR inp t regs s = regs := by unfold oneR; repeat first | rw [if_pos (by omega)] | rw [if_neg (by omega)]
      exact .mk [(6, 5)] (.inl rfl) (.nil) rfl (.box (by first | rfl | (rw [hO]; first | done | rfl) | (rw [hR]; first | done | rfl) | exact box9 (by first | rfl | (rw [hO]; first | done | rfl) | (rw [hR]; first | done | rfl)) (by first | rfl | (rw [hO]; first | done | rfl) | (rw [hR]; first | done | rfl)) (by first | rfl | (rw [hO]; first | done | rfl) | (rw [hR]; first | done | rfl))) (.rowE rfl (.rowE rfl (.no (.rowE rfl (.nil) (by first | rfl | (rw [hO]; first | done | rfl) | (rw [hR]; first | done | rfl) | exact box9 (by first | rfl | (rw [hO]; first | done | rfl) | (rw [hR]; first | done | rfl)) (by first | rfl | (rw [hO]; first | done | rfl) | (rw [hR]; first | done | rfl)) (by first | rfl | (rw [hO]; first | done | rfl) | (rw [hR]; first | done | rfl))))) (by first | rfl | (rw [hO]; first | done | rfl) | (rw [hR]; first | done | rfl) | exact box9 (by first | rfl | (rw [hO]; first | done | rfl) | (rw [hR]; first | done | rfl)) (by first | rfl | (rw [hO]; first | done | rfl) | (rw [hR]; first | done | rfl)) (by first | rfl | (rw [hO]; first | done | rfl) | (rw [hR]; first | done | rfl)))) (by first | rfl | (rw [hO]; first | done | rfl) | (rw [hR]; first | done | rfl) | exact box9 (by first | rfl | (rw [hO]; first | done | rfl) | (rw [hR]; first | done | rfl)) (by first | rfl | (rw [hO]; first | done | rfl) | (rw [hR]; first | done | rfl)) (by first | rfl | (rw [hO]; first | done | rfl) | (rw [hR]; first | done | rfl))))) rfl
     ·have h6 := c_eql_f g6
      refine W_seq ?_
      refine W_seq ?_
      refine W_seqK (b' := 246) rfl rfl ?_
      refine q0 86 214 1 rfl rfl (T_cmp rfl rfl rfl rfl) rfl ?_
      refine q0 85 230 2 rfl rfl (T_assign rfl rfl) rfl ?_
      refine k_done rfl ?_
      refine thenK_n ?_
      refine W_cond rfl (fun g7 => ?_) (fun g7 => ?_)
      ·have h7 := c_eql_t g7
       refine W_skip ?_
       refine thenK_n ?_
       refine W_cond rfl (fun g8 => ?_) (fun g8 => ?_)
       ·skip
        refine W_seq ?_
        refine W_seq ?_
        refine W_anyK (b' := 406) rfl rfl rfl ?_
        refine q0 88 246 1 rfl rfl (T_move rfl rfl) rfl ?_
        refine q0 89 262 2 rfl rfl (T_fa D (m := 2) rfl rfl rfl rfl rfl rfl) rfl ?_
        refine q0 90 278 3 rfl rfl (T_load_b D rfl rfl rfl rfl rfl rfl) rfl ?_
        first | refine q0 91 294 4 rfl rfl (T_indexAddr D rfl rfl rfl rfl rfl rfl rfl rfl (by first | omega | exact byteAt_isW _ _ | (simp; omega))) rfl ?_ | refine q0 91 294 4 rfl rfl (T_indexAddrZ D rfl rfl rfl rfl rfl rfl rfl rfl (by first | omega | exact byteAt_isW _ _ | (simp; omega)) (by first | omega | exact byteAt_isW _ _ | (simp; omega))) rfl ?_
        refine q0 92 310 5 rfl rfl (T_ldE D (lv := .v _) (nn := 0) (upd := []) rfl rfl rfl rfl rfl (by first | omega | exact byteAt_isW _ _ | (simp; omega)) rfl rfl rfl rfl) rfl ?_
        refine q0 93 326 6 rfl rfl (T_convU (top := 18446744073709551616) rfl rfl (by rw [Try.underlying68]; rfl) Try.underlying164 rfl rfl (by first | omega | exact byteAt_isW _ _ | (simp; omega))) rfl ?_
        refine q0 94 342 7 rfl rfl (T_fa D (m := 6) rfl rfl rfl rfl rfl rfl) rfl ?_
        refine q0 95 358 8 rfl rfl (T_load_b D rfl rfl rfl rfl rfl rfl) rfl ?_
        refine q0 96 374 9 rfl rfl (T_convU (top := 18446744073709551616) rfl rfl (by rw [Try.underlying3]; rfl) Try.underlying164 rfl rfl (by first | omega | exact byteAt_isW _ _ | (simp; omega))) rfl ?_
        refine q0 97 390 10 rfl rfl (T_cmp rfl rfl rfl rfl) rfl ?_
        refine k_done rfl ?_
        refine ⟨rfl, ?_⟩
        refine thenK_n ?_
        refine W_cond rfl (fun g9 => ?_) (fun g9 => ?_)
        ·have h9 := c_geq_t g9
         refine W_seq ?_
         refine W_seqK (b' := 470) rfl rfl ?_
         refine q0 98 406 1 rfl rfl (T_move rfl rfl) rfl ?_
         refine q0 99 422 2 rfl rfl (T_nilCheck rfl rfl) rfl ?_
         refine q0 100 438 3 rfl rfl (T_fa D (m := 8) rfl rfl rfl rfl rfl rfl) rfl ?_
         refine s1 454 4 rfl rfl (T_stB D (cs' := [_, _, _, _, _, _, _, _, _]) rfl rfl rfl rfl (flat_v rfl) rfl rfl (Nat.le_of_ble_eq_true rfl) rfl) rfl ?_
         refine k_done rfl ?_
         refine thenK_n ?_
         refine W_ret ?_
         refine thenK_r ?_
         refine blockK_r ?_
         have hO : oneS inp call t regs s = s.stop 3 := by unfold oneS; repeat first | rw [if_pos (by omega)] | rw [if_neg (by omega)]
         have hR : oneR inp t regs s = regs := by unfold oneR; repeat first | rw [if_pos (by omega)] | rw [if_neg (by omega)]
         exact .mk [(6, 5)] (.inr rfl) (.nil) rfl (.box (by first | rfl | (rw [hO]; first | done | rfl) | (rw [hR]; first | done | rfl) | exact box9 (by first | rfl | (rw [hO]; first | done | rfl) | (rw [hR]; first | done | rfl)) (by first | rfl | (rw [hO]; first | done | rfl) | (rw [hR]; first | done | rfl)) (by first | rfl | (rw [hO]; first | done | rfl) | (rw [hR]; first | done | rfl))) (.rowE rfl (.rowE rfl (.no (.rowE rfl (.nil) (by first | rfl | (rw [hO]; first | done | rfl) | (rw [hR]; first | done | rfl) | exact box9 (by first | rfl | (rw [hO]; first | done | rfl) | (rw [hR]; first | done | rfl)) (by first | rfl | (rw [hO]; first | done | rfl) | (rw [hR]; first | done | rfl)) (by first | rfl | (rw [hO]; first | done | rfl) | (rw [hR]; first | done | rfl))))) (by first | rfl | (rw [hO]; first | done | rfl) | (rw [hR]; first | done | rfl) | exact box9 (by first | rfl | (rw [hO]; first | done | rfl) | (rw [hR]; first | done | rfl)) (by first | rfl | (rw [hO]; first | done | rfl) | (rw [hR]; first | done | rfl)) (by first | rfl | (rw [hO]; first | done | rfl) | (rw [hR]; first | done | rfl)))) (by first | rfl | (rw [hO]; first | done | rfl) | (rw [hR]; first | done | rfl) | exact box9 (by first | rfl | (rw [hO]; first | done | rfl) | (rw [hR]; first | done | rfl)) (by first | rfl | (rw [hO]; first | done | rfl) | (rw [hR]; first | done | rfl)) (by first | rfl | (rw [hO]; first | done | rfl) | (rw [hR]; first | done | rfl))))) rfl
        ·have h9 := c_geq_f g9
         refine W_skip ?_
         refine thenK_n ?_
         refine W_seq ?_
         refine W_seqK (b' := 454) rfl rfl ?_
         refine q0 101 406 1 rfl rfl (T_fa D (m := 0) rfl rfl rfl rfl rfl rfl) rfl ?_
         refine q0 102 422 2 rfl rfl (T_load_b D rfl rfl rfl rfl rfl rfl) rfl ?_
         refine q0 103 438 3 rfl rfl (T_cmp rfl rfl rfl rfl) rfl ?_
         refine k_done rfl ?_
         refine thenK_n ?_
         refine W_cond rfl (fun g10 => ?_) (fun g10 => ?_)
         ·have h10 := c_eql_t g10
          refine W_anyK (b' := 774) rfl rfl rfl ?_
          refine q0 104 454 1 rfl rfl (T_move rfl rfl) rfl ?_
          refine q0 105 470 2 rfl rfl (T_fa D (m := 1) rfl rfl rfl rfl rfl rfl) rfl ?_
          refine q0 106 486 3 rfl rfl (T_load_b D rfl rfl rfl rfl rfl rfl) rfl ?_
          refine q0 107 502 4 rfl rfl (T_move rfl rfl) rfl ?_
          refine q0 108 518 5 rfl rfl (T_nilCheck rfl rfl) rfl ?_
          refine q0 109 534 6 rfl rfl (T_fa D (m := 4) rfl rfl rfl rfl rfl rfl) rfl ?_
          refine q0 110 550 7 rfl rfl (T_load_b D rfl rfl rfl rfl rfl rfl) rfl ?_
          refine q0 111 566 8 rfl rfl (T_fa D (m := 5) rfl rfl rfl rfl rfl rfl) rfl ?_
          refine q0 112 582 9 rfl rfl (T_load_b D rfl rfl rfl rfl rfl rfl) rfl ?_
          refine q0 113 598 10 rfl rfl (T_move rfl rfl) rfl ?_
          refine q0 114 614 11 rfl rfl (T_fa D (m := 2) rfl rfl rfl rfl rfl rfl) rfl ?_
          refine q0 115 630 12 rfl rfl (T_load_b D rfl rfl rfl rfl rfl rfl) rfl ?_
          first | refine q0 116 646 13 rfl rfl (T_indexAddr D rfl rfl rfl rfl rfl rfl rfl rfl (by first | omega | exact byteAt_isW _ _ | (simp; omega))) rfl ?_ | refine q0 116 646 13 rfl rfl (T_indexAddrZ D rfl rfl rfl rfl rfl rfl rfl rfl (by first | omega | exact byteAt_isW _ _ | (simp; omega)) (by first | omega | exact byteAt_isW _ _ | (simp; omega))) rfl ?_
          refine q0 117 662 14 rfl rfl (T_ldE D (lv := .v _) (nn := 0) (upd := []) rfl rfl rfl rfl rfl (by first | omega | exact byteAt_isW _ _ | (simp; omega)) rfl rfl rfl rfl) rfl ?_
          refine q0 118 678 15 rfl rfl (T_conv64 rfl rfl (by rw [Try.underlying68]; rfl) (by first | omega | exact byteAt_isW _ _ | (simp; omega))) rfl ?_
          refine q0 119 694 16 rfl rfl (T_add64 rfl rfl rfl (by first | omega | exact byteAt_isW _ _ | (simp; omega))) rfl ?_
          first | refine q0 120 710 17 rfl rfl (T_indexAddr D rfl rfl rfl rfl rfl rfl rfl rfl (by first | omega | exact byteAt_isW _ _ | (simp; omega))) rfl ?_ | refine q0 120 710 17 rfl rfl (T_indexAddrZ D rfl rfl rfl rfl rfl rfl rfl rfl (by first | omega | exact byteAt_isW _ _ | (simp; omega)) (by first | omega | exact byteAt_isW _ _ | (simp; omega))) rfl ?_
          refine q0 121 726 18 rfl rfl (T_ldE D (lv := .v _) (nn := 0) (upd := []) rfl rfl rfl rfl rfl (by first | omega | exact byteAt_isW _ _ | (simp; omega)) rfl rfl rfl rfl) rfl ?_
          first | refine q0 122 742 19 rfl rfl (T_indexAddr D rfl rfl rfl rfl rfl rfl rfl rfl (by first | omega | exact byteAt_isW _ _ | (simp; omega))) rfl ?_ | refine q0 122 742 19 rfl rfl (T_indexAddrZ D rfl rfl rfl rfl rfl rfl rfl rfl (by first | omega | exact byteAt_isW _ _ | (simp; omega)) (by first | omega | exact byteAt_isW _ _ | (simp; omega))) rfl ?_
          refine s1 758 20 rfl rfl (T_store_e D (z := _) rfl rfl rfl rfl (flat_v rfl) rfl rfl (by first | omega | exact byteAt_isW _ _ | (simp; omega)) (.v rfl (.nil)) rfl (Nat.le_of_ble_eq_true rfl) rfl) rfl ?_
          refine k_done rfl ?_
          refine ⟨rfl, ?_⟩
          refine blockK_n ?_
          have hO : oneS inp call t regs s = s := by unfold oneS; repeat first | rw [if_pos (by omega)] | rw [if_neg (by omega)]
          have hR : oneR inp t regs s = regs.set t.d.toNat (s.ws.getD (t.base + (regs.getD t.a.toNat default)).toNat default) := by unfold oneR; repeat first | rw [if_pos (by omega)] | rw [if_neg (by omega)]
          exact .mk [(6, 5)] (.inl rfl) (.nil) rfl (.box (by first | rfl | (rw [hO]; first | done | rfl) | (rw [hR]; first | done | rfl) | exact box9 (by first | rfl | (rw [hO]; first | done | rfl) | (rw [hR]; first | done | rfl)) (by first | rfl | (rw [hO]; first | done | rfl) | (rw [hR]; first | done | rfl)) (by first | rfl | (rw [hO]; first | done | rfl) | (rw [hR]; first | done | rfl))) (.rowE rfl (.rowE rfl (.no (.rowE rfl (.nil) (by first | rfl | (rw [hO]; first | done | rfl) | (rw [hR]; first | done | rfl) | exact box9 (by first | rfl | (rw [hO]; first | done | rfl) | (rw [hR]; first | done | rfl)) (by first | rfl | (rw [hO]; first | done | rfl) | (rw [hR]; first | done | rfl)) (by first | rfl | (rw [hO]; first | done | rfl) | (rw [hR]; first | done | rfl))))) (by first | rfl | (rw [hO]; first | done | rfl) | (rw [hR]; first | done | rfl) | exact box9 (by first | rfl | (rw [hO]; first | done | rfl) | (rw [hR]; first | done | rfl)) (by first | rfl | (rw [hO]; first | done | rfl) | (rw [hR]; first | done | rfl)) (by first | rfl | (rw [hO]; first | done | rfl) | (rw [hR]; first | done | rfl)))) (by first | rfl | (rw [hO]; first | done | rfl) | (rw [hR]; first | done | rfl) | exact box9 (by first | rfl | (rw [hO]; first | done | rfl) | (rw [hR]; first | done | rfl)) (by first | rfl | (rw [hO]; first | done | rfl) | (rw [hR]; first | done | rfl)) (by first | rfl | (rw [hO]; first | done | rfl) | (rw [hR]; first | done | rfl))))) rfl
         ·have h10 := c_eql_f g10
          refine W_anyK (b' := 774) rfl rfl rfl ?_
          refine q0 123 454 1 rfl rfl (T_move rfl rfl) rfl ?_
          refine q0 124 470 2 rfl rfl (T_nilCheck rfl rfl) rfl ?_
          refine q0 125 486 3 rfl rfl (T_fa D (m := 4) rfl rfl rfl rfl rfl rfl) rfl ?_
          refine q0 126 502 4 rfl rfl (T_load_b D rfl rfl rfl rfl rfl rfl) rfl ?_
          refine q0 127 518 5 rfl rfl (T_fa D (m := 5) rfl rfl rfl rfl rfl rfl) rfl ?_
          refine q0 128 534 6 rfl rfl (T_load_b D rfl rfl rfl rfl rfl rfl) rfl ?_
          refine q0 129 550 7 rfl rfl (T_move rfl rfl) rfl ?_
          refine q0 130 566 8 rfl rfl (T_fa D (m := 2) rfl rfl rfl rfl rfl rfl) rfl ?_
          refine q0 131 582 9 rfl rfl (T_load_b D rfl rfl rfl rfl rfl rfl) rfl ?_
          first | refine q0 132 598 10 rfl rfl (T_indexAddr D rfl rfl rfl rfl rfl rfl rfl rfl (by first | omega | exact byteAt_isW _ _ | (simp; omega))) rfl ?_ | refine q0 132 598 10 rfl rfl (T_indexAddrZ D rfl rfl rfl rfl rfl rfl rfl rfl (by first | omega | exact byteAt_isW _ _ | (simp; omega)) (by first | omega | exact byteAt_isW _ _ | (simp; omega))) rfl ?_
          refine q0 133 614 11 rfl rfl (T_ldE D (lv := .v _) (nn := 0) (upd := []) rfl rfl rfl rfl rfl (by first | omega | exact byteAt_isW _ _ | (simp; omega)) rfl rfl rfl rfl) rfl ?_
          refine q0 134 630 12 rfl rfl (T_conv64 rfl rfl (by rw [Try.underlying68]; rfl) (by first | omega | exact byteAt_isW _ _ | (simp; omega))) rfl ?_
          refine q0 135 646 13 rfl rfl (T_add64 rfl rfl rfl (by first | omega | exact byteAt_isW _ _ | (simp; omega))) rfl ?_
          refine q0 136 662 14 rfl rfl (T_move rfl rfl) rfl ?_
          refine q0 137 678 15 rfl rfl (T_fa D (m := 3) rfl rfl rfl rfl rfl rfl) rfl ?_
          refine q0 138 694 16 rfl rfl (T_load_b D rfl rfl rfl rfl rfl rfl) rfl ?_
          first | refine q0 139 710 17 rfl rfl (T_indexAddr D rfl rfl rfl rfl rfl rfl rfl rfl (by first | omega | exact byteAt_isW _ _ | (simp; omega))) rfl ?_ | refine q0 139 710 17 rfl rfl (T_indexAddrZ D rfl rfl rfl rfl rfl rfl rfl rfl (by first | omega | exact byteAt_isW _ _ | (simp; omega)) (by first | omega | exact byteAt_isW _ _ | (simp; omega))) rfl ?_
          refine q0 140 726 18 rfl rfl (T_ldE D (lv := .v _) (nn := 0) (upd := []) rfl rfl rfl rfl rfl (by first | omega | exact byteAt_isW _ _ | (simp; omega)) rfl rfl rfl rfl) rfl ?_
          first | refine q0 141 742 19 rfl rfl (T_indexAddr D rfl rfl rfl rfl rfl rfl rfl rfl (by first | omega | exact byteAt_isW _ _ | (simp; omega))) rfl ?_ | refine q0 141 742 19 rfl rfl (T_indexAddrZ D rfl rfl rfl rfl rfl rfl rfl rfl (by first | omega | exact byteAt_isW _ _ | (simp; omega)) (by first | omega | exact byteAt_isW _ _ | (simp; omega))) rfl ?_
          refine s1 758 20 rfl rfl (T_store_e D (z := _) rfl rfl rfl rfl (flat_v rfl) rfl rfl (by first | omega | exact byteAt_isW _ _ | (simp; omega)) (.v rfl (.nil)) rfl (Nat.le_of_ble_eq_true rfl) rfl) rfl ?_
          refine k_done rfl ?_
          refine ⟨rfl, ?_⟩
          refine blockK_n ?_
          exact .mk [(6, 5)] (.inl rfl) (.nil) rfl (.box (by exfalso; omega) (.rowE rfl (.rowE rfl (.no (.rowE rfl (.nil) (by exfalso; omega))) (by exfalso; omega)) (by exfalso; omega))) rfl
       ·exact absurd (g8.symm.trans g7) (by decide)
      ·have h7 := c_eql_f g7
       refine W_seqK (b' := 278) rfl rfl ?_
       refine q0 87 246 1 rfl rfl (T_cmp rfl rfl rfl rfl) rfl ?_
       refine q0 85 262 2 rfl rfl (T_assign rfl rfl) rfl ?_
       refine k_done rfl ?_
       refine thenK_n ?_
       refine W_cond rfl (fun g11 => ?_) (fun g11 => ?_)
       ·have h11 := c_eql_t g11
        refine W_seq ?_
        refine W_seq ?_
        refine W_anyK (b' := 438) rfl rfl rfl ?_
        refine q0 88 278 1 rfl rfl (T_move rfl rfl) rfl ?_
        refine q0 89 294 2 rfl rfl (T_fa D (m := 2) rfl rfl rfl rfl rfl rfl) rfl ?_
        refine q0 90 310 3 rfl rfl (T_load_b D rfl rfl rfl rfl rfl rfl) rfl ?_
        first | refine q0 91 326 4 rfl rfl (T_indexAddr D rfl rfl rfl rfl rfl rfl rfl rfl (by first | omega | exact byteAt_isW _ _ | (simp; omega))) rfl ?_ | refine q0 91 326 4 rfl rfl (T_indexAddrZ D rfl rfl rfl rfl rfl rfl rfl rfl (by first | omega | exact byteAt_isW _ _ | (simp; omega)) (by first | omega | exact byteAt_isW _ _ | (simp; omega))) rfl ?_
        refine q0 92 342 5 rfl rfl (T_ldE D (lv := .v _) (nn := 0) (upd := []) rfl rfl rfl rfl rfl (by first | omega | exact byteAt_isW _ _ | (simp; omega)) rfl rfl rfl rfl) rfl ?_
        refine q0 93 358 6 rfl rfl (T_convU (top := 18446744073709551616) rfl rfl (by rw [Try.underlying68]; rfl) Try.underlying164 rfl rfl (by first | omega | exact byteAt_isW _ _ | (simp; omega))) rfl ?_
        refine q0 94 374 7 rfl rfl (T_fa D (m := 6) rfl rfl rfl rfl rfl rfl) rfl ?_
        refine q0 95 390 8 rfl rfl (T_load_b D rfl rfl rfl rfl rfl rfl) rfl ?_
        refine q0 96 406 9 rfl rfl (T_convU (top := 18446744073709551616) rfl rfl (by rw [Try.underlying3]; rfl) Try.underlying164 rfl rfl (by first | omega | exact byteAt_isW _ _ | (simp; omega))) rfl ?_
        refine q0 97 422 10 rfl rfl (T_cmp rfl rfl rfl rfl) rfl ?_
        refine k_done rfl ?_
        refine ⟨rfl, ?_⟩
        refine thenK_n ?_
        refine W_cond rfl (fun g12 => ?_) (fun g12 => ?_)
        ·have h12 := c_geq_t g12
         refine W_seq ?_
         refine W_seqK (b' := 502) rfl rfl ?_
         refine q0 98 438 1 rfl rfl (T_move rfl rfl) rfl ?_
         refine q0 99 454 2 rfl rfl (T_nilCheck rfl rfl) rfl ?_
         refine q0 100 470 3 rfl rfl (T_fa D (m := 8) rfl rfl rfl rfl rfl rfl) rfl ?_
         refine s1 486 4 rfl rfl (T_stB D (cs' := [_, _, _, _, _, _, _, _, _]) rfl rfl rfl rfl (flat_v rfl) rfl rfl (Nat.le_of_ble_eq_true rfl) rfl) rfl ?_
         refine k_done rfl ?_
         refine thenK_n ?_
         refine W_ret ?_
         refine thenK_r ?_
         refine blockK_r ?_
         have hO : oneS inp call t regs s = s.stop 3 := by unfold oneS; repeat first | rw [if_pos (by omega)] | rw [if_neg (by omega)]
         have hR : oneR inp t regs s = regs := by unfold oneR; repeat first | rw [if_pos (by omega)] | rw [if_neg (by omega)]
         exact .mk [(6, 5)] (.inr rfl) (.nil) rfl (.box (by first | rfl | (rw [hO]; first | done | rfl) | (rw [hR]; first | done | rfl) | exact box9 (by first | rfl | (rw [hO]; first | done | rfl) | (rw [hR]; first | done | rfl)) (by first | rfl | (rw [hO]; first | done | rfl) | (rw [hR]; first | done | rfl)) (by first | rfl | (rw [hO]; first | done | rfl) | (rw [hR]; first | done | rfl))) (.rowE rfl (.rowE rfl (.no (.rowE rfl (.nil) (by first | rfl | (rw [hO]; first | done | rfl) | (rw [hR]; first | done | rfl) | exact box9 (by first | rfl | (rw [hO]; first | done | rfl) | (rw [hR]; first | done | rfl)) (by first | rfl | (rw [hO]; first | done | rfl) | (rw [hR]; first | done | rfl)) (by first | rfl | (rw [hO]; first | done | rfl) | (rw [hR]; first | done | rfl))))) (by first | rfl | (rw [hO]; first | done | rfl) | (rw [hR]; first | done | rfl) | exact box9 (by first | rfl | (rw [hO]; first | done | rfl) | (rw [hR]; first | done | rfl)) (by first | rfl | (rw [hO]; first | done | rfl) | (rw [hR]; first | done | rfl)) (by first | rfl | (rw [hO]; first | done | rfl) | (rw [hR]; first | done | rfl)))) (by first | rfl | (rw [hO]; first | done | rfl) | (rw [hR]; first | done | rfl) | exact box9 (by first | rfl | (rw [hO]; first | done | rfl) | (rw [hR]; first | done | rfl)) (by first | rfl | (rw [hO]; first | done | rfl) | (rw [hR]; first | done | rfl)) (by first | rfl | (rw [hO]; first | done | rfl) | (rw [hR]; first | done | rfl))))) rfl
        ·have h12 := c_geq_f g12
         refine W_skip ?_
         refine thenK_n ?_
         refine W_seq ?_
         refine W_seqK (b' := 486) rfl rfl ?_
         refine q0 101 438 1 rfl rfl (T_fa D (m := 0) rfl rfl rfl rfl rfl rfl) rfl ?_
         refine q0 102 454 2 rfl rfl (T_load_b D rfl rfl rfl rfl rfl rfl) rfl ?_
         refine q0 103 470 3 rfl rfl (T_cmp rfl rfl rfl rfl) rfl ?_
         refine k_done rfl ?_
         refine thenK_n ?_
         refine W_cond rfl (fun g13 => ?_) (fun g13 => ?_)
         ·have h13 := c_eql_t g13
          refine W_anyK (b' := 806) rfl rfl rfl ?_
          refine q0 104 486 1 rfl rfl (T_move rfl rfl) rfl ?_
          refine q0 105 502 2 rfl rfl (T_fa D (m := 1) rfl rfl rfl rfl rfl rfl) rfl ?_
          refine q0 106 518 3 rfl rfl (T_load_b D rfl rfl rfl rfl rfl rfl) rfl ?_
          refine q0 107 534 4 rfl rfl (T_move rfl rfl) rfl ?_
          refine q0 108 550 5 rfl rfl (T_nilCheck rfl rfl) rfl ?_
          refine q0 109 566 6 rfl rfl (T_fa D (m := 4) rfl rfl rfl rfl rfl rfl) rfl ?_
          refine q0 110 582 7 rfl rfl (T_load_b D rfl rfl rfl rfl rfl rfl) rfl ?_
          refine q0 111 598 8 rfl rfl (T_fa D (m := 5) rfl rfl rfl rfl rfl rfl) rfl ?_
          refine q0 112 614 9 rfl rfl (T_load_b D rfl rfl rfl rfl rfl rfl) rfl ?_
          refine q0 113 630 10 rfl rfl (T_move rfl rfl) rfl ?_
          refine q0 114 646 11 rfl rfl (T_fa D (m := 2) rfl rfl rfl rfl rfl rfl) rfl ?_
          refine q0 115 662 12 rfl rfl (T_load_b D rfl rfl rfl rfl rfl rfl) rfl ?_
          first | refine q0 116 678 13 rfl rfl (T_indexAddr D rfl rfl rfl rfl rfl rfl rfl rfl (by first | omega | exact byteAt_isW _ _ | (simp; omega))) rfl ?_ | refine q0 116 678 13 rfl rfl (T_indexAddrZ D rfl rfl rfl rfl rfl rfl rfl rfl (by first | omega | exact byteAt_isW _ _ | (simp; omega)) (by first | omega | exact byteAt_isW _ _ | (simp; omega))) rfl ?_
          refine q0 117 694 14 rfl rfl (T_ldE D (lv := .v _) (nn := 0) (upd := []) rfl rfl rfl rfl rfl (by first | omega | exact byteAt_isW _ _ | (simp; omega)) rfl rfl rfl rfl) rfl ?_
          refine q0 118 710 15 rfl rfl (T_conv64 rfl rfl (by rw [Try.underlying68]; rfl) (by first | omega | exact byteAt_isW _ _ | (simp; omega))) rfl ?_
          refine q0 119 726 16 rfl rfl (T_add64 rfl rfl rfl (by first | omega | exact byteAt_isW _ _ | (simp; omega))) rfl ?_
          first | refine q0 120 742 17 rfl rfl (T_indexAddr D rfl rfl rfl rfl rfl rfl rfl rfl (by first | omega | exact byteAt_isW _ _ | (simp; omega))) rfl ?_ | refine q0 120 742 17 rfl rfl (T_indexAddrZ D rfl rfl rfl rfl rfl rfl rfl rfl (by first | omega | exact byteAt_isW _ _ | (simp; omega)) (by first | omega | exact byteAt_isW _ _ | (simp; omega))) rfl ?_
          refine q0 121 758 18 rfl rfl (T_ldE D (lv := .v _) (nn := 0) (upd := []) rfl rfl rfl rfl rfl (by first | omega | exact byteAt_isW _ _ | (simp; omega)) rfl rfl rfl rfl) rfl ?_
          first | refine q0 122 774 19 rfl rfl (T_indexAddr D rfl rfl rfl rfl rfl rfl rfl rfl (by first | omega | exact byteAt_isW _ _ | (simp; omega))) rfl ?_ | refine q0 122 774 19 rfl rfl (T_indexAddrZ D rfl rfl rfl rfl rfl rfl rfl rfl (by first | omega | exact byteAt_isW _ _ | (simp; omega)) (by first | omega | exact byteAt_isW _ _ | (simp; omega))) rfl ?_
          refine s1 790 20 rfl rfl (T_store_e D (z := _) rfl rfl rfl rfl (flat_v rfl) rfl rfl (by first | omega | exact byteAt_isW _ _ | (simp; omega)) (.v rfl (.nil)) rfl (Nat.le_of_ble_eq_true rfl) rfl) rfl ?_
          refine k_done rfl ?_
          refine ⟨rfl, ?_⟩
          refine blockK_n ?_
          exact .mk [(6, 5)] (.inl rfl) (.nil) rfl (.box (by exfalso; omega) (.rowE rfl (.rowE rfl (.no (.rowE rfl (.nil) (by exfalso; omega))) (by exfalso; omega)) (by exfalso; omega))) rfl
         ·have h13 := c_eql_f g13
          refine W_anyK (b' := 806) rfl rfl rfl ?_
          refine q0 123 486 1 rfl rfl (T_move rfl rfl) rfl ?_
          refine q0 124 502 2 rfl rfl (T_nilCheck rfl rfl) rfl ?_
          refine q0 125 518 3 rfl rfl (T_fa D (m := 4) rfl rfl rfl rfl rfl rfl) rfl ?_
          refine q0 126 534 4 rfl rfl (T_load_b D rfl rfl rfl rfl rfl rfl) rfl ?_
          refine q0 127 550 5 rfl rfl (T_fa D (m := 5) rfl rfl rfl rfl rfl rfl) rfl ?_
          refine q0 128 566 6 rfl rfl (T_load_b D rfl rfl rfl rfl rfl rfl) rfl ?_
          refine q0 129 582 7 rfl rfl (T_move rfl rfl) rfl ?_
          refine q0 130 598 8 rfl rfl (T_fa D (m := 2) rfl rfl rfl rfl rfl rfl) rfl ?_
          refine q0 131 614 9 rfl rfl (T_load_b D rfl rfl rfl rfl rfl rfl) rfl ?_
          first | refine q0 132 630 10 rfl rfl (T_indexAddr D rfl rfl rfl rfl rfl rfl rfl rfl (by first | omega | exact byteAt_isW _ _ | (simp; omega))) rfl ?_ | refine q0 132 630 10 rfl rfl (T_indexAddrZ D rfl rfl rfl rfl rfl rfl rfl rfl (by first | omega | exact byteAt_isW _ _ | (simp; omega)) (by first | omega | exact byteAt_isW _ _ | (simp; omega))) rfl ?_
          refine q0 133 646 11 rfl rfl (T_ldE D (lv := .v _) (nn := 0) (upd := []) rfl rfl rfl rfl rfl (by first | omega | exact byteAt_isW _ _ | (simp; omega)) rfl rfl rfl rfl) rfl ?_
          refine q0 134 662 12 rfl rfl (T_conv64 rfl rfl (by rw [Try.underlying68]; rfl) (by first | omega | exact byteAt_isW _ _ | (simp; omega))) rfl ?_
          refine q0 135 678 13 rfl rfl (T_add64 rfl rfl rfl (by first | omega | exact byteAt_isW _ _ | (simp; omega))) rfl ?_
          refine q0 136 694 14 rfl rfl (T_move rfl rfl) rfl ?_
          refine q0 137 710 15 rfl rfl (T_fa D (m := 3) rfl rfl rfl rfl rfl rfl) rfl ?_
          refine q0 138 726 16 rfl rfl (T_load_b D rfl rfl rfl rfl rfl rfl) rfl ?_
          first | refine q0 139 742 17 rfl rfl (T_indexAddr D rfl rfl rfl rfl rfl rfl rfl rfl (by first | omega | exact byteAt_isW _ _ | (simp; omega))) rfl ?_ | refine q0 139 742 17 rfl rfl (T_indexAddrZ D rfl rfl rfl rfl rfl rfl rfl rfl (by first | omega | exact byteAt_isW _ _ | (simp; omega)) (by first | omega | exact byteAt_isW _ _ | (simp; omega))) rfl ?_
          refine q0 140 758 18 rfl rfl (T_ldE D (lv := .v _) (nn := 0) (upd := []) rfl rfl rfl rfl rfl (by first | omega | exact byteAt_isW _ _ | (simp; omega)) rfl rfl rfl rfl) rfl ?_
          first | refine q0 141 774 19 rfl rfl (T_indexAddr D rfl rfl rfl rfl rfl rfl rfl rfl (by first | omega | exact byteAt_isW _ _ | (simp; omega))) rfl ?_ | refine q0 141 774 19 rfl rfl (T_indexAddrZ D rfl rfl rfl rfl rfl rfl rfl rfl (by first | omega | exact byteAt_isW _ _ | (simp; omega)) (by first | omega | exact byteAt_isW _ _ | (simp; omega))) rfl ?_
          refine s1 790 20 rfl rfl (T_store_e D (z := _) rfl rfl rfl rfl (flat_v rfl) rfl rfl (by first | omega | exact byteAt_isW _ _ | (simp; omega)) (.v rfl (.nil)) rfl (Nat.le_of_ble_eq_true rfl) rfl) rfl ?_
          refine k_done rfl ?_
          refine ⟨rfl, ?_⟩
          refine blockK_n ?_
          have hO : oneS inp call t regs s = { s with ws := s.ws.set (t.base + (regs.getD t.a.toNat default)).toNat (regs.getD t.b.toNat default) } := by unfold oneS; repeat first | rw [if_pos (by omega)] | rw [if_neg (by omega)]
          have hR : oneR inp t regs s = regs := by unfold oneR; repeat first | rw [if_pos (by omega)] | rw [if_neg (by omega)]
          exact .mk [(6, 5)] (.inl rfl) (.nil) rfl (.box (by first | rfl | (rw [hO]; first | done | rfl) | (rw [hR]; first | done | rfl) | exact box9 (by first | rfl | (rw [hO]; first | done | rfl) | (rw [hR]; first | done | rfl)) (by first | rfl | (rw [hO]; first | done | rfl) | (rw [hR]; first | done | rfl)) (by first | rfl | (rw [hO]; first | done | rfl) | (rw [hR]; first | done | rfl))) (.rowE rfl (.rowE rfl (.no (.rowE rfl (.nil) (by first | rfl | (rw [hO]; first | done | rfl) | (rw [hR]; first | done | rfl) | exact box9 (by first | rfl | (rw [hO]; first | done | rfl) | (rw [hR]; first | done | rfl)) (by first | rfl | (rw [hO]; first | done | rfl) | (rw [hR]; first | done | rfl)) (by first | rfl | (rw [hO]; first | done | rfl) | (rw [hR]; first | done | rfl))))) (by first | rfl | (rw [hO]; first | done | rfl) | (rw [hR]; first | done | rfl) | exact box9 (by first | rfl | (rw [hO]; first | done | rfl) | (rw [hR]; first | done | rfl)) (by first | rfl | (rw [hO]; first | done | rfl) | (rw [hR]; first | done | rfl)) (by first | rfl | (rw [hO]; first | done | rfl) | (rw [hR]; first | done | rfl)))) (by first | rfl | (rw [hO]; first | done | rfl) | (rw [hR]; first | done | rfl) | exact box9 (by first | rfl | (rw [hO]; first | done | rfl) | (rw [hR]; first | done | rfl)) (by first | rfl | (rw [hO]; first | done | rfl) | (rw [hR]; first | done | rfl)) (by first | rfl | (rw [hO]; first | done | rfl) | (rw [hR]; first | done | rfl))))) rfl
       ·have h11 := c_eql_f g11
        refine W_seq ?_
        refine W_seqK (b' := 310) rfl rfl ?_
        refine q0 143 278 1 rfl rfl (T_cmp rfl rfl rfl rfl) rfl ?_
        refine q0 142 294 2 rfl rfl (T_assign rfl rfl) rfl ?_
        refine k_done rfl ?_
        refine thenK_n ?_
        refine W_cond rfl (fun g14 => ?_) (fun g14 => ?_)
        ·have h14 := c_eql_t g14
         refine W_seq ?_
         refine W_seqK (b' := 390) rfl rfl ?_
         refine q0 144 310 1 rfl rfl (T_move rfl rfl) rfl ?_
         refine q0 145 326 2 rfl rfl (T_fa D (m := 1) rfl rfl rfl rfl rfl rfl) rfl ?_
         refine q0 146 342 3 rfl rfl (T_load_b D rfl rfl rfl rfl rfl rfl) rfl ?_
         first | refine q0 147 358 4 rfl rfl (T_indexAddr D rfl rfl rfl rfl rfl rfl rfl rfl (by first | omega | exact byteAt_isW _ _ | (simp; omega))) rfl ?_ | refine q0 147 358 4 rfl rfl (T_indexAddrZ D rfl rfl rfl rfl rfl rfl rfl rfl (by first | omega | exact byteAt_isW _ _ | (simp; omega)) (by first | omega | exact byteAt_isW _ _ | (simp; omega))) rfl ?_
         refine s1 374 5 rfl rfl (T_store_e D (z := _) rfl rfl rfl rfl (flat_v rfl) rfl rfl (by first | omega | exact byteAt_isW _ _ | (simp; omega)) (.v rfl (.nil)) rfl (Nat.le_of_ble_eq_true rfl) rfl) rfl ?_
         refine k_done rfl ?_
         refine thenK_n ?_
         refine W_seq ?_
         refine W_anyK (b' := 550) rfl rfl rfl ?_
         refine q0 148 390 1 rfl rfl (T_move rfl rfl) rfl ?_
         refine q0 149 406 2 rfl rfl (T_nilCheck rfl rfl) rfl ?_
         refine q0 150 422 3 rfl rfl (T_fa D (m := 6) rfl rfl rfl rfl rfl rfl) rfl ?_
         refine q0 151 438 4 rfl rfl (T_load_b D rfl rfl rfl rfl rfl rfl) rfl ?_
         refine q0 152 454 5 rfl rfl (T_move rfl rfl) rfl ?_
         refine q0 153 470 6 rfl rfl (T_nilCheck rfl rfl) rfl ?_
         refine q0 154 486 7 rfl rfl (T_fa D (m := 2) rfl rfl rfl rfl rfl rfl) rfl ?_
         refine q0 155 502 8 rfl rfl (T_load_b D rfl rfl rfl rfl rfl rfl) rfl ?_
         refine q0 156 518 9 rfl rfl (T_lenS Try.underlying9 rfl rfl) rfl ?_
         refine q0 157 534 10 rfl rfl (T_cmp rfl rfl rfl rfl) rfl ?_
         refine k_done rfl ?_
         refine ⟨rfl, ?_⟩
         refine thenK_n ?_
         refine W_cond rfl (fun g15 => ?_) (fun g15 => ?_)
         ·have h15 := c_lss_t g15
          refine W_seq ?_
          refine W_anyK (b' := 790) rfl rfl rfl ?_
          refine q0 158 550 1 rfl rfl (T_move rfl rfl) rfl ?_
          refine q0 159 566 2 rfl rfl (T_fa D (m := 1) rfl rfl rfl rfl rfl rfl) rfl ?_
          refine q0 160 582 3 rfl rfl (T_load_b D rfl rfl rfl rfl rfl rfl) rfl ?_
          refine q0 161 598 4 rfl rfl (T_move rfl rfl) rfl ?_
          refine q0 162 614 5 rfl rfl (T_nilCheck rfl rfl) rfl ?_
          refine q0 163 630 6 rfl rfl (T_fa D (m := 2) rfl rfl rfl rfl rfl rfl) rfl ?_
          refine q0 164 646 7 rfl rfl (T_load_b D rfl rfl rfl rfl rfl rfl) rfl ?_
          refine q0 165 662 8 rfl rfl (T_move rfl rfl) rfl ?_
          refine q0 166 678 9 rfl rfl (T_nilCheck rfl rfl) rfl ?_
          refine q0 167 694 10 rfl rfl (T_fa D (m := 6) rfl rfl rfl rfl rfl rfl) rfl ?_
          refine q0 168 710 11 rfl rfl (T_load_b D rfl rfl rfl rfl rfl rfl) rfl ?_
          refine q0 169 726 12 rfl rfl (T_ixS Try.underlying9 rfl rfl rfl (by first | omega | exact byteAt_isW _ _ | (simp; omega))) rfl ?_
          refine q0 170 742 13 rfl rfl (T_convU (top := 4294967296) rfl rfl (by rw [Try.underlying5]; rfl) Try.underlying68 rfl rfl (by first | omega | exact byteAt_isW _ _ | (simp; omega))) rfl ?_
          first | refine q0 171 758 14 rfl rfl (T_indexAddr D rfl rfl rfl rfl rfl rfl rfl rfl (by first | omega | exact byteAt_isW _ _ | (simp; omega))) rfl ?_ | refine q0 171 758 14 rfl rfl (T_indexAddrZ D rfl rfl rfl rfl rfl rfl rfl rfl (by first | omega | exact byteAt_isW _ _ | (simp; omega)) (by first | omega | exact byteAt_isW _ _ | (simp; omega))) rfl ?_
          refine s1 774 15 rfl rfl (T_store_e D (z := _) rfl rfl rfl rfl (flat_v rfl) rfl rfl (by first | omega | exact byteAt_isW _ _ | (simp; omega)) (.v rfl (.nil)) rfl (Nat.le_of_ble_eq_true rfl) rfl) rfl ?_
          refine k_done rfl ?_
          refine ⟨rfl, ?_⟩
          refine thenK_n ?_
          refine W_seqK (b' := 918) rfl rfl ?_
          refine q0 172 790 1 rfl rfl (T_move rfl rfl) rfl ?_
          refine q0 173 806 2 rfl rfl (T_nilCheck rfl rfl) rfl ?_
          refine q0 174 822 3 rfl rfl (T_fa D (m := 6) rfl rfl rfl rfl rfl rfl) rfl ?_
          refine q0 175 838 4 rfl rfl (T_load_b D rfl rfl rfl rfl rfl rfl) rfl ?_
          refine q0 176 854 5 rfl rfl (T_add64 rfl rfl rfl (by first | omega | exact byteAt_isW _ _ | (simp; omega))) rfl ?_
          refine q0 177 870 6 rfl rfl (T_nilCheck rfl rfl) rfl ?_
          refine q0 178 886 7 rfl rfl (T_fa D (m := 6) rfl rfl rfl rfl rfl rfl) rfl ?_
          refine s1 902 8 rfl rfl (T_stB D (cs' := [_, _, _, _, _, _, _, _, _]) rfl rfl rfl rfl (flat_v rfl) rfl rfl (Nat.le_of_ble_eq_true rfl) rfl) rfl ?_
          refine k_done rfl ?_
          refine blockK_n ?_
          have hO : oneS inp call t regs s = { s with read := s.read + 1 } := by unfold oneS; repeat first | rw [if_pos (by omega)] | rw [if_neg (by omega)]
          have hR : oneR inp t regs s = (regs.set t.d.toNat 256).set t.d.toNat (byteAt inp s.read) := by unfold oneR; repeat first | rw [if_pos (by omega)] | rw [if_neg (by omega)]
          exact .mk [(6, 5)] (.inl rfl) (.nil) rfl (.box (by first | rfl | (rw [hO]; first | done | rfl) | (rw [hR]; first | done | rfl) | exact box9 (by first | rfl | (rw [hO]; first | done | rfl) | (rw [hR]; first | done | rfl)) (by first | rfl | (rw [hO]; first | done | rfl) | (rw [hR]; first | done | rfl)) (by first | rfl | (rw [hO]; first | done | rfl) | (rw [hR]; first | done | rfl))) (.rowE rfl (.rowE rfl (.no (.rowE rfl (.nil) (by first | rfl | (rw [hO]; first | done | rfl) | (rw [hR]; first | done | rfl) | exact box9 (by first | rfl | (rw [hO]; first | done | rfl) | (rw [hR]; first | done | rfl)) (by first | rfl | (rw [hO]; first | done | rfl) | (rw [hR]; first | done | rfl)) (by first | rfl | (rw [hO]; first | done | rfl) | (rw [hR]; first | done | rfl))))) (by first | rfl | (rw [hO]; first | done | rfl) | (rw [hR]; first | done | rfl) | exact box9 (by first | rfl | (rw [hO]; first | done | rfl) | (rw [hR]; first | done | rfl)) (by first | rfl | (rw [hO]; first | done | rfl) | (rw [hR]; first | done | rfl)) (by first | rfl | (rw [hO]; first | done | rfl) | (rw [hR]; first | done | rfl)))) (by first | rfl | (rw [hO]; first | done | rfl) | (rw [hR]; first | done | rfl) | exact box9 (by first | rfl | (rw [hO]; first | done | rfl) | (rw [hR]; first | done | rfl)) (by first | rfl | (rw [hO]; first | done | rfl) | (rw [hR]; first | done | rfl)) (by first | rfl | (rw [hO]; first | done | rfl) | (rw [hR]; first | done | rfl))))) rfl
         ·have h15 := c_lss_f g15
          refine W_skip ?_
          refine blockK_n ?_
          have hO : oneS inp call t regs s = s := by unfold oneS; repeat first | rw [if_pos (by omega)] | rw [if_neg (by omega)]
          have hR : oneR inp t regs s = regs.set t.d.toNat 256 := by unfold oneR; repeat first | rw [if_pos (by omega)] | rw [if_neg (by omega)]
          exact .mk [(6, 5)] (.inl rfl) (.nil) rfl (.box (by first | rfl | (rw [hO]; first | done | rfl) | (rw [hR]; first | done | rfl) | exact box9 (by first | rfl | (rw [hO]; first | done | rfl) | (rw [hR]; first | done | rfl)) (by first | rfl | (rw [hO]; first | done | rfl) | (rw [hR]; first | done | rfl)) (by first | rfl | (rw [hO]; first | done | rfl) | (rw [hR]; first | done | rfl))) (.rowE rfl (.rowE rfl (.no (.rowE rfl (.nil) (by first | rfl | (rw [hO]; first | done | rfl) | (rw [hR]; first | done | rfl) | exact box9 (by first | rfl | (rw [hO]; first | done | rfl) | (rw [hR]; first | done | rfl)) (by first | rfl | (rw [hO]; first | done | rfl) | (rw [hR]; first | done | rfl)) (by first | rfl | (rw [hO]; first | done | rfl) | (rw [hR]; first | done | rfl))))) (by first | rfl | (rw [hO]; first | done | rfl) | (rw [hR]; first | done | rfl) | exact box9 (by first | rfl | (rw [hO]; first | done | rfl) | (rw [hR]; first | done | rfl)) (by first | rfl | (rw [hO]; first | done | rfl) | (rw [hR]; first | done | rfl)) (by first | rfl | (rw [hO]; first | done | rfl) | (rw [hR]; first | done | rfl)))) (by first | rfl | (rw [hO]; first | done | rfl) | (rw [hR]; first | done | rfl) | exact box9 (by first | rfl | (rw [hO]; first | done | rfl) | (rw [hR]; first | done | rfl)) (by first | rfl | (rw [hO]; first | done | rfl) | (rw [hR]; first | done | rfl)) (by first | rfl | (rw [hO]; first | done | rfl) | (rw [hR]; first | done | rfl))))) rfl
        ·have h14 := c_eql_f g14
         refine W_seq ?_
         refine W_seqK (b' := 342) rfl rfl ?_
         refine q0 180 310 1 rfl rfl (T_cmp rfl rfl rfl rfl) rfl ?_
         refine q0 179 326 2 rfl rfl (T_assign rfl rfl) rfl ?_
         refine k_done rfl ?_
         refine thenK_n ?_
         refine W_cond rfl (fun g16 => ?_) (fun g16 => ?_)
         ·have h16 := c_eql_t g16
          refine W_seq ?_
          refine W_seq ?_
          refine W_seqK (b' := 438) rfl rfl ?_
          refine q0 181 342 1 rfl rfl (T_move rfl rfl) rfl ?_
          refine q0 182 358 2 rfl rfl (T_nilCheck rfl rfl) rfl ?_
          refine q0 183 374 3 rfl rfl (T_fa D (m := 5) rfl rfl rfl rfl rfl rfl) rfl ?_
          refine q0 184 390 4 rfl rfl (T_load_b D rfl rfl rfl rfl rfl rfl) rfl ?_
          refine q0 185 406 5 rfl rfl (T_len D rfl rfl rfl rfl rfl rfl) rfl ?_
          refine q0 186 422 6 rfl rfl (T_cmp rfl rfl rfl rfl) rfl ?_
          refine k_done rfl ?_
          refine thenK_n ?_
          refine W_cond rfl (fun g17 => ?_) (fun g17 => ?_)
          ·have h17 := c_geq_t g17
           refine W_seq ?_
           refine W_seqK (b' := 502) rfl rfl ?_
           refine q0 187 438 1 rfl rfl (T_move rfl rfl) rfl ?_
           refine q0 188 454 2 rfl rfl (T_nilCheck rfl rfl) rfl ?_
           refine q0 189 470 3 rfl rfl (T_fa D (m := 8) rfl rfl rfl rfl rfl rfl) rfl ?_
           refine s1 486 4 rfl rfl (T_stB D (cs' := [_, _, _, _, _, _, _, _, _]) rfl rfl rfl rfl (flat_v rfl) rfl rfl (Nat.le_of_ble_eq_true rfl) rfl) rfl ?_
           refine k_done rfl ?_
           refine thenK_n ?_
           refine W_ret ?_
           refine thenK_r ?_
           refine blockK_r ?_
           have hO : oneS inp call t regs s = s.stop 4 := by unfold oneS; repeat first | rw [if_pos (by omega)] | rw [if_neg (by omega)]
           have hR : oneR inp t regs s = regs := by unfold oneR; repeat first | rw [if_pos (by omega)] | rw [if_neg (by omega)]
           exact .mk [(6, 5)] (.inr rfl) (.nil) rfl (.box (by first | rfl | (rw [hO]; first | done | rfl) | (rw [hR]; first | done | rfl) | exact box9 (by first | rfl | (rw [hO]; first | done | rfl) | (rw [hR]; first | done | rfl)) (by first | rfl | (rw [hO]; first | done | rfl) | (rw [hR]; first | done | rfl)) (by first | rfl | (rw [hO]; first | done | rfl) | (rw [hR]; first | done | rfl))) (.rowE rfl (.rowE rfl (.no (.rowE rfl (.nil) (by first | rfl | (rw [hO]; first | done | rfl) | (rw [hR]; first | done | rfl) | exact box9 (by first | rfl | (rw [hO]; first | done | rfl) | (rw [hR]; first | done | rfl)) (by first | rfl | (rw [hO]; first | done | rfl) | (rw [hR]; first | done | rfl)) (by first | rfl | (rw [hO]; first | done | rfl) | (rw [hR]; first | done | rfl))))) (by first | rfl | (rw [hO]; first | done | rfl) | (rw [hR]; first | done | rfl) | exact box9 (by first | rfl | (rw [hO]; first | done | rfl) | (rw [hR]; first | done | rfl)) (by first | rfl | (rw [hO]; first | done | rfl) | (rw [hR]; first | done | rfl)) (by first | rfl | (rw [hO]; first | done | rfl) | (rw [hR]; first | done | rfl)))) (by first | rfl | (rw [hO]; first | done | rfl) | (rw [hR]; first | done | rfl) | exact box9 (by first | rfl | (rw [hO]; first | done | rfl) | (rw [hR]; first | done | rfl)) (by first | rfl | (rw [hO]; first | done | rfl) | (rw [hR]; first | done | rfl)) (by first | rfl | (rw [hO]; first | done | rfl) | (rw [hR]; first | done | rfl))))) rfl
          ·have h17 := c_geq_f g17
           refine W_skip ?_
           refine thenK_n ?_
           refine W_anyK (b' := 694) rfl rfl rfl ?_
           refine q0 190 438 1 rfl rfl (T_move rfl rfl) rfl ?_
           refine q0 191 454 2 rfl rfl (T_move rfl rfl) rfl ?_
           refine q0 192 470 3 rfl rfl (T_nilCheck rfl rfl) rfl ?_
           refine q0 193 486 4 rfl rfl (T_fa D (m := 5) rfl rfl rfl rfl rfl rfl) rfl ?_
           refine q0 194 502 5 rfl rfl (T_load_b D rfl rfl rfl rfl rfl rfl) rfl ?_
           refine q0 195 518 6 rfl rfl (T_move rfl rfl) rfl ?_
           refine q0 196 534 7 rfl rfl (T_fa D (m := 2) rfl rfl rfl rfl rfl rfl) rfl ?_
           refine q0 197 550 8 rfl rfl (T_load_b D rfl rfl rfl rfl rfl rfl) rfl ?_
           first | refine q0 198 566 9 rfl rfl (T_indexAddr D rfl rfl rfl rfl rfl rfl rfl rfl (by first | omega | exact byteAt_isW _ _ | (simp; omega))) rfl ?_ | refine q0 198 566 9 rfl rfl (T_indexAddrZ D rfl rfl rfl rfl rfl rfl rfl rfl (by first | omega | exact byteAt_isW _ _ | (simp; omega)) (by first | omega | exact byteAt_isW _ _ | (simp; omega))) rfl ?_
           refine q0 199 582 10 rfl rfl (T_ldE D (lv := .v _) (nn := 0) (upd := []) rfl rfl rfl rfl rfl (by first | omega | exact byteAt_isW _ _ | (simp; omega)) rfl rfl rfl rfl) rfl ?_
           refine q0 200 598 11 rfl rfl (T_convM (top := 256) rfl rfl (by rw [Try.underlying68]; rfl) Try.underlying5 rfl rfl) rfl ?_
           refine q1 201 614 12 rfl rfl (T_bs D (ys := [_]) (enc := eU8) (l := [_]) rfl rfl rfl rfl rfl rfl (.cons rfl (flat_v rfl) (.nil)) rfl rfl rfl rfl (.v rfl (.nil)) rfl rfl) rfl ?_
           refine qn 202 630 13 rfl rfl (T_append D rfl rfl rfl rfl rfl rfl rfl rfl rfl rfl rfl rfl (by (try simp only [ty5]); first | omega | exact byteAt_isW _ _ | (simp; omega)) (by (try simp only [ty5]); first | omega | exact byteAt_isW _ _ | (simp; omega))) rfl ?_
           refine q0 203 646 14 rfl rfl (T_nilCheck rfl rfl) rfl ?_
           refine q0 204 662 15 rfl rfl (T_fa D (m := 5) rfl rfl rfl rfl rfl rfl) rfl ?_
           refine s1 678 16 rfl rfl (T_stB D (cs' := [_, _, _, _, _, _, _, _, _]) rfl rfl rfl rfl (flat_sl rfl) rfl rfl (Nat.le_of_ble_eq_true rfl) rfl) rfl ?_
           refine k_done rfl ?_
           refine ⟨rfl, ?_⟩
           refine blockK_n ?_
           have hO : oneS inp call t regs s = { s with out := s.out ++ [(regs.getD t.a.toNat default) % 256] } := by unfold oneS; repeat first | rw [if_pos (by omega)] | rw [if_neg (by omega)]
           have hR : oneR inp t regs s = regs := by unfold oneR; repeat first | rw [if_pos (by omega)] | rw [if_neg (by omega)]
           exact .mk [(6, 630)] (.inl rfl) (.nil) rfl (.box (by first | rfl | (rw [hO]; first | done | rfl) | (rw [hR]; first | done | rfl) | exact box9 (by first | rfl | (rw [hO]; first | done | rfl) | (rw [hR]; first | done | rfl)) (by first | rfl | (rw [hO]; first | done | rfl) | (rw [hR]; first | done | rfl)) (by first | rfl | (rw [hO]; first | done | rfl) | (rw [hR]; first | done | rfl))) (.rowE rfl (.rowE rfl (.no (.rowE rfl (.nil) (by first | rfl | (rw [hO]; first | done | rfl) | (rw [hR]; first | done | rfl) | exact box9 (by first | rfl | (rw [hO]; first | done | rfl) | (rw [hR]; first | done | rfl)) (by first | rfl | (rw [hO]; first | done | rfl) | (rw [hR]; first | done | rfl)) (by first | rfl | (rw [hO]; first | done | rfl) | (rw [hR]; first | done | rfl))))) (by first | rfl | (rw [hO]; first | done | rfl) | (rw [hR]; first | done | rfl) | exact box9 (by first | rfl | (rw [hO]; first | done | rfl) | (rw [hR]; first | done | rfl)) (by first | rfl | (rw [hO]; first | done | rfl) | (rw [hR]; first | done | rfl)) (by first | rfl | (rw [hO]; first | done | rfl) | (rw [hR]; first | done | rfl)))) (by first | rfl | (rw [hO]; first | done | rfl) | (rw [hR]; first | done | rfl) | exact box9 (by first | rfl | (rw [hO]; first | done | rfl) | (rw [hR]; first | done | rfl)) (by first | rfl | (rw [hO]; first | done | rfl) | (rw [hR]; first | done | rfl)) (by first | rfl | (rw [hO]; first | done | rfl) | (rw [hR]; first | done | rfl))))) rfl
         ·have h16 := c_eql_f g16
          refine W_seq ?_
          refine W_seqK (b' := 374) rfl rfl ?_
          refine q0 206 342 1 rfl rfl (T_cmp rfl rfl rfl rfl) rfl ?_
          refine q0 205 358 2 rfl rfl (T_assign rfl rfl) rfl ?_
          refine k_done rfl ?_
          refine thenK_n ?_
          refine W_cond rfl (fun g18 => ?_) (fun g18 => ?_)
          ·have h18 := c_eql_t g18
           refine W_seqK (b' := 438) rfl rfl ?_
           refine q0 207 374 1 rfl rfl (T_move rfl rfl) rfl ?_
           refine q0 208 390 2 rfl rfl (T_fa D (m := 5) rfl rfl rfl rfl rfl rfl) rfl ?_
           refine q0 209 406 3 rfl rfl (T_load_b D rfl rfl rfl rfl rfl rfl) rfl ?_
           refine qn 210 422 4 rfl rfl (T_call (lvs := [_, _]) (L := [(1, 1), (2, 3), (3, 4), (4, 5)]) (lv := .tup []) (upd := [(1, .box 107 [.v _, .r 3, .v _, .v _, .r 4, .r 422, .v _, .v _, .v _]), (4, .row 68 1 _), (5, .no), (422, .row 5 1 _)]) (nn := 1) false (hc (by omega) s hs h0) body77 rfl rfl rfl rfl (.box rfl (.fz rfl (.row rfl (.row rfl (.nil))))) rfl (.inl rfl) rfl rfl rfl) rfl ?_
           refine k_done rfl ?_
           refine blockK_n ?_
           have hO : oneS inp call t regs s = call t.base s := by unfold oneS; repeat first | rw [if_pos (by omega)] | rw [if_neg (by omega)]
           have hR : oneR inp t regs s = regs := by unfold oneR; repeat first | rw [if_pos (by omega)] | rw [if_neg (by omega)]
           exact .mk [(6, 422)] (.inl rfl) (.nil) rfl (.box (by first | rfl | (rw [hO]; first | done | rfl) | (rw [hR]; first | done | rfl) | exact box9 (by first | rfl | (rw [hO]; first | done | rfl) | (rw [hR]; first | done | rfl)) (by first | rfl | (rw [hO]; first | done | rfl) | (rw [hR]; first | done | rfl)) (by first | rfl | (rw [hO]; first | done | rfl) | (rw [hR]; first | done | rfl))) (.rowE rfl (.rowE rfl (.no (.rowE rfl (.nil) (by first | rfl | (rw [hO]; first | done | rfl) | (rw [hR]; first | done | rfl) | exact box9 (by first | rfl | (rw [hO]; first | done | rfl) | (rw [hR]; first | done | rfl)) (by first | rfl | (rw [hO]; first | done | rfl) | (rw [hR]; first | done | rfl)) (by first | rfl | (rw [hO]; first | done | rfl) | (rw [hR]; first | done | rfl))))) (by first | rfl | (rw [hO]; first | done | rfl) | (rw [hR]; first | done | rfl) | exact box9 (by first | rfl | (rw [hO]; first | done | rfl) | (rw [hR]; first | done | rfl)) (by first | rfl | (rw [hO]; first | done | rfl) | (rw [hR]; first | done | rfl)) (by first | rfl | (rw [hO]; first | done | rfl) | (rw [hR]; first | done | rfl)))) (by first | rfl | (rw [hO]; first | done | rfl) | (rw [hR]; first | done | rfl) | exact box9 (by first | rfl | (rw [hO]; first | done | rfl) | (rw [hR]; first | done | rfl)) (by first | rfl | (rw [hO]; first | done | rfl) | (rw [hR]; first | done | rfl)) (by first | rfl | (rw [hO]; first | done | rfl) | (rw [hR]; first | done | rfl))))) rfl
          ·have h18 := c_eql_f g18
           refine W_skip ?_
           refine blockK_n ?_
           exact .mk [(6, 5)] (.inl rfl) (.nil) rfl (.box (by exfalso; omega) (.rowE rfl (.rowE rfl (.no (.rowE rfl (.nil) (by exfalso; omega))) (by exfalso; omega)) (by exfalso; omega))) rfl
end Lg
end Go.Proofs.Ytpfhmodjjljpjaa

namespace Go.Proofs.Ytpfhmodjjljpjaa
open Go.RowKit
namespace Lg
set_option linter.unusedSimpArgs false
set_option linter.unusedVariables false
section
variable {inp : ByteArray} {fuel : Int} {call : Int → RS → RS} {l : List GTac} {j m : Nat} {regs regs' : List Int} {s s' R : RS} {f : GFn} {at_ : Int} {q : List Int × RS × Bool}
theorem ins_stop (hq : insL inp fuel call (l.drop j) regs' s' = insL inp fuel call l regs s) (hj : j < l.length) (hn : ¬ s'.steps < fuel) : insL inp fuel call l regs s = (regs', s'.stop 5, true) := by
  rw [← hq, List.drop_eq_getElem_cons hj]
  simp only [insL]
  rw [if_neg hn]
theorem ins_end (hq : insL inp fuel call (l.drop j) regs' s' = insL inp fuel call l regs s) (hj : j < l.length) (hn : s'.steps < fuel) (hf : ¬ (oneS inp call (l.getD j default) regs' s'.tick).fin = 0) :
    insL inp fuel call l regs s = (oneR inp (l.getD j default) regs' s'.tick, oneS inp call (l.getD j default) regs' s'.tick, true) := by
  have e : l[j] = l.getD j default := by simp [List.getD, hj]
  rw [← hq, List.drop_eq_getElem_cons hj]
  simp only [insL]
  rw [if_pos hn, e, if_neg hf]
theorem ins_next (hq : insL inp fuel call (l.drop j) regs' s' = insL inp fuel call l regs s) (hj : j < l.length) (hn : s'.steps < fuel) (hf : (oneS inp call (l.getD j default) regs' s'.tick).fin = 0) :
    insL inp fuel call (l.drop (j + 1)) (oneR inp (l.getD j default) regs' s'.tick) (oneS inp call (l.getD j default) regs' s'.tick) = insL inp fuel call l regs s := by
  have e : l[j] = l.getD j default := by simp [List.getD, hj]
  rw [← hq, List.drop_eq_getElem_cons hj]
  simp only [insL]
  rw [if_pos hn, e, if_pos hf]
theorem ins_done (hq : insL inp fuel call (l.drop j) regs' s' = insL inp fuel call l regs s) (hj : l.length ≤ j) : insL inp fuel call l regs s = (regs', s', false) := by
  rw [← hq, List.drop_of_length_le hj]
  rfl
theorem blk_unf (hm : 0 < m) (hJ : blkL inp fuel call f m at_ regs s = R) (hq : insL inp fuel call (f.blocks.getD at_.toNat default).ins regs s = q) :
    R = if q.2.2 = true then q.2.1 else if q.2.1.steps < fuel then (if (f.blocks.getD at_.toNat default).fin = 3 then q.2.1.tick else blkL inp fuel call f (m - 1) (nextB (f.blocks.getD at_.toNat default) q.1) q.1 q.2.1.tick) else q.2.1.stop 5 := by
  obtain ⟨k, rfl⟩ : ∃ k, m = k + 1 := ⟨m - 1, by omega⟩
  rw [← hJ, ← hq]
  rfl
theorem run_halt (hm : 0 < m) (hJ : blkL inp fuel call f m at_ regs s = R) (hq : insL inp fuel call (f.blocks.getD at_.toNat default).ins regs s = (regs', s', true)) : R = s' := by
  rw [blk_unf hm hJ hq, if_pos rfl]
theorem run_fuel (hm : 0 < m) (hJ : blkL inp fuel call f m at_ regs s = R) (hq : insL inp fuel call (f.blocks.getD at_.toNat default).ins regs s = (regs', s', false)) (hn : ¬ s'.steps < fuel) : R = s'.stop 5 := by
  rw [blk_unf hm hJ hq, if_neg (by simp), if_neg hn]
theorem run_ret (hm : 0 < m) (hJ : blkL inp fuel call f m at_ regs s = R) (hq : insL inp fuel call (f.blocks.getD at_.toNat default).ins regs s = (regs', s', false)) (hn : s'.steps < fuel) (h3 : (f.blocks.getD at_.toNat default).fin = 3) : R = s'.tick := by
  rw [blk_unf hm hJ hq, if_neg (by simp), if_pos hn, if_pos h3]
theorem run_next (hm : 0 < m) (hJ : blkL inp fuel call f m at_ regs s = R) (hq : insL inp fuel call (f.blocks.getD at_.toNat default).ins regs s = (regs', s', false)) (hn : s'.steps < fuel) (h3 : ¬ (f.blocks.getD at_.toNat default).fin = 3) {nx : Int} (hx : nextB (f.blocks.getD at_.toNat default) regs' = nx) :
    blkL inp fuel call f (m - 1) nx regs' s'.tick = R := by
  rw [blk_unf hm hJ hq, if_neg (by simp), if_pos hn, if_neg h3, ← hx]
end
theorem ends_to {b : GBlock} {k regs : Int} (h : endsB b k regs = true) : (b.fin = 1 ∨ b.fin = 2 → 0 ≤ b.to ∧ b.to < k) ∧ (b.fin = 2 → (0 ≤ b.els ∧ b.els < k) ∧ 0 ≤ b.v ∧ b.v < regs) ∧ (b.fin = 1 ∨ b.fin = 2 ∨ b.fin = 3) := by
  unfold endsB at h
  split at h
  · rename_i h1
    simp only [Bool.and_eq_true] at h
    have := within_iff h.1.1
    exact ⟨fun _ => this, fun h2 => by omega, .inl h1⟩
  · split at h
    · rename_i h1 h2
      simp only [Bool.and_eq_true] at h
      have k1 := within_iff h.1.1
      have k2 := within_iff h.1.2
      have k3 := within_iff h.2
      exact ⟨fun _ => k1, fun _ => ⟨k2, k3⟩, .inr (.inl h2)⟩
    · rename_i h1 h2
      simp only [Bool.and_eq_true, beq_iff_eq] at h
      exact ⟨fun h3 => by omega, fun h3 => by omega, .inr (.inr h.1.1.1)⟩
theorem nextB_els {b : GBlock} {regs : List Int} (h : b.fin = 2) (h2 : regs.getD b.v.toNat default = 0) : nextB b regs = b.els := by unfold nextB; rw [if_pos ⟨h, h2⟩]
theorem nextB_to {b : GBlock} {regs : List Int} (h : ¬ (b.fin = 2 ∧ regs.getD b.v.toNat default = 0)) : nextB b regs = b.to := by unfold nextB; rw [if_neg h]
end Lg
end Go.Proofs.Ytpfhmodjjljpjaa
