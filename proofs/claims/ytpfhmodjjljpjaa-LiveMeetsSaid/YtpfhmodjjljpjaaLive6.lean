import Derived.Test.YtpfhmodjjljpjaaLive5
set_option linter.unusedVariables false
set_option linter.unusedSimpArgs false
namespace Go.Proofs.Ytpfhmodjjljpjaa
open Go.RowKit
namespace Lg
set_option maxRecDepth 100000
set_option linter.unusedVariables false
set_option linter.unusedSimpArgs false
theorem body49 : (Try.prog.funcs[49]?).map (fun fn => (fn.name == "runtime.NumGoroutine" || fn.body.isNone)) = some false := by kernel_rfl
theorem awake27_spec  : Spec Try.prog 49 [] 1 [] (.v (.bool true)) 1 [] := by
 refine spec_of D (fn := Try.f49) rfl rfl (Nat.le_of_ble_eq_true rfl) ?_
 refine W_seq ?_
 refine W_seqK (b' := 17) rfl rfl ?_
 refine q0 0 1 1 rfl rfl (T_assign rfl rfl) rfl ?_
 refine k_done rfl ?_
 refine thenK_n ?_
 refine W_seq ?_
 refine W_seqK (b' := 145) rfl rfl ?_
 refine q0 7 17 1 rfl rfl (T_build D (l := [_, _, _, _, _, _, _, _]) rfl rfl rfl rfl (.cons rfl (flat_v rfl) (.cons rfl (flat_v rfl) (.nil))) rfl rfl) rfl ?_
 refine q0 8 33 2 rfl rfl (T_build D (l := [_, _, _, _, _, _, _, _]) rfl rfl rfl rfl (.cons rfl (flat_v rfl) (.nil)) rfl rfl) rfl ?_
 refine q1 9 49 3 rfl rfl (T_bs D (ys := [⟨_, _, _, _, _, _, _, _⟩, ⟨_, _, _, _, _, _, _, _⟩]) (enc := eTac) (l := [_, _, _, _, _, _, _, _, _, _, _, _, _, _, _, _]) rfl rfl rfl rfl rfl rfl (.cons rfl flat_agg (.cons rfl flat_agg (.nil))) rfl rfl rfl rfl (.v rfl (.v rfl (.v rfl (.v rfl (.v rfl (.v rfl (.v rfl (.v rfl (.v rfl (.v rfl (.v rfl (.v rfl (.v rfl (.v rfl (.v rfl (.v rfl (.nil))))))))))))))))) rfl rfl) rfl ?_
 refine q0 10 65 4 rfl rfl (T_build D (l := [_, _, _, _, _]) rfl rfl rfl rfl (.cons rfl (flat_sl rfl) (.cons rfl (flat_v rfl) (.nil))) rfl rfl) rfl ?_
 refine qn 11 81 5 rfl rfl (T_bs D (ys := [⟨_, _, _, _, _⟩]) (enc := eBlock) (l := [_, _, _, _, _]) rfl rfl rfl rfl rfl rfl (.cons rfl flat_agg (.nil)) rfl rfl rfl rfl (.row rfl (.v rfl (.v rfl (.v rfl (.v rfl (.nil))))) (by rfl)) rfl rfl) rfl ?_
 refine q0 12 97 6 rfl rfl (T_build D (l := [_, _]) rfl rfl rfl rfl (.cons rfl (flat_v rfl) (.cons rfl (flat_sl rfl) (.nil))) rfl rfl) rfl ?_
 refine qn 1 113 7 rfl rfl (T_nilbox [(72, 5)] (T_alloc D rfl rfl rfl) rfl (.cons (.same _) <| .cons (.nil rfl) <| .nil) (upd' := [(113, .box 29 [.v (.int .i64 0), .r 114]), (114, .row 72 5 (List.map eBlock ([] : List (GBlock))))]) (nn' := 2) rfl rfl) rfl ?_
 refine s1 129 8 rfl rfl (T_stB D (cs' := [_, _]) rfl rfl rfl rfl flat_agg rfl rfl (Nat.le_of_ble_eq_true rfl) rfl) rfl ?_
 refine k_done rfl ?_
 refine thenK_n ?_
 refine W_seq ?_
 refine W_seqK (b' := 209) rfl rfl ?_
 refine q0 13 145 1 rfl rfl (T_load_bA D (l := [_, _]) rfl rfl rfl rfl rfl rfl rfl) rfl ?_
 refine qn 14 161 2 rfl rfl (T_call (lvs := [_]) (L := [(1, 81)]) (lv := .agg [.r 161, .r 162]) (upd := [(161, .fz 1 _), (162, .fz 1 _), (81, .fz 5 _)]) (nn := 2) false (live_spec vF vF_lf) body50 rfl rfl rfl rfl (.lend rfl (.nil)) rfl (.inl rfl) rfl rfl rfl) rfl ?_
 refine qn 2 177 3 rfl rfl (T_nilbox [(48, 1), (48, 1)] (T_alloc D rfl rfl rfl) rfl (.cons (.nil rfl) <| .cons (.nil rfl) <| .nil) (upd' := [(177, .box 57 [.r 178, .r 179]), (178, .row 48 1 (List.map eBs ([] : List (List Bool)))), (179, .row 48 1 (List.map eBs ([] : List (List Bool))))]) (nn' := 3) rfl rfl) rfl ?_
 refine s1 193 4 rfl rfl (T_stB D (cs' := [_, _]) rfl rfl rfl rfl flat_agg rfl rfl (Nat.le_of_ble_eq_true rfl) rfl) rfl ?_
 refine k_done rfl ?_
 refine thenK_n ?_
 refine W_seq ?_
 refine W_seqK (b' := 273) rfl rfl ?_
 refine q0 15 209 1 rfl rfl (T_load_bA D (l := [_, _]) rfl rfl rfl rfl rfl rfl rfl) rfl ?_
 refine q0 16 225 2 rfl rfl (T_load_bA D (l := [_, _]) rfl rfl rfl rfl rfl rfl rfl) rfl ?_
 refine q1 17 241 3 rfl rfl (T_call (lvs := [_, _, _]) (L := [(1, 81), (2, 161), (3, 162)]) (lv := .r 241) (upd := [(241, .fz 1 _)]) (nn := 1) false (beh_spec vF (liveL vF).1 (liveL vF).2 0 vF_lf (by decide) (live_sz vF).o) body58 rfl rfl rfl rfl (.fz rfl (.fz rfl (.fz rfl (.nil)))) rfl (.inl rfl) rfl rfl rfl) rfl ?_
 refine q0 3 257 4 rfl rfl (T_assign rfl rfl) rfl ?_
 refine k_done rfl ?_
 refine thenK_n ?_
 refine W_seq ?_
 refine W_seqK (b' := 449) rfl rfl ?_
 refine q0 18 273 1 rfl rfl (T_build D (l := [_, _, _, _, _, _, _, _]) rfl rfl rfl rfl (.cons rfl (flat_v rfl) (.cons rfl (flat_v rfl) (.nil))) rfl rfl) rfl ?_
 refine q1 19 289 2 rfl rfl (T_bs D (ys := [⟨_, _, _, _, _, _, _, _⟩]) (enc := eTac) (l := [_, _, _, _, _, _, _, _]) rfl rfl rfl rfl rfl rfl (.cons rfl flat_agg (.nil)) rfl rfl rfl rfl (.v rfl (.v rfl (.v rfl (.v rfl (.v rfl (.v rfl (.v rfl (.v rfl (.nil))))))))) rfl rfl) rfl ?_
 refine q0 20 305 3 rfl rfl (T_build D (l := [_, _, _, _, _]) rfl rfl rfl rfl (.cons rfl (flat_sl rfl) (.cons rfl (flat_v rfl) (.cons rfl (flat_v rfl) (.nil)))) rfl rfl) rfl ?_
 refine q0 21 321 4 rfl rfl (T_build D (l := [_, _, _, _, _, _, _, _]) rfl rfl rfl rfl (.cons rfl (flat_v rfl) (.cons rfl (flat_v rfl) (.nil))) rfl rfl) rfl ?_
 refine q1 22 337 5 rfl rfl (T_bs D (ys := [⟨_, _, _, _, _, _, _, _⟩]) (enc := eTac) (l := [_, _, _, _, _, _, _, _]) rfl rfl rfl rfl rfl rfl (.cons rfl flat_agg (.nil)) rfl rfl rfl rfl (.v rfl (.v rfl (.v rfl (.v rfl (.v rfl (.v rfl (.v rfl (.v rfl (.nil))))))))) rfl rfl) rfl ?_
 refine q0 23 353 6 rfl rfl (T_build D (l := [_, _, _, _, _]) rfl rfl rfl rfl (.cons rfl (flat_sl rfl) (.cons rfl (flat_v rfl) (.cons rfl (flat_v rfl) (.cons rfl (flat_v rfl) (.nil))))) rfl rfl) rfl ?_
 refine q1 24 369 7 rfl rfl (T_nils [(70, 8)] (T_build D (l := [_, _, _, _, _]) rfl rfl rfl rfl (.cons rfl (flat_v rfl) (.nil)) rfl rfl) rfl (.inl ⟨rfl, rfl⟩) (.cons (.nil rfl) <| .cons (.same _) <| .cons (.same _) <| .cons (.same _) <| .cons (.same _) <| .nil) (lv' := .agg [.r 369, _, _, _, _]) (upd' := [(369, .row 70 8 (List.map eTac ([] : List (GTac))))]) (nn' := 1) rfl rfl) rfl ?_
 refine qn 25 385 8 rfl rfl (T_bs D (ys := [⟨_, _, _, _, _⟩, ⟨_, _, _, _, _⟩, ⟨_, _, _, _, _⟩]) (enc := eBlock) (l := [_, _, _, _, _, _, _, _, _, _, _, _, _, _, _]) rfl rfl rfl rfl rfl rfl (.cons rfl flat_agg (.cons rfl flat_agg (.cons rfl flat_agg (.nil)))) rfl rfl rfl rfl (.row rfl (.v rfl (.v rfl (.v rfl (.v rfl (.row rfl (.v rfl (.v rfl (.v rfl (.v rfl (.row rfl (.v rfl (.v rfl (.v rfl (.v rfl (.nil))))) (by rfl)))))) (by rfl)))))) (by rfl)) rfl rfl) rfl ?_
 refine q0 26 401 9 rfl rfl (T_build D (l := [_, _]) rfl rfl rfl rfl (.cons rfl (flat_v rfl) (.cons rfl (flat_sl rfl) (.nil))) rfl rfl) rfl ?_
 refine qn 4 417 10 rfl rfl (T_nilbox [(72, 5)] (T_alloc D rfl rfl rfl) rfl (.cons (.same _) <| .cons (.nil rfl) <| .nil) (upd' := [(417, .box 29 [.v (.int .i64 0), .r 418]), (418, .row 72 5 (List.map eBlock ([] : List (GBlock))))]) (nn' := 2) rfl rfl) rfl ?_
 refine s1 433 11 rfl rfl (T_stB D (cs' := [_, _]) rfl rfl rfl rfl flat_agg rfl rfl (Nat.le_of_ble_eq_true rfl) rfl) rfl ?_
 refine k_done rfl ?_
 refine thenK_n ?_
 refine W_seq ?_
 refine W_seqK (b' := 513) rfl rfl ?_
 refine q0 27 449 1 rfl rfl (T_load_bA D (l := [_, _]) rfl rfl rfl rfl rfl rfl rfl) rfl ?_
 refine qn 28 465 2 rfl rfl (T_call (lvs := [_]) (L := [(1, 385)]) (lv := .agg [.r 465, .r 466]) (upd := [(465, .fz 1 _), (466, .fz 1 _), (385, .fz 5 _)]) (nn := 2) false (live_spec vG vG_lf) body50 rfl rfl rfl rfl (.lend rfl (.nil)) rfl (.inl rfl) rfl rfl rfl) rfl ?_
 refine qn 5 481 3 rfl rfl (T_nilbox [(48, 1), (48, 1)] (T_alloc D rfl rfl rfl) rfl (.cons (.nil rfl) <| .cons (.nil rfl) <| .nil) (upd' := [(481, .box 57 [.r 482, .r 483]), (482, .row 48 1 (List.map eBs ([] : List (List Bool)))), (483, .row 48 1 (List.map eBs ([] : List (List Bool))))]) (nn' := 3) rfl rfl) rfl ?_
 refine s1 497 4 rfl rfl (T_stB D (cs' := [_, _]) rfl rfl rfl rfl flat_agg rfl rfl (Nat.le_of_ble_eq_true rfl) rfl) rfl ?_
 refine k_done rfl ?_
 refine thenK_n ?_
 refine W_seq ?_
 refine W_seqK (b' := 689) rfl rfl ?_
 refine q1 29 513 1 rfl rfl (T_bs D (ys := [_, _]) (enc := eB) (l := [_, _]) rfl rfl rfl rfl rfl rfl (.cons rfl (flat_v rfl) (.cons rfl (flat_v rfl) (.nil))) rfl rfl rfl rfl (.v rfl (.v rfl (.nil))) rfl rfl) rfl ?_
 refine q1 30 529 2 rfl rfl (T_bs D (ys := [_, _]) (enc := eB) (l := [_, _]) rfl rfl rfl rfl rfl rfl (.cons rfl (flat_v rfl) (.cons rfl (flat_v rfl) (.nil))) rfl rfl rfl rfl (.v rfl (.v rfl (.nil))) rfl rfl) rfl ?_
 refine q1 31 545 3 rfl rfl (T_bs D (ys := [_, _]) (enc := eB) (l := [_, _]) rfl rfl rfl rfl rfl rfl (.cons rfl (flat_v rfl) (.cons rfl (flat_v rfl) (.nil))) rfl rfl rfl rfl (.v rfl (.v rfl (.nil))) rfl rfl) rfl ?_
 refine qn 32 561 4 rfl rfl (T_bs D (ys := [_, _, _]) (enc := eBs) (l := [_, _, _]) rfl rfl rfl rfl rfl rfl (.cons rfl (flat_sl rfl) (.cons rfl (flat_sl rfl) (.cons rfl (flat_sl rfl) (.nil)))) rfl rfl rfl rfl (.row rfl (.row rfl (.row rfl (.nil) (by rfl)) (by rfl)) (by rfl)) rfl rfl) rfl ?_
 refine q1 33 577 5 rfl rfl (T_bs D (ys := [_, _]) (enc := eB) (l := [_, _]) rfl rfl rfl rfl rfl rfl (.cons rfl (flat_v rfl) (.cons rfl (flat_v rfl) (.nil))) rfl rfl rfl rfl (.v rfl (.v rfl (.nil))) rfl rfl) rfl ?_
 refine q1 34 593 6 rfl rfl (T_bs D (ys := [_, _]) (enc := eB) (l := [_, _]) rfl rfl rfl rfl rfl rfl (.cons rfl (flat_v rfl) (.cons rfl (flat_v rfl) (.nil))) rfl rfl rfl rfl (.v rfl (.v rfl (.nil))) rfl rfl) rfl ?_
 refine q1 35 609 7 rfl rfl (T_bs D (ys := [_, _]) (enc := eB) (l := [_, _]) rfl rfl rfl rfl rfl rfl (.cons rfl (flat_v rfl) (.cons rfl (flat_v rfl) (.nil))) rfl rfl rfl rfl (.v rfl (.v rfl (.nil))) rfl rfl) rfl ?_
 refine qn 36 625 8 rfl rfl (T_bs D (ys := [_, _, _]) (enc := eBs) (l := [_, _, _]) rfl rfl rfl rfl rfl rfl (.cons rfl (flat_sl rfl) (.cons rfl (flat_sl rfl) (.cons rfl (flat_sl rfl) (.nil)))) rfl rfl rfl rfl (.row rfl (.row rfl (.row rfl (.nil) (by rfl)) (by rfl)) (by rfl)) rfl rfl) rfl ?_
 refine q0 37 641 9 rfl rfl (T_build D (l := [_, _]) rfl rfl rfl rfl (.cons rfl (flat_sl rfl) (.cons rfl (flat_sl rfl) (.nil))) rfl rfl) rfl ?_
 refine qn 6 657 10 rfl rfl (T_nilbox [(48, 1), (48, 1)] (T_alloc D rfl rfl rfl) rfl (.cons (.nil rfl) <| .cons (.nil rfl) <| .nil) (upd' := [(657, .box 57 [.r 658, .r 659]), (658, .row 48 1 (List.map eBs ([] : List (List Bool)))), (659, .row 48 1 (List.map eBs ([] : List (List Bool))))]) (nn' := 3) rfl rfl) rfl ?_
 refine s1 673 11 rfl rfl (T_stB D (cs' := [_, _]) rfl rfl rfl rfl flat_agg rfl rfl (Nat.le_of_ble_eq_true rfl) rfl) rfl ?_
 refine k_done rfl ?_
 refine thenK_n ?_
 refine W_seq ?_
 refine W_seqK (b' := 1361) rfl rfl ?_
 refine q0 38 689 1 rfl rfl (T_load_bA D (l := [_, _]) rfl rfl rfl rfl rfl rfl rfl) rfl ?_
 refine q1 39 705 2 rfl rfl (T_bs D (ys := [_]) (enc := eB) (l := [_]) rfl rfl rfl rfl rfl rfl (.cons rfl (flat_v rfl) (.nil)) rfl rfl rfl rfl (.v rfl (.nil)) rfl rfl) rfl ?_
 refine qn 40 721 3 rfl rfl (T_bs D (ys := [_]) (enc := eBs) (l := [_]) rfl rfl rfl rfl rfl rfl (.cons rfl (flat_sl rfl) (.nil)) rfl rfl rfl rfl (.row rfl (.nil) (by rfl)) rfl rfl) rfl ?_
 refine q1 41 737 4 rfl rfl (T_bs D (ys := [_]) (enc := eB) (l := [_]) rfl rfl rfl rfl rfl rfl (.cons rfl (flat_v rfl) (.nil)) rfl rfl rfl rfl (.v rfl (.nil)) rfl rfl) rfl ?_
 refine qn 42 753 5 rfl rfl (T_bs D (ys := [_]) (enc := eBs) (l := [_]) rfl rfl rfl rfl rfl rfl (.cons rfl (flat_sl rfl) (.nil)) rfl rfl rfl rfl (.row rfl (.nil) (by rfl)) rfl rfl) rfl ?_
 refine q0 43 769 6 rfl rfl (T_build D (l := [_, _]) rfl rfl rfl rfl (.cons rfl (flat_sl rfl) (.cons rfl (flat_sl rfl) (.nil))) rfl rfl) rfl ?_
 refine q0 44 785 7 rfl rfl (T_callV (lvs := [_, _]) (L := [(1, 161), (2, 162), (3, 721), (4, 753)]) (rsame_spec (liveL vF).1 (liveL vF).2 [[false]] [[false]] (by decide +kernel) (by decide +kernel) (by decide +kernel) (by decide +kernel) (by decide +kernel) (by decide +kernel)) body51 rfl rfl rfl rfl (.fz rfl (.fz rfl (.lend rfl (.lend rfl (.nil))))) rfl) rfl ?_
 refine q0 45 801 8 rfl rfl (T_move rfl rfl) rfl ?_
 refine k_split (d := 45) rfl (fun g1 => ?_) (fun g1 => ?_)
 ·have h1 := g1; (try simp only [cmpB, decide_eq_true_eq, decide_eq_false_iff_not, beq_iff_eq, beq_eq_false_iff_ne, bne_iff_ne, ne_eq, bne_eq_false_iff_eq, Bool.not_eq_true', Bool.not_eq_false', Int.not_lt, Int.not_le] at h1)
  refine k_op0 (d := 46) (b := 817) (j' := 9) rfl rfl rfl rfl (g_tt rfl rfl rfl g1) (T_move rfl rfl) rfl ?_
  refine k_op1 (d := 47) (b := 833) (j' := 10) rfl rfl rfl rfl (g_tt rfl rfl rfl g1) (T_bs D (ys := [_]) (enc := eB) (l := [_]) rfl rfl rfl rfl rfl rfl (.cons rfl (flat_v rfl) (.nil)) rfl rfl rfl rfl (.v rfl (.nil)) rfl rfl) rfl ?_
  refine k_op1 (d := 48) (b := 849) (j' := 11) rfl rfl rfl rfl (g_tt rfl rfl rfl g1) (T_bs D (ys := [_]) (enc := eB) (l := [_]) rfl rfl rfl rfl rfl rfl (.cons rfl (flat_v rfl) (.nil)) rfl rfl rfl rfl (.v rfl (.nil)) rfl rfl) rfl ?_
  refine k_opn (d := 49) (b := 865) (j' := 12) rfl rfl rfl rfl (g_tt rfl rfl rfl g1) (T_bs D (ys := [_, _]) (enc := eBs) (l := [_, _]) rfl rfl rfl rfl rfl rfl (.cons rfl (flat_sl rfl) (.cons rfl (flat_sl rfl) (.nil))) rfl rfl rfl rfl (.row rfl (.row rfl (.nil) (by rfl)) (by rfl)) rfl rfl) rfl ?_
  refine k_op0 (d := 50) (b := 881) (j' := 13) rfl rfl rfl rfl (g_tt rfl rfl rfl g1) (T_callV (lvs := [_, _]) (L := [(1, 241), (2, 865)]) (rows_spec (behL (vF.blocks.getD (0 : Int).toNat default) ((liveL vF).2.getD (0 : Int).toNat default)) [[true], [false]] (by decide +kernel) (by decide +kernel) (by decide +kernel)) body57 rfl rfl rfl rfl (.fz rfl (.lend rfl (.nil))) rfl) rfl ?_
  refine q0 51 897 14 rfl rfl (T_pick_t rfl rfl rfl g1) rfl ?_
  refine q0 52 913 15 rfl rfl (T_move rfl rfl) rfl ?_
  refine k_split (d := 52) rfl (fun g2 => ?_) (fun g2 => ?_)
  ·have h2 := g2; (try simp only [cmpB, decide_eq_true_eq, decide_eq_false_iff_not, beq_iff_eq, beq_eq_false_iff_ne, bne_iff_ne, ne_eq, bne_eq_false_iff_eq, Bool.not_eq_true', Bool.not_eq_false', Int.not_lt, Int.not_le] at h2)
   refine k_op0 (d := 53) (b := 929) (j' := 16) rfl rfl rfl rfl (g_tt rfl rfl rfl g2) (T_load_bA D (l := [_, _]) rfl rfl rfl rfl rfl rfl rfl) rfl ?_
   refine k_op0 (d := 54) (b := 945) (j' := 17) rfl rfl rfl rfl (g_tt rfl rfl rfl g2) (T_load_bA D (l := [_, _]) rfl rfl rfl rfl rfl rfl rfl) rfl ?_
   refine k_op0 (d := 55) (b := 961) (j' := 18) rfl rfl rfl rfl (g_tt rfl rfl rfl g2) (T_callV (lvs := [_, _]) (L := [(1, 465), (2, 466), (3, 561), (4, 625)]) (rsame_spec (liveL vG).1 (liveL vG).2 vI vO (by decide +kernel) (by decide +kernel) (by decide +kernel) (by decide +kernel) (by decide +kernel) (by decide +kernel)) body51 rfl rfl rfl rfl (.fz rfl (.fz rfl (.lend rfl (.lend rfl (.nil))))) rfl) rfl ?_
   refine q0 56 977 19 rfl rfl (T_pick_t rfl rfl rfl g2) rfl ?_
   refine q0 57 993 20 rfl rfl (T_move rfl rfl) rfl ?_
   refine k_split (d := 57) rfl (fun g3 => ?_) (fun g3 => ?_)
   ·have h3 := g3; (try simp only [cmpB, decide_eq_true_eq, decide_eq_false_iff_not, beq_iff_eq, beq_eq_false_iff_ne, bne_iff_ne, ne_eq, bne_eq_false_iff_eq, Bool.not_eq_true', Bool.not_eq_false', Int.not_lt, Int.not_le] at h3)
    refine k_op0 (d := 58) (b := 1009) (j' := 21) rfl rfl rfl rfl (g_tt rfl rfl rfl g3) (T_load_bA D (l := [_, _]) rfl rfl rfl rfl rfl rfl rfl) rfl ?_
    refine k_op0 (d := 59) (b := 1025) (j' := 22) rfl rfl rfl rfl (g_tt rfl rfl rfl g3) (T_load_bA D (l := [_, _]) rfl rfl rfl rfl rfl rfl rfl) rfl ?_
    refine k_op0 (d := 60) (b := 1041) (j' := 23) rfl rfl rfl rfl (g_tt rfl rfl rfl g3) (T_callV (lvs := [_, _]) (L := [(1, 385), (2, 561), (3, 625)]) (lcheck_spec vG vI vO vG_lf (by decide) (by decide)) body53 rfl rfl rfl rfl (.fz rfl (.lend rfl (.lend rfl (.nil)))) rfl) rfl ?_
    refine q0 61 1057 24 rfl rfl (T_pick_t rfl rfl rfl g3) rfl ?_
    refine q0 62 1073 25 rfl rfl (T_move rfl rfl) rfl ?_
    refine k_split (d := 62) rfl (fun g4 => ?_) (fun g4 => ?_)
    ·have h4 := g4; (try simp only [cmpB, decide_eq_true_eq, decide_eq_false_iff_not, beq_iff_eq, beq_eq_false_iff_ne, bne_iff_ne, ne_eq, bne_eq_false_iff_eq, Bool.not_eq_true', Bool.not_eq_false', Int.not_lt, Int.not_le] at h4)
     refine k_op0 (d := 63) (b := 1089) (j' := 26) rfl rfl rfl rfl (g_tt rfl rfl rfl g4) (T_load_bA D (l := [_, _]) rfl rfl rfl rfl rfl rfl rfl) rfl ?_
     refine k_opn (d := 64) (b := 1105) (j' := 27) rfl rfl rfl rfl (g_tt rfl rfl rfl g4) (T_nils [(48, 1), (48, 1)] (T_build D (l := [_, _]) rfl rfl rfl rfl (.nil) rfl rfl) rfl (.inl ⟨rfl, rfl⟩) (.cons (.nil rfl) <| .cons (.nil rfl) <| .nil) (lv' := .agg [.r 1105, .r 1106]) (upd' := [(1105, .row 48 1 (List.map eBs ([] : List (List Bool)))), (1106, .row 48 1 (List.map eBs ([] : List (List Bool))))]) (nn' := 2) rfl rfl) rfl ?_
     refine k_op0 (d := 65) (b := 1121) (j' := 28) rfl rfl rfl rfl (g_tt rfl rfl rfl g4) (T_callV (lvs := [_, _]) (L := [(1, 81), (2, 1105), (3, 1106)]) (lcheck_spec vF [] [] vF_lf (by decide) (by decide)) body53 rfl rfl rfl rfl (.fz rfl (.lend rfl (.lend rfl (.nil)))) rfl) rfl ?_
     refine k_op0 (d := 66) (b := 1137) (j' := 29) rfl rfl rfl rfl (g_tt rfl rfl rfl g4) (T_not rfl rfl) rfl ?_
     refine q0 67 1153 30 rfl rfl (T_pick_t rfl rfl rfl g4) rfl ?_
     refine q0 68 1169 31 rfl rfl (T_move rfl rfl) rfl ?_
     refine k_split (d := 68) rfl (fun g5 => ?_) (fun g5 => ?_)
     ·have h5 := g5; (try simp only [cmpB, decide_eq_true_eq, decide_eq_false_iff_not, beq_iff_eq, beq_eq_false_iff_ne, bne_iff_ne, ne_eq, bne_eq_false_iff_eq, Bool.not_eq_true', Bool.not_eq_false', Int.not_lt, Int.not_le] at h5)
      refine k_op0 (d := 69) (b := 1185) (j' := 32) rfl rfl rfl rfl (g_tt rfl rfl rfl g5) (T_load_bA D (l := [_, _]) rfl rfl rfl rfl rfl rfl rfl) rfl ?_
      refine k_op0 (d := 70) (b := 1201) (j' := 33) rfl rfl rfl rfl (g_tt rfl rfl rfl g5) (T_load_bA D (l := [_, _]) rfl rfl rfl rfl rfl rfl rfl) rfl ?_
      refine k_op0 (d := 71) (b := 1217) (j' := 34) rfl rfl rfl rfl (g_tt rfl rfl rfl g5) (T_callV (lvs := [_, _]) (L := [(1, 465), (2, 466), (3, 561), (4, 625)]) (lsame_spec (liveL vG).1 (liveL vG).2 vI vO (by decide +kernel) (by decide +kernel) (by decide +kernel) (by decide +kernel) (by decide +kernel) (by decide +kernel)) body55 rfl rfl rfl rfl (.fz rfl (.fz rfl (.lend rfl (.lend rfl (.nil))))) rfl) rfl ?_
      refine q0 72 1233 35 rfl rfl (T_pick_t rfl rfl rfl g5) rfl ?_
      refine q0 73 1249 36 rfl rfl (T_move rfl rfl) rfl ?_
      refine k_split (d := 73) rfl (fun g6 => ?_) (fun g6 => ?_)
      ·have h6 := g6; (try simp only [cmpB, decide_eq_true_eq, decide_eq_false_iff_not, beq_iff_eq, beq_eq_false_iff_ne, bne_iff_ne, ne_eq, bne_eq_false_iff_eq, Bool.not_eq_true', Bool.not_eq_false', Int.not_lt, Int.not_le] at h6)
       refine k_op0 (d := 74) (b := 1265) (j' := 37) rfl rfl rfl rfl (g_tt rfl rfl rfl g6) (T_load_bA D (l := [_, _]) rfl rfl rfl rfl rfl rfl rfl) rfl ?_
       refine k_op0 (d := 75) (b := 1281) (j' := 38) rfl rfl rfl rfl (g_tt rfl rfl rfl g6) (T_load_bA D (l := [_, _]) rfl rfl rfl rfl rfl rfl rfl) rfl ?_
       refine k_op0 (d := 76) (b := 1297) (j' := 39) rfl rfl rfl rfl (g_tt rfl rfl rfl g6) (T_callV (lvs := [_, _]) (L := [(1, 161), (2, 162), (3, 465), (4, 466)]) (lsame_spec (liveL vF).1 (liveL vF).2 (liveL vG).1 (liveL vG).2 (by decide +kernel) (by decide +kernel) (by decide +kernel) (by decide +kernel) (by decide +kernel) (by decide +kernel)) body55 rfl rfl rfl rfl (.fz rfl (.fz rfl (.fz rfl (.fz rfl (.nil))))) rfl) rfl ?_
       refine k_op0 (d := 77) (b := 1313) (j' := 40) rfl rfl rfl rfl (g_tt rfl rfl rfl g6) (T_not rfl rfl) rfl ?_
       refine q0 78 1329 41 rfl rfl (T_pick_t rfl rfl rfl g6) rfl ?_
       refine q0 0 1345 42 rfl rfl (T_assign rfl rfl) rfl ?_
       refine k_done rfl ?_
       refine thenK_n ?_
       refine W_ret ?_
       exact .mk [] (.inr rfl) (.tmp rfl (.nil)) (by first | rfl | exact absurd g1 (by decide +kernel) | exact absurd g2 (by decide +kernel) | exact absurd g3 (by decide +kernel) | exact absurd g4 (by decide +kernel) | exact absurd g5 (by decide +kernel) | exact absurd g6 (by decide +kernel) | exact absurd g7 (by decide +kernel) | exact absurd g8 (by decide +kernel) | decide +kernel) (.nil) rfl
      ·have h6 := g6; (try simp only [cmpB, decide_eq_true_eq, decide_eq_false_iff_not, beq_iff_eq, beq_eq_false_iff_ne, bne_iff_ne, ne_eq, bne_eq_false_iff_eq, Bool.not_eq_true', Bool.not_eq_false', Int.not_lt, Int.not_le] at h6)
       refine k_no (d := 74) (j' := 37) rfl rfl rfl (g_tf rfl rfl rfl g6) ?_
       refine k_no (d := 75) (j' := 38) rfl rfl rfl (g_tf rfl rfl rfl g6) ?_
       refine k_no (d := 76) (j' := 39) rfl rfl rfl (g_tf rfl rfl rfl g6) ?_
       refine k_no (d := 77) (j' := 40) rfl rfl rfl (g_tf rfl rfl rfl g6) ?_
       refine q0 78 1329 41 rfl rfl (T_pick_f rfl rfl rfl g6) rfl ?_
       refine q0 0 1345 42 rfl rfl (T_assign rfl rfl) rfl ?_
       refine k_done rfl ?_
       refine thenK_n ?_
       refine W_ret ?_
       exact .mk [] (.inr rfl) (.tmp rfl (.nil)) (by first | rfl | exact absurd g1 (by decide +kernel) | exact absurd g2 (by decide +kernel) | exact absurd g3 (by decide +kernel) | exact absurd g4 (by decide +kernel) | exact absurd g5 (by decide +kernel) | exact absurd g6 (by decide +kernel) | exact absurd g7 (by decide +kernel) | exact absurd g8 (by decide +kernel) | decide +kernel) (.nil) rfl
     ·have h5 := g5; (try simp only [cmpB, decide_eq_true_eq, decide_eq_false_iff_not, beq_iff_eq, beq_eq_false_iff_ne, bne_iff_ne, ne_eq, bne_eq_false_iff_eq, Bool.not_eq_true', Bool.not_eq_false', Int.not_lt, Int.not_le] at h5)
      refine k_no (d := 69) (j' := 32) rfl rfl rfl (g_tf rfl rfl rfl g5) ?_
      refine k_no (d := 70) (j' := 33) rfl rfl rfl (g_tf rfl rfl rfl g5) ?_
      refine k_no (d := 71) (j' := 34) rfl rfl rfl (g_tf rfl rfl rfl g5) ?_
      refine q0 72 1233 35 rfl rfl (T_pick_f rfl rfl rfl g5) rfl ?_
      refine q0 73 1249 36 rfl rfl (T_move rfl rfl) rfl ?_
      refine k_no (d := 74) (j' := 37) rfl rfl rfl (g_tf rfl rfl rfl rfl) ?_
      refine k_no (d := 75) (j' := 38) rfl rfl rfl (g_tf rfl rfl rfl rfl) ?_
      refine k_no (d := 76) (j' := 39) rfl rfl rfl (g_tf rfl rfl rfl rfl) ?_
      refine k_no (d := 77) (j' := 40) rfl rfl rfl (g_tf rfl rfl rfl rfl) ?_
      refine q0 78 1329 41 rfl rfl (T_pick_f rfl rfl rfl rfl) rfl ?_
      refine q0 0 1345 42 rfl rfl (T_assign rfl rfl) rfl ?_
      refine k_done rfl ?_
      refine thenK_n ?_
      refine W_ret ?_
      exact .mk [] (.inr rfl) (.tmp rfl (.nil)) (by first | rfl | exact absurd g1 (by decide +kernel) | exact absurd g2 (by decide +kernel) | exact absurd g3 (by decide +kernel) | exact absurd g4 (by decide +kernel) | exact absurd g5 (by decide +kernel) | exact absurd g6 (by decide +kernel) | exact absurd g7 (by decide +kernel) | exact absurd g8 (by decide +kernel) | decide +kernel) (.nil) rfl
    ·have h4 := g4; (try simp only [cmpB, decide_eq_true_eq, decide_eq_false_iff_not, beq_iff_eq, beq_eq_false_iff_ne, bne_iff_ne, ne_eq, bne_eq_false_iff_eq, Bool.not_eq_true', Bool.not_eq_false', Int.not_lt, Int.not_le] at h4)
     refine k_no (d := 63) (j' := 26) rfl rfl rfl (g_tf rfl rfl rfl g4) ?_
     refine k_no (d := 64) (j' := 27) rfl rfl rfl (g_tf rfl rfl rfl g4) ?_
     refine k_no (d := 65) (j' := 28) rfl rfl rfl (g_tf rfl rfl rfl g4) ?_
     refine k_no (d := 66) (j' := 29) rfl rfl rfl (g_tf rfl rfl rfl g4) ?_
     refine q0 67 1153 30 rfl rfl (T_pick_f rfl rfl rfl g4) rfl ?_
     refine q0 68 1169 31 rfl rfl (T_move rfl rfl) rfl ?_
     refine k_no (d := 69) (j' := 32) rfl rfl rfl (g_tf rfl rfl rfl rfl) ?_
     refine k_no (d := 70) (j' := 33) rfl rfl rfl (g_tf rfl rfl rfl rfl) ?_
     refine k_no (d := 71) (j' := 34) rfl rfl rfl (g_tf rfl rfl rfl rfl) ?_
     refine q0 72 1233 35 rfl rfl (T_pick_f rfl rfl rfl rfl) rfl ?_
     refine q0 73 1249 36 rfl rfl (T_move rfl rfl) rfl ?_
     refine k_no (d := 74) (j' := 37) rfl rfl rfl (g_tf rfl rfl rfl rfl) ?_
     refine k_no (d := 75) (j' := 38) rfl rfl rfl (g_tf rfl rfl rfl rfl) ?_
     refine k_no (d := 76) (j' := 39) rfl rfl rfl (g_tf rfl rfl rfl rfl) ?_
     refine k_no (d := 77) (j' := 40) rfl rfl rfl (g_tf rfl rfl rfl rfl) ?_
     refine q0 78 1329 41 rfl rfl (T_pick_f rfl rfl rfl rfl) rfl ?_
     refine q0 0 1345 42 rfl rfl (T_assign rfl rfl) rfl ?_
     refine k_done rfl ?_
     refine thenK_n ?_
     refine W_ret ?_
     exact .mk [] (.inr rfl) (.tmp rfl (.nil)) (by first | rfl | exact absurd g1 (by decide +kernel) | exact absurd g2 (by decide +kernel) | exact absurd g3 (by decide +kernel) | exact absurd g4 (by decide +kernel) | exact absurd g5 (by decide +kernel) | exact absurd g6 (by decide +kernel) | exact absurd g7 (by decide +kernel) | exact absurd g8 (by decide +kernel) | decide +kernel) (.nil) rfl
   ·have h3 := g3; (try simp only [cmpB, decide_eq_true_eq, decide_eq_false_iff_not, beq_iff_eq, beq_eq_false_iff_ne, bne_iff_ne, ne_eq, bne_eq_false_iff_eq, Bool.not_eq_true', Bool.not_eq_false', Int.not_lt, Int.not_le] at h3)
    refine k_no (d := 58) (j' := 21) rfl rfl rfl (g_tf rfl rfl rfl g3) ?_
    refine k_no (d := 59) (j' := 22) rfl rfl rfl (g_tf rfl rfl rfl g3) ?_
    refine k_no (d := 60) (j' := 23) rfl rfl rfl (g_tf rfl rfl rfl g3) ?_
    refine q0 61 1057 24 rfl rfl (T_pick_f rfl rfl rfl g3) rfl ?_
    refine q0 62 1073 25 rfl rfl (T_move rfl rfl) rfl ?_
    refine k_no (d := 63) (j' := 26) rfl rfl rfl (g_tf rfl rfl rfl rfl) ?_
    refine k_no (d := 64) (j' := 27) rfl rfl rfl (g_tf rfl rfl rfl rfl) ?_
    refine k_no (d := 65) (j' := 28) rfl rfl rfl (g_tf rfl rfl rfl rfl) ?_
    refine k_no (d := 66) (j' := 29) rfl rfl rfl (g_tf rfl rfl rfl rfl) ?_
    refine q0 67 1153 30 rfl rfl (T_pick_f rfl rfl rfl rfl) rfl ?_
    refine q0 68 1169 31 rfl rfl (T_move rfl rfl) rfl ?_
    refine k_no (d := 69) (j' := 32) rfl rfl rfl (g_tf rfl rfl rfl rfl) ?_
    refine k_no (d := 70) (j' := 33) rfl rfl rfl (g_tf rfl rfl rfl rfl) ?_
    refine k_no (d := 71) (j' := 34) rfl rfl rfl (g_tf rfl rfl rfl rfl) ?_
    refine q0 72 1233 35 rfl rfl (T_pick_f rfl rfl rfl rfl) rfl ?_
    refine q0 73 1249 36 rfl rfl (T_move rfl rfl) rfl ?_
    refine k_no (d := 74) (j' := 37) rfl rfl rfl (g_tf rfl rfl rfl rfl) ?_
    refine k_no (d := 75) (j' := 38) rfl rfl rfl (g_tf rfl rfl rfl rfl) ?_
    refine k_no (d := 76) (j' := 39) rfl rfl rfl (g_tf rfl rfl rfl rfl) ?_
    refine k_no (d := 77) (j' := 40) rfl rfl rfl (g_tf rfl rfl rfl rfl) ?_
    refine q0 78 1329 41 rfl rfl (T_pick_f rfl rfl rfl rfl) rfl ?_
    refine q0 0 1345 42 rfl rfl (T_assign rfl rfl) rfl ?_
    refine k_done rfl ?_
    refine thenK_n ?_
    refine W_ret ?_
    exact .mk [] (.inr rfl) (.tmp rfl (.nil)) (by first | rfl | exact absurd g1 (by decide +kernel) | exact absurd g2 (by decide +kernel) | exact absurd g3 (by decide +kernel) | exact absurd g4 (by decide +kernel) | exact absurd g5 (by decide +kernel) | exact absurd g6 (by decide +kernel) | exact absurd g7 (by decide +kernel) | exact absurd g8 (by decide +kernel) | decide +kernel) (.nil) rfl
  ·have h2 := g2; (try simp only [cmpB, decide_eq_true_eq, decide_eq_false_iff_not, beq_iff_eq, beq_eq_false_iff_ne, bne_iff_ne, ne_eq, bne_eq_false_iff_eq, Bool.not_eq_true', Bool.not_eq_false', Int.not_lt, Int.not_le] at h2)
   refine k_no (d := 53) (j' := 16) rfl rfl rfl (g_tf rfl rfl rfl g2) ?_
   refine k_no (d := 54) (j' := 17) rfl rfl rfl (g_tf rfl rfl rfl g2) ?_
   refine k_no (d := 55) (j' := 18) rfl rfl rfl (g_tf rfl rfl rfl g2) ?_
   refine q0 56 977 19 rfl rfl (T_pick_f rfl rfl rfl g2) rfl ?_
   refine q0 57 993 20 rfl rfl (T_move rfl rfl) rfl ?_
   refine k_no (d := 58) (j' := 21) rfl rfl rfl (g_tf rfl rfl rfl rfl) ?_
   refine k_no (d := 59) (j' := 22) rfl rfl rfl (g_tf rfl rfl rfl rfl) ?_
   refine k_no (d := 60) (j' := 23) rfl rfl rfl (g_tf rfl rfl rfl rfl) ?_
   refine q0 61 1057 24 rfl rfl (T_pick_f rfl rfl rfl rfl) rfl ?_
   refine q0 62 1073 25 rfl rfl (T_move rfl rfl) rfl ?_
   refine k_no (d := 63) (j' := 26) rfl rfl rfl (g_tf rfl rfl rfl rfl) ?_
   refine k_no (d := 64) (j' := 27) rfl rfl rfl (g_tf rfl rfl rfl rfl) ?_
   refine k_no (d := 65) (j' := 28) rfl rfl rfl (g_tf rfl rfl rfl rfl) ?_
   refine k_no (d := 66) (j' := 29) rfl rfl rfl (g_tf rfl rfl rfl rfl) ?_
   refine q0 67 1153 30 rfl rfl (T_pick_f rfl rfl rfl rfl) rfl ?_
   refine q0 68 1169 31 rfl rfl (T_move rfl rfl) rfl ?_
   refine k_no (d := 69) (j' := 32) rfl rfl rfl (g_tf rfl rfl rfl rfl) ?_
   refine k_no (d := 70) (j' := 33) rfl rfl rfl (g_tf rfl rfl rfl rfl) ?_
   refine k_no (d := 71) (j' := 34) rfl rfl rfl (g_tf rfl rfl rfl rfl) ?_
   refine q0 72 1233 35 rfl rfl (T_pick_f rfl rfl rfl rfl) rfl ?_
   refine q0 73 1249 36 rfl rfl (T_move rfl rfl) rfl ?_
   refine k_no (d := 74) (j' := 37) rfl rfl rfl (g_tf rfl rfl rfl rfl) ?_
   refine k_no (d := 75) (j' := 38) rfl rfl rfl (g_tf rfl rfl rfl rfl) ?_
   refine k_no (d := 76) (j' := 39) rfl rfl rfl (g_tf rfl rfl rfl rfl) ?_
   refine k_no (d := 77) (j' := 40) rfl rfl rfl (g_tf rfl rfl rfl rfl) ?_
   refine q0 78 1329 41 rfl rfl (T_pick_f rfl rfl rfl rfl) rfl ?_
   refine q0 0 1345 42 rfl rfl (T_assign rfl rfl) rfl ?_
   refine k_done rfl ?_
   refine thenK_n ?_
   refine W_ret ?_
   exact .mk [] (.inr rfl) (.tmp rfl (.nil)) (by first | rfl | exact absurd g1 (by decide +kernel) | exact absurd g2 (by decide +kernel) | exact absurd g3 (by decide +kernel) | exact absurd g4 (by decide +kernel) | exact absurd g5 (by decide +kernel) | exact absurd g6 (by decide +kernel) | exact absurd g7 (by decide +kernel) | exact absurd g8 (by decide +kernel) | decide +kernel) (.nil) rfl
 ·have h1 := g1; (try simp only [cmpB, decide_eq_true_eq, decide_eq_false_iff_not, beq_iff_eq, beq_eq_false_iff_ne, bne_iff_ne, ne_eq, bne_eq_false_iff_eq, Bool.not_eq_true', Bool.not_eq_false', Int.not_lt, Int.not_le] at h1)
  refine k_no (d := 46) (j' := 9) rfl rfl rfl (g_tf rfl rfl rfl g1) ?_
  refine k_no (d := 47) (j' := 10) rfl rfl rfl (g_tf rfl rfl rfl g1) ?_
  refine k_no (d := 48) (j' := 11) rfl rfl rfl (g_tf rfl rfl rfl g1) ?_
  refine k_no (d := 49) (j' := 12) rfl rfl rfl (g_tf rfl rfl rfl g1) ?_
  refine k_no (d := 50) (j' := 13) rfl rfl rfl (g_tf rfl rfl rfl g1) ?_
  refine q0 51 897 14 rfl rfl (T_pick_f rfl rfl rfl g1) rfl ?_
  refine q0 52 913 15 rfl rfl (T_move rfl rfl) rfl ?_
  refine k_no (d := 53) (j' := 16) rfl rfl rfl (g_tf rfl rfl rfl rfl) ?_
  refine k_no (d := 54) (j' := 17) rfl rfl rfl (g_tf rfl rfl rfl rfl) ?_
  refine k_no (d := 55) (j' := 18) rfl rfl rfl (g_tf rfl rfl rfl rfl) ?_
  refine q0 56 977 19 rfl rfl (T_pick_f rfl rfl rfl rfl) rfl ?_
  refine q0 57 993 20 rfl rfl (T_move rfl rfl) rfl ?_
  refine k_no (d := 58) (j' := 21) rfl rfl rfl (g_tf rfl rfl rfl rfl) ?_
  refine k_no (d := 59) (j' := 22) rfl rfl rfl (g_tf rfl rfl rfl rfl) ?_
  refine k_no (d := 60) (j' := 23) rfl rfl rfl (g_tf rfl rfl rfl rfl) ?_
  refine q0 61 1057 24 rfl rfl (T_pick_f rfl rfl rfl rfl) rfl ?_
  refine q0 62 1073 25 rfl rfl (T_move rfl rfl) rfl ?_
  refine k_no (d := 63) (j' := 26) rfl rfl rfl (g_tf rfl rfl rfl rfl) ?_
  refine k_no (d := 64) (j' := 27) rfl rfl rfl (g_tf rfl rfl rfl rfl) ?_
  refine k_no (d := 65) (j' := 28) rfl rfl rfl (g_tf rfl rfl rfl rfl) ?_
  refine k_no (d := 66) (j' := 29) rfl rfl rfl (g_tf rfl rfl rfl rfl) ?_
  refine q0 67 1153 30 rfl rfl (T_pick_f rfl rfl rfl rfl) rfl ?_
  refine q0 68 1169 31 rfl rfl (T_move rfl rfl) rfl ?_
  refine k_no (d := 69) (j' := 32) rfl rfl rfl (g_tf rfl rfl rfl rfl) ?_
  refine k_no (d := 70) (j' := 33) rfl rfl rfl (g_tf rfl rfl rfl rfl) ?_
  refine k_no (d := 71) (j' := 34) rfl rfl rfl (g_tf rfl rfl rfl rfl) ?_
  refine q0 72 1233 35 rfl rfl (T_pick_f rfl rfl rfl rfl) rfl ?_
  refine q0 73 1249 36 rfl rfl (T_move rfl rfl) rfl ?_
  refine k_no (d := 74) (j' := 37) rfl rfl rfl (g_tf rfl rfl rfl rfl) ?_
  refine k_no (d := 75) (j' := 38) rfl rfl rfl (g_tf rfl rfl rfl rfl) ?_
  refine k_no (d := 76) (j' := 39) rfl rfl rfl (g_tf rfl rfl rfl rfl) ?_
  refine k_no (d := 77) (j' := 40) rfl rfl rfl (g_tf rfl rfl rfl rfl) ?_
  refine q0 78 1329 41 rfl rfl (T_pick_f rfl rfl rfl rfl) rfl ?_
  refine q0 0 1345 42 rfl rfl (T_assign rfl rfl) rfl ?_
  refine k_done rfl ?_
  refine thenK_n ?_
  refine W_ret ?_
  exact .mk [] (.inr rfl) (.tmp rfl (.nil)) (by first | rfl | exact absurd g1 (by decide +kernel) | exact absurd g2 (by decide +kernel) | exact absurd g3 (by decide +kernel) | exact absurd g4 (by decide +kernel) | exact absurd g5 (by decide +kernel) | exact absurd g6 (by decide +kernel) | exact absurd g7 (by decide +kernel) | exact absurd g8 (by decide +kernel) | decide +kernel) (.nil) rfl
theorem body54 : (Try.prog.funcs[54]?).map (fun fn => (fn.name == "runtime.NumGoroutine" || fn.body.isNone)) = some false := by kernel_rfl
theorem great_spec (li lo : List (List Bool)) : Spec Try.prog 54 [.agg [.r 1, .r 2]] 3 [(1, .fz 1 (li.map eBs)), (2, .fz 1 (lo.map eBs))] (.v (.bool (greatL li lo))) 3 [] := by
 refine spec_of D (fn := Try.f54) rfl rfl (Nat.le_of_ble_eq_true rfl) ?_
 refine W_seq ?_
 refine W_seqK (b' := 35) rfl rfl ?_
 refine q1 1 3 1 rfl rfl (T_box rfl rfl flat_agg) rfl ?_
 refine q0 2 19 2 rfl rfl (T_assign rfl rfl) rfl ?_
 refine k_done rfl ?_
 refine thenK_n ?_
 refine W_seq ?_
 refine W_seq ?_
 refine W_seqK (b' := 195) rfl rfl ?_
 refine q0 5 35 1 rfl rfl (T_fa D (m := 0) rfl rfl rfl rfl rfl rfl) rfl ?_
 refine q0 6 51 2 rfl rfl (T_load_b D rfl rfl rfl rfl rfl rfl) rfl ?_
 refine q0 7 67 3 rfl rfl (T_len D rfl rfl rfl rfl rfl rfl) rfl ?_
 refine q0 8 83 4 rfl rfl (T_cmp rfl rfl rfl rfl) rfl ?_
 refine q0 9 99 5 rfl rfl (T_move rfl rfl) rfl ?_
 refine k_split (d := 9) rfl (fun g1 => ?_) (fun g1 => ?_)
 ·have h1 := c_gtr_t g1
  refine k_no (d := 10) (j' := 6) rfl rfl rfl (g_ft rfl rfl rfl g1) ?_
  refine k_no (d := 11) (j' := 7) rfl rfl rfl (g_ft rfl rfl rfl g1) ?_
  refine k_no (d := 12) (j' := 8) rfl rfl rfl (g_ft rfl rfl rfl g1) ?_
  refine k_no (d := 13) (j' := 9) rfl rfl rfl (g_ft rfl rfl rfl g1) ?_
  refine q0 14 179 10 rfl rfl (T_pick_t rfl rfl rfl g1) rfl ?_
  refine k_done rfl ?_
  refine thenK_n ?_
  refine W_cond rfl (fun g2 => ?_) (fun g2 => ?_)
  ·skip
   refine W_seq ?_
   refine W_seqK (b' := 211) rfl rfl ?_
   refine q0 2 195 1 rfl rfl (T_assign rfl rfl) rfl ?_
   refine k_done rfl ?_
   refine thenK_n ?_
   refine W_ret ?_
   refine thenK_r ?_
   exact .mk [] (.inr rfl) (.tmp rfl (.nil)) (by simp only [resLV, LV.ren, LV.v.injEq, Value.bool.injEq]; exact great_t1 (by omega)) (.nil) rfl
  ·exact absurd (g2.symm.trans rfl) (by decide)
 ·have h1 := c_gtr_f g1
  refine k_op0 (d := 10) (b := 115) (j' := 6) rfl rfl rfl rfl (g_ff rfl rfl rfl g1) (T_fa D (m := 1) rfl rfl rfl rfl rfl rfl) rfl ?_
  refine k_op0 (d := 11) (b := 131) (j' := 7) rfl rfl rfl rfl (g_ff rfl rfl rfl g1) (T_load_b D rfl rfl rfl rfl rfl rfl) rfl ?_
  refine k_op0 (d := 12) (b := 147) (j' := 8) rfl rfl rfl rfl (g_ff rfl rfl rfl g1) (T_len D rfl rfl rfl rfl rfl rfl) rfl ?_
  refine k_op0 (d := 13) (b := 163) (j' := 9) rfl rfl rfl rfl (g_ff rfl rfl rfl g1) (T_cmp rfl rfl rfl rfl) rfl ?_
  refine q0 14 179 10 rfl rfl (T_pick_f rfl rfl rfl g1) rfl ?_
  refine k_done rfl ?_
  refine thenK_n ?_
  refine W_cond rfl (fun g3 => ?_) (fun g3 => ?_)
  ·have h3 := c_gtr_t g3
   refine W_seq ?_
   refine W_seqK (b' := 211) rfl rfl ?_
   refine q0 2 195 1 rfl rfl (T_assign rfl rfl) rfl ?_
   refine k_done rfl ?_
   refine thenK_n ?_
   refine W_ret ?_
   refine thenK_r ?_
   exact .mk [] (.inr rfl) (.tmp rfl (.nil)) (by simp only [resLV, LV.ren, LV.v.injEq, Value.bool.injEq]; exact great_t2 (by omega)) (.nil) rfl
  ·have h3 := c_gtr_f g3
   refine W_skip ?_
   refine thenK_n ?_
   refine W_seq ?_
   refine W_seq ?_
   refine W_seqK (b' := 211) rfl rfl ?_
   refine q0 3 195 1 rfl rfl (T_assign rfl rfl) rfl ?_
   refine k_done rfl ?_
   refine thenK_n ?_
   refine W_block ?_
   refine W_loop (ι := Nat) 4 (fun j => ⟨[(1, .p 3 0), (3, .v (.int .i64 (j : Int)))], [(1, .fz 1 (li.map eBs)), (2, .fz 1 (lo.map eBs)), (3, .box 57 [.r 1, .r 2])]⟩) (fun j => j ≤ li.length ∧ ∀ i, i < j → ((li.getD i default).length : Int) ≤ 60) (fun j => li.length - j) (0) (by exact ⟨Nat.zero_le _, fun i h => absurd h (Nat.not_lt_zero _)⟩) ?_ (fun j hJ => ?_)
   ·exact ⟨[(3, 3)], .same rfl rfl (.eq rfl (.nil) (by first | rfl | simp)), .fzE rfl (.fzE rfl (.box (by first | rfl | simp) (.nil)) (by first | rfl | simp)) (by first | rfl | simp), rfl⟩
   refine W_seq ?_
   refine W_seq ?_
   refine W_seqK (b' := 84) rfl rfl ?_
   refine q0 15 4 1 rfl rfl (T_move rfl rfl) rfl ?_
   refine q0 16 20 2 rfl rfl (T_fa D (m := 0) rfl rfl rfl rfl rfl rfl) rfl ?_
   refine q0 17 36 3 rfl rfl (T_load_b D rfl rfl rfl rfl rfl rfl) rfl ?_
   refine q0 18 52 4 rfl rfl (T_len D rfl rfl rfl rfl rfl rfl) rfl ?_
   refine q0 19 68 5 rfl rfl (T_cmp rfl rfl rfl rfl) rfl ?_
   refine k_done rfl ?_
   refine thenK_n ?_
   refine W_cond rfl (fun g4 => ?_) (fun g4 => ?_)
   ·have h4 := c_lss_t g4
    refine W_skip ?_
    refine thenK_n ?_
    refine W_seq ?_
    refine W_block ?_
    refine W_seq ?_
    refine W_seqK (b' := 196) rfl rfl ?_
    refine q0 22 84 1 rfl rfl (T_fa D (m := 0) rfl rfl rfl rfl rfl rfl) rfl ?_
    refine q0 23 100 2 rfl rfl (T_load_b D rfl rfl rfl rfl rfl rfl) rfl ?_
    refine q0 24 116 3 rfl rfl (T_move rfl rfl) rfl ?_
    first | refine q0 25 132 4 rfl rfl (T_indexAddr D rfl rfl rfl rfl rfl rfl rfl rfl (by first | assumption | omega | (simp; omega))) rfl ?_ | refine q0 25 132 4 rfl rfl (T_indexAddrZ D rfl rfl rfl rfl rfl rfl rfl rfl (by first | assumption | omega | (simp; omega)) (by first | assumption | omega | (simp; omega))) rfl ?_
    refine q1 26 148 5 rfl rfl (T_ldE D (lv := .r 148) (nn := 1) (upd := [(148, .fz 1 _)]) rfl rfl rfl rfl rfl (by first | assumption | omega | (simp; omega)) rfl rfl rfl rfl) rfl ?_
    refine q0 27 164 6 rfl rfl (T_len D rfl rfl rfl rfl rfl rfl) rfl ?_
    refine q0 28 180 7 rfl rfl (T_cmp rfl rfl rfl rfl) rfl ?_
    refine k_done rfl ?_
    refine thenK_n ?_
    refine W_cond rfl (fun g5 => ?_) (fun g5 => ?_)
    ·have h5 := c_gtr_t g5
     refine W_seq ?_
     refine W_seqK (b' := 212) rfl rfl ?_
     refine q0 2 196 1 rfl rfl (T_assign rfl rfl) rfl ?_
     refine k_done rfl ?_
     refine thenK_n ?_
     refine W_ret ?_
     refine blockK_r ?_
     refine thenK_r ?_
     refine thenK_r ?_
     refine blockK_r ?_
     refine thenK_r ?_
     exact .mk [] (.inr rfl) (.tmp rfl (.nil)) (by simp only [resLV, LV.ren, LV.v.injEq, Value.bool.injEq]; exact great_t3 (i := j) (by omega) (by omega)) (.nil) rfl
    ·have h5 := c_gtr_f g5
     refine W_skip ?_
     refine blockK_n ?_
     refine thenK_n ?_
     refine W_seqK (b' := 244) rfl rfl ?_
     refine q0 20 196 1 rfl rfl (T_move rfl rfl) rfl ?_
     refine q0 21 212 2 rfl rfl (T_add64 rfl rfl rfl (by first | assumption | omega | (simp; omega))) rfl ?_
     refine q0 3 228 3 rfl rfl (T_assign rfl rfl) rfl ?_
     refine k_done rfl ?_
     refine thenK_n ?_
     refine ⟨j + 1, by (try dsimp only); exact ⟨by omega, fun i hi => by rcases Nat.lt_or_ge i j with h | h; exact hJ.2 i h; rw [show i = j by omega]; omega⟩, by (try dsimp only); omega, ?_⟩
     exact ⟨[(3, 3)], .same rfl rfl (.eq rfl (.nil) (by first | rfl | simp)), .fzE rfl (.fzE rfl (.box (by first | rfl | simp) (.nil)) rfl) rfl, rfl⟩
   ·have h4 := c_lss_f g4
    refine W_exit ?_
    refine thenK_e ?_
    refine thenK_e ?_
    refine blockK_hit ?_
    refine thenK_n ?_
    refine W_seq ?_
    refine W_seq ?_
    refine W_seqK (b' := 100) rfl rfl ?_
    refine q0 4 84 1 rfl rfl (T_assign rfl rfl) rfl ?_
    refine k_done rfl ?_
    refine thenK_n ?_
    refine W_block ?_
    refine W_loop (ι := Nat) 4 (fun k => ⟨[(1, .p 3 0), (4, .v (.int .i64 (k : Int)))], [(1, .fz 1 (li.map eBs)), (2, .fz 1 (lo.map eBs)), (3, .box 57 [.r 1, .r 2])]⟩) (fun k => k ≤ lo.length ∧ ∀ i, i < k → ((lo.getD i default).length : Int) ≤ 60) (fun k => lo.length - k) (0) (by exact ⟨Nat.zero_le _, fun i h => absurd h (Nat.not_lt_zero _)⟩) ?_ (fun k hK => ?_)
    ·exact ⟨[(3, 3)], .same rfl rfl (.eq rfl (.nil) (by first | rfl | simp)), .fzE rfl (.fzE rfl (.box (by first | rfl | simp) (.nil)) (by first | rfl | simp)) (by first | rfl | simp), rfl⟩
    refine W_seq ?_
    refine W_seq ?_
    refine W_seqK (b' := 84) rfl rfl ?_
    refine q0 29 4 1 rfl rfl (T_move rfl rfl) rfl ?_
    refine q0 30 20 2 rfl rfl (T_fa D (m := 1) rfl rfl rfl rfl rfl rfl) rfl ?_
    refine q0 31 36 3 rfl rfl (T_load_b D rfl rfl rfl rfl rfl rfl) rfl ?_
    refine q0 32 52 4 rfl rfl (T_len D rfl rfl rfl rfl rfl rfl) rfl ?_
    refine q0 33 68 5 rfl rfl (T_cmp rfl rfl rfl rfl) rfl ?_
    refine k_done rfl ?_
    refine thenK_n ?_
    refine W_cond rfl (fun g6 => ?_) (fun g6 => ?_)
    ·have h6 := c_lss_t g6
     refine W_skip ?_
     refine thenK_n ?_
     refine W_seq ?_
     refine W_block ?_
     refine W_seq ?_
     refine W_seqK (b' := 196) rfl rfl ?_
     refine q0 36 84 1 rfl rfl (T_fa D (m := 1) rfl rfl rfl rfl rfl rfl) rfl ?_
     refine q0 37 100 2 rfl rfl (T_load_b D rfl rfl rfl rfl rfl rfl) rfl ?_
     refine q0 38 116 3 rfl rfl (T_move rfl rfl) rfl ?_
     first | refine q0 39 132 4 rfl rfl (T_indexAddr D rfl rfl rfl rfl rfl rfl rfl rfl (by first | assumption | omega | (simp; omega))) rfl ?_ | refine q0 39 132 4 rfl rfl (T_indexAddrZ D rfl rfl rfl rfl rfl rfl rfl rfl (by first | assumption | omega | (simp; omega)) (by first | assumption | omega | (simp; omega))) rfl ?_
     refine q1 40 148 5 rfl rfl (T_ldE D (lv := .r 148) (nn := 1) (upd := [(148, .fz 1 _)]) rfl rfl rfl rfl rfl (by first | assumption | omega | (simp; omega)) rfl rfl rfl rfl) rfl ?_
     refine q0 41 164 6 rfl rfl (T_len D rfl rfl rfl rfl rfl rfl) rfl ?_
     refine q0 42 180 7 rfl rfl (T_cmp rfl rfl rfl rfl) rfl ?_
     refine k_done rfl ?_
     refine thenK_n ?_
     refine W_cond rfl (fun g7 => ?_) (fun g7 => ?_)
     ·have h7 := c_gtr_t g7
      refine W_seq ?_
      refine W_seqK (b' := 212) rfl rfl ?_
      refine q0 2 196 1 rfl rfl (T_assign rfl rfl) rfl ?_
      refine k_done rfl ?_
      refine thenK_n ?_
      refine W_ret ?_
      refine blockK_r ?_
      refine thenK_r ?_
      refine thenK_r ?_
      refine blockK_r ?_
      refine thenK_r ?_
      exact .mk [] (.inr rfl) (.tmp rfl (.nil)) (by simp only [resLV, LV.ren, LV.v.injEq, Value.bool.injEq]; exact great_t4 (i := k) (by omega) (by omega)) (.nil) rfl
     ·have h7 := c_gtr_f g7
      refine W_skip ?_
      refine blockK_n ?_
      refine thenK_n ?_
      refine W_seqK (b' := 244) rfl rfl ?_
      refine q0 34 196 1 rfl rfl (T_move rfl rfl) rfl ?_
      refine q0 35 212 2 rfl rfl (T_add64 rfl rfl rfl (by first | assumption | omega | (simp; omega))) rfl ?_
      refine q0 4 228 3 rfl rfl (T_assign rfl rfl) rfl ?_
      refine k_done rfl ?_
      refine thenK_n ?_
      refine ⟨k + 1, by (try dsimp only); exact ⟨by omega, fun i hi => by rcases Nat.lt_or_ge i k with h | h; exact hK.2 i h; rw [show i = k by omega]; omega⟩, by (try dsimp only); omega, ?_⟩
      exact ⟨[(3, 3)], .same rfl rfl (.eq rfl (.nil) (by first | rfl | simp)), .fzE rfl (.fzE rfl (.box (by first | rfl | simp) (.nil)) rfl) rfl, rfl⟩
    ·have h6 := c_lss_f g6
     refine W_exit ?_
     refine thenK_e ?_
     refine thenK_e ?_
     refine blockK_hit ?_
     refine thenK_n ?_
     refine W_seq ?_
     refine W_seqK (b' := 100) rfl rfl ?_
     refine q0 2 84 1 rfl rfl (T_assign rfl rfl) rfl ?_
     refine k_done rfl ?_
     refine thenK_n ?_
     refine W_ret ?_
     exact .mk [] (.inr rfl) (.tmp rfl (.nil)) (by simp only [resLV, LV.ren, LV.v.injEq, Value.bool.injEq]; exact great_f (by omega) (by omega) (fun i h => hJ.2 i (by omega)) (fun i h => hK.2 i (by omega))) (.nil) rfl
theorem body61 : (Try.prog.funcs[61]?).map (fun fn => (fn.name == "runtime.NumGoroutine" || fn.body.isNone)) = some false := by kernel_rfl
theorem both_spec (a b : List (List Bool)) (e : Bool) (ha : a.length ≤ 1000000000) (hl : ∀ s ∈ a, s.length ≤ 1000000) (hab : b.length = a.length) (heq : ∀ k, k < a.length → (b.getD k default).length = (a.getD k default).length) : Spec Try.prog 61 [.r 1, .r 2, .v (.bool e)] 3 [(1, .fz 1 (a.map eBs)), (2, .fz 1 (b.map eBs))] (.r 3) 4 [(3, .fz 1 ((bothL a b e).map eBs))] := by
 refine spec_of D (fn := Try.f61) rfl rfl (Nat.le_of_ble_eq_true rfl) ?_
 refine W_seq ?_
 refine W_seqK (b' := 19) rfl rfl ?_
 refine q1 6 3 1 rfl rfl (T_nils [(48, 1)] (T_assign rfl rfl) rfl (.inr ⟨rfl, rfl⟩) (.cons (.nil rfl) .nil) (lv' := .r 3) (upd' := [(3, .row 48 1 (List.map eBs ([] : List (List Bool))))]) (nn' := 1) rfl rfl) rfl ?_
 refine k_done rfl ?_
 refine thenK_n ?_
 refine W_seq ?_
 refine W_seqC (b' := 35) rfl rfl ?_
 refine q1 7 19 1 rfl rfl (T_nils [(48, 1)] (T_assign rfl rfl) rfl (.inr ⟨rfl, rfl⟩) (.cons (.nil rfl) .nil) (lv' := .r 19) (upd' := [(19, .row 48 1 (List.map eBs ([] : List (List Bool))))]) (nn' := 1) rfl rfl) rfl ?_
 refine k_done rfl ?_
 refine ⟨_, .nil (i := 19) (α := Bool) (enc := eB) (e2 := 4) (sz2 := 1) rfl (by simp) (.refl), ?_⟩
 refine thenK_n ?_
 refine W_seq ?_
 refine W_seq ?_
 refine W_seqK (b' := 51) rfl rfl ?_
 refine q0 8 35 1 rfl rfl (T_assign rfl rfl) rfl ?_
 refine k_done rfl ?_
 refine thenK_n ?_
 refine W_block ?_
 refine W_loop (ι := Nat) 4 (fun j => ⟨[(0, .r 1), (1, .r 2), (2, .v (.bool e)), (7, .r 3), (8, .v (.int .i64 (j : Int)))], [(1, .fz 1 (a.map eBs)), (2, .fz 1 (b.map eBs)), (3, .nest 48 4 1 (((bothL a b e).take j).map (List.map eB)) none)]⟩) (fun j => j ≤ a.length) (fun j => a.length - j) (0) (by exact Nat.zero_le _) ?_ (fun j hJ => ?_)
 ·exact ⟨[(3, 19)], .same rfl rfl (.same rfl rfl (.eq rfl (.same rfl rfl (.eq rfl (.nil) (by first | rfl | simp))) (by first | rfl | simp))), .fzE rfl (.fzE rfl (.nestE rfl (.nil) (by first | rfl | simp)) (by first | rfl | simp)) (by first | rfl | simp), rfl⟩
 have hq := fun h : j < a.length => heq j h
 have hq2 := fun h : j < a.length => hl _ (getD_mem h)
 refine W_seq ?_
 refine W_seq ?_
 refine W_seqK (b' := 68) rfl rfl ?_
 refine q0 11 4 1 rfl rfl (T_move rfl rfl) rfl ?_
 refine q0 12 20 2 rfl rfl (T_move rfl rfl) rfl ?_
 refine q0 13 36 3 rfl rfl (T_len D rfl rfl rfl rfl rfl rfl) rfl ?_
 refine q0 14 52 4 rfl rfl (T_cmp rfl rfl rfl rfl) rfl ?_
 refine k_done rfl ?_
 refine thenK_n ?_
 refine W_cond rfl (fun g1 => ?_) (fun g1 => ?_)
 ·have h1 := c_lss_t g1
  refine W_skip ?_
  refine thenK_n ?_
  refine W_seq ?_
  refine W_block ?_
  refine W_seq ?_
  refine W_seqK (b' := 180) rfl rfl ?_
  refine q0 17 68 1 rfl rfl (T_move rfl rfl) rfl ?_
  refine q0 18 84 2 rfl rfl (T_move rfl rfl) rfl ?_
  first | refine q0 19 100 3 rfl rfl (T_indexAddr D rfl rfl rfl rfl rfl rfl rfl rfl (by first | assumption | omega | (simp; omega))) rfl ?_ | refine q0 19 100 3 rfl rfl (T_indexAddrZ D rfl rfl rfl rfl rfl rfl rfl rfl (by first | assumption | omega | (simp; omega)) (by first | assumption | omega | (simp; omega))) rfl ?_
  refine q1 20 116 4 rfl rfl (T_ldE D (lv := .r 116) (nn := 1) (upd := [(116, .fz 1 _)]) rfl rfl rfl rfl rfl (by first | assumption | omega | (simp; omega)) rfl rfl rfl rfl) rfl ?_
  refine q0 21 132 5 rfl rfl (T_len D rfl rfl rfl rfl rfl rfl) rfl ?_
  refine q1 22 148 6 rfl rfl (T_makeZ (x := .tmp 21) (y := .tmp 21) (m := (a.getD j default).length) (by rfl) rfl rfl (fun k1 k2 => T_make D (zx := false) (enc := eB) rfl k1 k2 rfl rfl rfl rfl (.v rfl (.nil)) rfl (by (try simp only [ty4]); first | assumption | omega | (simp; omega)) (by (try simp only [ty4]); first | assumption | omega | (simp; omega)))) rfl ?_
  refine q0 9 164 7 rfl rfl (T_assign rfl rfl) rfl ?_
  refine k_done rfl ?_
  refine thenK_n ?_
  refine W_seq ?_
  refine W_seq ?_
  refine W_seqK (b' := 196) rfl rfl ?_
  refine q0 10 180 1 rfl rfl (T_assign rfl rfl) rfl ?_
  refine k_done rfl ?_
  refine thenK_n ?_
  refine W_block ?_
  have hq3 := hq2 (by omega)
  have hq4 := hq (by omega)
  refine W_loop (ι := Nat) 5 (fun r => ⟨[(0, .r 1), (1, .r 2), (2, .v (.bool e)), (7, .r 3), (8, .v (.int .i64 (j : Int))), (9, .r 4), (10, .v (.int .i64 (r : Int)))], [(1, .fz 1 (a.map eBs)), (2, .fz 1 (b.map eBs)), (3, .nest 48 4 1 (((bothL a b e).take j).map (List.map eB)) none), (4, .row 4 1 ((fillR (fun i => mixB ((a.getD j default).getD i default) ((b.getD j default).getD i default) e) (a.getD j default).length r).map eB))]⟩) (fun r => r ≤ (a.getD j default).length) (fun r => (a.getD j default).length - r) (0) (by exact Nat.zero_le _) ?_ (fun r hR => ?_)
  ·exact ⟨[(3, 3), (4, 148)], .same rfl rfl (.same rfl rfl (.eq rfl (.same rfl rfl (.eq rfl (.same rfl rfl (.eq rfl (.nil) (by first | rfl | (rw [← fillR_zero]; first | done | rfl)))) (by first | rfl | (rw [← fillR_zero]; first | done | rfl)))) (by first | rfl | (rw [← fillR_zero]; first | done | rfl)))), .fzE rfl (.fzE rfl (.nestE rfl (.rowE rfl (.nil) (by first | rfl | (rw [← fillR_zero]; first | done | rfl))) (by first | rfl | (rw [← fillR_zero]; first | done | rfl))) (by first | rfl | (rw [← fillR_zero]; first | done | rfl))) (by first | rfl | (rw [← fillR_zero]; first | done | rfl)), rfl⟩
  have hfl := fillR_len (fun i => mixB ((a.getD j default).getD i default) ((b.getD j default).getD i default) e) (a.getD j default).length r
  refine W_seq ?_
  refine W_seq ?_
  refine W_seqK (b' := 69) rfl rfl ?_
  refine q0 23 5 1 rfl rfl (T_move rfl rfl) rfl ?_
  refine q0 24 21 2 rfl rfl (T_move rfl rfl) rfl ?_
  refine q0 25 37 3 rfl rfl (T_len D rfl rfl rfl rfl rfl rfl) rfl ?_
  refine q0 26 53 4 rfl rfl (T_cmp rfl rfl rfl rfl) rfl ?_
  refine k_done rfl ?_
  refine thenK_n ?_
  refine W_cond rfl (fun g2 => ?_) (fun g2 => ?_)
  ·have h2 := c_lss_t g2
   refine W_skip ?_
   refine thenK_n ?_
   refine W_seq ?_
   refine W_block ?_
   refine W_seqK (b' := 725) rfl rfl ?_
   refine q0 29 69 1 rfl rfl (T_move rfl rfl) rfl ?_
   refine q0 30 85 2 rfl rfl (T_move rfl rfl) rfl ?_
   refine q0 31 101 3 rfl rfl (T_move rfl rfl) rfl ?_
   refine q0 32 117 4 rfl rfl (T_move rfl rfl) rfl ?_
   first | refine q0 33 133 5 rfl rfl (T_indexAddr D rfl rfl rfl rfl rfl rfl rfl rfl (by first | assumption | omega | (simp; omega))) rfl ?_ | refine q0 33 133 5 rfl rfl (T_indexAddrZ D rfl rfl rfl rfl rfl rfl rfl rfl (by first | assumption | omega | (simp; omega)) (by first | assumption | omega | (simp; omega))) rfl ?_
   refine q1 34 149 6 rfl rfl (T_ldE D (lv := .r 149) (nn := 1) (upd := [(149, .fz 1 _)]) rfl rfl rfl rfl rfl (by first | assumption | omega | (simp; omega)) rfl rfl rfl rfl) rfl ?_
   refine q0 35 165 7 rfl rfl (T_move rfl rfl) rfl ?_
   first | refine q0 36 181 8 rfl rfl (T_indexAddr D rfl rfl rfl rfl rfl rfl rfl rfl (by first | assumption | omega | (simp; omega))) rfl ?_ | refine q0 36 181 8 rfl rfl (T_indexAddrZ D rfl rfl rfl rfl rfl rfl rfl rfl (by first | assumption | omega | (simp; omega)) (by first | assumption | omega | (simp; omega))) rfl ?_
   refine q0 37 197 9 rfl rfl (T_ldE D (lv := .v _) (nn := 0) (upd := []) rfl rfl rfl rfl rfl (by first | assumption | omega | (simp; omega)) rfl rfl rfl rfl) rfl ?_
   refine q0 38 213 10 rfl rfl (T_move rfl rfl) rfl ?_
   refine k_split (d := 38) rfl (fun g3 => ?_) (fun g3 => ?_)
   ·have h3 := g3; (try simp only [cmpB, decide_eq_true_eq, decide_eq_false_iff_not, beq_iff_eq, beq_eq_false_iff_ne, bne_iff_ne, ne_eq, bne_eq_false_iff_eq, Bool.not_eq_true', Bool.not_eq_false', Int.not_lt, Int.not_le] at h3)
    refine k_op0 (d := 39) (b := 229) (j' := 11) rfl rfl rfl rfl (g_tt rfl rfl rfl g3) (T_move rfl rfl) rfl ?_
    refine k_op0 (d := 40) (b := 245) (j' := 12) rfl rfl rfl rfl (g_tt rfl rfl rfl g3) (T_move rfl rfl) rfl ?_
    first | refine k_op0 (d := 41) (b := 261) (j' := 13) rfl rfl rfl rfl (g_tt rfl rfl rfl g3) (T_indexAddr D rfl rfl rfl rfl rfl rfl rfl rfl (by first | assumption | omega | (simp; omega))) rfl ?_ | refine k_op0 (d := 41) (b := 261) (j' := 13) rfl rfl rfl rfl (g_tt rfl rfl rfl g3) (T_indexAddrZ D rfl rfl rfl rfl rfl rfl rfl rfl (by first | assumption | omega | (simp; omega)) (by first | assumption | omega | (simp; omega))) rfl ?_
    refine k_op1 (d := 42) (b := 277) (j' := 14) rfl rfl rfl rfl (g_tt rfl rfl rfl g3) (T_ldE D (lv := .r 277) (nn := 1) (upd := [(277, .fz 1 _)]) rfl rfl rfl rfl rfl (by first | assumption | omega | (simp; omega)) rfl rfl rfl rfl) rfl ?_
    refine k_op0 (d := 43) (b := 293) (j' := 15) rfl rfl rfl rfl (g_tt rfl rfl rfl g3) (T_move rfl rfl) rfl ?_
    first | refine k_op0 (d := 44) (b := 309) (j' := 16) rfl rfl rfl rfl (g_tt rfl rfl rfl g3) (T_indexAddr D rfl rfl rfl rfl rfl rfl rfl rfl (by first | assumption | omega | (simp; omega))) rfl ?_ | refine k_op0 (d := 44) (b := 309) (j' := 16) rfl rfl rfl rfl (g_tt rfl rfl rfl g3) (T_indexAddrZ D rfl rfl rfl rfl rfl rfl rfl rfl (by first | assumption | omega | (simp; omega)) (by first | assumption | omega | (simp; omega))) rfl ?_
    refine k_op0 (d := 45) (b := 325) (j' := 17) rfl rfl rfl rfl (g_tt rfl rfl rfl g3) (T_ldE D (lv := .v _) (nn := 0) (upd := []) rfl rfl rfl rfl rfl (by first | assumption | omega | (simp; omega)) rfl rfl rfl rfl) rfl ?_
    refine q0 46 341 18 rfl rfl (T_pick_t rfl rfl rfl g3) rfl ?_
    refine q0 47 357 19 rfl rfl (T_move rfl rfl) rfl ?_
    refine k_split (d := 47) rfl (fun g4 => ?_) (fun g4 => ?_)
    ·have h4 := g4; (try simp only [cmpB, decide_eq_true_eq, decide_eq_false_iff_not, beq_iff_eq, beq_eq_false_iff_ne, bne_iff_ne, ne_eq, bne_eq_false_iff_eq, Bool.not_eq_true', Bool.not_eq_false', Int.not_lt, Int.not_le] at h4)
     refine k_no (d := 48) (j' := 20) rfl rfl rfl (g_ft rfl rfl rfl g4) ?_
     refine k_no (d := 49) (j' := 21) rfl rfl rfl (g_ft rfl rfl rfl g4) ?_
     refine k_no (d := 50) (j' := 22) rfl rfl rfl (.und rfl rfl rfl) ?_
     refine k_no (d := 51) (j' := 23) rfl rfl rfl (.und rfl rfl rfl) ?_
     refine k_no (d := 52) (j' := 24) rfl rfl rfl (.und rfl rfl rfl) ?_
     refine k_no (d := 53) (j' := 25) rfl rfl rfl (.und rfl rfl rfl) ?_
     refine k_no (d := 54) (j' := 26) rfl rfl rfl (.und rfl rfl rfl) ?_
     refine k_no (d := 55) (j' := 27) rfl rfl rfl (.und rfl rfl rfl) ?_
     refine k_no (d := 56) (j' := 28) rfl rfl rfl (.und rfl rfl rfl) ?_
     refine k_no (d := 57) (j' := 29) rfl rfl rfl (.und rfl rfl rfl) ?_
     refine k_no (d := 58) (j' := 30) rfl rfl rfl (.und rfl rfl rfl) ?_
     refine k_no (d := 59) (j' := 31) rfl rfl rfl (.und rfl rfl rfl) ?_
     refine k_no (d := 60) (j' := 32) rfl rfl rfl (.und rfl rfl rfl) ?_
     refine k_no (d := 61) (j' := 33) rfl rfl rfl (.und rfl rfl rfl) ?_
     refine k_no (d := 62) (j' := 34) rfl rfl rfl (.und rfl rfl rfl) ?_
     refine k_no (d := 63) (j' := 35) rfl rfl rfl (.und rfl rfl rfl) ?_
     refine k_no (d := 64) (j' := 36) rfl rfl rfl (.und rfl rfl rfl) ?_
     refine k_no (d := 65) (j' := 37) rfl rfl rfl (.und rfl rfl rfl) ?_
     refine k_no (d := 66) (j' := 38) rfl rfl rfl (g_ft rfl rfl rfl g4) ?_
     refine q0 67 677 39 rfl rfl (T_pick_t rfl rfl rfl g4) rfl ?_
     first | refine q0 68 693 40 rfl rfl (T_indexAddr D rfl rfl rfl rfl rfl rfl rfl rfl (by first | assumption | omega | (simp; omega))) rfl ?_ | refine q0 68 693 40 rfl rfl (T_indexAddrZ D rfl rfl rfl rfl rfl rfl rfl rfl (by first | assumption | omega | (simp; omega)) (by first | assumption | omega | (simp; omega))) rfl ?_
     refine s1 709 41 rfl rfl (T_store_e D (z := _) rfl rfl rfl rfl (flat_v rfl) rfl rfl (by first | assumption | omega | (simp; omega)) (.v rfl (.nil)) rfl (Nat.le_of_ble_eq_true rfl) rfl) rfl ?_
     refine k_done rfl ?_
     refine blockK_n ?_
     refine thenK_n ?_
     refine W_seqK (b' := 773) rfl rfl ?_
     refine q0 27 725 1 rfl rfl (T_move rfl rfl) rfl ?_
     refine q0 28 741 2 rfl rfl (T_add64 rfl rfl rfl (by first | assumption | omega | (simp; omega))) rfl ?_
     refine q0 10 757 3 rfl rfl (T_assign rfl rfl) rfl ?_
     refine k_done rfl ?_
     refine thenK_n ?_
     refine ⟨r + 1, by (try dsimp only); omega, by (try dsimp only); omega, ?_⟩
     exact ⟨[(3, 3), (4, 4)], .same rfl rfl (.same rfl rfl (.eq rfl (.same rfl rfl (.eq rfl (.same rfl rfl (.eq rfl (.nil) (by first | rfl | (exact congrArg (List.map eB) (fillR_step _ (by omega) (by simp_all [mixB])))))) rfl)) rfl)), .fzE rfl (.fzE rfl (.nestE rfl (.rowE rfl (.nil) (by first | rfl | (exact congrArg (List.map eB) (fillR_step _ (by omega) (by simp_all [mixB]))))) (by first | rfl | (exact congrArg (List.map eB) (fillR_step _ (by omega) (by simp_all [mixB]))))) rfl) rfl, rfl⟩
    ·have h4 := g4; (try simp only [cmpB, decide_eq_true_eq, decide_eq_false_iff_not, beq_iff_eq, beq_eq_false_iff_ne, bne_iff_ne, ne_eq, bne_eq_false_iff_eq, Bool.not_eq_true', Bool.not_eq_false', Int.not_lt, Int.not_le] at h4)
     refine k_op0 (d := 48) (b := 373) (j' := 20) rfl rfl rfl rfl (g_ff rfl rfl rfl g4) (T_move rfl rfl) rfl ?_
     refine k_op0 (d := 49) (b := 389) (j' := 21) rfl rfl rfl rfl (g_ff rfl rfl rfl g4) (T_move rfl rfl) rfl ?_
     refine k_split (d := 49) rfl (fun g5 => ?_) (fun g5 => ?_)
     ·have h5 := g5; (try simp only [cmpB, decide_eq_true_eq, decide_eq_false_iff_not, beq_iff_eq, beq_eq_false_iff_ne, bne_iff_ne, ne_eq, bne_eq_false_iff_eq, Bool.not_eq_true', Bool.not_eq_false', Int.not_lt, Int.not_le] at h5)
      refine k_op0 (d := 50) (b := 405) (j' := 22) rfl rfl rfl rfl (g_tt rfl rfl rfl g5) (T_move rfl rfl) rfl ?_
      refine k_op0 (d := 51) (b := 421) (j' := 23) rfl rfl rfl rfl (g_tt rfl rfl rfl g5) (T_move rfl rfl) rfl ?_
      first | refine k_op0 (d := 52) (b := 437) (j' := 24) rfl rfl rfl rfl (g_tt rfl rfl rfl g5) (T_indexAddr D rfl rfl rfl rfl rfl rfl rfl rfl (by first | assumption | omega | (simp; omega))) rfl ?_ | refine k_op0 (d := 52) (b := 437) (j' := 24) rfl rfl rfl rfl (g_tt rfl rfl rfl g5) (T_indexAddrZ D rfl rfl rfl rfl rfl rfl rfl rfl (by first | assumption | omega | (simp; omega)) (by first | assumption | omega | (simp; omega))) rfl ?_
      refine k_op1 (d := 53) (b := 453) (j' := 25) rfl rfl rfl rfl (g_tt rfl rfl rfl g5) (T_ldE D (lv := .r 453) (nn := 1) (upd := [(453, .fz 1 _)]) rfl rfl rfl rfl rfl (by first | assumption | omega | (simp; omega)) rfl rfl rfl rfl) rfl ?_
      refine k_op0 (d := 54) (b := 469) (j' := 26) rfl rfl rfl rfl (g_tt rfl rfl rfl g5) (T_move rfl rfl) rfl ?_
      first | refine k_op0 (d := 55) (b := 485) (j' := 27) rfl rfl rfl rfl (g_tt rfl rfl rfl g5) (T_indexAddr D rfl rfl rfl rfl rfl rfl rfl rfl (by first | assumption | omega | (simp; omega))) rfl ?_ | refine k_op0 (d := 55) (b := 485) (j' := 27) rfl rfl rfl rfl (g_tt rfl rfl rfl g5) (T_indexAddrZ D rfl rfl rfl rfl rfl rfl rfl rfl (by first | assumption | omega | (simp; omega)) (by first | assumption | omega | (simp; omega))) rfl ?_
      refine k_op0 (d := 56) (b := 501) (j' := 28) rfl rfl rfl rfl (g_tt rfl rfl rfl g5) (T_ldE D (lv := .v _) (nn := 0) (upd := []) rfl rfl rfl rfl rfl (by first | assumption | omega | (simp; omega)) rfl rfl rfl rfl) rfl ?_
      refine k_op0 (d := 57) (b := 517) (j' := 29) rfl rfl rfl rfl (g_tt rfl rfl rfl g5) (T_move rfl rfl) rfl ?_
      refine k_split (d := 57) rfl (fun g6 => ?_) (fun g6 => ?_)
      ·have h6 := g6; (try simp only [cmpB, decide_eq_true_eq, decide_eq_false_iff_not, beq_iff_eq, beq_eq_false_iff_ne, bne_iff_ne, ne_eq, bne_eq_false_iff_eq, Bool.not_eq_true', Bool.not_eq_false', Int.not_lt, Int.not_le] at h6)
       refine k_no (d := 58) (j' := 30) rfl rfl rfl (g_ft rfl rfl rfl g6) ?_
       refine k_no (d := 59) (j' := 31) rfl rfl rfl (g_ft rfl rfl rfl g6) ?_
       refine k_no (d := 60) (j' := 32) rfl rfl rfl (g_ft rfl rfl rfl g6) ?_
       refine k_no (d := 61) (j' := 33) rfl rfl rfl (g_ft rfl rfl rfl g6) ?_
       refine k_no (d := 62) (j' := 34) rfl rfl rfl (g_ft rfl rfl rfl g6) ?_
       refine k_no (d := 63) (j' := 35) rfl rfl rfl (g_ft rfl rfl rfl g6) ?_
       refine k_no (d := 64) (j' := 36) rfl rfl rfl (g_ft rfl rfl rfl g6) ?_
       refine k_op0 (d := 65) (b := 645) (j' := 37) rfl rfl rfl rfl (g_tt rfl rfl rfl g5) (T_pick_t rfl rfl rfl g6) rfl ?_
       refine k_op0 (d := 66) (b := 661) (j' := 38) rfl rfl rfl rfl (g_ff rfl rfl rfl g4) (T_pick_t rfl rfl rfl g5) rfl ?_
       refine q0 67 677 39 rfl rfl (T_pick_f rfl rfl rfl g4) rfl ?_
       first | refine q0 68 693 40 rfl rfl (T_indexAddr D rfl rfl rfl rfl rfl rfl rfl rfl (by first | assumption | omega | (simp; omega))) rfl ?_ | refine q0 68 693 40 rfl rfl (T_indexAddrZ D rfl rfl rfl rfl rfl rfl rfl rfl (by first | assumption | omega | (simp; omega)) (by first | assumption | omega | (simp; omega))) rfl ?_
       refine s1 709 41 rfl rfl (T_store_e D (z := _) rfl rfl rfl rfl (flat_v rfl) rfl rfl (by first | assumption | omega | (simp; omega)) (.v rfl (.nil)) rfl (Nat.le_of_ble_eq_true rfl) rfl) rfl ?_
       refine k_done rfl ?_
       refine blockK_n ?_
       refine thenK_n ?_
       refine W_seqK (b' := 773) rfl rfl ?_
       refine q0 27 725 1 rfl rfl (T_move rfl rfl) rfl ?_
       refine q0 28 741 2 rfl rfl (T_add64 rfl rfl rfl (by first | assumption | omega | (simp; omega))) rfl ?_
       refine q0 10 757 3 rfl rfl (T_assign rfl rfl) rfl ?_
       refine k_done rfl ?_
       refine thenK_n ?_
       refine ⟨r + 1, by (try dsimp only); omega, by (try dsimp only); omega, ?_⟩
       exact ⟨[(3, 3), (4, 4)], .same rfl rfl (.same rfl rfl (.eq rfl (.same rfl rfl (.eq rfl (.same rfl rfl (.eq rfl (.nil) (by first | rfl | (exact congrArg (List.map eB) (fillR_step _ (by omega) (by simp_all [mixB])))))) rfl)) rfl)), .fzE rfl (.fzE rfl (.nestE rfl (.rowE rfl (.nil) (by first | rfl | (exact congrArg (List.map eB) (fillR_step _ (by omega) (by simp_all [mixB]))))) (by first | rfl | (exact congrArg (List.map eB) (fillR_step _ (by omega) (by simp_all [mixB]))))) rfl) rfl, rfl⟩
      ·have h6 := g6; (try simp only [cmpB, decide_eq_true_eq, decide_eq_false_iff_not, beq_iff_eq, beq_eq_false_iff_ne, bne_iff_ne, ne_eq, bne_eq_false_iff_eq, Bool.not_eq_true', Bool.not_eq_false', Int.not_lt, Int.not_le] at h6)
       refine k_op0 (d := 58) (b := 533) (j' := 30) rfl rfl rfl rfl (g_ff rfl rfl rfl g6) (T_move rfl rfl) rfl ?_
       refine k_op0 (d := 59) (b := 549) (j' := 31) rfl rfl rfl rfl (g_ff rfl rfl rfl g6) (T_move rfl rfl) rfl ?_
       first | refine k_op0 (d := 60) (b := 565) (j' := 32) rfl rfl rfl rfl (g_ff rfl rfl rfl g6) (T_indexAddr D rfl rfl rfl rfl rfl rfl rfl rfl (by first | assumption | omega | (simp; omega))) rfl ?_ | refine k_op0 (d := 60) (b := 565) (j' := 32) rfl rfl rfl rfl (g_ff rfl rfl rfl g6) (T_indexAddrZ D rfl rfl rfl rfl rfl rfl rfl rfl (by first | assumption | omega | (simp; omega)) (by first | assumption | omega | (simp; omega))) rfl ?_
       refine k_op1 (d := 61) (b := 581) (j' := 33) rfl rfl rfl rfl (g_ff rfl rfl rfl g6) (T_ldE D (lv := .r 581) (nn := 1) (upd := [(581, .fz 1 _)]) rfl rfl rfl rfl rfl (by first | assumption | omega | (simp; omega)) rfl rfl rfl rfl) rfl ?_
       refine k_op0 (d := 62) (b := 597) (j' := 34) rfl rfl rfl rfl (g_ff rfl rfl rfl g6) (T_move rfl rfl) rfl ?_
       first | refine k_op0 (d := 63) (b := 613) (j' := 35) rfl rfl rfl rfl (g_ff rfl rfl rfl g6) (T_indexAddr D rfl rfl rfl rfl rfl rfl rfl rfl (by first | assumption | omega | (simp; omega))) rfl ?_ | refine k_op0 (d := 63) (b := 613) (j' := 35) rfl rfl rfl rfl (g_ff rfl rfl rfl g6) (T_indexAddrZ D rfl rfl rfl rfl rfl rfl rfl rfl (by first | assumption | omega | (simp; omega)) (by first | assumption | omega | (simp; omega))) rfl ?_
       refine k_op0 (d := 64) (b := 629) (j' := 36) rfl rfl rfl rfl (g_ff rfl rfl rfl g6) (T_ldE D (lv := .v _) (nn := 0) (upd := []) rfl rfl rfl rfl rfl (by first | assumption | omega | (simp; omega)) rfl rfl rfl rfl) rfl ?_
       refine k_op0 (d := 65) (b := 645) (j' := 37) rfl rfl rfl rfl (g_tt rfl rfl rfl g5) (T_pick_f rfl rfl rfl g6) rfl ?_
       refine k_op0 (d := 66) (b := 661) (j' := 38) rfl rfl rfl rfl (g_ff rfl rfl rfl g4) (T_pick_t rfl rfl rfl g5) rfl ?_
       refine q0 67 677 39 rfl rfl (T_pick_f rfl rfl rfl g4) rfl ?_
       first | refine q0 68 693 40 rfl rfl (T_indexAddr D rfl rfl rfl rfl rfl rfl rfl rfl (by first | assumption | omega | (simp; omega))) rfl ?_ | refine q0 68 693 40 rfl rfl (T_indexAddrZ D rfl rfl rfl rfl rfl rfl rfl rfl (by first | assumption | omega | (simp; omega)) (by first | assumption | omega | (simp; omega))) rfl ?_
       refine s1 709 41 rfl rfl (T_store_e D (z := _) rfl rfl rfl rfl (flat_v rfl) rfl rfl (by first | assumption | omega | (simp; omega)) (.v rfl (.nil)) rfl (Nat.le_of_ble_eq_true rfl) rfl) rfl ?_
       refine k_done rfl ?_
       refine blockK_n ?_
       refine thenK_n ?_
       refine W_seqK (b' := 773) rfl rfl ?_
       refine q0 27 725 1 rfl rfl (T_move rfl rfl) rfl ?_
       refine q0 28 741 2 rfl rfl (T_add64 rfl rfl rfl (by first | assumption | omega | (simp; omega))) rfl ?_
       refine q0 10 757 3 rfl rfl (T_assign rfl rfl) rfl ?_
       refine k_done rfl ?_
       refine thenK_n ?_
       refine ⟨r + 1, by (try dsimp only); omega, by (try dsimp only); omega, ?_⟩
       exact ⟨[(3, 3), (4, 4)], .same rfl rfl (.same rfl rfl (.eq rfl (.same rfl rfl (.eq rfl (.same rfl rfl (.eq rfl (.nil) (by first | rfl | (exact congrArg (List.map eB) (fillR_step _ (by omega) (by simp_all [mixB])))))) rfl)) rfl)), .fzE rfl (.fzE rfl (.nestE rfl (.rowE rfl (.nil) (by first | rfl | (exact congrArg (List.map eB) (fillR_step _ (by omega) (by simp_all [mixB]))))) (by first | rfl | (exact congrArg (List.map eB) (fillR_step _ (by omega) (by simp_all [mixB]))))) rfl) rfl, rfl⟩
     ·have h5 := g5; (try simp only [cmpB, decide_eq_true_eq, decide_eq_false_iff_not, beq_iff_eq, beq_eq_false_iff_ne, bne_iff_ne, ne_eq, bne_eq_false_iff_eq, Bool.not_eq_true', Bool.not_eq_false', Int.not_lt, Int.not_le] at h5)
      refine k_no (d := 50) (j' := 22) rfl rfl rfl (g_tf rfl rfl rfl g5) ?_
      refine k_no (d := 51) (j' := 23) rfl rfl rfl (g_tf rfl rfl rfl g5) ?_
      refine k_no (d := 52) (j' := 24) rfl rfl rfl (g_tf rfl rfl rfl g5) ?_
      refine k_no (d := 53) (j' := 25) rfl rfl rfl (g_tf rfl rfl rfl g5) ?_
      refine k_no (d := 54) (j' := 26) rfl rfl rfl (g_tf rfl rfl rfl g5) ?_
      refine k_no (d := 55) (j' := 27) rfl rfl rfl (g_tf rfl rfl rfl g5) ?_
      refine k_no (d := 56) (j' := 28) rfl rfl rfl (g_tf rfl rfl rfl g5) ?_
      refine k_no (d := 57) (j' := 29) rfl rfl rfl (g_tf rfl rfl rfl g5) ?_
      refine k_no (d := 58) (j' := 30) rfl rfl rfl (.und rfl rfl rfl) ?_
      refine k_no (d := 59) (j' := 31) rfl rfl rfl (.und rfl rfl rfl) ?_
      refine k_no (d := 60) (j' := 32) rfl rfl rfl (.und rfl rfl rfl) ?_
      refine k_no (d := 61) (j' := 33) rfl rfl rfl (.und rfl rfl rfl) ?_
      refine k_no (d := 62) (j' := 34) rfl rfl rfl (.und rfl rfl rfl) ?_
      refine k_no (d := 63) (j' := 35) rfl rfl rfl (.und rfl rfl rfl) ?_
      refine k_no (d := 64) (j' := 36) rfl rfl rfl (.und rfl rfl rfl) ?_
      refine k_no (d := 65) (j' := 37) rfl rfl rfl (g_tf rfl rfl rfl g5) ?_
      refine k_op0 (d := 66) (b := 661) (j' := 38) rfl rfl rfl rfl (g_ff rfl rfl rfl g4) (T_pick_f rfl rfl rfl g5) rfl ?_
      refine q0 67 677 39 rfl rfl (T_pick_f rfl rfl rfl g4) rfl ?_
      first | refine q0 68 693 40 rfl rfl (T_indexAddr D rfl rfl rfl rfl rfl rfl rfl rfl (by first | assumption | omega | (simp; omega))) rfl ?_ | refine q0 68 693 40 rfl rfl (T_indexAddrZ D rfl rfl rfl rfl rfl rfl rfl rfl (by first | assumption | omega | (simp; omega)) (by first | assumption | omega | (simp; omega))) rfl ?_
      refine s1 709 41 rfl rfl (T_store_e D (z := _) rfl rfl rfl rfl (flat_v rfl) rfl rfl (by first | assumption | omega | (simp; omega)) (.v rfl (.nil)) rfl (Nat.le_of_ble_eq_true rfl) rfl) rfl ?_
      refine k_done rfl ?_
      refine blockK_n ?_
      refine thenK_n ?_
      refine W_seqK (b' := 773) rfl rfl ?_
      refine q0 27 725 1 rfl rfl (T_move rfl rfl) rfl ?_
      refine q0 28 741 2 rfl rfl (T_add64 rfl rfl rfl (by first | assumption | omega | (simp; omega))) rfl ?_
      refine q0 10 757 3 rfl rfl (T_assign rfl rfl) rfl ?_
      refine k_done rfl ?_
      refine thenK_n ?_
      refine ⟨r + 1, by (try dsimp only); omega, by (try dsimp only); omega, ?_⟩
      exact ⟨[(3, 3), (4, 4)], .same rfl rfl (.same rfl rfl (.eq rfl (.same rfl rfl (.eq rfl (.same rfl rfl (.eq rfl (.nil) (by first | rfl | (exact congrArg (List.map eB) (fillR_step _ (by omega) (by simp_all [mixB])))))) rfl)) rfl)), .fzE rfl (.fzE rfl (.nestE rfl (.rowE rfl (.nil) (by first | rfl | (exact congrArg (List.map eB) (fillR_step _ (by omega) (by simp_all [mixB]))))) (by first | rfl | (exact congrArg (List.map eB) (fillR_step _ (by omega) (by simp_all [mixB]))))) rfl) rfl, rfl⟩
   ·have h3 := g3; (try simp only [cmpB, decide_eq_true_eq, decide_eq_false_iff_not, beq_iff_eq, beq_eq_false_iff_ne, bne_iff_ne, ne_eq, bne_eq_false_iff_eq, Bool.not_eq_true', Bool.not_eq_false', Int.not_lt, Int.not_le] at h3)
    refine k_no (d := 39) (j' := 11) rfl rfl rfl (g_tf rfl rfl rfl g3) ?_
    refine k_no (d := 40) (j' := 12) rfl rfl rfl (g_tf rfl rfl rfl g3) ?_
    refine k_no (d := 41) (j' := 13) rfl rfl rfl (g_tf rfl rfl rfl g3) ?_
    refine k_no (d := 42) (j' := 14) rfl rfl rfl (g_tf rfl rfl rfl g3) ?_
    refine k_no (d := 43) (j' := 15) rfl rfl rfl (g_tf rfl rfl rfl g3) ?_
    refine k_no (d := 44) (j' := 16) rfl rfl rfl (g_tf rfl rfl rfl g3) ?_
    refine k_no (d := 45) (j' := 17) rfl rfl rfl (g_tf rfl rfl rfl g3) ?_
    refine q0 46 341 18 rfl rfl (T_pick_f rfl rfl rfl g3) rfl ?_
    refine q0 47 357 19 rfl rfl (T_move rfl rfl) rfl ?_
    refine k_op0 (d := 48) (b := 373) (j' := 20) rfl rfl rfl rfl (g_ff rfl rfl rfl rfl) (T_move rfl rfl) rfl ?_
    refine k_op0 (d := 49) (b := 389) (j' := 21) rfl rfl rfl rfl (g_ff rfl rfl rfl rfl) (T_move rfl rfl) rfl ?_
    refine k_split (d := 49) rfl (fun g7 => ?_) (fun g7 => ?_)
    ·have h7 := g7; (try simp only [cmpB, decide_eq_true_eq, decide_eq_false_iff_not, beq_iff_eq, beq_eq_false_iff_ne, bne_iff_ne, ne_eq, bne_eq_false_iff_eq, Bool.not_eq_true', Bool.not_eq_false', Int.not_lt, Int.not_le] at h7)
     refine k_op0 (d := 50) (b := 405) (j' := 22) rfl rfl rfl rfl (g_tt rfl rfl rfl g7) (T_move rfl rfl) rfl ?_
     refine k_op0 (d := 51) (b := 421) (j' := 23) rfl rfl rfl rfl (g_tt rfl rfl rfl g7) (T_move rfl rfl) rfl ?_
     first | refine k_op0 (d := 52) (b := 437) (j' := 24) rfl rfl rfl rfl (g_tt rfl rfl rfl g7) (T_indexAddr D rfl rfl rfl rfl rfl rfl rfl rfl (by first | assumption | omega | (simp; omega))) rfl ?_ | refine k_op0 (d := 52) (b := 437) (j' := 24) rfl rfl rfl rfl (g_tt rfl rfl rfl g7) (T_indexAddrZ D rfl rfl rfl rfl rfl rfl rfl rfl (by first | assumption | omega | (simp; omega)) (by first | assumption | omega | (simp; omega))) rfl ?_
     refine k_op1 (d := 53) (b := 453) (j' := 25) rfl rfl rfl rfl (g_tt rfl rfl rfl g7) (T_ldE D (lv := .r 453) (nn := 1) (upd := [(453, .fz 1 _)]) rfl rfl rfl rfl rfl (by first | assumption | omega | (simp; omega)) rfl rfl rfl rfl) rfl ?_
     refine k_op0 (d := 54) (b := 469) (j' := 26) rfl rfl rfl rfl (g_tt rfl rfl rfl g7) (T_move rfl rfl) rfl ?_
     first | refine k_op0 (d := 55) (b := 485) (j' := 27) rfl rfl rfl rfl (g_tt rfl rfl rfl g7) (T_indexAddr D rfl rfl rfl rfl rfl rfl rfl rfl (by first | assumption | omega | (simp; omega))) rfl ?_ | refine k_op0 (d := 55) (b := 485) (j' := 27) rfl rfl rfl rfl (g_tt rfl rfl rfl g7) (T_indexAddrZ D rfl rfl rfl rfl rfl rfl rfl rfl (by first | assumption | omega | (simp; omega)) (by first | assumption | omega | (simp; omega))) rfl ?_
     refine k_op0 (d := 56) (b := 501) (j' := 28) rfl rfl rfl rfl (g_tt rfl rfl rfl g7) (T_ldE D (lv := .v _) (nn := 0) (upd := []) rfl rfl rfl rfl rfl (by first | assumption | omega | (simp; omega)) rfl rfl rfl rfl) rfl ?_
     refine k_op0 (d := 57) (b := 517) (j' := 29) rfl rfl rfl rfl (g_tt rfl rfl rfl g7) (T_move rfl rfl) rfl ?_
     refine k_split (d := 57) rfl (fun g8 => ?_) (fun g8 => ?_)
     ·have h8 := g8; (try simp only [cmpB, decide_eq_true_eq, decide_eq_false_iff_not, beq_iff_eq, beq_eq_false_iff_ne, bne_iff_ne, ne_eq, bne_eq_false_iff_eq, Bool.not_eq_true', Bool.not_eq_false', Int.not_lt, Int.not_le] at h8)
      refine k_no (d := 58) (j' := 30) rfl rfl rfl (g_ft rfl rfl rfl g8) ?_
      refine k_no (d := 59) (j' := 31) rfl rfl rfl (g_ft rfl rfl rfl g8) ?_
      refine k_no (d := 60) (j' := 32) rfl rfl rfl (g_ft rfl rfl rfl g8) ?_
      refine k_no (d := 61) (j' := 33) rfl rfl rfl (g_ft rfl rfl rfl g8) ?_
      refine k_no (d := 62) (j' := 34) rfl rfl rfl (g_ft rfl rfl rfl g8) ?_
      refine k_no (d := 63) (j' := 35) rfl rfl rfl (g_ft rfl rfl rfl g8) ?_
      refine k_no (d := 64) (j' := 36) rfl rfl rfl (g_ft rfl rfl rfl g8) ?_
      refine k_op0 (d := 65) (b := 645) (j' := 37) rfl rfl rfl rfl (g_tt rfl rfl rfl g7) (T_pick_t rfl rfl rfl g8) rfl ?_
      refine k_op0 (d := 66) (b := 661) (j' := 38) rfl rfl rfl rfl (g_ff rfl rfl rfl rfl) (T_pick_t rfl rfl rfl g7) rfl ?_
      refine q0 67 677 39 rfl rfl (T_pick_f rfl rfl rfl rfl) rfl ?_
      first | refine q0 68 693 40 rfl rfl (T_indexAddr D rfl rfl rfl rfl rfl rfl rfl rfl (by first | assumption | omega | (simp; omega))) rfl ?_ | refine q0 68 693 40 rfl rfl (T_indexAddrZ D rfl rfl rfl rfl rfl rfl rfl rfl (by first | assumption | omega | (simp; omega)) (by first | assumption | omega | (simp; omega))) rfl ?_
      refine s1 709 41 rfl rfl (T_store_e D (z := _) rfl rfl rfl rfl (flat_v rfl) rfl rfl (by first | assumption | omega | (simp; omega)) (.v rfl (.nil)) rfl (Nat.le_of_ble_eq_true rfl) rfl) rfl ?_
      refine k_done rfl ?_
      refine blockK_n ?_
      refine thenK_n ?_
      refine W_seqK (b' := 773) rfl rfl ?_
      refine q0 27 725 1 rfl rfl (T_move rfl rfl) rfl ?_
      refine q0 28 741 2 rfl rfl (T_add64 rfl rfl rfl (by first | assumption | omega | (simp; omega))) rfl ?_
      refine q0 10 757 3 rfl rfl (T_assign rfl rfl) rfl ?_
      refine k_done rfl ?_
      refine thenK_n ?_
      refine ⟨r + 1, by (try dsimp only); omega, by (try dsimp only); omega, ?_⟩
      exact ⟨[(3, 3), (4, 4)], .same rfl rfl (.same rfl rfl (.eq rfl (.same rfl rfl (.eq rfl (.same rfl rfl (.eq rfl (.nil) (by first | rfl | (exact congrArg (List.map eB) (fillR_step _ (by omega) (by simp_all [mixB])))))) rfl)) rfl)), .fzE rfl (.fzE rfl (.nestE rfl (.rowE rfl (.nil) (by first | rfl | (exact congrArg (List.map eB) (fillR_step _ (by omega) (by simp_all [mixB]))))) (by first | rfl | (exact congrArg (List.map eB) (fillR_step _ (by omega) (by simp_all [mixB]))))) rfl) rfl, rfl⟩
     ·have h8 := g8; (try simp only [cmpB, decide_eq_true_eq, decide_eq_false_iff_not, beq_iff_eq, beq_eq_false_iff_ne, bne_iff_ne, ne_eq, bne_eq_false_iff_eq, Bool.not_eq_true', Bool.not_eq_false', Int.not_lt, Int.not_le] at h8)
      refine k_op0 (d := 58) (b := 533) (j' := 30) rfl rfl rfl rfl (g_ff rfl rfl rfl g8) (T_move rfl rfl) rfl ?_
      refine k_op0 (d := 59) (b := 549) (j' := 31) rfl rfl rfl rfl (g_ff rfl rfl rfl g8) (T_move rfl rfl) rfl ?_
      first | refine k_op0 (d := 60) (b := 565) (j' := 32) rfl rfl rfl rfl (g_ff rfl rfl rfl g8) (T_indexAddr D rfl rfl rfl rfl rfl rfl rfl rfl (by first | assumption | omega | (simp; omega))) rfl ?_ | refine k_op0 (d := 60) (b := 565) (j' := 32) rfl rfl rfl rfl (g_ff rfl rfl rfl g8) (T_indexAddrZ D rfl rfl rfl rfl rfl rfl rfl rfl (by first | assumption | omega | (simp; omega)) (by first | assumption | omega | (simp; omega))) rfl ?_
      refine k_op1 (d := 61) (b := 581) (j' := 33) rfl rfl rfl rfl (g_ff rfl rfl rfl g8) (T_ldE D (lv := .r 581) (nn := 1) (upd := [(581, .fz 1 _)]) rfl rfl rfl rfl rfl (by first | assumption | omega | (simp; omega)) rfl rfl rfl rfl) rfl ?_
      refine k_op0 (d := 62) (b := 597) (j' := 34) rfl rfl rfl rfl (g_ff rfl rfl rfl g8) (T_move rfl rfl) rfl ?_
      first | refine k_op0 (d := 63) (b := 613) (j' := 35) rfl rfl rfl rfl (g_ff rfl rfl rfl g8) (T_indexAddr D rfl rfl rfl rfl rfl rfl rfl rfl (by first | assumption | omega | (simp; omega))) rfl ?_ | refine k_op0 (d := 63) (b := 613) (j' := 35) rfl rfl rfl rfl (g_ff rfl rfl rfl g8) (T_indexAddrZ D rfl rfl rfl rfl rfl rfl rfl rfl (by first | assumption | omega | (simp; omega)) (by first | assumption | omega | (simp; omega))) rfl ?_
      refine k_op0 (d := 64) (b := 629) (j' := 36) rfl rfl rfl rfl (g_ff rfl rfl rfl g8) (T_ldE D (lv := .v _) (nn := 0) (upd := []) rfl rfl rfl rfl rfl (by first | assumption | omega | (simp; omega)) rfl rfl rfl rfl) rfl ?_
      refine k_op0 (d := 65) (b := 645) (j' := 37) rfl rfl rfl rfl (g_tt rfl rfl rfl g7) (T_pick_f rfl rfl rfl g8) rfl ?_
      refine k_op0 (d := 66) (b := 661) (j' := 38) rfl rfl rfl rfl (g_ff rfl rfl rfl rfl) (T_pick_t rfl rfl rfl g7) rfl ?_
      refine q0 67 677 39 rfl rfl (T_pick_f rfl rfl rfl rfl) rfl ?_
      first | refine q0 68 693 40 rfl rfl (T_indexAddr D rfl rfl rfl rfl rfl rfl rfl rfl (by first | assumption | omega | (simp; omega))) rfl ?_ | refine q0 68 693 40 rfl rfl (T_indexAddrZ D rfl rfl rfl rfl rfl rfl rfl rfl (by first | assumption | omega | (simp; omega)) (by first | assumption | omega | (simp; omega))) rfl ?_
      refine s1 709 41 rfl rfl (T_store_e D (z := _) rfl rfl rfl rfl (flat_v rfl) rfl rfl (by first | assumption | omega | (simp; omega)) (.v rfl (.nil)) rfl (Nat.le_of_ble_eq_true rfl) rfl) rfl ?_
      refine k_done rfl ?_
      refine blockK_n ?_
      refine thenK_n ?_
      refine W_seqK (b' := 773) rfl rfl ?_
      refine q0 27 725 1 rfl rfl (T_move rfl rfl) rfl ?_
      refine q0 28 741 2 rfl rfl (T_add64 rfl rfl rfl (by first | assumption | omega | (simp; omega))) rfl ?_
      refine q0 10 757 3 rfl rfl (T_assign rfl rfl) rfl ?_
      refine k_done rfl ?_
      refine thenK_n ?_
      refine ⟨r + 1, by (try dsimp only); omega, by (try dsimp only); omega, ?_⟩
      exact ⟨[(3, 3), (4, 4)], .same rfl rfl (.same rfl rfl (.eq rfl (.same rfl rfl (.eq rfl (.same rfl rfl (.eq rfl (.nil) (by first | rfl | (exact congrArg (List.map eB) (fillR_step _ (by omega) (by simp_all [mixB])))))) rfl)) rfl)), .fzE rfl (.fzE rfl (.nestE rfl (.rowE rfl (.nil) (by first | rfl | (exact congrArg (List.map eB) (fillR_step _ (by omega) (by simp_all [mixB]))))) (by first | rfl | (exact congrArg (List.map eB) (fillR_step _ (by omega) (by simp_all [mixB]))))) rfl) rfl, rfl⟩
    ·have h7 := g7; (try simp only [cmpB, decide_eq_true_eq, decide_eq_false_iff_not, beq_iff_eq, beq_eq_false_iff_ne, bne_iff_ne, ne_eq, bne_eq_false_iff_eq, Bool.not_eq_true', Bool.not_eq_false', Int.not_lt, Int.not_le] at h7)
     refine k_no (d := 50) (j' := 22) rfl rfl rfl (g_tf rfl rfl rfl g7) ?_
     refine k_no (d := 51) (j' := 23) rfl rfl rfl (g_tf rfl rfl rfl g7) ?_
     refine k_no (d := 52) (j' := 24) rfl rfl rfl (g_tf rfl rfl rfl g7) ?_
     refine k_no (d := 53) (j' := 25) rfl rfl rfl (g_tf rfl rfl rfl g7) ?_
     refine k_no (d := 54) (j' := 26) rfl rfl rfl (g_tf rfl rfl rfl g7) ?_
     refine k_no (d := 55) (j' := 27) rfl rfl rfl (g_tf rfl rfl rfl g7) ?_
     refine k_no (d := 56) (j' := 28) rfl rfl rfl (g_tf rfl rfl rfl g7) ?_
     refine k_no (d := 57) (j' := 29) rfl rfl rfl (g_tf rfl rfl rfl g7) ?_
     refine k_no (d := 58) (j' := 30) rfl rfl rfl (.und rfl rfl rfl) ?_
     refine k_no (d := 59) (j' := 31) rfl rfl rfl (.und rfl rfl rfl) ?_
     refine k_no (d := 60) (j' := 32) rfl rfl rfl (.und rfl rfl rfl) ?_
     refine k_no (d := 61) (j' := 33) rfl rfl rfl (.und rfl rfl rfl) ?_
     refine k_no (d := 62) (j' := 34) rfl rfl rfl (.und rfl rfl rfl) ?_
     refine k_no (d := 63) (j' := 35) rfl rfl rfl (.und rfl rfl rfl) ?_
     refine k_no (d := 64) (j' := 36) rfl rfl rfl (.und rfl rfl rfl) ?_
     refine k_no (d := 65) (j' := 37) rfl rfl rfl (g_tf rfl rfl rfl g7) ?_
     refine k_op0 (d := 66) (b := 661) (j' := 38) rfl rfl rfl rfl (g_ff rfl rfl rfl rfl) (T_pick_f rfl rfl rfl g7) rfl ?_
     refine q0 67 677 39 rfl rfl (T_pick_f rfl rfl rfl rfl) rfl ?_
     first | refine q0 68 693 40 rfl rfl (T_indexAddr D rfl rfl rfl rfl rfl rfl rfl rfl (by first | assumption | omega | (simp; omega))) rfl ?_ | refine q0 68 693 40 rfl rfl (T_indexAddrZ D rfl rfl rfl rfl rfl rfl rfl rfl (by first | assumption | omega | (simp; omega)) (by first | assumption | omega | (simp; omega))) rfl ?_
     refine s1 709 41 rfl rfl (T_store_e D (z := _) rfl rfl rfl rfl (flat_v rfl) rfl rfl (by first | assumption | omega | (simp; omega)) (.v rfl (.nil)) rfl (Nat.le_of_ble_eq_true rfl) rfl) rfl ?_
     refine k_done rfl ?_
     refine blockK_n ?_
     refine thenK_n ?_
     refine W_seqK (b' := 773) rfl rfl ?_
     refine q0 27 725 1 rfl rfl (T_move rfl rfl) rfl ?_
     refine q0 28 741 2 rfl rfl (T_add64 rfl rfl rfl (by first | assumption | omega | (simp; omega))) rfl ?_
     refine q0 10 757 3 rfl rfl (T_assign rfl rfl) rfl ?_
     refine k_done rfl ?_
     refine thenK_n ?_
     refine ⟨r + 1, by (try dsimp only); omega, by (try dsimp only); omega, ?_⟩
     exact ⟨[(3, 3), (4, 4)], .same rfl rfl (.same rfl rfl (.eq rfl (.same rfl rfl (.eq rfl (.same rfl rfl (.eq rfl (.nil) (by first | rfl | (exact congrArg (List.map eB) (fillR_step _ (by omega) (by simp_all [mixB])))))) rfl)) rfl)), .fzE rfl (.fzE rfl (.nestE rfl (.rowE rfl (.nil) (by first | rfl | (exact congrArg (List.map eB) (fillR_step _ (by omega) (by simp_all [mixB]))))) (by first | rfl | (exact congrArg (List.map eB) (fillR_step _ (by omega) (by simp_all [mixB]))))) rfl) rfl, rfl⟩
  ·have h2 := c_lss_f g2
   refine W_exit ?_
   refine thenK_e ?_
   refine thenK_e ?_
   refine blockK_hit ?_
   refine thenK_n ?_
   refine W_seqK (b' := 149) rfl rfl ?_
   refine q0 69 69 1 rfl rfl (T_move rfl rfl) rfl ?_
   refine q0 70 85 2 rfl rfl (T_move rfl rfl) rfl ?_
   refine qn 71 101 3 rfl rfl (T_bsN D rfl rfl rfl rfl rfl rfl rfl rfl) rfl ?_
   refine qn 72 117 4 rfl rfl (T_appendN D rfl rfl rfl rfl rfl rfl rfl rfl rfl rfl rfl rfl (by (try simp only [ty48]); first | assumption | omega | (simp; omega)) (by (try simp only [ty48]); first | assumption | omega | (simp; omega))) rfl ?_
   refine q0 7 133 5 rfl rfl (T_assign rfl rfl) rfl ?_
   refine k_done rfl ?_
   refine blockK_n ?_
   refine thenK_n ?_
   refine W_seqK (b' := 197) rfl rfl ?_
   refine q0 15 149 1 rfl rfl (T_move rfl rfl) rfl ?_
   refine q0 16 165 2 rfl rfl (T_add64 rfl rfl rfl (by first | assumption | omega | (simp; omega))) rfl ?_
   refine q0 8 181 3 rfl rfl (T_assign rfl rfl) rfl ?_
   refine k_done rfl ?_
   refine thenK_n ?_
   refine ⟨j + 1, by (try dsimp only); omega, by (try dsimp only); omega, ?_⟩
   exact ⟨[(3, 117)], .same rfl rfl (.same rfl rfl (.eq rfl (.same rfl rfl (.eq rfl (.nil) (by first | rfl | (have er : r = (a.getD j default).length := (by omega); subst er; rw [bothL_take _ _ _ (by omega)]; simp [mixR]; done)))) rfl)), .fzE rfl (.fzE rfl (.nestE rfl (.nil) (by first | rfl | (have er : r = (a.getD j default).length := (by omega); subst er; rw [bothL_take _ _ _ (by omega)]; simp [mixR]; done))) rfl) rfl, rfl⟩
 ·have h1 := c_lss_f g1
  refine W_exit ?_
  refine thenK_e ?_
  refine thenK_e ?_
  refine blockK_hit ?_
  refine thenK_n ?_
  refine W_seq ?_
  refine W_seqK (b' := 100) rfl rfl ?_
  refine q0 73 68 1 rfl rfl (T_move rfl rfl) rfl ?_
  refine q0 6 84 2 rfl rfl (T_assign rfl rfl) rfl ?_
  refine k_done rfl ?_
  refine thenK_n ?_
  refine W_ret ?_
  exact .mk [(3, 3)] (.inr rfl) (.tmp rfl (.nil)) rfl (.lendNE rfl (.nil) (by first | rfl | (have ej : j = a.length := (by omega); subst ej; rw [List.take_of_length_le (by rw [bothL_len]; exact Nat.le_refl _)]; exact nestRows_eBs _))) rfl
theorem body13 : (Try.prog.funcs[13]?).map (fun fn => (fn.name == "runtime.NumGoroutine" || fn.body.isNone)) = some false := by kernel_rfl
theorem law13 (f : GFn) (hf : FnOk f) : Spec Try.prog 13 [.agg [.v (.int .i64 f.regs), .r 1]] 2 [(1, .fz 5 (f.blocks.map eBlock))] (.v (.bool true)) 2 [] := by
 refine spec_of D (fn := Try.f13) rfl rfl (Nat.le_of_ble_eq_true rfl) ?_
 refine W_seq ?_
 refine W_seqK (b' := 34) rfl rfl ?_
 refine q1 1 2 1 rfl rfl (T_box rfl rfl flat_agg) rfl ?_
 refine q0 2 18 2 rfl rfl (T_assign rfl rfl) rfl ?_
 refine k_done rfl ?_
 refine thenK_n ?_
 refine W_seq ?_
 refine W_seq ?_
 refine W_seqK (b' := 82) rfl rfl ?_
 refine q0 4 34 1 rfl rfl (T_load_bA D (l := [_, _]) rfl rfl rfl rfl rfl rfl rfl) rfl ?_
 refine q0 5 50 2 rfl rfl (T_callV (lvs := [_, _, _]) (L := [(1, 1)]) (small27_spec f 12 60 hf (by omega) (by omega)) body48 rfl rfl rfl rfl (.fz rfl (.nil)) rfl) rfl ?_
 refine q0 6 66 3 rfl rfl (T_not rfl rfl) rfl ?_
 refine k_done rfl ?_
 refine thenK_n ?_
 refine W_cond rfl (fun g1 => ?_) (fun g1 => ?_)
 ·have h1 := g1; (try simp only [cmpB, decide_eq_true_eq, decide_eq_false_iff_not, beq_iff_eq, beq_eq_false_iff_ne, bne_iff_ne, ne_eq, bne_eq_false_iff_eq, Bool.not_eq_true', Bool.not_eq_false', Int.not_lt, Int.not_le] at h1)
  refine W_seq ?_
  refine W_seqK (b' := 114) rfl rfl ?_
  refine q0 7 82 1 rfl rfl (T_callV (lvs := []) (L := []) (awake27_spec) body49 rfl rfl rfl rfl (.nil) rfl) rfl ?_
  refine q0 2 98 2 rfl rfl (T_assign rfl rfl) rfl ?_
  refine k_done rfl ?_
  refine thenK_n ?_
  refine W_ret ?_
  refine thenK_r ?_
  exact .mk [] (.inr rfl) (.tmp rfl (.nil)) (by first | rfl | (simp only [resLV, LV.ren, LV.v.injEq, Value.bool.injEq]; exact live_closed (small_lf (by assumption : small27 f 12 60 = true))) | (exfalso; have k := live_closed (small_lf (by assumption : small27 f 12 60 = true)); simp_all; done) | (exfalso; simp_all; done)) (.nil) rfl
 ·have h1 := g1; (try simp only [cmpB, decide_eq_true_eq, decide_eq_false_iff_not, beq_iff_eq, beq_eq_false_iff_ne, bne_iff_ne, ne_eq, bne_eq_false_iff_eq, Bool.not_eq_true', Bool.not_eq_false', Int.not_lt, Int.not_le] at h1)
  refine W_skip ?_
  refine thenK_n ?_
  refine W_seq ?_
  refine W_seqK (b' := 146) rfl rfl ?_
  refine q0 8 82 1 rfl rfl (T_load_bA D (l := [_, _]) rfl rfl rfl rfl rfl rfl rfl) rfl ?_
  refine qn 9 98 2 rfl rfl (T_call (lvs := [_]) (L := [(1, 1)]) (lv := .agg [.r 98, .r 99]) (upd := [(98, .fz 1 _), (99, .fz 1 _)]) (nn := 2) false (live_spec f (small_lf (by assumption : small27 f 12 60 = true))) body50 rfl rfl rfl rfl (.fz rfl (.nil)) rfl (.inl rfl) rfl rfl rfl) rfl ?_
  refine qn 3 114 3 rfl rfl (T_nilbox [(48, 1), (48, 1)] (T_alloc D rfl rfl rfl) rfl (.cons (.nil rfl) <| .cons (.nil rfl) <| .nil) (upd' := [(114, .box 57 [.r 115, .r 116]), (115, .row 48 1 (List.map eBs ([] : List (List Bool)))), (116, .row 48 1 (List.map eBs ([] : List (List Bool))))]) (nn' := 3) rfl rfl) rfl ?_
  refine s1 130 4 rfl rfl (T_stB D (cs' := [_, _]) rfl rfl rfl rfl flat_agg rfl rfl (Nat.le_of_ble_eq_true rfl) rfl) rfl ?_
  refine k_done rfl ?_
  refine thenK_n ?_
  refine W_seq ?_
  refine W_anyK (b' := 434) rfl rfl rfl ?_
  refine q0 10 146 1 rfl rfl (T_callV (lvs := []) (L := []) (awake27_spec) body49 rfl rfl rfl rfl (.nil) rfl) rfl ?_
  refine q0 11 162 2 rfl rfl (T_move rfl rfl) rfl ?_
  refine k_op0 (d := 12) (b := 178) (j' := 3) rfl rfl rfl rfl (g_tt rfl rfl rfl rfl) (T_load_bA D (l := [_, _]) rfl rfl rfl rfl rfl rfl rfl) rfl ?_
  refine k_op0 (d := 13) (b := 194) (j' := 4) rfl rfl rfl rfl (g_tt rfl rfl rfl rfl) (T_load_bA D (l := [_, _]) rfl rfl rfl rfl rfl rfl rfl) rfl ?_
  refine k_opn (d := 14) (b := 210) (j' := 5) rfl rfl rfl rfl (g_tt rfl rfl rfl rfl) (T_call (lvs := [_]) (L := [(1, 1)]) (lv := .agg [.r 210, .r 211]) (upd := [(210, .fz 1 _), (211, .fz 1 _)]) (nn := 2) false (rlive_spec f (small_lf (by assumption : small27 f 12 60 = true))) body42 rfl rfl rfl rfl (.fz rfl (.nil)) rfl (.inl rfl) rfl rfl rfl) rfl ?_
  refine k_op0 (d := 15) (b := 226) (j' := 6) rfl rfl rfl rfl (g_tt rfl rfl rfl rfl) (T_callV (lvs := [_, _]) (L := [(1, 98), (2, 99), (3, 210), (4, 211)]) (rsame_spec (liveL f).1 (liveL f).2 (liveL f).1 (liveL f).2 (by have := live_len1 (by assumption : small27 f 12 60 = true); omega) (by have := live_len2 (by assumption : small27 f 12 60 = true); omega) (live_each1 (by assumption : small27 f 12 60 = true)) (live_each2 (by assumption : small27 f 12 60 = true)) (live_each1 (by assumption : small27 f 12 60 = true)) (live_each2 (by assumption : small27 f 12 60 = true))) body51 rfl rfl rfl rfl (.fz rfl (.fz rfl (.fz rfl (.fz rfl (.nil))))) rfl) rfl ?_
  refine q0 16 242 7 rfl rfl (T_pick_t rfl rfl rfl rfl) rfl ?_
  refine q0 17 258 8 rfl rfl (T_move rfl rfl) rfl ?_
  refine k_split (d := 17) rfl (fun g2 => ?_) (fun g2 => ?_)
  ·have h2 := g2; (try simp only [cmpB, decide_eq_true_eq, decide_eq_false_iff_not, beq_iff_eq, beq_eq_false_iff_ne, bne_iff_ne, ne_eq, bne_eq_false_iff_eq, Bool.not_eq_true', Bool.not_eq_false', Int.not_lt, Int.not_le] at h2)
   refine k_op0 (d := 18) (b := 274) (j' := 9) rfl rfl rfl rfl (g_tt rfl rfl rfl g2) (T_load_bA D (l := [_, _]) rfl rfl rfl rfl rfl rfl rfl) rfl ?_
   refine k_op0 (d := 19) (b := 290) (j' := 10) rfl rfl rfl rfl (g_tt rfl rfl rfl g2) (T_load_bA D (l := [_, _]) rfl rfl rfl rfl rfl rfl rfl) rfl ?_
   refine k_op0 (d := 20) (b := 306) (j' := 11) rfl rfl rfl rfl (g_tt rfl rfl rfl g2) (T_callV (lvs := [_, _]) (L := [(1, 1), (2, 98), (3, 99)]) (rlcheck_spec f (liveL f).1 (liveL f).2 (small_lf (by assumption : small27 f 12 60 = true)) (by have := live_len1 (by assumption : small27 f 12 60 = true); omega) (by have := live_len2 (by assumption : small27 f 12 60 = true); omega)) body52 rfl rfl rfl rfl (.fz rfl (.fz rfl (.fz rfl (.nil)))) rfl) rfl ?_
   refine q0 21 322 12 rfl rfl (T_pick_t rfl rfl rfl g2) rfl ?_
   refine q0 22 338 13 rfl rfl (T_move rfl rfl) rfl ?_
   refine k_split (d := 22) rfl (fun g3 => ?_) (fun g3 => ?_)
   ·have h3 := g3; (try simp only [cmpB, decide_eq_true_eq, decide_eq_false_iff_not, beq_iff_eq, beq_eq_false_iff_ne, bne_iff_ne, ne_eq, bne_eq_false_iff_eq, Bool.not_eq_true', Bool.not_eq_false', Int.not_lt, Int.not_le] at h3)
    refine k_op0 (d := 23) (b := 354) (j' := 14) rfl rfl rfl rfl (g_tt rfl rfl rfl g3) (T_load_bA D (l := [_, _]) rfl rfl rfl rfl rfl rfl rfl) rfl ?_
    refine k_op0 (d := 24) (b := 370) (j' := 15) rfl rfl rfl rfl (g_tt rfl rfl rfl g3) (T_load_bA D (l := [_, _]) rfl rfl rfl rfl rfl rfl rfl) rfl ?_
    refine k_op0 (d := 25) (b := 386) (j' := 16) rfl rfl rfl rfl (g_tt rfl rfl rfl g3) (T_callV (lvs := [_, _]) (L := [(1, 1), (2, 98), (3, 99)]) (lcheck_spec f (liveL f).1 (liveL f).2 (small_lf (by assumption : small27 f 12 60 = true)) (by have := live_len1 (by assumption : small27 f 12 60 = true); omega) (by have := live_len2 (by assumption : small27 f 12 60 = true); omega)) body53 rfl rfl rfl rfl (.fz rfl (.fz rfl (.fz rfl (.nil)))) rfl) rfl ?_
    refine q0 26 402 17 rfl rfl (T_pick_t rfl rfl rfl g3) rfl ?_
    refine q0 2 418 18 rfl rfl (T_assign rfl rfl) rfl ?_
    refine k_done rfl ?_
    refine ⟨rfl, ?_⟩
    refine thenK_n ?_
    refine W_ret ?_
    exact .mk [] (.inr rfl) (.tmp rfl (.nil)) (by first | rfl | (simp only [resLV, LV.ren, LV.v.injEq, Value.bool.injEq]; exact live_closed (small_lf (by assumption : small27 f 12 60 = true))) | (exfalso; have k := live_closed (small_lf (by assumption : small27 f 12 60 = true)); simp_all; done) | (exfalso; simp_all; done)) (.nil) rfl
   ·have h3 := g3; (try simp only [cmpB, decide_eq_true_eq, decide_eq_false_iff_not, beq_iff_eq, beq_eq_false_iff_ne, bne_iff_ne, ne_eq, bne_eq_false_iff_eq, Bool.not_eq_true', Bool.not_eq_false', Int.not_lt, Int.not_le] at h3)
    refine k_no (d := 23) (j' := 14) rfl rfl rfl (g_tf rfl rfl rfl g3) ?_
    refine k_no (d := 24) (j' := 15) rfl rfl rfl (g_tf rfl rfl rfl g3) ?_
    refine k_no (d := 25) (j' := 16) rfl rfl rfl (g_tf rfl rfl rfl g3) ?_
    refine q0 26 402 17 rfl rfl (T_pick_f rfl rfl rfl g3) rfl ?_
    refine q0 2 418 18 rfl rfl (T_assign rfl rfl) rfl ?_
    refine k_done rfl ?_
    refine ⟨rfl, ?_⟩
    refine thenK_n ?_
    refine W_ret ?_
    exact .mk [] (.inr rfl) (.tmp rfl (.nil)) (by first | rfl | (simp only [resLV, LV.ren, LV.v.injEq, Value.bool.injEq]; exact live_closed (small_lf (by assumption : small27 f 12 60 = true))) | (exfalso; have k := live_closed (small_lf (by assumption : small27 f 12 60 = true)); simp_all; done) | (exfalso; simp_all; done)) (.nil) rfl
  ·have h2 := g2; (try simp only [cmpB, decide_eq_true_eq, decide_eq_false_iff_not, beq_iff_eq, beq_eq_false_iff_ne, bne_iff_ne, ne_eq, bne_eq_false_iff_eq, Bool.not_eq_true', Bool.not_eq_false', Int.not_lt, Int.not_le] at h2)
   refine k_no (d := 18) (j' := 9) rfl rfl rfl (g_tf rfl rfl rfl g2) ?_
   refine k_no (d := 19) (j' := 10) rfl rfl rfl (g_tf rfl rfl rfl g2) ?_
   refine k_no (d := 20) (j' := 11) rfl rfl rfl (g_tf rfl rfl rfl g2) ?_
   refine q0 21 322 12 rfl rfl (T_pick_f rfl rfl rfl g2) rfl ?_
   refine q0 22 338 13 rfl rfl (T_move rfl rfl) rfl ?_
   refine k_no (d := 23) (j' := 14) rfl rfl rfl (g_tf rfl rfl rfl rfl) ?_
   refine k_no (d := 24) (j' := 15) rfl rfl rfl (g_tf rfl rfl rfl rfl) ?_
   refine k_no (d := 25) (j' := 16) rfl rfl rfl (g_tf rfl rfl rfl rfl) ?_
   refine q0 26 402 17 rfl rfl (T_pick_f rfl rfl rfl rfl) rfl ?_
   refine q0 2 418 18 rfl rfl (T_assign rfl rfl) rfl ?_
   refine k_done rfl ?_
   refine ⟨rfl, ?_⟩
   refine thenK_n ?_
   refine W_ret ?_
   exact .mk [] (.inr rfl) (.tmp rfl (.nil)) (by first | rfl | (simp only [resLV, LV.ren, LV.v.injEq, Value.bool.injEq]; exact live_closed (small_lf (by assumption : small27 f 12 60 = true))) | (exfalso; have k := live_closed (small_lf (by assumption : small27 f 12 60 = true)); simp_all; done) | (exfalso; simp_all; done)) (.nil) rfl
theorem body14 : (Try.prog.funcs[14]?).map (fun fn => (fn.name == "runtime.NumGoroutine" || fn.body.isNone)) = some false := by kernel_rfl
theorem law14 (f : GFn) (mi mo ni no : List (List Bool)) (hf : FnOk f) : Spec Try.prog 14 [.agg [.v (.int .i64 f.regs), .r 1], .agg [.r 2, .r 3], .agg [.r 4, .r 5]] 6 [(1, .fz 5 (f.blocks.map eBlock)), (2, .fz 1 (mi.map eBs)), (3, .fz 1 (mo.map eBs)), (4, .fz 1 (ni.map eBs)), (5, .fz 1 (no.map eBs))] (.v (.bool true)) 6 [] := by
 refine spec_of D (fn := Try.f14) rfl rfl (Nat.le_of_ble_eq_true rfl) ?_
 refine W_seq ?_
 refine W_seqK (b' := 70) rfl rfl ?_
 refine q1 3 6 1 rfl rfl (T_box rfl rfl flat_agg) rfl ?_
 refine q1 4 22 2 rfl rfl (T_box rfl rfl flat_agg) rfl ?_
 refine q1 5 38 3 rfl rfl (T_box rfl rfl flat_agg) rfl ?_
 refine q0 6 54 4 rfl rfl (T_assign rfl rfl) rfl ?_
 refine k_done rfl ?_
 refine thenK_n ?_
 refine W_seq ?_
 refine W_seq ?_
 refine W_seqK (b' := 246) rfl rfl ?_
 refine q0 7 70 1 rfl rfl (T_load_bA D (l := [_, _]) rfl rfl rfl rfl rfl rfl rfl) rfl ?_
 refine q0 8 86 2 rfl rfl (T_callV (lvs := [_, _, _]) (L := [(1, 1)]) (small27_spec f 12 60 hf (by omega) (by omega)) body48 rfl rfl rfl rfl (.fz rfl (.nil)) rfl) rfl ?_
 refine q0 9 102 3 rfl rfl (T_not rfl rfl) rfl ?_
 refine q0 10 118 4 rfl rfl (T_move rfl rfl) rfl ?_
 refine k_split (d := 10) rfl (fun g1 => ?_) (fun g1 => ?_)
 ·have h1 := g1; (try simp only [cmpB, decide_eq_true_eq, decide_eq_false_iff_not, beq_iff_eq, beq_eq_false_iff_ne, bne_iff_ne, ne_eq, bne_eq_false_iff_eq, Bool.not_eq_true', Bool.not_eq_false', Int.not_lt, Int.not_le] at h1)
  refine k_no (d := 11) (j' := 5) rfl rfl rfl (g_ft rfl rfl rfl g1) ?_
  refine k_no (d := 12) (j' := 6) rfl rfl rfl (g_ft rfl rfl rfl g1) ?_
  refine q0 13 166 7 rfl rfl (T_pick_t rfl rfl rfl g1) rfl ?_
  refine q0 14 182 8 rfl rfl (T_move rfl rfl) rfl ?_
  refine k_no (d := 15) (j' := 9) rfl rfl rfl (g_ft rfl rfl rfl rfl) ?_
  refine k_no (d := 16) (j' := 10) rfl rfl rfl (g_ft rfl rfl rfl rfl) ?_
  refine q0 17 230 11 rfl rfl (T_pick_t rfl rfl rfl rfl) rfl ?_
  refine k_done rfl ?_
  refine thenK_n ?_
  refine W_cond rfl (fun g2 => ?_) (fun g2 => ?_)
  ·skip
   refine W_seq ?_
   refine W_seqK (b' := 278) rfl rfl ?_
   refine q0 18 246 1 rfl rfl (T_callV (lvs := []) (L := []) (awake27_spec) body49 rfl rfl rfl rfl (.nil) rfl) rfl ?_
   refine q0 6 262 2 rfl rfl (T_assign rfl rfl) rfl ?_
   refine k_done rfl ?_
   refine thenK_n ?_
   refine W_ret ?_
   refine thenK_r ?_
   exact .mk [] (.inr rfl) (.tmp rfl (.nil)) (by first | rfl | (simp only [resLV, LV.ren, LV.v.injEq, Value.bool.injEq]; exact beq_same) | (exfalso; simp_all; done)) (.nil) rfl
  ·exact absurd (g2.symm.trans rfl) (by decide)
 ·have h1 := g1; (try simp only [cmpB, decide_eq_true_eq, decide_eq_false_iff_not, beq_iff_eq, beq_eq_false_iff_ne, bne_iff_ne, ne_eq, bne_eq_false_iff_eq, Bool.not_eq_true', Bool.not_eq_false', Int.not_lt, Int.not_le] at h1)
  refine k_op0 (d := 11) (b := 134) (j' := 5) rfl rfl rfl rfl (g_ff rfl rfl rfl g1) (T_load_bA D (l := [_, _]) rfl rfl rfl rfl rfl rfl rfl) rfl ?_
  refine k_op0 (d := 12) (b := 150) (j' := 6) rfl rfl rfl rfl (g_ff rfl rfl rfl g1) (T_callV (lvs := [_]) (L := [(1, 2), (2, 3)]) (great_spec mi mo) body54 rfl rfl rfl rfl (.fz rfl (.fz rfl (.nil))) rfl) rfl ?_
  refine q0 13 166 7 rfl rfl (T_pick_f rfl rfl rfl g1) rfl ?_
  refine q0 14 182 8 rfl rfl (T_move rfl rfl) rfl ?_
  refine k_split (d := 14) rfl (fun g3 => ?_) (fun g3 => ?_)
  ·have h3 := g3; (try simp only [cmpB, decide_eq_true_eq, decide_eq_false_iff_not, beq_iff_eq, beq_eq_false_iff_ne, bne_iff_ne, ne_eq, bne_eq_false_iff_eq, Bool.not_eq_true', Bool.not_eq_false', Int.not_lt, Int.not_le] at h3)
   refine k_no (d := 15) (j' := 9) rfl rfl rfl (g_ft rfl rfl rfl g3) ?_
   refine k_no (d := 16) (j' := 10) rfl rfl rfl (g_ft rfl rfl rfl g3) ?_
   refine q0 17 230 11 rfl rfl (T_pick_t rfl rfl rfl g3) rfl ?_
   refine k_done rfl ?_
   refine thenK_n ?_
   refine W_cond rfl (fun g4 => ?_) (fun g4 => ?_)
   ·skip
    refine W_seq ?_
    refine W_seqK (b' := 278) rfl rfl ?_
    refine q0 18 246 1 rfl rfl (T_callV (lvs := []) (L := []) (awake27_spec) body49 rfl rfl rfl rfl (.nil) rfl) rfl ?_
    refine q0 6 262 2 rfl rfl (T_assign rfl rfl) rfl ?_
    refine k_done rfl ?_
    refine thenK_n ?_
    refine W_ret ?_
    refine thenK_r ?_
    exact .mk [] (.inr rfl) (.tmp rfl (.nil)) (by first | rfl | (simp only [resLV, LV.ren, LV.v.injEq, Value.bool.injEq]; exact beq_same) | (exfalso; simp_all; done)) (.nil) rfl
   ·exact absurd (g4.symm.trans rfl) (by decide)
  ·have h3 := g3; (try simp only [cmpB, decide_eq_true_eq, decide_eq_false_iff_not, beq_iff_eq, beq_eq_false_iff_ne, bne_iff_ne, ne_eq, bne_eq_false_iff_eq, Bool.not_eq_true', Bool.not_eq_false', Int.not_lt, Int.not_le] at h3)
   refine k_op0 (d := 15) (b := 198) (j' := 9) rfl rfl rfl rfl (g_ff rfl rfl rfl g3) (T_load_bA D (l := [_, _]) rfl rfl rfl rfl rfl rfl rfl) rfl ?_
   refine k_op0 (d := 16) (b := 214) (j' := 10) rfl rfl rfl rfl (g_ff rfl rfl rfl g3) (T_callV (lvs := [_]) (L := [(1, 4), (2, 5)]) (great_spec ni no) body54 rfl rfl rfl rfl (.fz rfl (.fz rfl (.nil))) rfl) rfl ?_
   refine q0 17 230 11 rfl rfl (T_pick_f rfl rfl rfl g3) rfl ?_
   refine k_done rfl ?_
   refine thenK_n ?_
   refine W_cond rfl (fun g5 => ?_) (fun g5 => ?_)
   ·have h5 := g5; (try simp only [cmpB, decide_eq_true_eq, decide_eq_false_iff_not, beq_iff_eq, beq_eq_false_iff_ne, bne_iff_ne, ne_eq, bne_eq_false_iff_eq, Bool.not_eq_true', Bool.not_eq_false', Int.not_lt, Int.not_le] at h5)
    refine W_seq ?_
    refine W_seqK (b' := 278) rfl rfl ?_
    refine q0 18 246 1 rfl rfl (T_callV (lvs := []) (L := []) (awake27_spec) body49 rfl rfl rfl rfl (.nil) rfl) rfl ?_
    refine q0 6 262 2 rfl rfl (T_assign rfl rfl) rfl ?_
    refine k_done rfl ?_
    refine thenK_n ?_
    refine W_ret ?_
    refine thenK_r ?_
    exact .mk [] (.inr rfl) (.tmp rfl (.nil)) (by first | rfl | (simp only [resLV, LV.ren, LV.v.injEq, Value.bool.injEq]; exact beq_same) | (exfalso; simp_all; done)) (.nil) rfl
   ·have h5 := g5; (try simp only [cmpB, decide_eq_true_eq, decide_eq_false_iff_not, beq_iff_eq, beq_eq_false_iff_ne, bne_iff_ne, ne_eq, bne_eq_false_iff_eq, Bool.not_eq_true', Bool.not_eq_false', Int.not_lt, Int.not_le] at h5)
    refine W_skip ?_
    refine thenK_n ?_
    refine W_seq ?_
    refine W_anyK (b' := 566) rfl rfl rfl ?_
    refine q0 19 246 1 rfl rfl (T_callV (lvs := []) (L := []) (awake27_spec) body49 rfl rfl rfl rfl (.nil) rfl) rfl ?_
    refine q0 20 262 2 rfl rfl (T_move rfl rfl) rfl ?_
    refine k_op0 (d := 21) (b := 278) (j' := 3) rfl rfl rfl rfl (g_tt rfl rfl rfl rfl) (T_load_bA D (l := [_, _]) rfl rfl rfl rfl rfl rfl rfl) rfl ?_
    refine k_op0 (d := 22) (b := 294) (j' := 4) rfl rfl rfl rfl (g_tt rfl rfl rfl rfl) (T_load_bA D (l := [_, _]) rfl rfl rfl rfl rfl rfl rfl) rfl ?_
    refine k_op0 (d := 23) (b := 310) (j' := 5) rfl rfl rfl rfl (g_tt rfl rfl rfl rfl) (T_callV (lvs := [_, _]) (L := [(1, 1), (2, 2), (3, 3)]) (lcheck_spec f mi mo (small_lf (by assumption : small27 f 12 60 = true)) (great_l1 (by assumption)) (great_l2 (by assumption))) body53 rfl rfl rfl rfl (.fz rfl (.fz rfl (.fz rfl (.nil)))) rfl) rfl ?_
    refine k_op0 (d := 24) (b := 326) (j' := 6) rfl rfl rfl rfl (g_tt rfl rfl rfl rfl) (T_load_bA D (l := [_, _]) rfl rfl rfl rfl rfl rfl rfl) rfl ?_
    refine k_op0 (d := 25) (b := 342) (j' := 7) rfl rfl rfl rfl (g_tt rfl rfl rfl rfl) (T_load_bA D (l := [_, _]) rfl rfl rfl rfl rfl rfl rfl) rfl ?_
    refine k_op0 (d := 26) (b := 358) (j' := 8) rfl rfl rfl rfl (g_tt rfl rfl rfl rfl) (T_callV (lvs := [_, _]) (L := [(1, 1), (2, 2), (3, 3)]) (rlcheck_spec f mi mo (small_lf (by assumption : small27 f 12 60 = true)) (by have := great_l1 (by assumption : greatL mi mo = false); omega) (by have := great_l2 (by assumption : greatL mi mo = false); omega)) body52 rfl rfl rfl rfl (.fz rfl (.fz rfl (.fz rfl (.nil)))) rfl) rfl ?_
    refine k_op0 (d := 27) (b := 374) (j' := 9) rfl rfl rfl rfl (g_tt rfl rfl rfl rfl) (T_eqB rfl rfl rfl) rfl ?_
    refine q0 28 390 10 rfl rfl (T_pick_t rfl rfl rfl rfl) rfl ?_
    refine q0 29 406 11 rfl rfl (T_move rfl rfl) rfl ?_
    refine k_split (d := 29) rfl (fun g6 => ?_) (fun g6 => ?_)
    ·have h6 := g6; (try simp only [cmpB, decide_eq_true_eq, decide_eq_false_iff_not, beq_iff_eq, beq_eq_false_iff_ne, bne_iff_ne, ne_eq, bne_eq_false_iff_eq, Bool.not_eq_true', Bool.not_eq_false', Int.not_lt, Int.not_le] at h6)
     refine k_op0 (d := 30) (b := 422) (j' := 12) rfl rfl rfl rfl (g_tt rfl rfl rfl g6) (T_load_bA D (l := [_, _]) rfl rfl rfl rfl rfl rfl rfl) rfl ?_
     refine k_op0 (d := 31) (b := 438) (j' := 13) rfl rfl rfl rfl (g_tt rfl rfl rfl g6) (T_load_bA D (l := [_, _]) rfl rfl rfl rfl rfl rfl rfl) rfl ?_
     refine k_op0 (d := 32) (b := 454) (j' := 14) rfl rfl rfl rfl (g_tt rfl rfl rfl g6) (T_callV (lvs := [_, _]) (L := [(1, 2), (2, 3), (3, 4), (4, 5)]) (lsame_spec mi mo ni no (great_l1 (by assumption)) (great_l2 (by assumption)) (great_each1 (lo := mo) (by assumption)) (great_each2 (li := mi) (by assumption)) (great_each1 (lo := no) (by assumption)) (great_each2 (li := ni) (by assumption))) body55 rfl rfl rfl rfl (.fz rfl (.fz rfl (.fz rfl (.fz rfl (.nil))))) rfl) rfl ?_
     refine k_op0 (d := 33) (b := 470) (j' := 15) rfl rfl rfl rfl (g_tt rfl rfl rfl g6) (T_load_bA D (l := [_, _]) rfl rfl rfl rfl rfl rfl rfl) rfl ?_
     refine k_op0 (d := 34) (b := 486) (j' := 16) rfl rfl rfl rfl (g_tt rfl rfl rfl g6) (T_load_bA D (l := [_, _]) rfl rfl rfl rfl rfl rfl rfl) rfl ?_
     refine k_op0 (d := 35) (b := 502) (j' := 17) rfl rfl rfl rfl (g_tt rfl rfl rfl g6) (T_callV (lvs := [_, _]) (L := [(1, 2), (2, 3), (3, 4), (4, 5)]) (rsame_spec mi mo ni no (great_l1 (by assumption)) (great_l2 (by assumption)) (great_each1 (lo := mo) (by assumption)) (great_each2 (li := mi) (by assumption)) (great_each1 (lo := no) (by assumption)) (great_each2 (li := ni) (by assumption))) body51 rfl rfl rfl rfl (.fz rfl (.fz rfl (.fz rfl (.fz rfl (.nil))))) rfl) rfl ?_
     refine k_op0 (d := 36) (b := 518) (j' := 18) rfl rfl rfl rfl (g_tt rfl rfl rfl g6) (T_eqB rfl rfl rfl) rfl ?_
     refine q0 37 534 19 rfl rfl (T_pick_t rfl rfl rfl g6) rfl ?_
     refine q0 6 550 20 rfl rfl (T_assign rfl rfl) rfl ?_
     refine k_done rfl ?_
     refine ⟨rfl, ?_⟩
     refine thenK_n ?_
     refine W_ret ?_
     exact .mk [] (.inr rfl) (.tmp rfl (.nil)) (by first | rfl | (simp only [resLV, LV.ren, LV.v.injEq, Value.bool.injEq]; exact beq_same) | (exfalso; simp_all; done)) (.nil) rfl
    ·have h6 := g6; (try simp only [cmpB, decide_eq_true_eq, decide_eq_false_iff_not, beq_iff_eq, beq_eq_false_iff_ne, bne_iff_ne, ne_eq, bne_eq_false_iff_eq, Bool.not_eq_true', Bool.not_eq_false', Int.not_lt, Int.not_le] at h6)
     refine k_no (d := 30) (j' := 12) rfl rfl rfl (g_tf rfl rfl rfl g6) ?_
     refine k_no (d := 31) (j' := 13) rfl rfl rfl (g_tf rfl rfl rfl g6) ?_
     refine k_no (d := 32) (j' := 14) rfl rfl rfl (g_tf rfl rfl rfl g6) ?_
     refine k_no (d := 33) (j' := 15) rfl rfl rfl (g_tf rfl rfl rfl g6) ?_
     refine k_no (d := 34) (j' := 16) rfl rfl rfl (g_tf rfl rfl rfl g6) ?_
     refine k_no (d := 35) (j' := 17) rfl rfl rfl (g_tf rfl rfl rfl g6) ?_
     refine k_no (d := 36) (j' := 18) rfl rfl rfl (g_tf rfl rfl rfl g6) ?_
     refine q0 37 534 19 rfl rfl (T_pick_f rfl rfl rfl g6) rfl ?_
     refine q0 6 550 20 rfl rfl (T_assign rfl rfl) rfl ?_
     refine k_done rfl ?_
     refine ⟨rfl, ?_⟩
     refine thenK_n ?_
     refine W_ret ?_
     exact .mk [] (.inr rfl) (.tmp rfl (.nil)) (by first | rfl | (simp only [resLV, LV.ren, LV.v.injEq, Value.bool.injEq]; exact beq_same) | (exfalso; simp_all; done)) (.nil) rfl
end Lg
end Go.Proofs.Ytpfhmodjjljpjaa
