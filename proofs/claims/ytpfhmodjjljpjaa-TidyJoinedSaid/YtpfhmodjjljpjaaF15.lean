import Derived.Test.YtpfhmodjjljpjaaPh
namespace Go.Proofs.Ytpfhmodjjljpjaa
open Go.RowKit
namespace Lg
set_option maxRecDepth 100000
set_option linter.unusedVariables false
set_option linter.unusedSimpArgs false



theorem body24 : (Try.prog.funcs[24]?).map (fun fn => (fn.name == "runtime.NumGoroutine" || fn.body.isNone)) = some false := by kernel_rfl
theorem awake_spec  : Spec Try.prog 24 [] 1 [] (.v (.bool true)) 1 [] := by
  refine spec_of D (fn := Try.f24) rfl rfl (Nat.le_of_ble_eq_true rfl) ?_
  refine W_seq ?_
  refine W_seqK (b' := 17) rfl rfl ?_
  refine k_op0 (d := 0) (b := 1) (j' := 1) rfl rfl rfl rfl (.plain rfl) (T_assign rfl rfl) rfl ?_
  refine k_done rfl ?_
  refine thenK_n ?_
  refine W_seq ?_
  refine W_seqK (b' := 193) rfl rfl ?_
  refine k_op0 (d := 5) (b := 17) (j' := 1) rfl rfl rfl rfl (.plain rfl) (T_build D (l := [_, _, _, _, _, _, _, _]) rfl rfl rfl rfl (.cons rfl (flat_v rfl) (.nil)) rfl rfl) rfl ?_
  refine k_op1 (d := 6) (b := 33) (j' := 2) rfl rfl rfl rfl (.plain rfl) (T_bs D (ys := [⟨_, _, _, _, _, _, _, _⟩]) (enc := eTac) (l := [_, _, _, _, _, _, _, _]) rfl rfl rfl rfl rfl rfl (.cons rfl flat_agg (.nil)) rfl rfl rfl rfl (.v rfl (.v rfl (.v rfl (.v rfl (.v rfl (.v rfl (.v rfl (.v rfl (.nil))))))))) rfl rfl) rfl ?_
  refine k_op0 (d := 7) (b := 49) (j' := 3) rfl rfl rfl rfl (.plain rfl) (T_build D (l := [_, _, _, _, _]) rfl rfl rfl rfl (.cons rfl (flat_sl rfl) (.cons rfl (flat_v rfl) (.cons rfl (flat_v rfl) (.nil)))) rfl rfl) rfl ?_
  refine k_op1 (d := 8) (b := 65) (j' := 4) rfl rfl rfl rfl (.plain rfl) (T_nils [(70, 8)] (T_build D (l := [_, _, _, _, _]) rfl rfl rfl rfl (.cons rfl (flat_v rfl) (.nil)) rfl rfl) rfl (.inl ⟨rfl, rfl⟩) (.cons (.nil rfl) <| .cons (.same _) <| .cons (.same _) <| .cons (.same _) <| .cons (.same _) <| .nil) (lv' := .agg [.r 65, _, _, _, _]) (upd' := [(65, .row 70 8 (List.map eTac ([] : List (GTac))))]) (nn' := 1) rfl rfl) rfl ?_
  refine k_op0 (d := 9) (b := 81) (j' := 5) rfl rfl rfl rfl (.plain rfl) (T_build D (l := [_, _, _, _, _, _, _, _]) rfl rfl rfl rfl (.cons rfl (flat_v rfl) (.nil)) rfl rfl) rfl ?_
  refine k_op1 (d := 10) (b := 97) (j' := 6) rfl rfl rfl rfl (.plain rfl) (T_bs D (ys := [⟨_, _, _, _, _, _, _, _⟩]) (enc := eTac) (l := [_, _, _, _, _, _, _, _]) rfl rfl rfl rfl rfl rfl (.cons rfl flat_agg (.nil)) rfl rfl rfl rfl (.v rfl (.v rfl (.v rfl (.v rfl (.v rfl (.v rfl (.v rfl (.v rfl (.nil))))))))) rfl rfl) rfl ?_
  refine k_op0 (d := 11) (b := 113) (j' := 7) rfl rfl rfl rfl (.plain rfl) (T_build D (l := [_, _, _, _, _]) rfl rfl rfl rfl (.cons rfl (flat_sl rfl) (.cons rfl (flat_v rfl) (.nil))) rfl rfl) rfl ?_
  refine k_opn (d := 12) (b := 129) (j' := 8) rfl rfl rfl rfl (.plain rfl) (T_bs D (ys := [⟨_, _, _, _, _⟩, ⟨_, _, _, _, _⟩, ⟨_, _, _, _, _⟩]) (enc := eBlock) (l := [_, _, _, _, _, _, _, _, _, _, _, _, _, _, _]) rfl rfl rfl rfl rfl rfl (.cons rfl flat_agg (.cons rfl flat_agg (.cons rfl flat_agg (.nil)))) rfl rfl rfl rfl (.row rfl (.v rfl (.v rfl (.v rfl (.v rfl (.row rfl (.v rfl (.v rfl (.v rfl (.v rfl (.row rfl (.v rfl (.v rfl (.v rfl (.v rfl (.nil))))) rfl))))) rfl))))) rfl) rfl rfl) rfl ?_
  refine k_op0 (d := 13) (b := 145) (j' := 9) rfl rfl rfl rfl (.plain rfl) (T_build D (l := [_, _]) rfl rfl rfl rfl (.cons rfl (flat_v rfl) (.cons rfl (flat_sl rfl) (.nil))) rfl rfl) rfl ?_
  refine k_opn (d := 1) (b := 161) (j' := 10) rfl rfl rfl rfl (.plain rfl) (T_nilbox [(72, 5)] (T_alloc D rfl rfl rfl) rfl (.cons (.same _) <| .cons (.nil rfl) <| .nil) (upd' := [(161, .box 29 [.v (.int .i64 0), .r 162]), (162, .row 72 5 (List.map eBlock ([] : List (GBlock))))]) (nn' := 2) rfl rfl) rfl ?_
  refine k_st1 (b := 177) (j' := 11) rfl rfl rfl rfl (.plain rfl) (T_stB D (cs' := [_, _]) rfl rfl rfl rfl flat_agg rfl rfl (Nat.le_of_ble_eq_true rfl) rfl) rfl ?_
  refine k_done rfl ?_
  refine thenK_n ?_
  refine W_seq ?_
  refine W_seqK (b' := 321) rfl rfl ?_
  refine k_op0 (d := 14) (b := 193) (j' := 1) rfl rfl rfl rfl (.plain rfl) (T_build D (l := [_, _, _, _, _, _, _, _]) rfl rfl rfl rfl (.cons rfl (flat_v rfl) (.nil)) rfl rfl) rfl ?_
  refine k_op0 (d := 15) (b := 209) (j' := 2) rfl rfl rfl rfl (.plain rfl) (T_build D (l := [_, _, _, _, _, _, _, _]) rfl rfl rfl rfl (.cons rfl (flat_v rfl) (.nil)) rfl rfl) rfl ?_
  refine k_op1 (d := 16) (b := 225) (j' := 3) rfl rfl rfl rfl (.plain rfl) (T_bs D (ys := [⟨_, _, _, _, _, _, _, _⟩, ⟨_, _, _, _, _, _, _, _⟩]) (enc := eTac) (l := [_, _, _, _, _, _, _, _, _, _, _, _, _, _, _, _]) rfl rfl rfl rfl rfl rfl (.cons rfl flat_agg (.cons rfl flat_agg (.nil))) rfl rfl rfl rfl (.v rfl (.v rfl (.v rfl (.v rfl (.v rfl (.v rfl (.v rfl (.v rfl (.v rfl (.v rfl (.v rfl (.v rfl (.v rfl (.v rfl (.v rfl (.v rfl (.nil))))))))))))))))) rfl rfl) rfl ?_
  refine k_op0 (d := 17) (b := 241) (j' := 4) rfl rfl rfl rfl (.plain rfl) (T_build D (l := [_, _, _, _, _]) rfl rfl rfl rfl (.cons rfl (flat_sl rfl) (.cons rfl (flat_v rfl) (.nil))) rfl rfl) rfl ?_
  refine k_opn (d := 18) (b := 257) (j' := 5) rfl rfl rfl rfl (.plain rfl) (T_bs D (ys := [⟨_, _, _, _, _⟩]) (enc := eBlock) (l := [_, _, _, _, _]) rfl rfl rfl rfl rfl rfl (.cons rfl flat_agg (.nil)) rfl rfl rfl rfl (.row rfl (.v rfl (.v rfl (.v rfl (.v rfl (.nil))))) rfl) rfl rfl) rfl ?_
  refine k_op0 (d := 19) (b := 273) (j' := 6) rfl rfl rfl rfl (.plain rfl) (T_build D (l := [_, _]) rfl rfl rfl rfl (.cons rfl (flat_v rfl) (.cons rfl (flat_sl rfl) (.nil))) rfl rfl) rfl ?_
  refine k_opn (d := 2) (b := 289) (j' := 7) rfl rfl rfl rfl (.plain rfl) (T_nilbox [(72, 5)] (T_alloc D rfl rfl rfl) rfl (.cons (.same _) <| .cons (.nil rfl) <| .nil) (upd' := [(289, .box 29 [.v (.int .i64 0), .r 290]), (290, .row 72 5 (List.map eBlock ([] : List (GBlock))))]) (nn' := 2) rfl rfl) rfl ?_
  refine k_st1 (b := 305) (j' := 8) rfl rfl rfl rfl (.plain rfl) (T_stB D (cs' := [_, _]) rfl rfl rfl rfl flat_agg rfl rfl (Nat.le_of_ble_eq_true rfl) rfl) rfl ?_
  refine k_done rfl ?_
  refine thenK_n ?_
  refine W_seq ?_
  refine W_seqK (b' := 449) rfl rfl ?_
  refine k_op0 (d := 21) (b := 321) (j' := 1) rfl rfl rfl rfl (.plain rfl) (T_load_bA D (l := [_, _]) rfl rfl rfl rfl rfl rfl rfl) rfl ?_
  refine k_opn (d := 22) (b := 337) (j' := 2) rfl rfl rfl rfl (.plain rfl) (T_call (lvs := [_]) (L := [(1, 129)]) (lv := .tup [.agg [.v _, .r 337], .r 338]) (upd := [(337, .row 72 5 _), (338, .fz 1 _), (129, .fz 5 _)]) (nn := 2) false (tidy_spec aF (by decide) aF_in (by decide)) body26 rfl rfl rfl rfl (.lend rfl (.nil)) rfl (.inl rfl) rfl rfl rfl) rfl ?_
  refine k_op0 (d := 20) (b := 353) (j' := 3) rfl rfl rfl rfl (.plain rfl) (T_move rfl rfl) rfl ?_
  refine k_op0 (d := 23) (b := 369) (j' := 4) rfl rfl rfl rfl (.plain rfl) (T_extract rfl rfl rfl) rfl ?_
  refine k_op0 (d := 24) (b := 385) (j' := 5) rfl rfl rfl rfl (.plain rfl) (T_extract rfl rfl rfl) rfl ?_
  refine k_opn (d := 3) (b := 401) (j' := 6) rfl rfl rfl rfl (.plain rfl) (T_nilbox [(72, 5)] (T_alloc D rfl rfl rfl) rfl (.cons (.same _) <| .cons (.nil rfl) <| .nil) (upd' := [(401, .box 29 [.v (.int .i64 0), .r 402]), (402, .row 72 5 (List.map eBlock ([] : List (GBlock))))]) (nn' := 2) rfl rfl) rfl ?_
  refine k_st1 (b := 417) (j' := 7) rfl rfl rfl rfl (.plain rfl) (T_stB D (cs' := [_, _]) rfl rfl rfl rfl flat_agg rfl rfl (Nat.le_of_ble_eq_true rfl) rfl) rfl ?_
  refine k_op0 (d := 4) (b := 433) (j' := 8) rfl rfl rfl rfl (.plain rfl) (T_assign rfl rfl) rfl ?_
  refine k_done rfl ?_
  refine thenK_n ?_
  refine W_seq ?_
  refine W_seqK (b' := 1025) rfl rfl ?_
  refine k_op0 (d := 25) (b := 449) (j' := 1) rfl rfl rfl rfl (.plain rfl) (T_load_bA D (l := [_, _]) rfl rfl rfl rfl rfl rfl rfl) rfl ?_
  refine k_op0 (d := 26) (b := 465) (j' := 2) rfl rfl rfl rfl (.plain rfl) (T_load_bA D (l := [_, _]) rfl rfl rfl rfl rfl rfl rfl) rfl ?_
  refine k_op0 (d := 27) (b := 481) (j' := 3) rfl rfl rfl rfl (.plain rfl) (T_callV (lvs := [_, _]) (L := [(1, 337), (2, 257)]) (same_spec (tidyG aF) aG (by decide +kernel) (by decide +kernel)) body28 rfl rfl rfl rfl (.lend rfl (.lend rfl (.nil))) rfl) rfl ?_
  refine k_op0 (d := 28) (b := 497) (j' := 4) rfl rfl rfl rfl (.plain rfl) (T_move rfl rfl) rfl ?_
  refine k_split (d := 28) rfl (fun g1 => ?_) (fun g1 => ?_)
  · have h1 := g1; (try simp only [cmpB, decide_eq_true_eq, decide_eq_false_iff_not, beq_iff_eq, beq_eq_false_iff_ne, bne_iff_ne, ne_eq, bne_eq_false_iff_eq, Bool.not_eq_true', Bool.not_eq_false', Int.not_lt, Int.not_le] at h1)
    refine k_op0 (d := 29) (b := 513) (j' := 5) rfl rfl rfl rfl (g_tt rfl rfl rfl g1) (T_move rfl rfl) rfl ?_
    refine k_op0 (d := 30) (b := 529) (j' := 6) rfl rfl rfl rfl (g_tt rfl rfl rfl g1) (T_len D rfl rfl rfl rfl rfl rfl) rfl ?_
    refine k_op0 (d := 31) (b := 545) (j' := 7) rfl rfl rfl rfl (g_tt rfl rfl rfl g1) (T_cmp rfl rfl rfl rfl) rfl ?_
    refine k_op0 (d := 32) (b := 561) (j' := 8) rfl rfl rfl rfl (.plain rfl) (T_pick_t rfl rfl rfl g1) rfl ?_
    refine k_op0 (d := 33) (b := 577) (j' := 9) rfl rfl rfl rfl (.plain rfl) (T_move rfl rfl) rfl ?_
    refine k_split (d := 33) rfl (fun g2 => ?_) (fun g2 => ?_)
    · have h2 := g2; (try simp only [cmpB, decide_eq_true_eq, decide_eq_false_iff_not, beq_iff_eq, beq_eq_false_iff_ne, bne_iff_ne, ne_eq, bne_eq_false_iff_eq, Bool.not_eq_true', Bool.not_eq_false', Int.not_lt, Int.not_le] at h2)
      refine k_op0 (d := 34) (b := 593) (j' := 10) rfl rfl rfl rfl (g_tt rfl rfl rfl g2) (T_move rfl rfl) rfl ?_
      first | refine k_op0 (d := 35) (b := 609) (j' := 11) rfl rfl rfl rfl (g_tt rfl rfl rfl g2) (T_indexAddr D rfl rfl rfl rfl rfl rfl rfl rfl (by first | assumption | decide +kernel)) rfl ?_ | refine k_op0 (d := 35) (b := 609) (j' := 11) rfl rfl rfl rfl (g_tt rfl rfl rfl g2) (T_indexAddrZ D rfl rfl rfl rfl rfl rfl rfl rfl (by first | assumption | decide +kernel) (by first | assumption | decide +kernel)) rfl ?_
      refine k_op1 (d := 36) (b := 625) (j' := 12) rfl rfl rfl rfl (g_tt rfl rfl rfl g2) (T_ldE D (lv := .r 625) (nn := 1) (upd := [(625, .fz 1 _)]) rfl rfl rfl rfl rfl (by first | assumption | decide +kernel) rfl rfl rfl rfl) rfl ?_
      refine k_op1 (d := 37) (b := 641) (j' := 13) rfl rfl rfl rfl (g_tt rfl rfl rfl g2) (T_bs D (ys := [_, _]) (enc := eI) (l := [_, _]) rfl rfl rfl rfl rfl rfl (.cons rfl (flat_v rfl) (.cons rfl (flat_v rfl) (.nil))) rfl rfl rfl rfl (.v rfl (.v rfl (.nil))) rfl rfl) rfl ?_
      refine k_op0 (d := 38) (b := 657) (j' := 14) rfl rfl rfl rfl (g_tt rfl rfl rfl g2) (T_callV (lvs := [_, _]) (L := [(1, 625), (2, 641)]) (list_spec ((pathsL aF).getD 0 default) [0, 2] (by decide +kernel)) body39 rfl rfl rfl rfl (.fz rfl (.lend rfl (.nil))) rfl) rfl ?_
      refine k_op0 (d := 39) (b := 673) (j' := 15) rfl rfl rfl rfl (.plain rfl) (T_pick_t rfl rfl rfl g2) rfl ?_
      refine k_op0 (d := 40) (b := 689) (j' := 16) rfl rfl rfl rfl (.plain rfl) (T_move rfl rfl) rfl ?_
      refine k_split (d := 40) rfl (fun g3 => ?_) (fun g3 => ?_)
      · have h3 := g3; (try simp only [cmpB, decide_eq_true_eq, decide_eq_false_iff_not, beq_iff_eq, beq_eq_false_iff_ne, bne_iff_ne, ne_eq, bne_eq_false_iff_eq, Bool.not_eq_true', Bool.not_eq_false', Int.not_lt, Int.not_le] at h3)
        refine k_op0 (d := 41) (b := 705) (j' := 17) rfl rfl rfl rfl (g_tt rfl rfl rfl g3) (T_load_bA D (l := [_, _]) rfl rfl rfl rfl rfl rfl rfl) rfl ?_
        refine k_op0 (d := 42) (b := 721) (j' := 18) rfl rfl rfl rfl (g_tt rfl rfl rfl g3) (T_load_bA D (l := [_, _]) rfl rfl rfl rfl rfl rfl rfl) rfl ?_
        refine k_op0 (d := 43) (b := 737) (j' := 19) rfl rfl rfl rfl (g_tt rfl rfl rfl g3) (T_move rfl rfl) rfl ?_
        refine k_op0 (d := 44) (b := 753) (j' := 20) rfl rfl rfl rfl (g_tt rfl rfl rfl g3) (T_callV (lvs := [_, _, _]) (L := [(1, 129), (2, 337), (3, 338)]) (tcheck_spec aF (tidyG aF) (pathsL aF) (by decide +kernel) (by decide +kernel) (by decide +kernel) aI1) body30 rfl rfl rfl rfl (.fz rfl (.lend rfl (.fz rfl (.nil)))) rfl) rfl ?_
        refine k_op0 (d := 45) (b := 769) (j' := 21) rfl rfl rfl rfl (.plain rfl) (T_pick_t rfl rfl rfl g3) rfl ?_
        refine k_op0 (d := 46) (b := 785) (j' := 22) rfl rfl rfl rfl (.plain rfl) (T_move rfl rfl) rfl ?_
        refine k_split (d := 46) rfl (fun g4 => ?_) (fun g4 => ?_)
        · have h4 := g4; (try simp only [cmpB, decide_eq_true_eq, decide_eq_false_iff_not, beq_iff_eq, beq_eq_false_iff_ne, bne_iff_ne, ne_eq, bne_eq_false_iff_eq, Bool.not_eq_true', Bool.not_eq_false', Int.not_lt, Int.not_le] at h4)
          refine k_op0 (d := 47) (b := 801) (j' := 23) rfl rfl rfl rfl (g_tt rfl rfl rfl g4) (T_load_bA D (l := [_, _]) rfl rfl rfl rfl rfl rfl rfl) rfl ?_
          refine k_op0 (d := 48) (b := 817) (j' := 24) rfl rfl rfl rfl (g_tt rfl rfl rfl g4) (T_load_bA D (l := [_, _]) rfl rfl rfl rfl rfl rfl rfl) rfl ?_
          refine k_op1 (d := 49) (b := 833) (j' := 25) rfl rfl rfl rfl (g_tt rfl rfl rfl g4) (T_bs D (ys := [_]) (enc := eI) (l := [_]) rfl rfl rfl rfl rfl rfl (.cons rfl (flat_v rfl) (.nil)) rfl rfl rfl rfl (.v rfl (.nil)) rfl rfl) rfl ?_
          refine k_opn (d := 50) (b := 849) (j' := 26) rfl rfl rfl rfl (g_tt rfl rfl rfl g4) (T_bs D (ys := [_]) (enc := eIs) (l := [_]) rfl rfl rfl rfl rfl rfl (.cons rfl (flat_sl rfl) (.nil)) rfl rfl rfl rfl (.row rfl (.nil) rfl) rfl rfl) rfl ?_
          refine k_op0 (d := 51) (b := 865) (j' := 27) rfl rfl rfl rfl (g_tt rfl rfl rfl g4) (T_callV (lvs := [_, _, _]) (L := [(1, 129), (2, 337), (3, 849)]) (tcheck_spec aF (tidyG aF) [[0]] (by decide +kernel) (by decide +kernel) (by decide +kernel) aI2) body30 rfl rfl rfl rfl (.fz rfl (.lend rfl (.lend rfl (.nil)))) rfl) rfl ?_
          refine k_op0 (d := 52) (b := 881) (j' := 28) rfl rfl rfl rfl (g_tt rfl rfl rfl g4) (T_not rfl rfl) rfl ?_
          refine k_op0 (d := 53) (b := 897) (j' := 29) rfl rfl rfl rfl (.plain rfl) (T_pick_t rfl rfl rfl g4) rfl ?_
          refine k_op0 (d := 54) (b := 913) (j' := 30) rfl rfl rfl rfl (.plain rfl) (T_move rfl rfl) rfl ?_
          refine k_split (d := 54) rfl (fun g5 => ?_) (fun g5 => ?_)
          · have h5 := g5; (try simp only [cmpB, decide_eq_true_eq, decide_eq_false_iff_not, beq_iff_eq, beq_eq_false_iff_ne, bne_iff_ne, ne_eq, bne_eq_false_iff_eq, Bool.not_eq_true', Bool.not_eq_false', Int.not_lt, Int.not_le] at h5)
            refine k_op0 (d := 55) (b := 929) (j' := 31) rfl rfl rfl rfl (g_tt rfl rfl rfl g5) (T_load_bA D (l := [_, _]) rfl rfl rfl rfl rfl rfl rfl) rfl ?_
            refine k_op0 (d := 56) (b := 945) (j' := 32) rfl rfl rfl rfl (g_tt rfl rfl rfl g5) (T_load_bA D (l := [_, _]) rfl rfl rfl rfl rfl rfl rfl) rfl ?_
            refine k_op0 (d := 57) (b := 961) (j' := 33) rfl rfl rfl rfl (g_tt rfl rfl rfl g5) (T_callV (lvs := [_, _, _]) (L := [(1, 129), (2, 337)]) (spec_nil (sz := 1) (b0 := 3) (pre := [_, _]) (tcheck_spec aF (tidyG aF) [] (by decide +kernel) (by decide +kernel) (by decide +kernel) aI3) rfl) body30 rfl rfl rfl rfl (.fz rfl (.lend rfl (.nil))) rfl) rfl ?_
            refine k_op0 (d := 58) (b := 977) (j' := 34) rfl rfl rfl rfl (g_tt rfl rfl rfl g5) (T_not rfl rfl) rfl ?_
            refine k_op0 (d := 59) (b := 993) (j' := 35) rfl rfl rfl rfl (.plain rfl) (T_pick_t rfl rfl rfl g5) rfl ?_
            refine k_op0 (d := 0) (b := 1009) (j' := 36) rfl rfl rfl rfl (.plain rfl) (T_assign rfl rfl) rfl ?_
            refine k_done rfl ?_
            refine thenK_n ?_
            refine W_ret ?_
            -- end 0
            exact .mk [] (.inr rfl) (.tmp rfl (.nil)) (by first | rfl | exact absurd g1 (by decide +kernel) | exact absurd g2 (by decide +kernel) | exact absurd g3 (by decide +kernel) | exact absurd g4 (by decide +kernel) | exact absurd g5 (by decide +kernel) | exact absurd g6 (by decide +kernel) | exact absurd g7 (by decide +kernel) | decide +kernel) (.nil) rfl
          · have h5 := g5; (try simp only [cmpB, decide_eq_true_eq, decide_eq_false_iff_not, beq_iff_eq, beq_eq_false_iff_ne, bne_iff_ne, ne_eq, bne_eq_false_iff_eq, Bool.not_eq_true', Bool.not_eq_false', Int.not_lt, Int.not_le] at h5)
            refine k_no (d := 55) (j' := 31) rfl rfl rfl (g_tf rfl rfl rfl g5) ?_
            refine k_no (d := 56) (j' := 32) rfl rfl rfl (g_tf rfl rfl rfl g5) ?_
            refine k_no (d := 57) (j' := 33) rfl rfl rfl (g_tf rfl rfl rfl g5) ?_
            refine k_no (d := 58) (j' := 34) rfl rfl rfl (g_tf rfl rfl rfl g5) ?_
            refine k_op0 (d := 59) (b := 993) (j' := 35) rfl rfl rfl rfl (.plain rfl) (T_pick_f rfl rfl rfl g5) rfl ?_
            refine k_op0 (d := 0) (b := 1009) (j' := 36) rfl rfl rfl rfl (.plain rfl) (T_assign rfl rfl) rfl ?_
            refine k_done rfl ?_
            refine thenK_n ?_
            refine W_ret ?_
            -- end 1
            exact .mk [] (.inr rfl) (.tmp rfl (.nil)) (by first | rfl | exact absurd g1 (by decide +kernel) | exact absurd g2 (by decide +kernel) | exact absurd g3 (by decide +kernel) | exact absurd g4 (by decide +kernel) | exact absurd g5 (by decide +kernel) | exact absurd g6 (by decide +kernel) | exact absurd g7 (by decide +kernel) | decide +kernel) (.nil) rfl
        · have h4 := g4; (try simp only [cmpB, decide_eq_true_eq, decide_eq_false_iff_not, beq_iff_eq, beq_eq_false_iff_ne, bne_iff_ne, ne_eq, bne_eq_false_iff_eq, Bool.not_eq_true', Bool.not_eq_false', Int.not_lt, Int.not_le] at h4)
          refine k_no (d := 47) (j' := 23) rfl rfl rfl (g_tf rfl rfl rfl g4) ?_
          refine k_no (d := 48) (j' := 24) rfl rfl rfl (g_tf rfl rfl rfl g4) ?_
          refine k_no (d := 49) (j' := 25) rfl rfl rfl (g_tf rfl rfl rfl g4) ?_
          refine k_no (d := 50) (j' := 26) rfl rfl rfl (g_tf rfl rfl rfl g4) ?_
          refine k_no (d := 51) (j' := 27) rfl rfl rfl (g_tf rfl rfl rfl g4) ?_
          refine k_no (d := 52) (j' := 28) rfl rfl rfl (g_tf rfl rfl rfl g4) ?_
          refine k_op0 (d := 53) (b := 897) (j' := 29) rfl rfl rfl rfl (.plain rfl) (T_pick_f rfl rfl rfl g4) rfl ?_
          refine k_op0 (d := 54) (b := 913) (j' := 30) rfl rfl rfl rfl (.plain rfl) (T_move rfl rfl) rfl ?_
          refine k_no (d := 55) (j' := 31) rfl rfl rfl (g_tf rfl rfl rfl rfl) ?_
          refine k_no (d := 56) (j' := 32) rfl rfl rfl (g_tf rfl rfl rfl rfl) ?_
          refine k_no (d := 57) (j' := 33) rfl rfl rfl (g_tf rfl rfl rfl rfl) ?_
          refine k_no (d := 58) (j' := 34) rfl rfl rfl (g_tf rfl rfl rfl rfl) ?_
          refine k_op0 (d := 59) (b := 993) (j' := 35) rfl rfl rfl rfl (.plain rfl) (T_pick_f rfl rfl rfl rfl) rfl ?_
          refine k_op0 (d := 0) (b := 1009) (j' := 36) rfl rfl rfl rfl (.plain rfl) (T_assign rfl rfl) rfl ?_
          refine k_done rfl ?_
          refine thenK_n ?_
          refine W_ret ?_
          -- end 2
          exact .mk [] (.inr rfl) (.tmp rfl (.nil)) (by first | rfl | exact absurd g1 (by decide +kernel) | exact absurd g2 (by decide +kernel) | exact absurd g3 (by decide +kernel) | exact absurd g4 (by decide +kernel) | exact absurd g5 (by decide +kernel) | exact absurd g6 (by decide +kernel) | exact absurd g7 (by decide +kernel) | decide +kernel) (.nil) rfl
      · have h3 := g3; (try simp only [cmpB, decide_eq_true_eq, decide_eq_false_iff_not, beq_iff_eq, beq_eq_false_iff_ne, bne_iff_ne, ne_eq, bne_eq_false_iff_eq, Bool.not_eq_true', Bool.not_eq_false', Int.not_lt, Int.not_le] at h3)
        refine k_no (d := 41) (j' := 17) rfl rfl rfl (g_tf rfl rfl rfl g3) ?_
        refine k_no (d := 42) (j' := 18) rfl rfl rfl (g_tf rfl rfl rfl g3) ?_
        refine k_no (d := 43) (j' := 19) rfl rfl rfl (g_tf rfl rfl rfl g3) ?_
        refine k_no (d := 44) (j' := 20) rfl rfl rfl (g_tf rfl rfl rfl g3) ?_
        refine k_op0 (d := 45) (b := 769) (j' := 21) rfl rfl rfl rfl (.plain rfl) (T_pick_f rfl rfl rfl g3) rfl ?_
        refine k_op0 (d := 46) (b := 785) (j' := 22) rfl rfl rfl rfl (.plain rfl) (T_move rfl rfl) rfl ?_
        refine k_no (d := 47) (j' := 23) rfl rfl rfl (g_tf rfl rfl rfl rfl) ?_
        refine k_no (d := 48) (j' := 24) rfl rfl rfl (g_tf rfl rfl rfl rfl) ?_
        refine k_no (d := 49) (j' := 25) rfl rfl rfl (g_tf rfl rfl rfl rfl) ?_
        refine k_no (d := 50) (j' := 26) rfl rfl rfl (g_tf rfl rfl rfl rfl) ?_
        refine k_no (d := 51) (j' := 27) rfl rfl rfl (g_tf rfl rfl rfl rfl) ?_
        refine k_no (d := 52) (j' := 28) rfl rfl rfl (g_tf rfl rfl rfl rfl) ?_
        refine k_op0 (d := 53) (b := 897) (j' := 29) rfl rfl rfl rfl (.plain rfl) (T_pick_f rfl rfl rfl rfl) rfl ?_
        refine k_op0 (d := 54) (b := 913) (j' := 30) rfl rfl rfl rfl (.plain rfl) (T_move rfl rfl) rfl ?_
        refine k_no (d := 55) (j' := 31) rfl rfl rfl (g_tf rfl rfl rfl rfl) ?_
        refine k_no (d := 56) (j' := 32) rfl rfl rfl (g_tf rfl rfl rfl rfl) ?_
        refine k_no (d := 57) (j' := 33) rfl rfl rfl (g_tf rfl rfl rfl rfl) ?_
        refine k_no (d := 58) (j' := 34) rfl rfl rfl (g_tf rfl rfl rfl rfl) ?_
        refine k_op0 (d := 59) (b := 993) (j' := 35) rfl rfl rfl rfl (.plain rfl) (T_pick_f rfl rfl rfl rfl) rfl ?_
        refine k_op0 (d := 0) (b := 1009) (j' := 36) rfl rfl rfl rfl (.plain rfl) (T_assign rfl rfl) rfl ?_
        refine k_done rfl ?_
        refine thenK_n ?_
        refine W_ret ?_
        -- end 3
        exact .mk [] (.inr rfl) (.tmp rfl (.nil)) (by first | rfl | exact absurd g1 (by decide +kernel) | exact absurd g2 (by decide +kernel) | exact absurd g3 (by decide +kernel) | exact absurd g4 (by decide +kernel) | exact absurd g5 (by decide +kernel) | exact absurd g6 (by decide +kernel) | exact absurd g7 (by decide +kernel) | decide +kernel) (.nil) rfl
    · have h2 := g2; (try simp only [cmpB, decide_eq_true_eq, decide_eq_false_iff_not, beq_iff_eq, beq_eq_false_iff_ne, bne_iff_ne, ne_eq, bne_eq_false_iff_eq, Bool.not_eq_true', Bool.not_eq_false', Int.not_lt, Int.not_le] at h2)
      refine k_no (d := 34) (j' := 10) rfl rfl rfl (g_tf rfl rfl rfl g2) ?_
      refine k_no (d := 35) (j' := 11) rfl rfl rfl (g_tf rfl rfl rfl g2) ?_
      refine k_no (d := 36) (j' := 12) rfl rfl rfl (g_tf rfl rfl rfl g2) ?_
      refine k_no (d := 37) (j' := 13) rfl rfl rfl (g_tf rfl rfl rfl g2) ?_
      refine k_no (d := 38) (j' := 14) rfl rfl rfl (g_tf rfl rfl rfl g2) ?_
      refine k_op0 (d := 39) (b := 673) (j' := 15) rfl rfl rfl rfl (.plain rfl) (T_pick_f rfl rfl rfl g2) rfl ?_
      refine k_op0 (d := 40) (b := 689) (j' := 16) rfl rfl rfl rfl (.plain rfl) (T_move rfl rfl) rfl ?_
      refine k_no (d := 41) (j' := 17) rfl rfl rfl (g_tf rfl rfl rfl rfl) ?_
      refine k_no (d := 42) (j' := 18) rfl rfl rfl (g_tf rfl rfl rfl rfl) ?_
      refine k_no (d := 43) (j' := 19) rfl rfl rfl (g_tf rfl rfl rfl rfl) ?_
      refine k_no (d := 44) (j' := 20) rfl rfl rfl (g_tf rfl rfl rfl rfl) ?_
      refine k_op0 (d := 45) (b := 769) (j' := 21) rfl rfl rfl rfl (.plain rfl) (T_pick_f rfl rfl rfl rfl) rfl ?_
      refine k_op0 (d := 46) (b := 785) (j' := 22) rfl rfl rfl rfl (.plain rfl) (T_move rfl rfl) rfl ?_
      refine k_no (d := 47) (j' := 23) rfl rfl rfl (g_tf rfl rfl rfl rfl) ?_
      refine k_no (d := 48) (j' := 24) rfl rfl rfl (g_tf rfl rfl rfl rfl) ?_
      refine k_no (d := 49) (j' := 25) rfl rfl rfl (g_tf rfl rfl rfl rfl) ?_
      refine k_no (d := 50) (j' := 26) rfl rfl rfl (g_tf rfl rfl rfl rfl) ?_
      refine k_no (d := 51) (j' := 27) rfl rfl rfl (g_tf rfl rfl rfl rfl) ?_
      refine k_no (d := 52) (j' := 28) rfl rfl rfl (g_tf rfl rfl rfl rfl) ?_
      refine k_op0 (d := 53) (b := 897) (j' := 29) rfl rfl rfl rfl (.plain rfl) (T_pick_f rfl rfl rfl rfl) rfl ?_
      refine k_op0 (d := 54) (b := 913) (j' := 30) rfl rfl rfl rfl (.plain rfl) (T_move rfl rfl) rfl ?_
      refine k_no (d := 55) (j' := 31) rfl rfl rfl (g_tf rfl rfl rfl rfl) ?_
      refine k_no (d := 56) (j' := 32) rfl rfl rfl (g_tf rfl rfl rfl rfl) ?_
      refine k_no (d := 57) (j' := 33) rfl rfl rfl (g_tf rfl rfl rfl rfl) ?_
      refine k_no (d := 58) (j' := 34) rfl rfl rfl (g_tf rfl rfl rfl rfl) ?_
      refine k_op0 (d := 59) (b := 993) (j' := 35) rfl rfl rfl rfl (.plain rfl) (T_pick_f rfl rfl rfl rfl) rfl ?_
      refine k_op0 (d := 0) (b := 1009) (j' := 36) rfl rfl rfl rfl (.plain rfl) (T_assign rfl rfl) rfl ?_
      refine k_done rfl ?_
      refine thenK_n ?_
      refine W_ret ?_
      -- end 4
      exact .mk [] (.inr rfl) (.tmp rfl (.nil)) (by first | rfl | exact absurd g1 (by decide +kernel) | exact absurd g2 (by decide +kernel) | exact absurd g3 (by decide +kernel) | exact absurd g4 (by decide +kernel) | exact absurd g5 (by decide +kernel) | exact absurd g6 (by decide +kernel) | exact absurd g7 (by decide +kernel) | decide +kernel) (.nil) rfl
  · have h1 := g1; (try simp only [cmpB, decide_eq_true_eq, decide_eq_false_iff_not, beq_iff_eq, beq_eq_false_iff_ne, bne_iff_ne, ne_eq, bne_eq_false_iff_eq, Bool.not_eq_true', Bool.not_eq_false', Int.not_lt, Int.not_le] at h1)
    refine k_no (d := 29) (j' := 5) rfl rfl rfl (g_tf rfl rfl rfl g1) ?_
    refine k_no (d := 30) (j' := 6) rfl rfl rfl (g_tf rfl rfl rfl g1) ?_
    refine k_no (d := 31) (j' := 7) rfl rfl rfl (g_tf rfl rfl rfl g1) ?_
    refine k_op0 (d := 32) (b := 561) (j' := 8) rfl rfl rfl rfl (.plain rfl) (T_pick_f rfl rfl rfl g1) rfl ?_
    refine k_op0 (d := 33) (b := 577) (j' := 9) rfl rfl rfl rfl (.plain rfl) (T_move rfl rfl) rfl ?_
    refine k_no (d := 34) (j' := 10) rfl rfl rfl (g_tf rfl rfl rfl rfl) ?_
    refine k_no (d := 35) (j' := 11) rfl rfl rfl (g_tf rfl rfl rfl rfl) ?_
    refine k_no (d := 36) (j' := 12) rfl rfl rfl (g_tf rfl rfl rfl rfl) ?_
    refine k_no (d := 37) (j' := 13) rfl rfl rfl (g_tf rfl rfl rfl rfl) ?_
    refine k_no (d := 38) (j' := 14) rfl rfl rfl (g_tf rfl rfl rfl rfl) ?_
    refine k_op0 (d := 39) (b := 673) (j' := 15) rfl rfl rfl rfl (.plain rfl) (T_pick_f rfl rfl rfl rfl) rfl ?_
    refine k_op0 (d := 40) (b := 689) (j' := 16) rfl rfl rfl rfl (.plain rfl) (T_move rfl rfl) rfl ?_
    refine k_no (d := 41) (j' := 17) rfl rfl rfl (g_tf rfl rfl rfl rfl) ?_
    refine k_no (d := 42) (j' := 18) rfl rfl rfl (g_tf rfl rfl rfl rfl) ?_
    refine k_no (d := 43) (j' := 19) rfl rfl rfl (g_tf rfl rfl rfl rfl) ?_
    refine k_no (d := 44) (j' := 20) rfl rfl rfl (g_tf rfl rfl rfl rfl) ?_
    refine k_op0 (d := 45) (b := 769) (j' := 21) rfl rfl rfl rfl (.plain rfl) (T_pick_f rfl rfl rfl rfl) rfl ?_
    refine k_op0 (d := 46) (b := 785) (j' := 22) rfl rfl rfl rfl (.plain rfl) (T_move rfl rfl) rfl ?_
    refine k_no (d := 47) (j' := 23) rfl rfl rfl (g_tf rfl rfl rfl rfl) ?_
    refine k_no (d := 48) (j' := 24) rfl rfl rfl (g_tf rfl rfl rfl rfl) ?_
    refine k_no (d := 49) (j' := 25) rfl rfl rfl (g_tf rfl rfl rfl rfl) ?_
    refine k_no (d := 50) (j' := 26) rfl rfl rfl (g_tf rfl rfl rfl rfl) ?_
    refine k_no (d := 51) (j' := 27) rfl rfl rfl (g_tf rfl rfl rfl rfl) ?_
    refine k_no (d := 52) (j' := 28) rfl rfl rfl (g_tf rfl rfl rfl rfl) ?_
    refine k_op0 (d := 53) (b := 897) (j' := 29) rfl rfl rfl rfl (.plain rfl) (T_pick_f rfl rfl rfl rfl) rfl ?_
    refine k_op0 (d := 54) (b := 913) (j' := 30) rfl rfl rfl rfl (.plain rfl) (T_move rfl rfl) rfl ?_
    refine k_no (d := 55) (j' := 31) rfl rfl rfl (g_tf rfl rfl rfl rfl) ?_
    refine k_no (d := 56) (j' := 32) rfl rfl rfl (g_tf rfl rfl rfl rfl) ?_
    refine k_no (d := 57) (j' := 33) rfl rfl rfl (g_tf rfl rfl rfl rfl) ?_
    refine k_no (d := 58) (j' := 34) rfl rfl rfl (g_tf rfl rfl rfl rfl) ?_
    refine k_op0 (d := 59) (b := 993) (j' := 35) rfl rfl rfl rfl (.plain rfl) (T_pick_f rfl rfl rfl rfl) rfl ?_
    refine k_op0 (d := 0) (b := 1009) (j' := 36) rfl rfl rfl rfl (.plain rfl) (T_assign rfl rfl) rfl ?_
    refine k_done rfl ?_
    refine thenK_n ?_
    refine W_ret ?_
    -- end 5
    exact .mk [] (.inr rfl) (.tmp rfl (.nil)) (by first | rfl | exact absurd g1 (by decide +kernel) | exact absurd g2 (by decide +kernel) | exact absurd g3 (by decide +kernel) | exact absurd g4 (by decide +kernel) | exact absurd g5 (by decide +kernel) | exact absurd g6 (by decide +kernel) | exact absurd g7 (by decide +kernel) | decide +kernel) (.nil) rfl
end Lg
end Go.Proofs.Ytpfhmodjjljpjaa
