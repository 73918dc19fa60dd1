import Derived.Test.YtpfhmodjjljpjaaPm
namespace Go.Proofs.Ytpfhmodjjljpjaa
open Go.RowKit
namespace Lg
set_option maxRecDepth 100000
set_option linter.unusedVariables false
set_option linter.unusedSimpArgs false



theorem body76 : (Try.prog.funcs[76]?).map (fun fn => (fn.name == "runtime.NumGoroutine" || fn.body.isNone)) = some false := by kernel_rfl
theorem one_spec (f : GFn) (b : GBlock) (ps : List (List Int)) (p : List Int) (hbi : b.ins.length ≤ 1000000) (h0 : 1 ≤ p.length) (hp : p.length ≤ 1000000000 ∧ ∀ i, i < p.length → 0 ≤ p.getD i default ∧ p.getD i default < (f.blocks.length : Int)) (hb : ∀ j, (instrs f (p.take j)).length ≤ 1000000000) (hps : ∀ q ∈ ps, 0 < q.length) : Spec Try.prog 76 [.agg [.v (.int .i64 f.regs), .r 1], .agg [.r 2, .v (.int .i64 b.fin), .v (.int .i64 b.v), .v (.int .i64 b.to), .v (.int .i64 b.els)], .r 4, .r 3] 5 [(1, .fz 5 (f.blocks.map eBlock)), (2, .fz 8 (b.ins.map eTac)), (3, .fz 1 (p.map eI)), (4, .fz 1 (ps.map eIs))] (.v (.bool (made f b p ps))) 5 [] := by
  refine spec_of D (fn := Try.f76) rfl rfl (Nat.le_of_ble_eq_true rfl) ?_
  refine W_seq ?_
  refine W_seqK (b' := 53) rfl rfl ?_
  refine k_op1 (d := 4) (b := 5) (j' := 1) rfl rfl rfl rfl (.plain rfl) (T_box rfl rfl flat_agg) rfl ?_
  refine k_op1 (d := 5) (b := 21) (j' := 2) rfl rfl rfl rfl (.plain rfl) (T_box rfl rfl flat_agg) rfl ?_
  refine k_op0 (d := 8) (b := 37) (j' := 3) rfl rfl rfl rfl (.plain rfl) (T_assign rfl rfl) rfl ?_
  refine k_done rfl ?_
  refine thenK_n ?_
  refine W_seq ?_
  refine W_seqK (b' := 69) rfl rfl ?_
  refine k_op0 (d := 9) (b := 53) (j' := 1) rfl rfl rfl rfl (.plain rfl) (T_assign rfl rfl) rfl ?_
  refine k_done rfl ?_
  refine thenK_n ?_
  refine W_seq ?_
  refine W_seq ?_
  refine W_seqK (b' := 85) rfl rfl ?_
  refine k_op0 (d := 10) (b := 69) (j' := 1) rfl rfl rfl rfl (.plain rfl) (T_assign rfl rfl) rfl ?_
  refine k_done rfl ?_
  refine thenK_n ?_
  refine W_block ?_
  refine W_loop (ι := Nat) 7 (fun j => ⟨[(2, .r 4), (3, .r 3), (4, .p 5 0), (5, .p 6 0), (9, .v (.int .i64 ((instrs f (p.take j)).length : Int))), (10, .v (.int .i64 (j : Int)))], [(1, .fz 5 (f.blocks.map eBlock)), (2, .fz 8 (b.ins.map eTac)), (3, .fz 1 (p.map eI)), (4, .fz 1 (ps.map eIs)), (5, .box 29 [.v (.int .i64 f.regs), .r 1]), (6, .box 72 [.r 2, .v (.int .i64 b.fin), .v (.int .i64 b.v), .v (.int .i64 b.to), .v (.int .i64 b.els)])]⟩) (fun j => j ≤ p.length ∧ (instrs f (p.take j)).length ≤ b.ins.length ∧ (∀ m, m < (instrs f (p.take j)).length → b.ins.getD m default = (instrs f p).getD m default) ∧ ∀ i, i < j → i + 1 < p.length → link f p i = true) (fun j => p.length - j) (0) (by exact ⟨Nat.zero_le _, Nat.zero_le _, fun m h => absurd h (Nat.not_lt_zero _), fun i h => absurd h (Nat.not_lt_zero _)⟩) ?_ (fun j hJ => ?_)
  · exact ⟨[(5, 5), (6, 21)], .same rfl rfl (.same rfl rfl (.same rfl rfl (.same rfl rfl (.eq rfl (.eq rfl (.nil) (by first | rfl | simp)) (by first | rfl | simp))))), .fzE rfl (.fzE rfl (.fzE rfl (.fzE rfl (.box (by first | rfl | simp) (.box (by first | rfl | simp) (.nil))) (by first | rfl | simp)) (by first | rfl | simp)) (by first | rfl | simp)) (by first | rfl | simp), rfl⟩
  have hq4 := hp.2 j
  have hq2 : j < p.length → instrs f (p.take (j + 1)) = instrs f (p.take j) ++ (f.blocks.getD (p.getD j default).toNat default).ins := fun h => instrs_take f p j h
  have hq3 := fun h => congrArg List.length (hq2 h)
  simp only [List.length_append] at hq3
  refine W_seq ?_
  refine W_seq ?_
  refine W_seqK (b' := 71) rfl rfl ?_
  refine k_op0 (d := 16) (b := 7) (j' := 1) rfl rfl rfl rfl (.plain rfl) (T_move rfl rfl) rfl ?_
  refine k_op0 (d := 17) (b := 23) (j' := 2) rfl rfl rfl rfl (.plain rfl) (T_move rfl rfl) rfl ?_
  refine k_op0 (d := 18) (b := 39) (j' := 3) rfl rfl rfl rfl (.plain rfl) (T_len D rfl rfl rfl rfl rfl rfl) rfl ?_
  refine k_op0 (d := 19) (b := 55) (j' := 4) rfl rfl rfl rfl (.plain rfl) (T_cmp rfl rfl rfl rfl) rfl ?_
  refine k_done rfl ?_
  refine thenK_n ?_
  refine W_cond rfl (fun g1 => ?_) (fun g1 => ?_)
  · have h1 := g1; (try simp only [cmpB, decide_eq_true_eq, decide_eq_false_iff_not, beq_iff_eq, beq_eq_false_iff_ne, bne_iff_ne, ne_eq, bne_eq_false_iff_eq, Bool.not_eq_true', Bool.not_eq_false', Int.not_lt, Int.not_le] at h1)
    refine W_skip ?_
    refine thenK_n ?_
    refine W_seq ?_
    refine W_block ?_
    refine W_seq ?_
    refine W_anyK (b' := 231) rfl rfl rfl ?_
    refine k_op0 (d := 22) (b := 71) (j' := 1) rfl rfl rfl rfl (.plain rfl) (T_fa D (m := 1) rfl rfl rfl rfl rfl rfl) rfl ?_
    refine k_op0 (d := 23) (b := 87) (j' := 2) rfl rfl rfl rfl (.plain rfl) (T_load_b D rfl rfl rfl rfl rfl rfl) rfl ?_
    refine k_op0 (d := 24) (b := 103) (j' := 3) rfl rfl rfl rfl (.plain rfl) (T_move rfl rfl) rfl ?_
    refine k_op0 (d := 25) (b := 119) (j' := 4) rfl rfl rfl rfl (.plain rfl) (T_move rfl rfl) rfl ?_
    first | refine k_op0 (d := 26) (b := 135) (j' := 5) rfl rfl rfl rfl (.plain rfl) (T_indexAddr D rfl rfl rfl rfl rfl rfl rfl rfl (by first | assumption | omega | (have k1 := hq4 (by omega); omega) | (have k1 := hp.2 ((p.length : Int) - 1).toNat (by omega); omega))) rfl ?_ | refine k_op0 (d := 26) (b := 135) (j' := 5) rfl rfl rfl rfl (.plain rfl) (T_indexAddrZ D rfl rfl rfl rfl rfl rfl rfl rfl (by first | assumption | omega | (have k1 := hq4 (by omega); omega) | (have k1 := hp.2 ((p.length : Int) - 1).toNat (by omega); omega)) (by first | assumption | omega | (have k1 := hq4 (by omega); omega) | (have k1 := hp.2 ((p.length : Int) - 1).toNat (by omega); omega))) rfl ?_
    refine k_op0 (d := 27) (b := 151) (j' := 6) rfl rfl rfl rfl (.plain rfl) (T_ldE D (lv := .v _) (nn := 0) (upd := []) rfl rfl rfl rfl rfl (by first | assumption | omega | (have k1 := hq4 (by omega); omega) | (have k1 := hp.2 ((p.length : Int) - 1).toNat (by omega); omega)) rfl rfl rfl rfl) rfl ?_
    first | refine k_op0 (d := 28) (b := 167) (j' := 7) rfl rfl rfl rfl (.plain rfl) (T_indexAddr D rfl rfl rfl rfl rfl rfl rfl rfl (by first | assumption | omega | (have k1 := hq4 (by omega); omega) | (have k1 := hp.2 ((p.length : Int) - 1).toNat (by omega); omega))) rfl ?_ | refine k_op0 (d := 28) (b := 167) (j' := 7) rfl rfl rfl rfl (.plain rfl) (T_indexAddrZ D rfl rfl rfl rfl rfl rfl rfl rfl (by first | assumption | omega | (have k1 := hq4 (by omega); omega) | (have k1 := hp.2 ((p.length : Int) - 1).toNat (by omega); omega)) (by first | assumption | omega | (have k1 := hq4 (by omega); omega) | (have k1 := hp.2 ((p.length : Int) - 1).toNat (by omega); omega))) rfl ?_
    refine k_op1 (d := 29) (b := 183) (j' := 8) rfl rfl rfl rfl (.plain rfl) (T_ldEA D (l := [.r 183, .v _, .v _, .v _, .v _]) (nn := 1) (upd := [(183, .fz 8 _)]) rfl rfl rfl rfl rfl (by first | assumption | omega | (have k1 := hq4 (by omega); omega) | (have k1 := hp.2 ((p.length : Int) - 1).toNat (by omega); omega)) rfl rfl rfl rfl rfl) rfl ?_
    refine k_opn (d := 11) (b := 199) (j' := 9) rfl rfl rfl rfl (.plain rfl) (T_nilbox [(70, 8)] (T_alloc D rfl rfl rfl) rfl (.cons (.nil rfl) <| .cons (.same _) <| .cons (.same _) <| .cons (.same _) <| .cons (.same _) <| .nil) (upd' := [(199, .box 72 [.r 200, .v (.int .i64 0), .v (.int .i64 0), .v (.int .i64 0), .v (.int .i64 0)]), (200, .row 70 8 (List.map eTac ([] : List (GTac))))]) (nn' := 2) rfl rfl) rfl ?_
    refine k_st1 (b := 215) (j' := 10) rfl rfl rfl rfl (.plain rfl) (T_stB D (cs' := [_, _, _, _, _]) rfl rfl rfl rfl flat_agg rfl rfl (Nat.le_of_ble_eq_true rfl) rfl) rfl ?_
    refine k_done rfl ?_
    refine ⟨rfl, ?_⟩
    refine thenK_n ?_
    refine W_seq ?_
    refine W_seq ?_
    refine W_seqK (b' := 247) rfl rfl ?_
    refine k_op0 (d := 12) (b := 231) (j' := 1) rfl rfl rfl rfl (.plain rfl) (T_assign rfl rfl) rfl ?_
    refine k_done rfl ?_
    refine thenK_n ?_
    refine W_block ?_
    refine W_loop (ι := Nat) 9 (fun i => ⟨[(2, .r 4), (3, .r 3), (4, .p 5 0), (5, .p 6 0), (9, .v (.int .i64 (((instrs f (p.take j)).length + i : Nat) : Int))), (10, .v (.int .i64 (j : Int))), (11, .p 7 0), (12, .v (.int .i64 (i : Int)))], [(1, .fz 5 (f.blocks.map eBlock)), (2, .fz 8 (b.ins.map eTac)), (3, .fz 1 (p.map eI)), (4, .fz 1 (ps.map eIs)), (5, .box 29 [.v (.int .i64 f.regs), .r 1]), (6, .box 72 [.r 2, .v (.int .i64 b.fin), .v (.int .i64 b.v), .v (.int .i64 b.to), .v (.int .i64 b.els)]), (7, .box 72 [.r 8, .v (.int .i64 (f.blocks.getD (p.getD j default).toNat default).fin), .v (.int .i64 (f.blocks.getD (p.getD j default).toNat default).v), .v (.int .i64 (f.blocks.getD (p.getD j default).toNat default).to), .v (.int .i64 (f.blocks.getD (p.getD j default).toNat default).els)]), (8, .fz 8 ((f.blocks.getD (p.getD j default).toNat default).ins.map eTac))]⟩) (fun i => i ≤ (f.blocks.getD (p.getD j default).toNat default).ins.length ∧ (instrs f (p.take j)).length + i ≤ b.ins.length ∧ (∀ m, m < (instrs f (p.take j)).length + i → b.ins.getD m default = (instrs f p).getD m default)) (fun i => (f.blocks.getD (p.getD j default).toNat default).ins.length - i) (0) (by exact ⟨Nat.zero_le _, hJ.2.1, hJ.2.2.1⟩) ?_ (fun i hI => ?_)
    · exact ⟨[(5, 5), (6, 6), (7, 199), (8, 183)], .same rfl rfl (.same rfl rfl (.same rfl rfl (.same rfl rfl (.eq rfl (.eq rfl (.same rfl rfl (.eq rfl (.nil) (by first | rfl | simp))) (by first | rfl | simp)) (by first | rfl | simp))))), .fzE rfl (.fzE rfl (.fzE rfl (.fzE rfl (.box (by first | rfl | simp) (.box (by first | rfl | simp) (.box (by first | rfl | simp) (.fzE rfl (.nil) (by first | rfl | simp))))) (by first | rfl | simp)) (by first | rfl | simp)) (by first | rfl | simp)) (by first | rfl | simp), rfl⟩
    refine W_seq ?_
    refine W_seq ?_
    refine W_seqK (b' := 89) rfl rfl ?_
    refine k_op0 (d := 30) (b := 9) (j' := 1) rfl rfl rfl rfl (.plain rfl) (T_move rfl rfl) rfl ?_
    refine k_op0 (d := 31) (b := 25) (j' := 2) rfl rfl rfl rfl (.plain rfl) (T_fa D (m := 0) rfl rfl rfl rfl rfl rfl) rfl ?_
    refine k_op0 (d := 32) (b := 41) (j' := 3) rfl rfl rfl rfl (.plain rfl) (T_load_b D rfl rfl rfl rfl rfl rfl) rfl ?_
    refine k_op0 (d := 33) (b := 57) (j' := 4) rfl rfl rfl rfl (.plain rfl) (T_len D rfl rfl rfl rfl rfl rfl) rfl ?_
    refine k_op0 (d := 34) (b := 73) (j' := 5) rfl rfl rfl rfl (.plain rfl) (T_cmp rfl rfl rfl rfl) rfl ?_
    refine k_done rfl ?_
    refine thenK_n ?_
    refine W_cond rfl (fun g2 => ?_) (fun g2 => ?_)
    · have h2 := g2; (try simp only [cmpB, decide_eq_true_eq, decide_eq_false_iff_not, beq_iff_eq, beq_eq_false_iff_ne, bne_iff_ne, ne_eq, bne_eq_false_iff_eq, Bool.not_eq_true', Bool.not_eq_false', Int.not_lt, Int.not_le] at h2)
      refine W_skip ?_
      refine thenK_n ?_
      refine W_seq ?_
      refine W_block ?_
      refine W_seq ?_
      refine W_seq ?_
      refine W_anyK (b' := 377) rfl rfl rfl ?_
      refine k_op0 (d := 37) (b := 89) (j' := 1) rfl rfl rfl rfl (.plain rfl) (T_move rfl rfl) rfl ?_
      refine k_op0 (d := 38) (b := 105) (j' := 2) rfl rfl rfl rfl (.plain rfl) (T_fa D (m := 0) rfl rfl rfl rfl rfl rfl) rfl ?_
      refine k_op0 (d := 39) (b := 121) (j' := 3) rfl rfl rfl rfl (.plain rfl) (T_load_b D rfl rfl rfl rfl rfl rfl) rfl ?_
      refine k_op0 (d := 40) (b := 137) (j' := 4) rfl rfl rfl rfl (.plain rfl) (T_len D rfl rfl rfl rfl rfl rfl) rfl ?_
      refine k_op0 (d := 41) (b := 153) (j' := 5) rfl rfl rfl rfl (.plain rfl) (T_cmp rfl rfl rfl rfl) rfl ?_
      refine k_op0 (d := 42) (b := 169) (j' := 6) rfl rfl rfl rfl (.plain rfl) (T_move rfl rfl) rfl ?_
      refine k_split (d := 42) rfl (fun g3 => ?_) (fun g3 => ?_)
      · have h3 := g3; (try simp only [cmpB, decide_eq_true_eq, decide_eq_false_iff_not, beq_iff_eq, beq_eq_false_iff_ne, bne_iff_ne, ne_eq, bne_eq_false_iff_eq, Bool.not_eq_true', Bool.not_eq_false', Int.not_lt, Int.not_le] at h3)
        refine k_no (d := 43) (j' := 7) rfl rfl rfl (g_ft rfl rfl rfl g3) ?_
        refine k_no (d := 44) (j' := 8) rfl rfl rfl (g_ft rfl rfl rfl g3) ?_
        refine k_no (d := 45) (j' := 9) rfl rfl rfl (g_ft rfl rfl rfl g3) ?_
        refine k_no (d := 46) (j' := 10) rfl rfl rfl (g_ft rfl rfl rfl g3) ?_
        refine k_no (d := 47) (j' := 11) rfl rfl rfl (g_ft rfl rfl rfl g3) ?_
        refine k_no (d := 48) (j' := 12) rfl rfl rfl (g_ft rfl rfl rfl g3) ?_
        refine k_no (d := 49) (j' := 13) rfl rfl rfl (g_ft rfl rfl rfl g3) ?_
        refine k_no (d := 50) (j' := 14) rfl rfl rfl (g_ft rfl rfl rfl g3) ?_
        refine k_no (d := 51) (j' := 15) rfl rfl rfl (g_ft rfl rfl rfl g3) ?_
        refine k_no (d := 52) (j' := 16) rfl rfl rfl (g_ft rfl rfl rfl g3) ?_
        refine k_no (d := 53) (j' := 17) rfl rfl rfl (g_ft rfl rfl rfl g3) ?_
        refine k_op0 (d := 54) (b := 361) (j' := 18) rfl rfl rfl rfl (.plain rfl) (T_pick_t rfl rfl rfl g3) rfl ?_
        refine k_done rfl ?_
        refine ⟨rfl, ?_⟩
        refine thenK_n ?_
        refine W_cond rfl (fun g4 => ?_) (fun g4 => ?_)
        · skip
          refine W_seq ?_
          refine W_seqK (b' := 393) rfl rfl ?_
          refine k_op0 (d := 8) (b := 377) (j' := 1) rfl rfl rfl rfl (.plain rfl) (T_assign rfl rfl) rfl ?_
          refine k_done rfl ?_
          refine thenK_n ?_
          refine W_ret ?_
          refine thenK_r ?_
          refine blockK_r ?_
          refine thenK_r ?_
          refine thenK_r ?_
          refine blockK_r ?_
          refine thenK_r ?_
          refine blockK_r ?_
          refine thenK_r ?_
          refine thenK_r ?_
          refine blockK_r ?_
          refine thenK_r ?_
          -- end 0
          exact .mk [] (.inr rfl) (.tmp rfl (.nil)) (by simp only [resLV, LV.ren, LV.v.injEq, Value.bool.injEq]; exact (made_ins (ins_ne (k := j) (i := i) (by omega) (by unfold blk; omega) (by unfold blk; first | exact .inl (by omega) | exact .inr (by assumption)))).symm) (.nil) rfl
        · exact absurd (g4.symm.trans rfl) (by decide)
      · have h3 := g3; (try simp only [cmpB, decide_eq_true_eq, decide_eq_false_iff_not, beq_iff_eq, beq_eq_false_iff_ne, bne_iff_ne, ne_eq, bne_eq_false_iff_eq, Bool.not_eq_true', Bool.not_eq_false', Int.not_lt, Int.not_le] at h3)
        refine k_op0 (d := 43) (b := 185) (j' := 7) rfl rfl rfl rfl (g_ff rfl rfl rfl g3) (T_fa D (m := 0) rfl rfl rfl rfl rfl rfl) rfl ?_
        refine k_op0 (d := 44) (b := 201) (j' := 8) rfl rfl rfl rfl (g_ff rfl rfl rfl g3) (T_load_b D rfl rfl rfl rfl rfl rfl) rfl ?_
        refine k_op0 (d := 45) (b := 217) (j' := 9) rfl rfl rfl rfl (g_ff rfl rfl rfl g3) (T_move rfl rfl) rfl ?_
        first | refine k_op0 (d := 46) (b := 233) (j' := 10) rfl rfl rfl rfl (g_ff rfl rfl rfl g3) (T_indexAddr D rfl rfl rfl rfl rfl rfl rfl rfl (by first | assumption | omega | (have k1 := hq4 (by omega); omega) | (have k1 := hp.2 ((p.length : Int) - 1).toNat (by omega); omega))) rfl ?_ | refine k_op0 (d := 46) (b := 233) (j' := 10) rfl rfl rfl rfl (g_ff rfl rfl rfl g3) (T_indexAddrZ D rfl rfl rfl rfl rfl rfl rfl rfl (by first | assumption | omega | (have k1 := hq4 (by omega); omega) | (have k1 := hp.2 ((p.length : Int) - 1).toNat (by omega); omega)) (by first | assumption | omega | (have k1 := hq4 (by omega); omega) | (have k1 := hp.2 ((p.length : Int) - 1).toNat (by omega); omega))) rfl ?_
        refine k_op0 (d := 47) (b := 249) (j' := 11) rfl rfl rfl rfl (g_ff rfl rfl rfl g3) (T_ldEA D (l := [.v _, .v _, .v _, .v _, .v _, .v _, .v _, .v _]) (nn := 0) (upd := []) rfl rfl rfl rfl rfl (by first | assumption | omega | (have k1 := hq4 (by omega); omega) | (have k1 := hp.2 ((p.length : Int) - 1).toNat (by omega); omega)) rfl rfl rfl rfl rfl) rfl ?_
        refine k_op0 (d := 48) (b := 265) (j' := 12) rfl rfl rfl rfl (g_ff rfl rfl rfl g3) (T_fa D (m := 0) rfl rfl rfl rfl rfl rfl) rfl ?_
        refine k_op0 (d := 49) (b := 281) (j' := 13) rfl rfl rfl rfl (g_ff rfl rfl rfl g3) (T_load_b D rfl rfl rfl rfl rfl rfl) rfl ?_
        refine k_op0 (d := 50) (b := 297) (j' := 14) rfl rfl rfl rfl (g_ff rfl rfl rfl g3) (T_move rfl rfl) rfl ?_
        first | refine k_op0 (d := 51) (b := 313) (j' := 15) rfl rfl rfl rfl (g_ff rfl rfl rfl g3) (T_indexAddr D rfl rfl rfl rfl rfl rfl rfl rfl (by first | assumption | omega | (have k1 := hq4 (by omega); omega) | (have k1 := hp.2 ((p.length : Int) - 1).toNat (by omega); omega))) rfl ?_ | refine k_op0 (d := 51) (b := 313) (j' := 15) rfl rfl rfl rfl (g_ff rfl rfl rfl g3) (T_indexAddrZ D rfl rfl rfl rfl rfl rfl rfl rfl (by first | assumption | omega | (have k1 := hq4 (by omega); omega) | (have k1 := hp.2 ((p.length : Int) - 1).toNat (by omega); omega)) (by first | assumption | omega | (have k1 := hq4 (by omega); omega) | (have k1 := hp.2 ((p.length : Int) - 1).toNat (by omega); omega))) rfl ?_
        refine k_op0 (d := 52) (b := 329) (j' := 16) rfl rfl rfl rfl (g_ff rfl rfl rfl g3) (T_ldEA D (l := [.v _, .v _, .v _, .v _, .v _, .v _, .v _, .v _]) (nn := 0) (upd := []) rfl rfl rfl rfl rfl (by first | assumption | omega | (have k1 := hq4 (by omega); omega) | (have k1 := hp.2 ((p.length : Int) - 1).toNat (by omega); omega)) rfl rfl rfl rfl rfl) rfl ?_
        refine k_op0 (d := 53) (b := 345) (j' := 17) rfl rfl rfl rfl (g_ff rfl rfl rfl g3) (T_eqTacN (b.ins.getD ((instrs f (p.take j)).length + i) default) ((f.blocks.getD (p.getD j default).toNat default).ins.getD i default) rfl rfl rfl) rfl ?_
        refine k_op0 (d := 54) (b := 361) (j' := 18) rfl rfl rfl rfl (.plain rfl) (T_pick_f rfl rfl rfl g3) rfl ?_
        refine k_done rfl ?_
        refine ⟨rfl, ?_⟩
        refine thenK_n ?_
        refine W_cond rfl (fun g5 => ?_) (fun g5 => ?_)
        · have h5 := g5; (try simp only [cmpB, decide_eq_true_eq, decide_eq_false_iff_not, beq_iff_eq, beq_eq_false_iff_ne, bne_iff_ne, ne_eq, bne_eq_false_iff_eq, Bool.not_eq_true', Bool.not_eq_false', Int.not_lt, Int.not_le] at h5)
          refine W_seq ?_
          refine W_seqK (b' := 393) rfl rfl ?_
          refine k_op0 (d := 8) (b := 377) (j' := 1) rfl rfl rfl rfl (.plain rfl) (T_assign rfl rfl) rfl ?_
          refine k_done rfl ?_
          refine thenK_n ?_
          refine W_ret ?_
          refine thenK_r ?_
          refine blockK_r ?_
          refine thenK_r ?_
          refine thenK_r ?_
          refine blockK_r ?_
          refine thenK_r ?_
          refine blockK_r ?_
          refine thenK_r ?_
          refine thenK_r ?_
          refine blockK_r ?_
          refine thenK_r ?_
          -- end 1
          exact .mk [] (.inr rfl) (.tmp rfl (.nil)) (by simp only [resLV, LV.ren, LV.v.injEq, Value.bool.injEq]; exact (made_ins (ins_ne (k := j) (i := i) (by omega) (by unfold blk; omega) (by unfold blk; first | exact .inl (by omega) | exact .inr (by assumption)))).symm) (.nil) rfl
        · have h5 := g5; (try simp only [cmpB, decide_eq_true_eq, decide_eq_false_iff_not, beq_iff_eq, beq_eq_false_iff_ne, bne_iff_ne, ne_eq, bne_eq_false_iff_eq, Bool.not_eq_true', Bool.not_eq_false', Int.not_lt, Int.not_le] at h5)
          refine W_skip ?_
          refine thenK_n ?_
          refine W_seqK (b' := 425) rfl rfl ?_
          refine k_op0 (d := 55) (b := 377) (j' := 1) rfl rfl rfl rfl (.plain rfl) (T_move rfl rfl) rfl ?_
          refine k_op0 (d := 56) (b := 393) (j' := 2) rfl rfl rfl rfl (.plain rfl) (T_add64 rfl rfl rfl (by first | assumption | omega | (have k1 := hq4 (by omega); omega) | (have k1 := hp.2 ((p.length : Int) - 1).toNat (by omega); omega))) rfl ?_
          refine k_op0 (d := 9) (b := 409) (j' := 3) rfl rfl rfl rfl (.plain rfl) (T_assign rfl rfl) rfl ?_
          refine k_done rfl ?_
          refine blockK_n ?_
          refine thenK_n ?_
          refine W_seqK (b' := 473) rfl rfl ?_
          refine k_op0 (d := 35) (b := 425) (j' := 1) rfl rfl rfl rfl (.plain rfl) (T_move rfl rfl) rfl ?_
          refine k_op0 (d := 36) (b := 441) (j' := 2) rfl rfl rfl rfl (.plain rfl) (T_add64 rfl rfl rfl (by first | assumption | omega | (have k1 := hq4 (by omega); omega) | (have k1 := hp.2 ((p.length : Int) - 1).toNat (by omega); omega))) rfl ?_
          refine k_op0 (d := 12) (b := 457) (j' := 3) rfl rfl rfl rfl (.plain rfl) (T_assign rfl rfl) rfl ?_
          refine k_done rfl ?_
          refine thenK_n ?_
          refine ⟨i + 1, by (try dsimp only); exact ⟨by omega, by omega, fun m hm => ins_step (k := j) (i := i) (by omega) (by unfold blk; omega) (by unfold blk; exact h5) hI.2.2 m hm⟩, by (try dsimp only); omega, ?_⟩
          exact ⟨[(5, 5), (6, 6), (7, 7), (8, 8)], .same rfl rfl (.same rfl rfl (.same rfl rfl (.same rfl rfl (.eq rfl (.eq rfl (.same rfl rfl (.eq rfl (.nil) (by first | rfl | (congr 1; omega) | simp))) (by first | rfl | (congr 1; omega) | simp)) (by first | rfl | (congr 1; omega) | simp))))), .fzE rfl (.fzE rfl (.fzE rfl (.fzE rfl (.box (by first | rfl | (congr 1; omega) | simp) (.box (by first | rfl | (congr 1; omega) | simp) (.box (by first | rfl | (congr 1; omega) | simp) (.fzE rfl (.nil) (by first | rfl | (congr 1; omega) | simp))))) (by first | rfl | (congr 1; omega) | simp)) (by first | rfl | (congr 1; omega) | simp)) (by first | rfl | (congr 1; omega) | simp)) (by first | rfl | (congr 1; omega) | simp), rfl⟩
    · have h2 := g2; (try simp only [cmpB, decide_eq_true_eq, decide_eq_false_iff_not, beq_iff_eq, beq_eq_false_iff_ne, bne_iff_ne, ne_eq, bne_eq_false_iff_eq, Bool.not_eq_true', Bool.not_eq_false', Int.not_lt, Int.not_le] at h2)
      refine W_exit ?_
      refine thenK_e ?_
      refine thenK_e ?_
      refine blockK_hit ?_
      refine thenK_n ?_
      refine W_seq ?_
      refine W_anyK (b' := 409) rfl rfl rfl ?_
      refine k_op0 (d := 57) (b := 89) (j' := 1) rfl rfl rfl rfl (.plain rfl) (T_move rfl rfl) rfl ?_
      refine k_op0 (d := 58) (b := 105) (j' := 2) rfl rfl rfl rfl (.plain rfl) (T_add64 rfl rfl rfl (by first | assumption | omega | (have k1 := hq4 (by omega); omega) | (have k1 := hp.2 ((p.length : Int) - 1).toNat (by omega); omega))) rfl ?_
      refine k_op0 (d := 59) (b := 121) (j' := 3) rfl rfl rfl rfl (.plain rfl) (T_move rfl rfl) rfl ?_
      refine k_op0 (d := 60) (b := 137) (j' := 4) rfl rfl rfl rfl (.plain rfl) (T_len D rfl rfl rfl rfl rfl rfl) rfl ?_
      refine k_op0 (d := 61) (b := 153) (j' := 5) rfl rfl rfl rfl (.plain rfl) (T_cmp rfl rfl rfl rfl) rfl ?_
      refine k_op0 (d := 62) (b := 169) (j' := 6) rfl rfl rfl rfl (.plain rfl) (T_move rfl rfl) rfl ?_
      refine k_split (d := 62) rfl (fun g6 => ?_) (fun g6 => ?_)
      · have h6 := g6; (try simp only [cmpB, decide_eq_true_eq, decide_eq_false_iff_not, beq_iff_eq, beq_eq_false_iff_ne, bne_iff_ne, ne_eq, bne_eq_false_iff_eq, Bool.not_eq_true', Bool.not_eq_false', Int.not_lt, Int.not_le] at h6)
        refine k_op0 (d := 63) (b := 185) (j' := 7) rfl rfl rfl rfl (g_tt rfl rfl rfl g6) (T_fa D (m := 1) rfl rfl rfl rfl rfl rfl) rfl ?_
        refine k_op0 (d := 64) (b := 201) (j' := 8) rfl rfl rfl rfl (g_tt rfl rfl rfl g6) (T_load_b D rfl rfl rfl rfl rfl rfl) rfl ?_
        refine k_op0 (d := 65) (b := 217) (j' := 9) rfl rfl rfl rfl (g_tt rfl rfl rfl g6) (T_cmp rfl rfl rfl rfl) rfl ?_
        refine k_op0 (d := 66) (b := 233) (j' := 10) rfl rfl rfl rfl (g_tt rfl rfl rfl g6) (T_move rfl rfl) rfl ?_
        refine k_split (d := 66) rfl (fun g7 => ?_) (fun g7 => ?_)
        · have h7 := g7; (try simp only [cmpB, decide_eq_true_eq, decide_eq_false_iff_not, beq_iff_eq, beq_eq_false_iff_ne, bne_iff_ne, ne_eq, bne_eq_false_iff_eq, Bool.not_eq_true', Bool.not_eq_false', Int.not_lt, Int.not_le] at h7)
          refine k_no (d := 67) (j' := 11) rfl rfl rfl (g_ft rfl rfl rfl g7) ?_
          refine k_no (d := 68) (j' := 12) rfl rfl rfl (g_ft rfl rfl rfl g7) ?_
          refine k_no (d := 69) (j' := 13) rfl rfl rfl (g_ft rfl rfl rfl g7) ?_
          refine k_no (d := 70) (j' := 14) rfl rfl rfl (g_ft rfl rfl rfl g7) ?_
          refine k_no (d := 71) (j' := 15) rfl rfl rfl (g_ft rfl rfl rfl g7) ?_
          refine k_no (d := 72) (j' := 16) rfl rfl rfl (g_ft rfl rfl rfl g7) ?_
          refine k_no (d := 73) (j' := 17) rfl rfl rfl (g_ft rfl rfl rfl g7) ?_
          refine k_no (d := 74) (j' := 18) rfl rfl rfl (g_ft rfl rfl rfl g7) ?_
          refine k_op0 (d := 75) (b := 377) (j' := 19) rfl rfl rfl rfl (g_tt rfl rfl rfl g6) (T_pick_t rfl rfl rfl g7) rfl ?_
          refine k_op0 (d := 76) (b := 393) (j' := 20) rfl rfl rfl rfl (.plain rfl) (T_pick_t rfl rfl rfl g6) rfl ?_
          refine k_done rfl ?_
          refine ⟨rfl, ?_⟩
          refine thenK_n ?_
          refine W_cond rfl (fun g8 => ?_) (fun g8 => ?_)
          · skip
            refine W_seq ?_
            refine W_seqK (b' := 425) rfl rfl ?_
            refine k_op0 (d := 8) (b := 409) (j' := 1) rfl rfl rfl rfl (.plain rfl) (T_assign rfl rfl) rfl ?_
            refine k_done rfl ?_
            refine thenK_n ?_
            refine W_ret ?_
            refine blockK_r ?_
            refine thenK_r ?_
            refine thenK_r ?_
            refine blockK_r ?_
            refine thenK_r ?_
            -- end 2
            exact .mk [] (.inr rfl) (.tmp rfl (.nil)) (by simp only [resLV, LV.ren, LV.v.injEq, Value.bool.injEq]; exact (made_f (i := j) (by omega) (by unfold link blk; simp [-List.getD_eq_getElem?_getD, -Int.default_eq_zero, h7])).symm) (.nil) rfl
          · exact absurd (g8.symm.trans rfl) (by decide)
        · have h7 := g7; (try simp only [cmpB, decide_eq_true_eq, decide_eq_false_iff_not, beq_iff_eq, beq_eq_false_iff_ne, bne_iff_ne, ne_eq, bne_eq_false_iff_eq, Bool.not_eq_true', Bool.not_eq_false', Int.not_lt, Int.not_le] at h7)
          refine k_op0 (d := 67) (b := 249) (j' := 11) rfl rfl rfl rfl (g_ff rfl rfl rfl g7) (T_fa D (m := 3) rfl rfl rfl rfl rfl rfl) rfl ?_
          refine k_op0 (d := 68) (b := 265) (j' := 12) rfl rfl rfl rfl (g_ff rfl rfl rfl g7) (T_load_b D rfl rfl rfl rfl rfl rfl) rfl ?_
          refine k_op0 (d := 69) (b := 281) (j' := 13) rfl rfl rfl rfl (g_ff rfl rfl rfl g7) (T_move rfl rfl) rfl ?_
          refine k_op0 (d := 70) (b := 297) (j' := 14) rfl rfl rfl rfl (g_ff rfl rfl rfl g7) (T_move rfl rfl) rfl ?_
          refine k_op0 (d := 71) (b := 313) (j' := 15) rfl rfl rfl rfl (g_ff rfl rfl rfl g7) (T_add64 rfl rfl rfl (by first | assumption | omega | (have k1 := hq4 (by omega); omega) | (have k1 := hp.2 ((p.length : Int) - 1).toNat (by omega); omega))) rfl ?_
          first | refine k_op0 (d := 72) (b := 329) (j' := 16) rfl rfl rfl rfl (g_ff rfl rfl rfl g7) (T_indexAddr D rfl rfl rfl rfl rfl rfl rfl rfl (by first | assumption | omega | (have k1 := hq4 (by omega); omega) | (have k1 := hp.2 ((p.length : Int) - 1).toNat (by omega); omega))) rfl ?_ | refine k_op0 (d := 72) (b := 329) (j' := 16) rfl rfl rfl rfl (g_ff rfl rfl rfl g7) (T_indexAddrZ D rfl rfl rfl rfl rfl rfl rfl rfl (by first | assumption | omega | (have k1 := hq4 (by omega); omega) | (have k1 := hp.2 ((p.length : Int) - 1).toNat (by omega); omega)) (by first | assumption | omega | (have k1 := hq4 (by omega); omega) | (have k1 := hp.2 ((p.length : Int) - 1).toNat (by omega); omega))) rfl ?_
          refine k_op0 (d := 73) (b := 345) (j' := 17) rfl rfl rfl rfl (g_ff rfl rfl rfl g7) (T_ldE D (lv := .v _) (nn := 0) (upd := []) rfl rfl rfl rfl rfl (by first | assumption | omega | (have k1 := hq4 (by omega); omega) | (have k1 := hp.2 ((p.length : Int) - 1).toNat (by omega); omega)) rfl rfl rfl rfl) rfl ?_
          refine k_op0 (d := 74) (b := 361) (j' := 18) rfl rfl rfl rfl (g_ff rfl rfl rfl g7) (T_cmp rfl rfl rfl rfl) rfl ?_
          refine k_op0 (d := 75) (b := 377) (j' := 19) rfl rfl rfl rfl (g_tt rfl rfl rfl g6) (T_pick_f rfl rfl rfl g7) rfl ?_
          refine k_op0 (d := 76) (b := 393) (j' := 20) rfl rfl rfl rfl (.plain rfl) (T_pick_t rfl rfl rfl g6) rfl ?_
          refine k_done rfl ?_
          refine ⟨rfl, ?_⟩
          refine thenK_n ?_
          refine W_cond rfl (fun g9 => ?_) (fun g9 => ?_)
          · have h9 := g9; (try simp only [cmpB, decide_eq_true_eq, decide_eq_false_iff_not, beq_iff_eq, beq_eq_false_iff_ne, bne_iff_ne, ne_eq, bne_eq_false_iff_eq, Bool.not_eq_true', Bool.not_eq_false', Int.not_lt, Int.not_le] at h9)
            refine W_seq ?_
            refine W_seqK (b' := 425) rfl rfl ?_
            refine k_op0 (d := 8) (b := 409) (j' := 1) rfl rfl rfl rfl (.plain rfl) (T_assign rfl rfl) rfl ?_
            refine k_done rfl ?_
            refine thenK_n ?_
            refine W_ret ?_
            refine blockK_r ?_
            refine thenK_r ?_
            refine thenK_r ?_
            refine blockK_r ?_
            refine thenK_r ?_
            -- end 3
            exact .mk [] (.inr rfl) (.tmp rfl (.nil)) (by simp only [resLV, LV.ren, LV.v.injEq, Value.bool.injEq]; have e : ((j : Int) + 1).toNat = j + 1 := (by omega); rw [e] at h9; exact (made_f (i := j) (by omega) (by unfold link blk; simp [-List.getD_eq_getElem?_getD, -Int.default_eq_zero, h9])).symm) (.nil) rfl
          · have h9 := g9; (try simp only [cmpB, decide_eq_true_eq, decide_eq_false_iff_not, beq_iff_eq, beq_eq_false_iff_ne, bne_iff_ne, ne_eq, bne_eq_false_iff_eq, Bool.not_eq_true', Bool.not_eq_false', Int.not_lt, Int.not_le] at h9)
            refine W_skip ?_
            refine blockK_n ?_
            refine thenK_n ?_
            refine W_seqK (b' := 457) rfl rfl ?_
            refine k_op0 (d := 20) (b := 409) (j' := 1) rfl rfl rfl rfl (.plain rfl) (T_move rfl rfl) rfl ?_
            refine k_op0 (d := 21) (b := 425) (j' := 2) rfl rfl rfl rfl (.plain rfl) (T_add64 rfl rfl rfl (by first | assumption | omega | (have k1 := hq4 (by omega); omega) | (have k1 := hp.2 ((p.length : Int) - 1).toNat (by omega); omega))) rfl ?_
            refine k_op0 (d := 10) (b := 441) (j' := 3) rfl rfl rfl rfl (.plain rfl) (T_assign rfl rfl) rfl ?_
            refine k_done rfl ?_
            refine thenK_n ?_
            have hq5 := hq3 (by omega)
            have hq6 : (instrs f (p.take j)).length + i = (instrs f (p.take (j + 1))).length := by omega
            refine ⟨j + 1, by (try dsimp only); exact ⟨by omega, by omega, fun m hm => hI.2.2 m (by omega), fun i1 h1 h2 => by rcases Nat.lt_or_ge i1 j with h | h; exact hJ.2.2.2 i1 h h2; rw [show i1 = j by omega] at h2 ⊢; first | omega | (unfold link blk; simp [-List.getD_eq_getElem?_getD, -Int.default_eq_zero, *])⟩, by (try dsimp only); omega, ?_⟩
            exact ⟨[(5, 5), (6, 6)], .same rfl rfl (.same rfl rfl (.same rfl rfl (.same rfl rfl (.eq rfl (.eq rfl (.nil) (by first | rfl | (congr 1; omega) | simp)) (by first | rfl | (congr 1; omega) | simp))))), .fzE rfl (.fzE rfl (.fzE rfl (.fzE rfl (.box (by first | rfl | (congr 1; omega) | simp) (.box (by first | rfl | (congr 1; omega) | simp) (.nil))) (by first | rfl | (congr 1; omega) | simp)) (by first | rfl | (congr 1; omega) | simp)) (by first | rfl | (congr 1; omega) | simp)) (by first | rfl | (congr 1; omega) | simp), rfl⟩
      · have h6 := g6; (try simp only [cmpB, decide_eq_true_eq, decide_eq_false_iff_not, beq_iff_eq, beq_eq_false_iff_ne, bne_iff_ne, ne_eq, bne_eq_false_iff_eq, Bool.not_eq_true', Bool.not_eq_false', Int.not_lt, Int.not_le] at h6)
        refine k_no (d := 63) (j' := 7) rfl rfl rfl (g_tf rfl rfl rfl g6) ?_
        refine k_no (d := 64) (j' := 8) rfl rfl rfl (g_tf rfl rfl rfl g6) ?_
        refine k_no (d := 65) (j' := 9) rfl rfl rfl (g_tf rfl rfl rfl g6) ?_
        refine k_no (d := 66) (j' := 10) rfl rfl rfl (g_tf rfl rfl rfl g6) ?_
        refine k_no (d := 67) (j' := 11) rfl rfl rfl (.und rfl rfl rfl) ?_
        refine k_no (d := 68) (j' := 12) rfl rfl rfl (.und rfl rfl rfl) ?_
        refine k_no (d := 69) (j' := 13) rfl rfl rfl (.und rfl rfl rfl) ?_
        refine k_no (d := 70) (j' := 14) rfl rfl rfl (.und rfl rfl rfl) ?_
        refine k_no (d := 71) (j' := 15) rfl rfl rfl (.und rfl rfl rfl) ?_
        refine k_no (d := 72) (j' := 16) rfl rfl rfl (.und rfl rfl rfl) ?_
        refine k_no (d := 73) (j' := 17) rfl rfl rfl (.und rfl rfl rfl) ?_
        refine k_no (d := 74) (j' := 18) rfl rfl rfl (.und rfl rfl rfl) ?_
        refine k_no (d := 75) (j' := 19) rfl rfl rfl (g_tf rfl rfl rfl g6) ?_
        refine k_op0 (d := 76) (b := 393) (j' := 20) rfl rfl rfl rfl (.plain rfl) (T_pick_f rfl rfl rfl g6) rfl ?_
        refine k_done rfl ?_
        refine ⟨rfl, ?_⟩
        refine thenK_n ?_
        refine W_cond rfl (fun g10 => ?_) (fun g10 => ?_)
        · exact absurd (g10.symm.trans rfl) (by decide)
        · skip
          refine W_skip ?_
          refine blockK_n ?_
          refine thenK_n ?_
          refine W_seqK (b' := 457) rfl rfl ?_
          refine k_op0 (d := 20) (b := 409) (j' := 1) rfl rfl rfl rfl (.plain rfl) (T_move rfl rfl) rfl ?_
          refine k_op0 (d := 21) (b := 425) (j' := 2) rfl rfl rfl rfl (.plain rfl) (T_add64 rfl rfl rfl (by first | assumption | omega | (have k1 := hq4 (by omega); omega) | (have k1 := hp.2 ((p.length : Int) - 1).toNat (by omega); omega))) rfl ?_
          refine k_op0 (d := 10) (b := 441) (j' := 3) rfl rfl rfl rfl (.plain rfl) (T_assign rfl rfl) rfl ?_
          refine k_done rfl ?_
          refine thenK_n ?_
          have hq5 := hq3 (by omega)
          have hq6 : (instrs f (p.take j)).length + i = (instrs f (p.take (j + 1))).length := by omega
          refine ⟨j + 1, by (try dsimp only); exact ⟨by omega, by omega, fun m hm => hI.2.2 m (by omega), fun i1 h1 h2 => by rcases Nat.lt_or_ge i1 j with h | h; exact hJ.2.2.2 i1 h h2; rw [show i1 = j by omega] at h2 ⊢; first | omega | (unfold link blk; simp [-List.getD_eq_getElem?_getD, -Int.default_eq_zero, *])⟩, by (try dsimp only); omega, ?_⟩
          exact ⟨[(5, 5), (6, 6)], .same rfl rfl (.same rfl rfl (.same rfl rfl (.same rfl rfl (.eq rfl (.eq rfl (.nil) (by first | rfl | (congr 1; omega) | simp)) (by first | rfl | (congr 1; omega) | simp))))), .fzE rfl (.fzE rfl (.fzE rfl (.fzE rfl (.box (by first | rfl | (congr 1; omega) | simp) (.box (by first | rfl | (congr 1; omega) | simp) (.nil))) (by first | rfl | (congr 1; omega) | simp)) (by first | rfl | (congr 1; omega) | simp)) (by first | rfl | (congr 1; omega) | simp)) (by first | rfl | (congr 1; omega) | simp), rfl⟩
  · have h1 := g1; (try simp only [cmpB, decide_eq_true_eq, decide_eq_false_iff_not, beq_iff_eq, beq_eq_false_iff_ne, bne_iff_ne, ne_eq, bne_eq_false_iff_eq, Bool.not_eq_true', Bool.not_eq_false', Int.not_lt, Int.not_le] at h1)
    refine W_exit ?_
    refine thenK_e ?_
    refine thenK_e ?_
    refine blockK_hit ?_
    refine thenK_n ?_
    refine W_seq ?_
    refine W_anyK (b' := 263) rfl rfl rfl ?_
    refine k_op0 (d := 77) (b := 71) (j' := 1) rfl rfl rfl rfl (.plain rfl) (T_fa D (m := 1) rfl rfl rfl rfl rfl rfl) rfl ?_
    refine k_op0 (d := 78) (b := 87) (j' := 2) rfl rfl rfl rfl (.plain rfl) (T_load_b D rfl rfl rfl rfl rfl rfl) rfl ?_
    refine k_op0 (d := 79) (b := 103) (j' := 3) rfl rfl rfl rfl (.plain rfl) (T_move rfl rfl) rfl ?_
    refine k_op0 (d := 80) (b := 119) (j' := 4) rfl rfl rfl rfl (.plain rfl) (T_move rfl rfl) rfl ?_
    refine k_op0 (d := 81) (b := 135) (j' := 5) rfl rfl rfl rfl (.plain rfl) (T_len D rfl rfl rfl rfl rfl rfl) rfl ?_
    refine k_op0 (d := 82) (b := 151) (j' := 6) rfl rfl rfl rfl (.plain rfl) (T_sub64 rfl rfl rfl (by first | assumption | omega | (have k1 := hq4 (by omega); omega) | (have k1 := hp.2 ((p.length : Int) - 1).toNat (by omega); omega))) rfl ?_
    first | refine k_op0 (d := 83) (b := 167) (j' := 7) rfl rfl rfl rfl (.plain rfl) (T_indexAddr D rfl rfl rfl rfl rfl rfl rfl rfl (by first | assumption | omega | (have k1 := hq4 (by omega); omega) | (have k1 := hp.2 ((p.length : Int) - 1).toNat (by omega); omega))) rfl ?_ | refine k_op0 (d := 83) (b := 167) (j' := 7) rfl rfl rfl rfl (.plain rfl) (T_indexAddrZ D rfl rfl rfl rfl rfl rfl rfl rfl (by first | assumption | omega | (have k1 := hq4 (by omega); omega) | (have k1 := hp.2 ((p.length : Int) - 1).toNat (by omega); omega)) (by first | assumption | omega | (have k1 := hq4 (by omega); omega) | (have k1 := hp.2 ((p.length : Int) - 1).toNat (by omega); omega))) rfl ?_
    refine k_op0 (d := 84) (b := 183) (j' := 8) rfl rfl rfl rfl (.plain rfl) (T_ldE D (lv := .v _) (nn := 0) (upd := []) rfl rfl rfl rfl rfl (by first | assumption | omega | (have k1 := hq4 (by omega); omega) | (have k1 := hp.2 ((p.length : Int) - 1).toNat (by omega); omega)) rfl rfl rfl rfl) rfl ?_
    first | refine k_op0 (d := 85) (b := 199) (j' := 9) rfl rfl rfl rfl (.plain rfl) (T_indexAddr D rfl rfl rfl rfl rfl rfl rfl rfl (by first | assumption | omega | (have k1 := hq4 (by omega); omega) | (have k1 := hp.2 ((p.length : Int) - 1).toNat (by omega); omega))) rfl ?_ | refine k_op0 (d := 85) (b := 199) (j' := 9) rfl rfl rfl rfl (.plain rfl) (T_indexAddrZ D rfl rfl rfl rfl rfl rfl rfl rfl (by first | assumption | omega | (have k1 := hq4 (by omega); omega) | (have k1 := hp.2 ((p.length : Int) - 1).toNat (by omega); omega)) (by first | assumption | omega | (have k1 := hq4 (by omega); omega) | (have k1 := hp.2 ((p.length : Int) - 1).toNat (by omega); omega))) rfl ?_
    refine k_op1 (d := 86) (b := 215) (j' := 10) rfl rfl rfl rfl (.plain rfl) (T_ldEA D (l := [.r 215, .v _, .v _, .v _, .v _]) (nn := 1) (upd := [(215, .fz 8 _)]) rfl rfl rfl rfl rfl (by first | assumption | omega | (have k1 := hq4 (by omega); omega) | (have k1 := hp.2 ((p.length : Int) - 1).toNat (by omega); omega)) rfl rfl rfl rfl rfl) rfl ?_
    refine k_opn (d := 13) (b := 231) (j' := 11) rfl rfl rfl rfl (.plain rfl) (T_nilbox [(70, 8)] (T_alloc D rfl rfl rfl) rfl (.cons (.nil rfl) <| .cons (.same _) <| .cons (.same _) <| .cons (.same _) <| .cons (.same _) <| .nil) (upd' := [(231, .box 72 [.r 232, .v (.int .i64 0), .v (.int .i64 0), .v (.int .i64 0), .v (.int .i64 0)]), (232, .row 70 8 (List.map eTac ([] : List (GTac))))]) (nn' := 2) rfl rfl) rfl ?_
    refine k_st1 (b := 247) (j' := 12) rfl rfl rfl rfl (.plain rfl) (T_stB D (cs' := [_, _, _, _, _]) rfl rfl rfl rfl flat_agg rfl rfl (Nat.le_of_ble_eq_true rfl) rfl) rfl ?_
    refine k_done rfl ?_
    refine ⟨rfl, ?_⟩
    refine thenK_n ?_
    refine W_seq ?_
    refine W_seq ?_
    refine W_seqK (b' := 567) rfl rfl ?_
    refine k_op0 (d := 87) (b := 263) (j' := 1) rfl rfl rfl rfl (.plain rfl) (T_move rfl rfl) rfl ?_
    refine k_op0 (d := 88) (b := 279) (j' := 2) rfl rfl rfl rfl (.plain rfl) (T_fa D (m := 0) rfl rfl rfl rfl rfl rfl) rfl ?_
    refine k_op0 (d := 89) (b := 295) (j' := 3) rfl rfl rfl rfl (.plain rfl) (T_load_b D rfl rfl rfl rfl rfl rfl) rfl ?_
    refine k_op0 (d := 90) (b := 311) (j' := 4) rfl rfl rfl rfl (.plain rfl) (T_len D rfl rfl rfl rfl rfl rfl) rfl ?_
    refine k_op0 (d := 91) (b := 327) (j' := 5) rfl rfl rfl rfl (.plain rfl) (T_cmp rfl rfl rfl rfl) rfl ?_
    refine k_op0 (d := 92) (b := 343) (j' := 6) rfl rfl rfl rfl (.plain rfl) (T_move rfl rfl) rfl ?_
    refine k_split (d := 92) rfl (fun g11 => ?_) (fun g11 => ?_)
    · have h11 := g11; (try simp only [cmpB, decide_eq_true_eq, decide_eq_false_iff_not, beq_iff_eq, beq_eq_false_iff_ne, bne_iff_ne, ne_eq, bne_eq_false_iff_eq, Bool.not_eq_true', Bool.not_eq_false', Int.not_lt, Int.not_le] at h11)
      refine k_no (d := 93) (j' := 7) rfl rfl rfl (g_ft rfl rfl rfl g11) ?_
      refine k_no (d := 94) (j' := 8) rfl rfl rfl (g_ft rfl rfl rfl g11) ?_
      refine k_no (d := 95) (j' := 9) rfl rfl rfl (g_ft rfl rfl rfl g11) ?_
      refine k_no (d := 96) (j' := 10) rfl rfl rfl (g_ft rfl rfl rfl g11) ?_
      refine k_no (d := 97) (j' := 11) rfl rfl rfl (g_ft rfl rfl rfl g11) ?_
      refine k_op0 (d := 98) (b := 439) (j' := 12) rfl rfl rfl rfl (.plain rfl) (T_pick_t rfl rfl rfl g11) rfl ?_
      refine k_op0 (d := 99) (b := 455) (j' := 13) rfl rfl rfl rfl (.plain rfl) (T_move rfl rfl) rfl ?_
      refine k_no (d := 100) (j' := 14) rfl rfl rfl (g_ft rfl rfl rfl rfl) ?_
      refine k_no (d := 101) (j' := 15) rfl rfl rfl (g_ft rfl rfl rfl rfl) ?_
      refine k_no (d := 102) (j' := 16) rfl rfl rfl (g_ft rfl rfl rfl rfl) ?_
      refine k_no (d := 103) (j' := 17) rfl rfl rfl (g_ft rfl rfl rfl rfl) ?_
      refine k_no (d := 104) (j' := 18) rfl rfl rfl (g_ft rfl rfl rfl rfl) ?_
      refine k_op0 (d := 105) (b := 551) (j' := 19) rfl rfl rfl rfl (.plain rfl) (T_pick_t rfl rfl rfl rfl) rfl ?_
      refine k_done rfl ?_
      refine thenK_n ?_
      refine W_cond rfl (fun g12 => ?_) (fun g12 => ?_)
      · skip
        refine W_seq ?_
        refine W_seqK (b' := 583) rfl rfl ?_
        refine k_op0 (d := 8) (b := 567) (j' := 1) rfl rfl rfl rfl (.plain rfl) (T_assign rfl rfl) rfl ?_
        refine k_done rfl ?_
        refine thenK_n ?_
        refine W_ret ?_
        refine thenK_r ?_
        -- end 4
        exact .mk [] (.inr rfl) (.tmp rfl (.nil)) (by simp only [resLV, LV.ren, LV.v.injEq, Value.bool.injEq]; exact (made_ins (fun e => h11 (by rw [List.take_of_length_le (by omega), e]))).symm) (.nil) rfl
      · exact absurd (g12.symm.trans rfl) (by decide)
    · have h11 := g11; (try simp only [cmpB, decide_eq_true_eq, decide_eq_false_iff_not, beq_iff_eq, beq_eq_false_iff_ne, bne_iff_ne, ne_eq, bne_eq_false_iff_eq, Bool.not_eq_true', Bool.not_eq_false', Int.not_lt, Int.not_le] at h11)
      refine k_op0 (d := 93) (b := 359) (j' := 7) rfl rfl rfl rfl (g_ff rfl rfl rfl g11) (T_fa D (m := 1) rfl rfl rfl rfl rfl rfl) rfl ?_
      refine k_op0 (d := 94) (b := 375) (j' := 8) rfl rfl rfl rfl (g_ff rfl rfl rfl g11) (T_load_b D rfl rfl rfl rfl rfl rfl) rfl ?_
      refine k_op0 (d := 95) (b := 391) (j' := 9) rfl rfl rfl rfl (g_ff rfl rfl rfl g11) (T_fa D (m := 1) rfl rfl rfl rfl rfl rfl) rfl ?_
      refine k_op0 (d := 96) (b := 407) (j' := 10) rfl rfl rfl rfl (g_ff rfl rfl rfl g11) (T_load_b D rfl rfl rfl rfl rfl rfl) rfl ?_
      refine k_op0 (d := 97) (b := 423) (j' := 11) rfl rfl rfl rfl (g_ff rfl rfl rfl g11) (T_cmp rfl rfl rfl rfl) rfl ?_
      refine k_op0 (d := 98) (b := 439) (j' := 12) rfl rfl rfl rfl (.plain rfl) (T_pick_f rfl rfl rfl g11) rfl ?_
      refine k_op0 (d := 99) (b := 455) (j' := 13) rfl rfl rfl rfl (.plain rfl) (T_move rfl rfl) rfl ?_
      refine k_split (d := 99) rfl (fun g13 => ?_) (fun g13 => ?_)
      · have h13 := g13; (try simp only [cmpB, decide_eq_true_eq, decide_eq_false_iff_not, beq_iff_eq, beq_eq_false_iff_ne, bne_iff_ne, ne_eq, bne_eq_false_iff_eq, Bool.not_eq_true', Bool.not_eq_false', Int.not_lt, Int.not_le] at h13)
        refine k_no (d := 100) (j' := 14) rfl rfl rfl (g_ft rfl rfl rfl g13) ?_
        refine k_no (d := 101) (j' := 15) rfl rfl rfl (g_ft rfl rfl rfl g13) ?_
        refine k_no (d := 102) (j' := 16) rfl rfl rfl (g_ft rfl rfl rfl g13) ?_
        refine k_no (d := 103) (j' := 17) rfl rfl rfl (g_ft rfl rfl rfl g13) ?_
        refine k_no (d := 104) (j' := 18) rfl rfl rfl (g_ft rfl rfl rfl g13) ?_
        refine k_op0 (d := 105) (b := 551) (j' := 19) rfl rfl rfl rfl (.plain rfl) (T_pick_t rfl rfl rfl g13) rfl ?_
        refine k_done rfl ?_
        refine thenK_n ?_
        refine W_cond rfl (fun g14 => ?_) (fun g14 => ?_)
        · skip
          refine W_seq ?_
          refine W_seqK (b' := 583) rfl rfl ?_
          refine k_op0 (d := 8) (b := 567) (j' := 1) rfl rfl rfl rfl (.plain rfl) (T_assign rfl rfl) rfl ?_
          refine k_done rfl ?_
          refine thenK_n ?_
          refine W_ret ?_
          refine thenK_r ?_
          -- end 5
          exact .mk [] (.inr rfl) (.tmp rfl (.nil)) (by simp only [resLV, LV.ren, LV.v.injEq, Value.bool.injEq]; have et : p.take j = p := List.take_of_length_le (by omega); rw [et] at h11 hJ; have e1 : b.ins = instrs f p := ext_getD (by omega) (fun m hm => hJ.2.2.1 m (by omega)); have hc : chainB f p = true := range_all_true (fun i hi => hJ.2.2.2 i (by omega) (by omega)); first | (exfalso; omega) | (rw [made_tail hc e1 h13 h15]; clear hJ hps hb hp hc et h11 h13 h15 e1; simp only [blk, lastOf, cmpB]; simp [-List.getD_eq_getElem?_getD, -Int.default_eq_zero, -Int.pred_toNat, *]) | exact (made_fin h13).symm | exact (made_v h15).symm) (.nil) rfl
        · exact absurd (g14.symm.trans rfl) (by decide)
      · have h13 := g13; (try simp only [cmpB, decide_eq_true_eq, decide_eq_false_iff_not, beq_iff_eq, beq_eq_false_iff_ne, bne_iff_ne, ne_eq, bne_eq_false_iff_eq, Bool.not_eq_true', Bool.not_eq_false', Int.not_lt, Int.not_le] at h13)
        refine k_op0 (d := 100) (b := 471) (j' := 14) rfl rfl rfl rfl (g_ff rfl rfl rfl g13) (T_fa D (m := 2) rfl rfl rfl rfl rfl rfl) rfl ?_
        refine k_op0 (d := 101) (b := 487) (j' := 15) rfl rfl rfl rfl (g_ff rfl rfl rfl g13) (T_load_b D rfl rfl rfl rfl rfl rfl) rfl ?_
        refine k_op0 (d := 102) (b := 503) (j' := 16) rfl rfl rfl rfl (g_ff rfl rfl rfl g13) (T_fa D (m := 2) rfl rfl rfl rfl rfl rfl) rfl ?_
        refine k_op0 (d := 103) (b := 519) (j' := 17) rfl rfl rfl rfl (g_ff rfl rfl rfl g13) (T_load_b D rfl rfl rfl rfl rfl rfl) rfl ?_
        refine k_op0 (d := 104) (b := 535) (j' := 18) rfl rfl rfl rfl (g_ff rfl rfl rfl g13) (T_cmp rfl rfl rfl rfl) rfl ?_
        refine k_op0 (d := 105) (b := 551) (j' := 19) rfl rfl rfl rfl (.plain rfl) (T_pick_f rfl rfl rfl g13) rfl ?_
        refine k_done rfl ?_
        refine thenK_n ?_
        refine W_cond rfl (fun g15 => ?_) (fun g15 => ?_)
        · have h15 := g15; (try simp only [cmpB, decide_eq_true_eq, decide_eq_false_iff_not, beq_iff_eq, beq_eq_false_iff_ne, bne_iff_ne, ne_eq, bne_eq_false_iff_eq, Bool.not_eq_true', Bool.not_eq_false', Int.not_lt, Int.not_le] at h15)
          refine W_seq ?_
          refine W_seqK (b' := 583) rfl rfl ?_
          refine k_op0 (d := 8) (b := 567) (j' := 1) rfl rfl rfl rfl (.plain rfl) (T_assign rfl rfl) rfl ?_
          refine k_done rfl ?_
          refine thenK_n ?_
          refine W_ret ?_
          refine thenK_r ?_
          -- end 6
          exact .mk [] (.inr rfl) (.tmp rfl (.nil)) (by simp only [resLV, LV.ren, LV.v.injEq, Value.bool.injEq]; have et : p.take j = p := List.take_of_length_le (by omega); rw [et] at h11 hJ; have e1 : b.ins = instrs f p := ext_getD (by omega) (fun m hm => hJ.2.2.1 m (by omega)); have hc : chainB f p = true := range_all_true (fun i hi => hJ.2.2.2 i (by omega) (by omega)); first | (exfalso; omega) | (rw [made_tail hc e1 h13 h15]; clear hJ hps hb hp hc et h11 h13 h15 e1; simp only [blk, lastOf, cmpB]; simp [-List.getD_eq_getElem?_getD, -Int.default_eq_zero, -Int.pred_toNat, *]) | exact (made_fin h13).symm | exact (made_v h15).symm) (.nil) rfl
        · have h15 := g15; (try simp only [cmpB, decide_eq_true_eq, decide_eq_false_iff_not, beq_iff_eq, beq_eq_false_iff_ne, bne_iff_ne, ne_eq, bne_eq_false_iff_eq, Bool.not_eq_true', Bool.not_eq_false', Int.not_lt, Int.not_le] at h15)
          refine W_skip ?_
          refine thenK_n ?_
          refine W_seq ?_
          refine W_seqK (b' := 663) rfl rfl ?_
          refine k_op0 (d := 106) (b := 567) (j' := 1) rfl rfl rfl rfl (.plain rfl) (T_fa D (m := 3) rfl rfl rfl rfl rfl rfl) rfl ?_
          refine k_op0 (d := 107) (b := 583) (j' := 2) rfl rfl rfl rfl (.plain rfl) (T_load_b D rfl rfl rfl rfl rfl rfl) rfl ?_
          refine k_op0 (d := 108) (b := 599) (j' := 3) rfl rfl rfl rfl (.plain rfl) (T_fa D (m := 3) rfl rfl rfl rfl rfl rfl) rfl ?_
          refine k_op0 (d := 109) (b := 615) (j' := 4) rfl rfl rfl rfl (.plain rfl) (T_load_b D rfl rfl rfl rfl rfl rfl) rfl ?_
          refine k_op0 (d := 110) (b := 631) (j' := 5) rfl rfl rfl rfl (.plain rfl) (T_cmp rfl rfl rfl rfl) rfl ?_
          refine k_op0 (d := 14) (b := 647) (j' := 6) rfl rfl rfl rfl (.plain rfl) (T_assign rfl rfl) rfl ?_
          refine k_done rfl ?_
          refine thenK_n ?_
          refine W_seq ?_
          refine W_seq ?_
          refine W_seqK (b' := 791) rfl rfl ?_
          refine k_op0 (d := 111) (b := 663) (j' := 1) rfl rfl rfl rfl (.plain rfl) (T_fa D (m := 1) rfl rfl rfl rfl rfl rfl) rfl ?_
          refine k_op0 (d := 112) (b := 679) (j' := 2) rfl rfl rfl rfl (.plain rfl) (T_load_b D rfl rfl rfl rfl rfl rfl) rfl ?_
          refine k_op0 (d := 113) (b := 695) (j' := 3) rfl rfl rfl rfl (.plain rfl) (T_cmp rfl rfl rfl rfl) rfl ?_
          refine k_op0 (d := 114) (b := 711) (j' := 4) rfl rfl rfl rfl (.plain rfl) (T_move rfl rfl) rfl ?_
          refine k_split (d := 114) rfl (fun g16 => ?_) (fun g16 => ?_)
          · have h16 := g16; (try simp only [cmpB, decide_eq_true_eq, decide_eq_false_iff_not, beq_iff_eq, beq_eq_false_iff_ne, bne_iff_ne, ne_eq, bne_eq_false_iff_eq, Bool.not_eq_true', Bool.not_eq_false', Int.not_lt, Int.not_le] at h16)
            refine k_no (d := 115) (j' := 5) rfl rfl rfl (g_ft rfl rfl rfl g16) ?_
            refine k_no (d := 116) (j' := 6) rfl rfl rfl (g_ft rfl rfl rfl g16) ?_
            refine k_no (d := 117) (j' := 7) rfl rfl rfl (g_ft rfl rfl rfl g16) ?_
            refine k_op0 (d := 118) (b := 775) (j' := 8) rfl rfl rfl rfl (.plain rfl) (T_pick_t rfl rfl rfl g16) rfl ?_
            refine k_done rfl ?_
            refine thenK_n ?_
            refine W_cond rfl (fun g17 => ?_) (fun g17 => ?_)
            · skip
              refine W_seqK (b' := 903) rfl rfl ?_
              refine k_op0 (d := 119) (b := 791) (j' := 1) rfl rfl rfl rfl (.plain rfl) (T_move rfl rfl) rfl ?_
              refine k_op0 (d := 120) (b := 807) (j' := 2) rfl rfl rfl rfl (.plain rfl) (T_fa D (m := 3) rfl rfl rfl rfl rfl rfl) rfl ?_
              refine k_op0 (d := 121) (b := 823) (j' := 3) rfl rfl rfl rfl (.plain rfl) (T_load_b D rfl rfl rfl rfl rfl rfl) rfl ?_
              refine k_op0 (d := 122) (b := 839) (j' := 4) rfl rfl rfl rfl (.plain rfl) (T_fa D (m := 3) rfl rfl rfl rfl rfl rfl) rfl ?_
              refine k_op0 (d := 123) (b := 855) (j' := 5) rfl rfl rfl rfl (.plain rfl) (T_load_b D rfl rfl rfl rfl rfl rfl) rfl ?_
              refine k_op0 (d := 124) (b := 871) (j' := 6) rfl rfl rfl rfl (.plain rfl) (T_callV (lvs := [_, _, _]) (L := [(1, 4)]) (leads_spec2 _ _ _ (fun k1 k2 => hps _ (getD_mem (by omega)))) body119 rfl rfl rfl rfl (.fz rfl (.nil)) rfl) rfl ?_
              refine k_op0 (d := 14) (b := 887) (j' := 7) rfl rfl rfl rfl (.plain rfl) (T_assign rfl rfl) rfl ?_
              refine k_done rfl ?_
              refine thenK_n ?_
              refine W_seq ?_
              refine W_seqK (b' := 999) rfl rfl ?_
              refine k_op0 (d := 125) (b := 903) (j' := 1) rfl rfl rfl rfl (.plain rfl) (T_fa D (m := 4) rfl rfl rfl rfl rfl rfl) rfl ?_
              refine k_op0 (d := 126) (b := 919) (j' := 2) rfl rfl rfl rfl (.plain rfl) (T_load_b D rfl rfl rfl rfl rfl rfl) rfl ?_
              refine k_op0 (d := 127) (b := 935) (j' := 3) rfl rfl rfl rfl (.plain rfl) (T_fa D (m := 4) rfl rfl rfl rfl rfl rfl) rfl ?_
              refine k_op0 (d := 128) (b := 951) (j' := 4) rfl rfl rfl rfl (.plain rfl) (T_load_b D rfl rfl rfl rfl rfl rfl) rfl ?_
              refine k_op0 (d := 129) (b := 967) (j' := 5) rfl rfl rfl rfl (.plain rfl) (T_cmp rfl rfl rfl rfl) rfl ?_
              refine k_op0 (d := 15) (b := 983) (j' := 6) rfl rfl rfl rfl (.plain rfl) (T_assign rfl rfl) rfl ?_
              refine k_done rfl ?_
              refine thenK_n ?_
              refine W_seq ?_
              refine W_seq ?_
              refine W_seqK (b' := 1047) rfl rfl ?_
              refine k_op0 (d := 130) (b := 999) (j' := 1) rfl rfl rfl rfl (.plain rfl) (T_fa D (m := 1) rfl rfl rfl rfl rfl rfl) rfl ?_
              refine k_op0 (d := 131) (b := 1015) (j' := 2) rfl rfl rfl rfl (.plain rfl) (T_load_b D rfl rfl rfl rfl rfl rfl) rfl ?_
              refine k_op0 (d := 132) (b := 1031) (j' := 3) rfl rfl rfl rfl (.plain rfl) (T_cmp rfl rfl rfl rfl) rfl ?_
              refine k_done rfl ?_
              refine thenK_n ?_
              refine W_cond rfl (fun g18 => ?_) (fun g18 => ?_)
              · have h18 := g18; (try simp only [cmpB, decide_eq_true_eq, decide_eq_false_iff_not, beq_iff_eq, beq_eq_false_iff_ne, bne_iff_ne, ne_eq, bne_eq_false_iff_eq, Bool.not_eq_true', Bool.not_eq_false', Int.not_lt, Int.not_le] at h18)
                refine W_seqK (b' := 1159) rfl rfl ?_
                refine k_op0 (d := 133) (b := 1047) (j' := 1) rfl rfl rfl rfl (.plain rfl) (T_move rfl rfl) rfl ?_
                refine k_op0 (d := 134) (b := 1063) (j' := 2) rfl rfl rfl rfl (.plain rfl) (T_fa D (m := 4) rfl rfl rfl rfl rfl rfl) rfl ?_
                refine k_op0 (d := 135) (b := 1079) (j' := 3) rfl rfl rfl rfl (.plain rfl) (T_load_b D rfl rfl rfl rfl rfl rfl) rfl ?_
                refine k_op0 (d := 136) (b := 1095) (j' := 4) rfl rfl rfl rfl (.plain rfl) (T_fa D (m := 4) rfl rfl rfl rfl rfl rfl) rfl ?_
                refine k_op0 (d := 137) (b := 1111) (j' := 5) rfl rfl rfl rfl (.plain rfl) (T_load_b D rfl rfl rfl rfl rfl rfl) rfl ?_
                refine k_op0 (d := 138) (b := 1127) (j' := 6) rfl rfl rfl rfl (.plain rfl) (T_callV (lvs := [_, _, _]) (L := [(1, 4)]) (leads_spec2 _ _ _ (fun k1 k2 => hps _ (getD_mem (by omega)))) body119 rfl rfl rfl rfl (.fz rfl (.nil)) rfl) rfl ?_
                refine k_op0 (d := 15) (b := 1143) (j' := 7) rfl rfl rfl rfl (.plain rfl) (T_assign rfl rfl) rfl ?_
                refine k_done rfl ?_
                refine thenK_n ?_
                refine W_seq ?_
                refine W_seqK (b' := 1239) rfl rfl ?_
                refine k_op0 (d := 139) (b := 1159) (j' := 1) rfl rfl rfl rfl (.plain rfl) (T_move rfl rfl) rfl ?_
                refine k_op0 (d := 140) (b := 1175) (j' := 2) rfl rfl rfl rfl (.plain rfl) (T_move rfl rfl) rfl ?_
                refine k_split (d := 140) rfl (fun g19 => ?_) (fun g19 => ?_)
                · have h19 := g19; (try simp only [cmpB, decide_eq_true_eq, decide_eq_false_iff_not, beq_iff_eq, beq_eq_false_iff_ne, bne_iff_ne, ne_eq, bne_eq_false_iff_eq, Bool.not_eq_true', Bool.not_eq_false', Int.not_lt, Int.not_le] at h19)
                  refine k_op0 (d := 141) (b := 1191) (j' := 3) rfl rfl rfl rfl (g_tt rfl rfl rfl g19) (T_move rfl rfl) rfl ?_
                  refine k_op0 (d := 142) (b := 1207) (j' := 4) rfl rfl rfl rfl (.plain rfl) (T_pick_t rfl rfl rfl g19) rfl ?_
                  refine k_op0 (d := 8) (b := 1223) (j' := 5) rfl rfl rfl rfl (.plain rfl) (T_assign rfl rfl) rfl ?_
                  refine k_done rfl ?_
                  refine thenK_n ?_
                  refine W_ret ?_
                  -- end 7
                  exact .mk [] (.inr rfl) (.tmp rfl (.nil)) (by simp only [resLV, LV.ren, LV.v.injEq, Value.bool.injEq]; have et : p.take j = p := List.take_of_length_le (by omega); rw [et] at h11 hJ; have e1 : b.ins = instrs f p := ext_getD (by omega) (fun m hm => hJ.2.2.1 m (by omega)); have hc : chainB f p = true := range_all_true (fun i hi => hJ.2.2.2 i (by omega) (by omega)); first | (exfalso; omega) | (rw [made_tail hc e1 h13 h15]; clear hJ hps hb hp hc et h11 h13 h15 e1; simp only [blk, lastOf, cmpB]; simp [-List.getD_eq_getElem?_getD, -Int.default_eq_zero, -Int.pred_toNat, *]) | exact (made_fin h13).symm | exact (made_v h15).symm) (.nil) rfl
                · have h19 := g19; (try simp only [cmpB, decide_eq_true_eq, decide_eq_false_iff_not, beq_iff_eq, beq_eq_false_iff_ne, bne_iff_ne, ne_eq, bne_eq_false_iff_eq, Bool.not_eq_true', Bool.not_eq_false', Int.not_lt, Int.not_le] at h19)
                  refine k_no (d := 141) (j' := 3) rfl rfl rfl (g_tf rfl rfl rfl g19) ?_
                  refine k_op0 (d := 142) (b := 1207) (j' := 4) rfl rfl rfl rfl (.plain rfl) (T_pick_f rfl rfl rfl g19) rfl ?_
                  refine k_op0 (d := 8) (b := 1223) (j' := 5) rfl rfl rfl rfl (.plain rfl) (T_assign rfl rfl) rfl ?_
                  refine k_done rfl ?_
                  refine thenK_n ?_
                  refine W_ret ?_
                  -- end 8
                  exact .mk [] (.inr rfl) (.tmp rfl (.nil)) (by simp only [resLV, LV.ren, LV.v.injEq, Value.bool.injEq]; have et : p.take j = p := List.take_of_length_le (by omega); rw [et] at h11 hJ; have e1 : b.ins = instrs f p := ext_getD (by omega) (fun m hm => hJ.2.2.1 m (by omega)); have hc : chainB f p = true := range_all_true (fun i hi => hJ.2.2.2 i (by omega) (by omega)); first | (exfalso; omega) | (rw [made_tail hc e1 h13 h15]; clear hJ hps hb hp hc et h11 h13 h15 e1; simp only [blk, lastOf, cmpB]; simp [-List.getD_eq_getElem?_getD, -Int.default_eq_zero, -Int.pred_toNat, *]) | exact (made_fin h13).symm | exact (made_v h15).symm) (.nil) rfl
              · have h18 := g18; (try simp only [cmpB, decide_eq_true_eq, decide_eq_false_iff_not, beq_iff_eq, beq_eq_false_iff_ne, bne_iff_ne, ne_eq, bne_eq_false_iff_eq, Bool.not_eq_true', Bool.not_eq_false', Int.not_lt, Int.not_le] at h18)
                refine W_skip ?_
                refine thenK_n ?_
                refine W_seq ?_
                refine W_seqK (b' := 1127) rfl rfl ?_
                refine k_op0 (d := 139) (b := 1047) (j' := 1) rfl rfl rfl rfl (.plain rfl) (T_move rfl rfl) rfl ?_
                refine k_op0 (d := 140) (b := 1063) (j' := 2) rfl rfl rfl rfl (.plain rfl) (T_move rfl rfl) rfl ?_
                refine k_split (d := 140) rfl (fun g20 => ?_) (fun g20 => ?_)
                · have h20 := g20; (try simp only [cmpB, decide_eq_true_eq, decide_eq_false_iff_not, beq_iff_eq, beq_eq_false_iff_ne, bne_iff_ne, ne_eq, bne_eq_false_iff_eq, Bool.not_eq_true', Bool.not_eq_false', Int.not_lt, Int.not_le] at h20)
                  refine k_op0 (d := 141) (b := 1079) (j' := 3) rfl rfl rfl rfl (g_tt rfl rfl rfl g20) (T_move rfl rfl) rfl ?_
                  refine k_op0 (d := 142) (b := 1095) (j' := 4) rfl rfl rfl rfl (.plain rfl) (T_pick_t rfl rfl rfl g20) rfl ?_
                  refine k_op0 (d := 8) (b := 1111) (j' := 5) rfl rfl rfl rfl (.plain rfl) (T_assign rfl rfl) rfl ?_
                  refine k_done rfl ?_
                  refine thenK_n ?_
                  refine W_ret ?_
                  -- end 9
                  exact .mk [] (.inr rfl) (.tmp rfl (.nil)) (by simp only [resLV, LV.ren, LV.v.injEq, Value.bool.injEq]; have et : p.take j = p := List.take_of_length_le (by omega); rw [et] at h11 hJ; have e1 : b.ins = instrs f p := ext_getD (by omega) (fun m hm => hJ.2.2.1 m (by omega)); have hc : chainB f p = true := range_all_true (fun i hi => hJ.2.2.2 i (by omega) (by omega)); first | (exfalso; omega) | (rw [made_tail hc e1 h13 h15]; clear hJ hps hb hp hc et h11 h13 h15 e1; simp only [blk, lastOf, cmpB]; simp [-List.getD_eq_getElem?_getD, -Int.default_eq_zero, -Int.pred_toNat, *]) | exact (made_fin h13).symm | exact (made_v h15).symm) (.nil) rfl
                · have h20 := g20; (try simp only [cmpB, decide_eq_true_eq, decide_eq_false_iff_not, beq_iff_eq, beq_eq_false_iff_ne, bne_iff_ne, ne_eq, bne_eq_false_iff_eq, Bool.not_eq_true', Bool.not_eq_false', Int.not_lt, Int.not_le] at h20)
                  refine k_no (d := 141) (j' := 3) rfl rfl rfl (g_tf rfl rfl rfl g20) ?_
                  refine k_op0 (d := 142) (b := 1095) (j' := 4) rfl rfl rfl rfl (.plain rfl) (T_pick_f rfl rfl rfl g20) rfl ?_
                  refine k_op0 (d := 8) (b := 1111) (j' := 5) rfl rfl rfl rfl (.plain rfl) (T_assign rfl rfl) rfl ?_
                  refine k_done rfl ?_
                  refine thenK_n ?_
                  refine W_ret ?_
                  -- end 10
                  exact .mk [] (.inr rfl) (.tmp rfl (.nil)) (by simp only [resLV, LV.ren, LV.v.injEq, Value.bool.injEq]; have et : p.take j = p := List.take_of_length_le (by omega); rw [et] at h11 hJ; have e1 : b.ins = instrs f p := ext_getD (by omega) (fun m hm => hJ.2.2.1 m (by omega)); have hc : chainB f p = true := range_all_true (fun i hi => hJ.2.2.2 i (by omega) (by omega)); first | (exfalso; omega) | (rw [made_tail hc e1 h13 h15]; clear hJ hps hb hp hc et h11 h13 h15 e1; simp only [blk, lastOf, cmpB]; simp [-List.getD_eq_getElem?_getD, -Int.default_eq_zero, -Int.pred_toNat, *]) | exact (made_fin h13).symm | exact (made_v h15).symm) (.nil) rfl
            · exact absurd (g17.symm.trans rfl) (by decide)
          · have h16 := g16; (try simp only [cmpB, decide_eq_true_eq, decide_eq_false_iff_not, beq_iff_eq, beq_eq_false_iff_ne, bne_iff_ne, ne_eq, bne_eq_false_iff_eq, Bool.not_eq_true', Bool.not_eq_false', Int.not_lt, Int.not_le] at h16)
            refine k_op0 (d := 115) (b := 727) (j' := 5) rfl rfl rfl rfl (g_ff rfl rfl rfl g16) (T_fa D (m := 1) rfl rfl rfl rfl rfl rfl) rfl ?_
            refine k_op0 (d := 116) (b := 743) (j' := 6) rfl rfl rfl rfl (g_ff rfl rfl rfl g16) (T_load_b D rfl rfl rfl rfl rfl rfl) rfl ?_
            refine k_op0 (d := 117) (b := 759) (j' := 7) rfl rfl rfl rfl (g_ff rfl rfl rfl g16) (T_cmp rfl rfl rfl rfl) rfl ?_
            refine k_op0 (d := 118) (b := 775) (j' := 8) rfl rfl rfl rfl (.plain rfl) (T_pick_f rfl rfl rfl g16) rfl ?_
            refine k_done rfl ?_
            refine thenK_n ?_
            refine W_cond rfl (fun g21 => ?_) (fun g21 => ?_)
            · have h21 := g21; (try simp only [cmpB, decide_eq_true_eq, decide_eq_false_iff_not, beq_iff_eq, beq_eq_false_iff_ne, bne_iff_ne, ne_eq, bne_eq_false_iff_eq, Bool.not_eq_true', Bool.not_eq_false', Int.not_lt, Int.not_le] at h21)
              refine W_seqK (b' := 903) rfl rfl ?_
              refine k_op0 (d := 119) (b := 791) (j' := 1) rfl rfl rfl rfl (.plain rfl) (T_move rfl rfl) rfl ?_
              refine k_op0 (d := 120) (b := 807) (j' := 2) rfl rfl rfl rfl (.plain rfl) (T_fa D (m := 3) rfl rfl rfl rfl rfl rfl) rfl ?_
              refine k_op0 (d := 121) (b := 823) (j' := 3) rfl rfl rfl rfl (.plain rfl) (T_load_b D rfl rfl rfl rfl rfl rfl) rfl ?_
              refine k_op0 (d := 122) (b := 839) (j' := 4) rfl rfl rfl rfl (.plain rfl) (T_fa D (m := 3) rfl rfl rfl rfl rfl rfl) rfl ?_
              refine k_op0 (d := 123) (b := 855) (j' := 5) rfl rfl rfl rfl (.plain rfl) (T_load_b D rfl rfl rfl rfl rfl rfl) rfl ?_
              refine k_op0 (d := 124) (b := 871) (j' := 6) rfl rfl rfl rfl (.plain rfl) (T_callV (lvs := [_, _, _]) (L := [(1, 4)]) (leads_spec2 _ _ _ (fun k1 k2 => hps _ (getD_mem (by omega)))) body119 rfl rfl rfl rfl (.fz rfl (.nil)) rfl) rfl ?_
              refine k_op0 (d := 14) (b := 887) (j' := 7) rfl rfl rfl rfl (.plain rfl) (T_assign rfl rfl) rfl ?_
              refine k_done rfl ?_
              refine thenK_n ?_
              refine W_seq ?_
              refine W_seqK (b' := 999) rfl rfl ?_
              refine k_op0 (d := 125) (b := 903) (j' := 1) rfl rfl rfl rfl (.plain rfl) (T_fa D (m := 4) rfl rfl rfl rfl rfl rfl) rfl ?_
              refine k_op0 (d := 126) (b := 919) (j' := 2) rfl rfl rfl rfl (.plain rfl) (T_load_b D rfl rfl rfl rfl rfl rfl) rfl ?_
              refine k_op0 (d := 127) (b := 935) (j' := 3) rfl rfl rfl rfl (.plain rfl) (T_fa D (m := 4) rfl rfl rfl rfl rfl rfl) rfl ?_
              refine k_op0 (d := 128) (b := 951) (j' := 4) rfl rfl rfl rfl (.plain rfl) (T_load_b D rfl rfl rfl rfl rfl rfl) rfl ?_
              refine k_op0 (d := 129) (b := 967) (j' := 5) rfl rfl rfl rfl (.plain rfl) (T_cmp rfl rfl rfl rfl) rfl ?_
              refine k_op0 (d := 15) (b := 983) (j' := 6) rfl rfl rfl rfl (.plain rfl) (T_assign rfl rfl) rfl ?_
              refine k_done rfl ?_
              refine thenK_n ?_
              refine W_seq ?_
              refine W_seq ?_
              refine W_seqK (b' := 1047) rfl rfl ?_
              refine k_op0 (d := 130) (b := 999) (j' := 1) rfl rfl rfl rfl (.plain rfl) (T_fa D (m := 1) rfl rfl rfl rfl rfl rfl) rfl ?_
              refine k_op0 (d := 131) (b := 1015) (j' := 2) rfl rfl rfl rfl (.plain rfl) (T_load_b D rfl rfl rfl rfl rfl rfl) rfl ?_
              refine k_op0 (d := 132) (b := 1031) (j' := 3) rfl rfl rfl rfl (.plain rfl) (T_cmp rfl rfl rfl rfl) rfl ?_
              refine k_done rfl ?_
              refine thenK_n ?_
              refine W_cond rfl (fun g22 => ?_) (fun g22 => ?_)
              · have h22 := g22; (try simp only [cmpB, decide_eq_true_eq, decide_eq_false_iff_not, beq_iff_eq, beq_eq_false_iff_ne, bne_iff_ne, ne_eq, bne_eq_false_iff_eq, Bool.not_eq_true', Bool.not_eq_false', Int.not_lt, Int.not_le] at h22)
                refine W_seqK (b' := 1159) rfl rfl ?_
                refine k_op0 (d := 133) (b := 1047) (j' := 1) rfl rfl rfl rfl (.plain rfl) (T_move rfl rfl) rfl ?_
                refine k_op0 (d := 134) (b := 1063) (j' := 2) rfl rfl rfl rfl (.plain rfl) (T_fa D (m := 4) rfl rfl rfl rfl rfl rfl) rfl ?_
                refine k_op0 (d := 135) (b := 1079) (j' := 3) rfl rfl rfl rfl (.plain rfl) (T_load_b D rfl rfl rfl rfl rfl rfl) rfl ?_
                refine k_op0 (d := 136) (b := 1095) (j' := 4) rfl rfl rfl rfl (.plain rfl) (T_fa D (m := 4) rfl rfl rfl rfl rfl rfl) rfl ?_
                refine k_op0 (d := 137) (b := 1111) (j' := 5) rfl rfl rfl rfl (.plain rfl) (T_load_b D rfl rfl rfl rfl rfl rfl) rfl ?_
                refine k_op0 (d := 138) (b := 1127) (j' := 6) rfl rfl rfl rfl (.plain rfl) (T_callV (lvs := [_, _, _]) (L := [(1, 4)]) (leads_spec2 _ _ _ (fun k1 k2 => hps _ (getD_mem (by omega)))) body119 rfl rfl rfl rfl (.fz rfl (.nil)) rfl) rfl ?_
                refine k_op0 (d := 15) (b := 1143) (j' := 7) rfl rfl rfl rfl (.plain rfl) (T_assign rfl rfl) rfl ?_
                refine k_done rfl ?_
                refine thenK_n ?_
                refine W_seq ?_
                refine W_seqK (b' := 1239) rfl rfl ?_
                refine k_op0 (d := 139) (b := 1159) (j' := 1) rfl rfl rfl rfl (.plain rfl) (T_move rfl rfl) rfl ?_
                refine k_op0 (d := 140) (b := 1175) (j' := 2) rfl rfl rfl rfl (.plain rfl) (T_move rfl rfl) rfl ?_
                refine k_split (d := 140) rfl (fun g23 => ?_) (fun g23 => ?_)
                · have h23 := g23; (try simp only [cmpB, decide_eq_true_eq, decide_eq_false_iff_not, beq_iff_eq, beq_eq_false_iff_ne, bne_iff_ne, ne_eq, bne_eq_false_iff_eq, Bool.not_eq_true', Bool.not_eq_false', Int.not_lt, Int.not_le] at h23)
                  refine k_op0 (d := 141) (b := 1191) (j' := 3) rfl rfl rfl rfl (g_tt rfl rfl rfl g23) (T_move rfl rfl) rfl ?_
                  refine k_op0 (d := 142) (b := 1207) (j' := 4) rfl rfl rfl rfl (.plain rfl) (T_pick_t rfl rfl rfl g23) rfl ?_
                  refine k_op0 (d := 8) (b := 1223) (j' := 5) rfl rfl rfl rfl (.plain rfl) (T_assign rfl rfl) rfl ?_
                  refine k_done rfl ?_
                  refine thenK_n ?_
                  refine W_ret ?_
                  -- end 11
                  exact .mk [] (.inr rfl) (.tmp rfl (.nil)) (by simp only [resLV, LV.ren, LV.v.injEq, Value.bool.injEq]; have et : p.take j = p := List.take_of_length_le (by omega); rw [et] at h11 hJ; have e1 : b.ins = instrs f p := ext_getD (by omega) (fun m hm => hJ.2.2.1 m (by omega)); have hc : chainB f p = true := range_all_true (fun i hi => hJ.2.2.2 i (by omega) (by omega)); first | (exfalso; omega) | (rw [made_tail hc e1 h13 h15]; clear hJ hps hb hp hc et h11 h13 h15 e1; simp only [blk, lastOf, cmpB]; simp [-List.getD_eq_getElem?_getD, -Int.default_eq_zero, -Int.pred_toNat, *]) | exact (made_fin h13).symm | exact (made_v h15).symm) (.nil) rfl
                · have h23 := g23; (try simp only [cmpB, decide_eq_true_eq, decide_eq_false_iff_not, beq_iff_eq, beq_eq_false_iff_ne, bne_iff_ne, ne_eq, bne_eq_false_iff_eq, Bool.not_eq_true', Bool.not_eq_false', Int.not_lt, Int.not_le] at h23)
                  refine k_no (d := 141) (j' := 3) rfl rfl rfl (g_tf rfl rfl rfl g23) ?_
                  refine k_op0 (d := 142) (b := 1207) (j' := 4) rfl rfl rfl rfl (.plain rfl) (T_pick_f rfl rfl rfl g23) rfl ?_
                  refine k_op0 (d := 8) (b := 1223) (j' := 5) rfl rfl rfl rfl (.plain rfl) (T_assign rfl rfl) rfl ?_
                  refine k_done rfl ?_
                  refine thenK_n ?_
                  refine W_ret ?_
                  -- end 12
                  exact .mk [] (.inr rfl) (.tmp rfl (.nil)) (by simp only [resLV, LV.ren, LV.v.injEq, Value.bool.injEq]; have et : p.take j = p := List.take_of_length_le (by omega); rw [et] at h11 hJ; have e1 : b.ins = instrs f p := ext_getD (by omega) (fun m hm => hJ.2.2.1 m (by omega)); have hc : chainB f p = true := range_all_true (fun i hi => hJ.2.2.2 i (by omega) (by omega)); first | (exfalso; omega) | (rw [made_tail hc e1 h13 h15]; clear hJ hps hb hp hc et h11 h13 h15 e1; simp only [blk, lastOf, cmpB]; simp [-List.getD_eq_getElem?_getD, -Int.default_eq_zero, -Int.pred_toNat, *]) | exact (made_fin h13).symm | exact (made_v h15).symm) (.nil) rfl
              · have h22 := g22; (try simp only [cmpB, decide_eq_true_eq, decide_eq_false_iff_not, beq_iff_eq, beq_eq_false_iff_ne, bne_iff_ne, ne_eq, bne_eq_false_iff_eq, Bool.not_eq_true', Bool.not_eq_false', Int.not_lt, Int.not_le] at h22)
                refine W_skip ?_
                refine thenK_n ?_
                refine W_seq ?_
                refine W_seqK (b' := 1127) rfl rfl ?_
                refine k_op0 (d := 139) (b := 1047) (j' := 1) rfl rfl rfl rfl (.plain rfl) (T_move rfl rfl) rfl ?_
                refine k_op0 (d := 140) (b := 1063) (j' := 2) rfl rfl rfl rfl (.plain rfl) (T_move rfl rfl) rfl ?_
                refine k_split (d := 140) rfl (fun g24 => ?_) (fun g24 => ?_)
                · have h24 := g24; (try simp only [cmpB, decide_eq_true_eq, decide_eq_false_iff_not, beq_iff_eq, beq_eq_false_iff_ne, bne_iff_ne, ne_eq, bne_eq_false_iff_eq, Bool.not_eq_true', Bool.not_eq_false', Int.not_lt, Int.not_le] at h24)
                  refine k_op0 (d := 141) (b := 1079) (j' := 3) rfl rfl rfl rfl (g_tt rfl rfl rfl g24) (T_move rfl rfl) rfl ?_
                  refine k_op0 (d := 142) (b := 1095) (j' := 4) rfl rfl rfl rfl (.plain rfl) (T_pick_t rfl rfl rfl g24) rfl ?_
                  refine k_op0 (d := 8) (b := 1111) (j' := 5) rfl rfl rfl rfl (.plain rfl) (T_assign rfl rfl) rfl ?_
                  refine k_done rfl ?_
                  refine thenK_n ?_
                  refine W_ret ?_
                  -- end 13
                  exact .mk [] (.inr rfl) (.tmp rfl (.nil)) (by simp only [resLV, LV.ren, LV.v.injEq, Value.bool.injEq]; have et : p.take j = p := List.take_of_length_le (by omega); rw [et] at h11 hJ; have e1 : b.ins = instrs f p := ext_getD (by omega) (fun m hm => hJ.2.2.1 m (by omega)); have hc : chainB f p = true := range_all_true (fun i hi => hJ.2.2.2 i (by omega) (by omega)); first | (exfalso; omega) | (rw [made_tail hc e1 h13 h15]; clear hJ hps hb hp hc et h11 h13 h15 e1; simp only [blk, lastOf, cmpB]; simp [-List.getD_eq_getElem?_getD, -Int.default_eq_zero, -Int.pred_toNat, *]) | exact (made_fin h13).symm | exact (made_v h15).symm) (.nil) rfl
                · have h24 := g24; (try simp only [cmpB, decide_eq_true_eq, decide_eq_false_iff_not, beq_iff_eq, beq_eq_false_iff_ne, bne_iff_ne, ne_eq, bne_eq_false_iff_eq, Bool.not_eq_true', Bool.not_eq_false', Int.not_lt, Int.not_le] at h24)
                  refine k_no (d := 141) (j' := 3) rfl rfl rfl (g_tf rfl rfl rfl g24) ?_
                  refine k_op0 (d := 142) (b := 1095) (j' := 4) rfl rfl rfl rfl (.plain rfl) (T_pick_f rfl rfl rfl g24) rfl ?_
                  refine k_op0 (d := 8) (b := 1111) (j' := 5) rfl rfl rfl rfl (.plain rfl) (T_assign rfl rfl) rfl ?_
                  refine k_done rfl ?_
                  refine thenK_n ?_
                  refine W_ret ?_
                  -- end 14
                  exact .mk [] (.inr rfl) (.tmp rfl (.nil)) (by simp only [resLV, LV.ren, LV.v.injEq, Value.bool.injEq]; have et : p.take j = p := List.take_of_length_le (by omega); rw [et] at h11 hJ; have e1 : b.ins = instrs f p := ext_getD (by omega) (fun m hm => hJ.2.2.1 m (by omega)); have hc : chainB f p = true := range_all_true (fun i hi => hJ.2.2.2 i (by omega) (by omega)); first | (exfalso; omega) | (rw [made_tail hc e1 h13 h15]; clear hJ hps hb hp hc et h11 h13 h15 e1; simp only [blk, lastOf, cmpB]; simp [-List.getD_eq_getElem?_getD, -Int.default_eq_zero, -Int.pred_toNat, *]) | exact (made_fin h13).symm | exact (made_v h15).symm) (.nil) rfl
            · have h21 := g21; (try simp only [cmpB, decide_eq_true_eq, decide_eq_false_iff_not, beq_iff_eq, beq_eq_false_iff_ne, bne_iff_ne, ne_eq, bne_eq_false_iff_eq, Bool.not_eq_true', Bool.not_eq_false', Int.not_lt, Int.not_le] at h21)
              refine W_skip ?_
              refine thenK_n ?_
              refine W_seq ?_
              refine W_seqK (b' := 887) rfl rfl ?_
              refine k_op0 (d := 125) (b := 791) (j' := 1) rfl rfl rfl rfl (.plain rfl) (T_fa D (m := 4) rfl rfl rfl rfl rfl rfl) rfl ?_
              refine k_op0 (d := 126) (b := 807) (j' := 2) rfl rfl rfl rfl (.plain rfl) (T_load_b D rfl rfl rfl rfl rfl rfl) rfl ?_
              refine k_op0 (d := 127) (b := 823) (j' := 3) rfl rfl rfl rfl (.plain rfl) (T_fa D (m := 4) rfl rfl rfl rfl rfl rfl) rfl ?_
              refine k_op0 (d := 128) (b := 839) (j' := 4) rfl rfl rfl rfl (.plain rfl) (T_load_b D rfl rfl rfl rfl rfl rfl) rfl ?_
              refine k_op0 (d := 129) (b := 855) (j' := 5) rfl rfl rfl rfl (.plain rfl) (T_cmp rfl rfl rfl rfl) rfl ?_
              refine k_op0 (d := 15) (b := 871) (j' := 6) rfl rfl rfl rfl (.plain rfl) (T_assign rfl rfl) rfl ?_
              refine k_done rfl ?_
              refine thenK_n ?_
              refine W_seq ?_
              refine W_seq ?_
              refine W_seqK (b' := 935) rfl rfl ?_
              refine k_op0 (d := 130) (b := 887) (j' := 1) rfl rfl rfl rfl (.plain rfl) (T_fa D (m := 1) rfl rfl rfl rfl rfl rfl) rfl ?_
              refine k_op0 (d := 131) (b := 903) (j' := 2) rfl rfl rfl rfl (.plain rfl) (T_load_b D rfl rfl rfl rfl rfl rfl) rfl ?_
              refine k_op0 (d := 132) (b := 919) (j' := 3) rfl rfl rfl rfl (.plain rfl) (T_cmp rfl rfl rfl rfl) rfl ?_
              refine k_done rfl ?_
              refine thenK_n ?_
              refine W_cond rfl (fun g25 => ?_) (fun g25 => ?_)
              · have h25 := g25; (try simp only [cmpB, decide_eq_true_eq, decide_eq_false_iff_not, beq_iff_eq, beq_eq_false_iff_ne, bne_iff_ne, ne_eq, bne_eq_false_iff_eq, Bool.not_eq_true', Bool.not_eq_false', Int.not_lt, Int.not_le] at h25)
                refine W_seqK (b' := 1047) rfl rfl ?_
                refine k_op0 (d := 133) (b := 935) (j' := 1) rfl rfl rfl rfl (.plain rfl) (T_move rfl rfl) rfl ?_
                refine k_op0 (d := 134) (b := 951) (j' := 2) rfl rfl rfl rfl (.plain rfl) (T_fa D (m := 4) rfl rfl rfl rfl rfl rfl) rfl ?_
                refine k_op0 (d := 135) (b := 967) (j' := 3) rfl rfl rfl rfl (.plain rfl) (T_load_b D rfl rfl rfl rfl rfl rfl) rfl ?_
                refine k_op0 (d := 136) (b := 983) (j' := 4) rfl rfl rfl rfl (.plain rfl) (T_fa D (m := 4) rfl rfl rfl rfl rfl rfl) rfl ?_
                refine k_op0 (d := 137) (b := 999) (j' := 5) rfl rfl rfl rfl (.plain rfl) (T_load_b D rfl rfl rfl rfl rfl rfl) rfl ?_
                refine k_op0 (d := 138) (b := 1015) (j' := 6) rfl rfl rfl rfl (.plain rfl) (T_callV (lvs := [_, _, _]) (L := [(1, 4)]) (leads_spec2 _ _ _ (fun k1 k2 => hps _ (getD_mem (by omega)))) body119 rfl rfl rfl rfl (.fz rfl (.nil)) rfl) rfl ?_
                refine k_op0 (d := 15) (b := 1031) (j' := 7) rfl rfl rfl rfl (.plain rfl) (T_assign rfl rfl) rfl ?_
                refine k_done rfl ?_
                refine thenK_n ?_
                refine W_seq ?_
                refine W_seqK (b' := 1127) rfl rfl ?_
                refine k_op0 (d := 139) (b := 1047) (j' := 1) rfl rfl rfl rfl (.plain rfl) (T_move rfl rfl) rfl ?_
                refine k_op0 (d := 140) (b := 1063) (j' := 2) rfl rfl rfl rfl (.plain rfl) (T_move rfl rfl) rfl ?_
                refine k_split (d := 140) rfl (fun g26 => ?_) (fun g26 => ?_)
                · have h26 := g26; (try simp only [cmpB, decide_eq_true_eq, decide_eq_false_iff_not, beq_iff_eq, beq_eq_false_iff_ne, bne_iff_ne, ne_eq, bne_eq_false_iff_eq, Bool.not_eq_true', Bool.not_eq_false', Int.not_lt, Int.not_le] at h26)
                  refine k_op0 (d := 141) (b := 1079) (j' := 3) rfl rfl rfl rfl (g_tt rfl rfl rfl g26) (T_move rfl rfl) rfl ?_
                  refine k_op0 (d := 142) (b := 1095) (j' := 4) rfl rfl rfl rfl (.plain rfl) (T_pick_t rfl rfl rfl g26) rfl ?_
                  refine k_op0 (d := 8) (b := 1111) (j' := 5) rfl rfl rfl rfl (.plain rfl) (T_assign rfl rfl) rfl ?_
                  refine k_done rfl ?_
                  refine thenK_n ?_
                  refine W_ret ?_
                  -- end 15
                  exact .mk [] (.inr rfl) (.tmp rfl (.nil)) (by simp only [resLV, LV.ren, LV.v.injEq, Value.bool.injEq]; have et : p.take j = p := List.take_of_length_le (by omega); rw [et] at h11 hJ; have e1 : b.ins = instrs f p := ext_getD (by omega) (fun m hm => hJ.2.2.1 m (by omega)); have hc : chainB f p = true := range_all_true (fun i hi => hJ.2.2.2 i (by omega) (by omega)); first | (exfalso; omega) | (rw [made_tail hc e1 h13 h15]; clear hJ hps hb hp hc et h11 h13 h15 e1; simp only [blk, lastOf, cmpB]; simp [-List.getD_eq_getElem?_getD, -Int.default_eq_zero, -Int.pred_toNat, *]) | exact (made_fin h13).symm | exact (made_v h15).symm) (.nil) rfl
                · have h26 := g26; (try simp only [cmpB, decide_eq_true_eq, decide_eq_false_iff_not, beq_iff_eq, beq_eq_false_iff_ne, bne_iff_ne, ne_eq, bne_eq_false_iff_eq, Bool.not_eq_true', Bool.not_eq_false', Int.not_lt, Int.not_le] at h26)
                  refine k_no (d := 141) (j' := 3) rfl rfl rfl (g_tf rfl rfl rfl g26) ?_
                  refine k_op0 (d := 142) (b := 1095) (j' := 4) rfl rfl rfl rfl (.plain rfl) (T_pick_f rfl rfl rfl g26) rfl ?_
                  refine k_op0 (d := 8) (b := 1111) (j' := 5) rfl rfl rfl rfl (.plain rfl) (T_assign rfl rfl) rfl ?_
                  refine k_done rfl ?_
                  refine thenK_n ?_
                  refine W_ret ?_
                  -- end 16
                  exact .mk [] (.inr rfl) (.tmp rfl (.nil)) (by simp only [resLV, LV.ren, LV.v.injEq, Value.bool.injEq]; have et : p.take j = p := List.take_of_length_le (by omega); rw [et] at h11 hJ; have e1 : b.ins = instrs f p := ext_getD (by omega) (fun m hm => hJ.2.2.1 m (by omega)); have hc : chainB f p = true := range_all_true (fun i hi => hJ.2.2.2 i (by omega) (by omega)); first | (exfalso; omega) | (rw [made_tail hc e1 h13 h15]; clear hJ hps hb hp hc et h11 h13 h15 e1; simp only [blk, lastOf, cmpB]; simp [-List.getD_eq_getElem?_getD, -Int.default_eq_zero, -Int.pred_toNat, *]) | exact (made_fin h13).symm | exact (made_v h15).symm) (.nil) rfl
              · have h25 := g25; (try simp only [cmpB, decide_eq_true_eq, decide_eq_false_iff_not, beq_iff_eq, beq_eq_false_iff_ne, bne_iff_ne, ne_eq, bne_eq_false_iff_eq, Bool.not_eq_true', Bool.not_eq_false', Int.not_lt, Int.not_le] at h25)
                refine W_skip ?_
                refine thenK_n ?_
                refine W_seq ?_
                refine W_seqK (b' := 1015) rfl rfl ?_
                refine k_op0 (d := 139) (b := 935) (j' := 1) rfl rfl rfl rfl (.plain rfl) (T_move rfl rfl) rfl ?_
                refine k_op0 (d := 140) (b := 951) (j' := 2) rfl rfl rfl rfl (.plain rfl) (T_move rfl rfl) rfl ?_
                refine k_split (d := 140) rfl (fun g27 => ?_) (fun g27 => ?_)
                · have h27 := g27; (try simp only [cmpB, decide_eq_true_eq, decide_eq_false_iff_not, beq_iff_eq, beq_eq_false_iff_ne, bne_iff_ne, ne_eq, bne_eq_false_iff_eq, Bool.not_eq_true', Bool.not_eq_false', Int.not_lt, Int.not_le] at h27)
                  refine k_op0 (d := 141) (b := 967) (j' := 3) rfl rfl rfl rfl (g_tt rfl rfl rfl g27) (T_move rfl rfl) rfl ?_
                  refine k_op0 (d := 142) (b := 983) (j' := 4) rfl rfl rfl rfl (.plain rfl) (T_pick_t rfl rfl rfl g27) rfl ?_
                  refine k_op0 (d := 8) (b := 999) (j' := 5) rfl rfl rfl rfl (.plain rfl) (T_assign rfl rfl) rfl ?_
                  refine k_done rfl ?_
                  refine thenK_n ?_
                  refine W_ret ?_
                  -- end 17
                  exact .mk [] (.inr rfl) (.tmp rfl (.nil)) (by simp only [resLV, LV.ren, LV.v.injEq, Value.bool.injEq]; have et : p.take j = p := List.take_of_length_le (by omega); rw [et] at h11 hJ; have e1 : b.ins = instrs f p := ext_getD (by omega) (fun m hm => hJ.2.2.1 m (by omega)); have hc : chainB f p = true := range_all_true (fun i hi => hJ.2.2.2 i (by omega) (by omega)); first | (exfalso; omega) | (rw [made_tail hc e1 h13 h15]; clear hJ hps hb hp hc et h11 h13 h15 e1; simp only [blk, lastOf, cmpB]; simp [-List.getD_eq_getElem?_getD, -Int.default_eq_zero, -Int.pred_toNat, *]) | exact (made_fin h13).symm | exact (made_v h15).symm) (.nil) rfl
                · have h27 := g27; (try simp only [cmpB, decide_eq_true_eq, decide_eq_false_iff_not, beq_iff_eq, beq_eq_false_iff_ne, bne_iff_ne, ne_eq, bne_eq_false_iff_eq, Bool.not_eq_true', Bool.not_eq_false', Int.not_lt, Int.not_le] at h27)
                  refine k_no (d := 141) (j' := 3) rfl rfl rfl (g_tf rfl rfl rfl g27) ?_
                  refine k_op0 (d := 142) (b := 983) (j' := 4) rfl rfl rfl rfl (.plain rfl) (T_pick_f rfl rfl rfl g27) rfl ?_
                  refine k_op0 (d := 8) (b := 999) (j' := 5) rfl rfl rfl rfl (.plain rfl) (T_assign rfl rfl) rfl ?_
                  refine k_done rfl ?_
                  refine thenK_n ?_
                  refine W_ret ?_
                  -- end 18
                  exact .mk [] (.inr rfl) (.tmp rfl (.nil)) (by simp only [resLV, LV.ren, LV.v.injEq, Value.bool.injEq]; have et : p.take j = p := List.take_of_length_le (by omega); rw [et] at h11 hJ; have e1 : b.ins = instrs f p := ext_getD (by omega) (fun m hm => hJ.2.2.1 m (by omega)); have hc : chainB f p = true := range_all_true (fun i hi => hJ.2.2.2 i (by omega) (by omega)); first | (exfalso; omega) | (rw [made_tail hc e1 h13 h15]; clear hJ hps hb hp hc et h11 h13 h15 e1; simp only [blk, lastOf, cmpB]; simp [-List.getD_eq_getElem?_getD, -Int.default_eq_zero, -Int.pred_toNat, *]) | exact (made_fin h13).symm | exact (made_v h15).symm) (.nil) rfl
end Lg
end Go.Proofs.Ytpfhmodjjljpjaa
