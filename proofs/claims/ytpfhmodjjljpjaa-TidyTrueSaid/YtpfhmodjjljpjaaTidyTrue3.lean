import Derived.Test.YtpfhmodjjljpjaaTidyTrue2
set_option linter.unusedVariables false
set_option linter.unusedSimpArgs false
namespace Go.Proofs.Ytpfhmodjjljpjaa
open Go.RowKit
namespace Lg
set_option maxRecDepth 100000
set_option linter.unusedVariables false
set_option linter.unusedSimpArgs false
theorem body76 : (Try.prog.funcs[76]?).map (fun fn => (fn.name == "runtime.NumGoroutine" || fn.body.isNone)) = some false := by kernel_rfl
theorem one_spec (f : GFn) (b : GBlock) (ps : List (List Int)) (p : List Int) (hbi : b.ins.length ≤ 1000000) (h0 : 1 ≤ p.length) (hp : p.length ≤ 1000000000 ∧ ∀ i, i < p.length → 0 ≤ p.getD i default ∧ p.getD i default < (f.blocks.length : Int)) (hb : ∀ j, (instrs f (p.take j)).length ≤ 1000000000) (hps : ∀ q ∈ ps, 0 < q.length) : Spec Try.prog 76 [.agg [.v (.int .i64 f.regs), .r 1], .agg [.r 2, .v (.int .i64 b.fin), .v (.int .i64 b.v), .v (.int .i64 b.to), .v (.int .i64 b.els)], .r 4, .r 3] 5 [(1, .fz 5 (f.blocks.map eBlock)), (2, .fz 8 (b.ins.map eTac)), (3, .fz 1 (p.map eI)), (4, .fz 1 (ps.map eIs))] (.v (.bool (made f b p ps))) 5 [] := by
 refine spec_of D (fn := Try.f76) rfl rfl (Nat.le_of_ble_eq_true rfl) ?_
 refine W_seq ?_
 refine W_seqK (b' := 53) rfl rfl ?_
 refine q1 4 5 1 rfl rfl (T_box rfl rfl flat_agg) rfl ?_
 refine q1 5 21 2 rfl rfl (T_box rfl rfl flat_agg) rfl ?_
 refine q0 8 37 3 rfl rfl (T_assign rfl rfl) rfl ?_
 refine k_done rfl ?_
 refine thenK_n ?_
 refine W_seq ?_
 refine W_seqK (b' := 69) rfl rfl ?_
 refine q0 9 53 1 rfl rfl (T_assign rfl rfl) rfl ?_
 refine k_done rfl ?_
 refine thenK_n ?_
 refine W_seq ?_
 refine W_seq ?_
 refine W_seqK (b' := 85) rfl rfl ?_
 refine q0 10 69 1 rfl rfl (T_assign rfl rfl) rfl ?_
 refine k_done rfl ?_
 refine thenK_n ?_
 refine W_block ?_
 refine W_loop (ι := Nat) 7 (fun j => ⟨[(2, .r 4), (3, .r 3), (4, .p 5 0), (5, .p 6 0), (9, .v (.int .i64 ((instrs f (p.take j)).length : Int))), (10, .v (.int .i64 (j : Int)))], [(1, .fz 5 (f.blocks.map eBlock)), (2, .fz 8 (b.ins.map eTac)), (3, .fz 1 (p.map eI)), (4, .fz 1 (ps.map eIs)), (5, .box 29 [.v (.int .i64 f.regs), .r 1]), (6, .box 72 [.r 2, .v (.int .i64 b.fin), .v (.int .i64 b.v), .v (.int .i64 b.to), .v (.int .i64 b.els)])]⟩) (fun j => j ≤ p.length ∧ (instrs f (p.take j)).length ≤ b.ins.length ∧ (∀ m, m < (instrs f (p.take j)).length → b.ins.getD m default = (instrs f p).getD m default) ∧ ∀ i, i < j → i + 1 < p.length → link f p i = true) (fun j => p.length - j) (0) (by exact ⟨Nat.zero_le _, Nat.zero_le _, fun m h => absurd h (Nat.not_lt_zero _), fun i h => absurd h (Nat.not_lt_zero _)⟩) ?_ (fun j hJ => ?_)
 ·exact ⟨[(5, 5), (6, 21)], .same rfl rfl (.same rfl rfl (.same rfl rfl (.same rfl rfl (.eq rfl (.eq rfl (.nil) (by first | rfl | simp)) (by first | rfl | simp))))), .fzE rfl (.fzE rfl (.fzE rfl (.fzE rfl (.box (by first | rfl | simp) (.box (by first | rfl | simp) (.nil))) (by first | rfl | simp)) (by first | rfl | simp)) (by first | rfl | simp)) (by first | rfl | simp), rfl⟩
 have hq4 := hp.2 j
 have hq2 : j < p.length → instrs f (p.take (j + 1)) = instrs f (p.take j) ++ (f.blocks.getD (p.getD j default).toNat default).ins := fun h => instrs_take f p j h
 have hq3 := fun h => congrArg List.length (hq2 h)
 simp only [List.length_append] at hq3
 refine W_seq ?_
 refine W_seq ?_
 refine W_seqK (b' := 71) rfl rfl ?_
 refine q0 16 7 1 rfl rfl (T_move rfl rfl) rfl ?_
 refine q0 17 23 2 rfl rfl (T_move rfl rfl) rfl ?_
 refine q0 18 39 3 rfl rfl (T_len D rfl rfl rfl rfl rfl rfl) rfl ?_
 refine q0 19 55 4 rfl rfl (T_cmp rfl rfl rfl rfl) rfl ?_
 refine k_done rfl ?_
 refine thenK_n ?_
 refine W_cond rfl (fun g1 => ?_) (fun g1 => ?_)
 ·have h1 := c_lss_t g1
  refine W_skip ?_
  refine thenK_n ?_
  refine W_seq ?_
  refine W_block ?_
  refine W_seq ?_
  refine W_anyK (b' := 231) rfl rfl rfl ?_
  refine q0 22 71 1 rfl rfl (T_fa D (m := 1) rfl rfl rfl rfl rfl rfl) rfl ?_
  refine q0 23 87 2 rfl rfl (T_load_b D rfl rfl rfl rfl rfl rfl) rfl ?_
  refine q0 24 103 3 rfl rfl (T_move rfl rfl) rfl ?_
  refine q0 25 119 4 rfl rfl (T_move rfl rfl) rfl ?_
  first | refine q0 26 135 5 rfl rfl (T_indexAddr D rfl rfl rfl rfl rfl rfl rfl rfl (by first | assumption | omega | (have k1 := hq4 (by omega); omega) | (have k1 := hp.2 ((p.length : Int) - 1).toNat (by omega); omega))) rfl ?_ | refine q0 26 135 5 rfl rfl (T_indexAddrZ D rfl rfl rfl rfl rfl rfl rfl rfl (by first | assumption | omega | (have k1 := hq4 (by omega); omega) | (have k1 := hp.2 ((p.length : Int) - 1).toNat (by omega); omega)) (by first | assumption | omega | (have k1 := hq4 (by omega); omega) | (have k1 := hp.2 ((p.length : Int) - 1).toNat (by omega); omega))) rfl ?_
  refine q0 27 151 6 rfl rfl (T_ldE D (lv := .v _) (nn := 0) (upd := []) rfl rfl rfl rfl rfl (by first | assumption | omega | (have k1 := hq4 (by omega); omega) | (have k1 := hp.2 ((p.length : Int) - 1).toNat (by omega); omega)) rfl rfl rfl rfl) rfl ?_
  first | refine q0 28 167 7 rfl rfl (T_indexAddr D rfl rfl rfl rfl rfl rfl rfl rfl (by first | assumption | omega | (have k1 := hq4 (by omega); omega) | (have k1 := hp.2 ((p.length : Int) - 1).toNat (by omega); omega))) rfl ?_ | refine q0 28 167 7 rfl rfl (T_indexAddrZ D rfl rfl rfl rfl rfl rfl rfl rfl (by first | assumption | omega | (have k1 := hq4 (by omega); omega) | (have k1 := hp.2 ((p.length : Int) - 1).toNat (by omega); omega)) (by first | assumption | omega | (have k1 := hq4 (by omega); omega) | (have k1 := hp.2 ((p.length : Int) - 1).toNat (by omega); omega))) rfl ?_
  refine q1 29 183 8 rfl rfl (T_ldEA D (l := [.r 183, .v _, .v _, .v _, .v _]) (nn := 1) (upd := [(183, .fz 8 _)]) rfl rfl rfl rfl rfl (by first | assumption | omega | (have k1 := hq4 (by omega); omega) | (have k1 := hp.2 ((p.length : Int) - 1).toNat (by omega); omega)) rfl rfl rfl rfl rfl) rfl ?_
  refine qn 11 199 9 rfl rfl (T_nilbox [(70, 8)] (T_alloc D rfl rfl rfl) rfl (.cons (.nil rfl) <| .cons (.same _) <| .cons (.same _) <| .cons (.same _) <| .cons (.same _) <| .nil) (upd' := [(199, .box 72 [.r 200, .v (.int .i64 0), .v (.int .i64 0), .v (.int .i64 0), .v (.int .i64 0)]), (200, .row 70 8 (List.map eTac ([] : List (GTac))))]) (nn' := 2) rfl rfl) rfl ?_
  refine s1 215 10 rfl rfl (T_stB D (cs' := [_, _, _, _, _]) rfl rfl rfl rfl flat_agg rfl rfl (Nat.le_of_ble_eq_true rfl) rfl) rfl ?_
  refine k_done rfl ?_
  refine ⟨rfl, ?_⟩
  refine thenK_n ?_
  refine W_seq ?_
  refine W_seq ?_
  refine W_seqK (b' := 247) rfl rfl ?_
  refine q0 12 231 1 rfl rfl (T_assign rfl rfl) rfl ?_
  refine k_done rfl ?_
  refine thenK_n ?_
  refine W_block ?_
  refine W_loop (ι := Nat) 9 (fun i => ⟨[(2, .r 4), (3, .r 3), (4, .p 5 0), (5, .p 6 0), (9, .v (.int .i64 (((instrs f (p.take j)).length + i : Nat) : Int))), (10, .v (.int .i64 (j : Int))), (11, .p 7 0), (12, .v (.int .i64 (i : Int)))], [(1, .fz 5 (f.blocks.map eBlock)), (2, .fz 8 (b.ins.map eTac)), (3, .fz 1 (p.map eI)), (4, .fz 1 (ps.map eIs)), (5, .box 29 [.v (.int .i64 f.regs), .r 1]), (6, .box 72 [.r 2, .v (.int .i64 b.fin), .v (.int .i64 b.v), .v (.int .i64 b.to), .v (.int .i64 b.els)]), (7, .box 72 [.r 8, .v (.int .i64 (f.blocks.getD (p.getD j default).toNat default).fin), .v (.int .i64 (f.blocks.getD (p.getD j default).toNat default).v), .v (.int .i64 (f.blocks.getD (p.getD j default).toNat default).to), .v (.int .i64 (f.blocks.getD (p.getD j default).toNat default).els)]), (8, .fz 8 ((f.blocks.getD (p.getD j default).toNat default).ins.map eTac))]⟩) (fun i => i ≤ (f.blocks.getD (p.getD j default).toNat default).ins.length ∧ (instrs f (p.take j)).length + i ≤ b.ins.length ∧ (∀ m, m < (instrs f (p.take j)).length + i → b.ins.getD m default = (instrs f p).getD m default)) (fun i => (f.blocks.getD (p.getD j default).toNat default).ins.length - i) (0) (by exact ⟨Nat.zero_le _, hJ.2.1, hJ.2.2.1⟩) ?_ (fun i hI => ?_)
  ·exact ⟨[(5, 5), (6, 6), (7, 199), (8, 183)], .same rfl rfl (.same rfl rfl (.same rfl rfl (.same rfl rfl (.eq rfl (.eq rfl (.same rfl rfl (.eq rfl (.nil) (by first | rfl | simp))) (by first | rfl | simp)) (by first | rfl | simp))))), .fzE rfl (.fzE rfl (.fzE rfl (.fzE rfl (.box (by first | rfl | simp) (.box (by first | rfl | simp) (.box (by first | rfl | simp) (.fzE rfl (.nil) (by first | rfl | simp))))) (by first | rfl | simp)) (by first | rfl | simp)) (by first | rfl | simp)) (by first | rfl | simp), rfl⟩
  refine W_seq ?_
  refine W_seq ?_
  refine W_seqK (b' := 89) rfl rfl ?_
  refine q0 30 9 1 rfl rfl (T_move rfl rfl) rfl ?_
  refine q0 31 25 2 rfl rfl (T_fa D (m := 0) rfl rfl rfl rfl rfl rfl) rfl ?_
  refine q0 32 41 3 rfl rfl (T_load_b D rfl rfl rfl rfl rfl rfl) rfl ?_
  refine q0 33 57 4 rfl rfl (T_len D rfl rfl rfl rfl rfl rfl) rfl ?_
  refine q0 34 73 5 rfl rfl (T_cmp rfl rfl rfl rfl) rfl ?_
  refine k_done rfl ?_
  refine thenK_n ?_
  refine W_cond rfl (fun g2 => ?_) (fun g2 => ?_)
  ·have h2 := c_lss_t g2
   refine W_skip ?_
   refine thenK_n ?_
   refine W_seq ?_
   refine W_block ?_
   refine W_seq ?_
   refine W_seq ?_
   refine W_anyK (b' := 377) rfl rfl rfl ?_
   refine q0 37 89 1 rfl rfl (T_move rfl rfl) rfl ?_
   refine q0 38 105 2 rfl rfl (T_fa D (m := 0) rfl rfl rfl rfl rfl rfl) rfl ?_
   refine q0 39 121 3 rfl rfl (T_load_b D rfl rfl rfl rfl rfl rfl) rfl ?_
   refine q0 40 137 4 rfl rfl (T_len D rfl rfl rfl rfl rfl rfl) rfl ?_
   refine q0 41 153 5 rfl rfl (T_cmp rfl rfl rfl rfl) rfl ?_
   refine q0 42 169 6 rfl rfl (T_move rfl rfl) rfl ?_
   refine k_split (d := 42) rfl (fun g3 => ?_) (fun g3 => ?_)
   ·have h3 := c_geq_t g3
    refine k_no (d := 43) (j' := 7) rfl rfl rfl (g_ft rfl rfl rfl g3) ?_
    refine k_no (d := 44) (j' := 8) rfl rfl rfl (g_ft rfl rfl rfl g3) ?_
    refine k_no (d := 45) (j' := 9) rfl rfl rfl (g_ft rfl rfl rfl g3) ?_
    refine k_no (d := 46) (j' := 10) rfl rfl rfl (g_ft rfl rfl rfl g3) ?_
    refine k_no (d := 47) (j' := 11) rfl rfl rfl (g_ft rfl rfl rfl g3) ?_
    refine k_no (d := 48) (j' := 12) rfl rfl rfl (g_ft rfl rfl rfl g3) ?_
    refine k_no (d := 49) (j' := 13) rfl rfl rfl (g_ft rfl rfl rfl g3) ?_
    refine k_no (d := 50) (j' := 14) rfl rfl rfl (g_ft rfl rfl rfl g3) ?_
    refine k_no (d := 51) (j' := 15) rfl rfl rfl (g_ft rfl rfl rfl g3) ?_
    refine k_no (d := 52) (j' := 16) rfl rfl rfl (g_ft rfl rfl rfl g3) ?_
    refine k_no (d := 53) (j' := 17) rfl rfl rfl (g_ft rfl rfl rfl g3) ?_
    refine q0 54 361 18 rfl rfl (T_pick_t rfl rfl rfl g3) rfl ?_
    refine k_done rfl ?_
    refine ⟨rfl, ?_⟩
    refine thenK_n ?_
    refine W_cond rfl (fun g4 => ?_) (fun g4 => ?_)
    ·skip
     refine W_seq ?_
     refine W_seqK (b' := 393) rfl rfl ?_
     refine q0 8 377 1 rfl rfl (T_assign rfl rfl) rfl ?_
     refine k_done rfl ?_
     refine thenK_n ?_
     refine W_ret ?_
     refine thenK_r ?_
     refine blockK_r ?_
     refine thenK_r ?_
     refine thenK_r ?_
     refine blockK_r ?_
     refine thenK_r ?_
     refine blockK_r ?_
     refine thenK_r ?_
     refine thenK_r ?_
     refine blockK_r ?_
     refine thenK_r ?_
     exact .mk [] (.inr rfl) (.tmp rfl (.nil)) (by simp only [resLV, LV.ren, LV.v.injEq, Value.bool.injEq]; exact (made_ins (ins_ne (k := j) (i := i) (by omega) (by unfold blk; omega) (by unfold blk; first | exact .inl (by omega) | exact .inr (by assumption)))).symm) (.nil) rfl
    ·exact absurd (g4.symm.trans rfl) (by decide)
   ·have h3 := c_geq_f g3
    refine k_op0 (d := 43) (b := 185) (j' := 7) rfl rfl rfl rfl (g_ff rfl rfl rfl g3) (T_fa D (m := 0) rfl rfl rfl rfl rfl rfl) rfl ?_
    refine k_op0 (d := 44) (b := 201) (j' := 8) rfl rfl rfl rfl (g_ff rfl rfl rfl g3) (T_load_b D rfl rfl rfl rfl rfl rfl) rfl ?_
    refine k_op0 (d := 45) (b := 217) (j' := 9) rfl rfl rfl rfl (g_ff rfl rfl rfl g3) (T_move rfl rfl) rfl ?_
    first | refine k_op0 (d := 46) (b := 233) (j' := 10) rfl rfl rfl rfl (g_ff rfl rfl rfl g3) (T_indexAddr D rfl rfl rfl rfl rfl rfl rfl rfl (by first | assumption | omega | (have k1 := hq4 (by omega); omega) | (have k1 := hp.2 ((p.length : Int) - 1).toNat (by omega); omega))) rfl ?_ | refine k_op0 (d := 46) (b := 233) (j' := 10) rfl rfl rfl rfl (g_ff rfl rfl rfl g3) (T_indexAddrZ D rfl rfl rfl rfl rfl rfl rfl rfl (by first | assumption | omega | (have k1 := hq4 (by omega); omega) | (have k1 := hp.2 ((p.length : Int) - 1).toNat (by omega); omega)) (by first | assumption | omega | (have k1 := hq4 (by omega); omega) | (have k1 := hp.2 ((p.length : Int) - 1).toNat (by omega); omega))) rfl ?_
    refine k_op0 (d := 47) (b := 249) (j' := 11) rfl rfl rfl rfl (g_ff rfl rfl rfl g3) (T_ldEA D (l := [.v _, .v _, .v _, .v _, .v _, .v _, .v _, .v _]) (nn := 0) (upd := []) rfl rfl rfl rfl rfl (by first | assumption | omega | (have k1 := hq4 (by omega); omega) | (have k1 := hp.2 ((p.length : Int) - 1).toNat (by omega); omega)) rfl rfl rfl rfl rfl) rfl ?_
    refine k_op0 (d := 48) (b := 265) (j' := 12) rfl rfl rfl rfl (g_ff rfl rfl rfl g3) (T_fa D (m := 0) rfl rfl rfl rfl rfl rfl) rfl ?_
    refine k_op0 (d := 49) (b := 281) (j' := 13) rfl rfl rfl rfl (g_ff rfl rfl rfl g3) (T_load_b D rfl rfl rfl rfl rfl rfl) rfl ?_
    refine k_op0 (d := 50) (b := 297) (j' := 14) rfl rfl rfl rfl (g_ff rfl rfl rfl g3) (T_move rfl rfl) rfl ?_
    first | refine k_op0 (d := 51) (b := 313) (j' := 15) rfl rfl rfl rfl (g_ff rfl rfl rfl g3) (T_indexAddr D rfl rfl rfl rfl rfl rfl rfl rfl (by first | assumption | omega | (have k1 := hq4 (by omega); omega) | (have k1 := hp.2 ((p.length : Int) - 1).toNat (by omega); omega))) rfl ?_ | refine k_op0 (d := 51) (b := 313) (j' := 15) rfl rfl rfl rfl (g_ff rfl rfl rfl g3) (T_indexAddrZ D rfl rfl rfl rfl rfl rfl rfl rfl (by first | assumption | omega | (have k1 := hq4 (by omega); omega) | (have k1 := hp.2 ((p.length : Int) - 1).toNat (by omega); omega)) (by first | assumption | omega | (have k1 := hq4 (by omega); omega) | (have k1 := hp.2 ((p.length : Int) - 1).toNat (by omega); omega))) rfl ?_
    refine k_op0 (d := 52) (b := 329) (j' := 16) rfl rfl rfl rfl (g_ff rfl rfl rfl g3) (T_ldEA D (l := [.v _, .v _, .v _, .v _, .v _, .v _, .v _, .v _]) (nn := 0) (upd := []) rfl rfl rfl rfl rfl (by first | assumption | omega | (have k1 := hq4 (by omega); omega) | (have k1 := hp.2 ((p.length : Int) - 1).toNat (by omega); omega)) rfl rfl rfl rfl rfl) rfl ?_
    refine k_op0 (d := 53) (b := 345) (j' := 17) rfl rfl rfl rfl (g_ff rfl rfl rfl g3) (T_eqTacN (b.ins.getD ((instrs f (p.take j)).length + i) default) ((f.blocks.getD (p.getD j default).toNat default).ins.getD i default) rfl rfl rfl) rfl ?_
    refine q0 54 361 18 rfl rfl (T_pick_f rfl rfl rfl g3) rfl ?_
    refine k_done rfl ?_
    refine ⟨rfl, ?_⟩
    refine thenK_n ?_
    refine W_cond rfl (fun g5 => ?_) (fun g5 => ?_)
    ·have h5 := g5; (try simp only [cmpB, decide_eq_true_eq, decide_eq_false_iff_not, beq_iff_eq, beq_eq_false_iff_ne, bne_iff_ne, ne_eq, bne_eq_false_iff_eq, Bool.not_eq_true', Bool.not_eq_false', Int.not_lt, Int.not_le] at h5)
     refine W_seq ?_
     refine W_seqK (b' := 393) rfl rfl ?_
     refine q0 8 377 1 rfl rfl (T_assign rfl rfl) rfl ?_
     refine k_done rfl ?_
     refine thenK_n ?_
     refine W_ret ?_
     refine thenK_r ?_
     refine blockK_r ?_
     refine thenK_r ?_
     refine thenK_r ?_
     refine blockK_r ?_
     refine thenK_r ?_
     refine blockK_r ?_
     refine thenK_r ?_
     refine thenK_r ?_
     refine blockK_r ?_
     refine thenK_r ?_
     exact .mk [] (.inr rfl) (.tmp rfl (.nil)) (by simp only [resLV, LV.ren, LV.v.injEq, Value.bool.injEq]; exact (made_ins (ins_ne (k := j) (i := i) (by omega) (by unfold blk; omega) (by unfold blk; first | exact .inl (by omega) | exact .inr (by assumption)))).symm) (.nil) rfl
    ·have h5 := g5; (try simp only [cmpB, decide_eq_true_eq, decide_eq_false_iff_not, beq_iff_eq, beq_eq_false_iff_ne, bne_iff_ne, ne_eq, bne_eq_false_iff_eq, Bool.not_eq_true', Bool.not_eq_false', Int.not_lt, Int.not_le] at h5)
     refine W_skip ?_
     refine thenK_n ?_
     refine W_seqK (b' := 425) rfl rfl ?_
     refine q0 55 377 1 rfl rfl (T_move rfl rfl) rfl ?_
     refine q0 56 393 2 rfl rfl (T_add64 rfl rfl rfl (by first | assumption | omega | (have k1 := hq4 (by omega); omega) | (have k1 := hp.2 ((p.length : Int) - 1).toNat (by omega); omega))) rfl ?_
     refine q0 9 409 3 rfl rfl (T_assign rfl rfl) rfl ?_
     refine k_done rfl ?_
     refine blockK_n ?_
     refine thenK_n ?_
     refine W_seqK (b' := 473) rfl rfl ?_
     refine q0 35 425 1 rfl rfl (T_move rfl rfl) rfl ?_
     refine q0 36 441 2 rfl rfl (T_add64 rfl rfl rfl (by first | assumption | omega | (have k1 := hq4 (by omega); omega) | (have k1 := hp.2 ((p.length : Int) - 1).toNat (by omega); omega))) rfl ?_
     refine q0 12 457 3 rfl rfl (T_assign rfl rfl) rfl ?_
     refine k_done rfl ?_
     refine thenK_n ?_
     refine ⟨i + 1, by (try dsimp only); exact ⟨by omega, by omega, fun m hm => ins_step (k := j) (i := i) (by omega) (by unfold blk; omega) (by unfold blk; exact h5) hI.2.2 m hm⟩, by (try dsimp only); omega, ?_⟩
     exact ⟨[(5, 5), (6, 6), (7, 7), (8, 8)], .same rfl rfl (.same rfl rfl (.same rfl rfl (.same rfl rfl (.eq rfl (.eq rfl (.same rfl rfl (.eq rfl (.nil) (by first | rfl | (congr 1; omega) | simp))) rfl) (by first | rfl | (congr 1; omega) | simp))))), .fzE rfl (.fzE rfl (.fzE rfl (.fzE rfl (.box (by first | rfl | (congr 1; omega) | simp) (.box (by first | rfl | (congr 1; omega) | simp) (.box (by first | rfl | (congr 1; omega) | simp) (.fzE rfl (.nil) rfl)))) rfl) rfl) rfl) rfl, rfl⟩
  ·have h2 := c_lss_f g2
   refine W_exit ?_
   refine thenK_e ?_
   refine thenK_e ?_
   refine blockK_hit ?_
   refine thenK_n ?_
   refine W_seq ?_
   refine W_anyK (b' := 409) rfl rfl rfl ?_
   refine q0 57 89 1 rfl rfl (T_move rfl rfl) rfl ?_
   refine q0 58 105 2 rfl rfl (T_add64 rfl rfl rfl (by first | assumption | omega | (have k1 := hq4 (by omega); omega) | (have k1 := hp.2 ((p.length : Int) - 1).toNat (by omega); omega))) rfl ?_
   refine q0 59 121 3 rfl rfl (T_move rfl rfl) rfl ?_
   refine q0 60 137 4 rfl rfl (T_len D rfl rfl rfl rfl rfl rfl) rfl ?_
   refine q0 61 153 5 rfl rfl (T_cmp rfl rfl rfl rfl) rfl ?_
   refine q0 62 169 6 rfl rfl (T_move rfl rfl) rfl ?_
   refine k_split (d := 62) rfl (fun g6 => ?_) (fun g6 => ?_)
   ·have h6 := c_lss_t g6
    refine k_op0 (d := 63) (b := 185) (j' := 7) rfl rfl rfl rfl (g_tt rfl rfl rfl g6) (T_fa D (m := 1) rfl rfl rfl rfl rfl rfl) rfl ?_
    refine k_op0 (d := 64) (b := 201) (j' := 8) rfl rfl rfl rfl (g_tt rfl rfl rfl g6) (T_load_b D rfl rfl rfl rfl rfl rfl) rfl ?_
    refine k_op0 (d := 65) (b := 217) (j' := 9) rfl rfl rfl rfl (g_tt rfl rfl rfl g6) (T_cmp rfl rfl rfl rfl) rfl ?_
    refine k_op0 (d := 66) (b := 233) (j' := 10) rfl rfl rfl rfl (g_tt rfl rfl rfl g6) (T_move rfl rfl) rfl ?_
    refine k_split (d := 66) rfl (fun g7 => ?_) (fun g7 => ?_)
    ·have h7 := c_neq_t g7
     refine k_no (d := 67) (j' := 11) rfl rfl rfl (g_ft rfl rfl rfl g7) ?_
     refine k_no (d := 68) (j' := 12) rfl rfl rfl (g_ft rfl rfl rfl g7) ?_
     refine k_no (d := 69) (j' := 13) rfl rfl rfl (g_ft rfl rfl rfl g7) ?_
     refine k_no (d := 70) (j' := 14) rfl rfl rfl (g_ft rfl rfl rfl g7) ?_
     refine k_no (d := 71) (j' := 15) rfl rfl rfl (g_ft rfl rfl rfl g7) ?_
     refine k_no (d := 72) (j' := 16) rfl rfl rfl (g_ft rfl rfl rfl g7) ?_
     refine k_no (d := 73) (j' := 17) rfl rfl rfl (g_ft rfl rfl rfl g7) ?_
     refine k_no (d := 74) (j' := 18) rfl rfl rfl (g_ft rfl rfl rfl g7) ?_
     refine k_op0 (d := 75) (b := 377) (j' := 19) rfl rfl rfl rfl (g_tt rfl rfl rfl g6) (T_pick_t rfl rfl rfl g7) rfl ?_
     refine q0 76 393 20 rfl rfl (T_pick_t rfl rfl rfl g6) rfl ?_
     refine k_done rfl ?_
     refine ⟨rfl, ?_⟩
     refine thenK_n ?_
     refine W_cond rfl (fun g8 => ?_) (fun g8 => ?_)
     ·skip
      refine W_seq ?_
      refine W_seqK (b' := 425) rfl rfl ?_
      refine q0 8 409 1 rfl rfl (T_assign rfl rfl) rfl ?_
      refine k_done rfl ?_
      refine thenK_n ?_
      refine W_ret ?_
      refine blockK_r ?_
      refine thenK_r ?_
      refine thenK_r ?_
      refine blockK_r ?_
      refine thenK_r ?_
      exact .mk [] (.inr rfl) (.tmp rfl (.nil)) (by simp only [resLV, LV.ren, LV.v.injEq, Value.bool.injEq]; exact (made_f (i := j) (by omega) (by unfold link blk; simp [-List.getD_eq_getElem?_getD, -Int.default_eq_zero, h7])).symm) (.nil) rfl
     ·exact absurd (g8.symm.trans rfl) (by decide)
    ·have h7 := c_neq_f g7
     refine k_op0 (d := 67) (b := 249) (j' := 11) rfl rfl rfl rfl (g_ff rfl rfl rfl g7) (T_fa D (m := 3) rfl rfl rfl rfl rfl rfl) rfl ?_
     refine k_op0 (d := 68) (b := 265) (j' := 12) rfl rfl rfl rfl (g_ff rfl rfl rfl g7) (T_load_b D rfl rfl rfl rfl rfl rfl) rfl ?_
     refine k_op0 (d := 69) (b := 281) (j' := 13) rfl rfl rfl rfl (g_ff rfl rfl rfl g7) (T_move rfl rfl) rfl ?_
     refine k_op0 (d := 70) (b := 297) (j' := 14) rfl rfl rfl rfl (g_ff rfl rfl rfl g7) (T_move rfl rfl) rfl ?_
     refine k_op0 (d := 71) (b := 313) (j' := 15) rfl rfl rfl rfl (g_ff rfl rfl rfl g7) (T_add64 rfl rfl rfl (by first | assumption | omega | (have k1 := hq4 (by omega); omega) | (have k1 := hp.2 ((p.length : Int) - 1).toNat (by omega); omega))) rfl ?_
     first | refine k_op0 (d := 72) (b := 329) (j' := 16) rfl rfl rfl rfl (g_ff rfl rfl rfl g7) (T_indexAddr D rfl rfl rfl rfl rfl rfl rfl rfl (by first | assumption | omega | (have k1 := hq4 (by omega); omega) | (have k1 := hp.2 ((p.length : Int) - 1).toNat (by omega); omega))) rfl ?_ | refine k_op0 (d := 72) (b := 329) (j' := 16) rfl rfl rfl rfl (g_ff rfl rfl rfl g7) (T_indexAddrZ D rfl rfl rfl rfl rfl rfl rfl rfl (by first | assumption | omega | (have k1 := hq4 (by omega); omega) | (have k1 := hp.2 ((p.length : Int) - 1).toNat (by omega); omega)) (by first | assumption | omega | (have k1 := hq4 (by omega); omega) | (have k1 := hp.2 ((p.length : Int) - 1).toNat (by omega); omega))) rfl ?_
     refine k_op0 (d := 73) (b := 345) (j' := 17) rfl rfl rfl rfl (g_ff rfl rfl rfl g7) (T_ldE D (lv := .v _) (nn := 0) (upd := []) rfl rfl rfl rfl rfl (by first | assumption | omega | (have k1 := hq4 (by omega); omega) | (have k1 := hp.2 ((p.length : Int) - 1).toNat (by omega); omega)) rfl rfl rfl rfl) rfl ?_
     refine k_op0 (d := 74) (b := 361) (j' := 18) rfl rfl rfl rfl (g_ff rfl rfl rfl g7) (T_cmp rfl rfl rfl rfl) rfl ?_
     refine k_op0 (d := 75) (b := 377) (j' := 19) rfl rfl rfl rfl (g_tt rfl rfl rfl g6) (T_pick_f rfl rfl rfl g7) rfl ?_
     refine q0 76 393 20 rfl rfl (T_pick_t rfl rfl rfl g6) rfl ?_
     refine k_done rfl ?_
     refine ⟨rfl, ?_⟩
     refine thenK_n ?_
     refine W_cond rfl (fun g9 => ?_) (fun g9 => ?_)
     ·have h9 := c_neq_t g9
      refine W_seq ?_
      refine W_seqK (b' := 425) rfl rfl ?_
      refine q0 8 409 1 rfl rfl (T_assign rfl rfl) rfl ?_
      refine k_done rfl ?_
      refine thenK_n ?_
      refine W_ret ?_
      refine blockK_r ?_
      refine thenK_r ?_
      refine thenK_r ?_
      refine blockK_r ?_
      refine thenK_r ?_
      exact .mk [] (.inr rfl) (.tmp rfl (.nil)) (by simp only [resLV, LV.ren, LV.v.injEq, Value.bool.injEq]; have e : ((j : Int) + 1).toNat = j + 1 := (by omega); rw [e] at h9; exact (made_f (i := j) (by omega) (by unfold link blk; simp [-List.getD_eq_getElem?_getD, -Int.default_eq_zero, h9])).symm) (.nil) rfl
     ·have h9 := c_neq_f g9
      refine W_skip ?_
      refine blockK_n ?_
      refine thenK_n ?_
      refine W_seqK (b' := 457) rfl rfl ?_
      refine q0 20 409 1 rfl rfl (T_move rfl rfl) rfl ?_
      refine q0 21 425 2 rfl rfl (T_add64 rfl rfl rfl (by first | assumption | omega | (have k1 := hq4 (by omega); omega) | (have k1 := hp.2 ((p.length : Int) - 1).toNat (by omega); omega))) rfl ?_
      refine q0 10 441 3 rfl rfl (T_assign rfl rfl) rfl ?_
      refine k_done rfl ?_
      refine thenK_n ?_
      have hq5 := hq3 (by omega)
      have hq6 : (instrs f (p.take j)).length + i = (instrs f (p.take (j + 1))).length := by omega
      refine ⟨j + 1, by (try dsimp only); exact ⟨by omega, by omega, fun m hm => hI.2.2 m (by omega), fun i1 h1 h2 => by rcases Nat.lt_or_ge i1 j with h | h; exact hJ.2.2.2 i1 h h2; rw [show i1 = j by omega] at h2 ⊢; first | omega | (unfold link blk; simp [-List.getD_eq_getElem?_getD, -Int.default_eq_zero, *])⟩, by (try dsimp only); omega, ?_⟩
      exact ⟨[(5, 5), (6, 6)], .same rfl rfl (.same rfl rfl (.same rfl rfl (.same rfl rfl (.eq rfl (.eq rfl (.nil) (by first | rfl | (congr 1; omega) | simp)) (by first | rfl | (congr 1; omega) | simp))))), .fzE rfl (.fzE rfl (.fzE rfl (.fzE rfl (.box (by first | rfl | (congr 1; omega) | simp) (.box (by first | rfl | (congr 1; omega) | simp) (.nil))) rfl) rfl) rfl) rfl, rfl⟩
   ·have h6 := c_lss_f g6
    refine k_no (d := 63) (j' := 7) rfl rfl rfl (g_tf rfl rfl rfl g6) ?_
    refine k_no (d := 64) (j' := 8) rfl rfl rfl (g_tf rfl rfl rfl g6) ?_
    refine k_no (d := 65) (j' := 9) rfl rfl rfl (g_tf rfl rfl rfl g6) ?_
    refine k_no (d := 66) (j' := 10) rfl rfl rfl (g_tf rfl rfl rfl g6) ?_
    refine k_no (d := 67) (j' := 11) rfl rfl rfl (.und rfl rfl rfl) ?_
    refine k_no (d := 68) (j' := 12) rfl rfl rfl (.und rfl rfl rfl) ?_
    refine k_no (d := 69) (j' := 13) rfl rfl rfl (.und rfl rfl rfl) ?_
    refine k_no (d := 70) (j' := 14) rfl rfl rfl (.und rfl rfl rfl) ?_
    refine k_no (d := 71) (j' := 15) rfl rfl rfl (.und rfl rfl rfl) ?_
    refine k_no (d := 72) (j' := 16) rfl rfl rfl (.und rfl rfl rfl) ?_
    refine k_no (d := 73) (j' := 17) rfl rfl rfl (.und rfl rfl rfl) ?_
    refine k_no (d := 74) (j' := 18) rfl rfl rfl (.und rfl rfl rfl) ?_
    refine k_no (d := 75) (j' := 19) rfl rfl rfl (g_tf rfl rfl rfl g6) ?_
    refine q0 76 393 20 rfl rfl (T_pick_f rfl rfl rfl g6) rfl ?_
    refine k_done rfl ?_
    refine ⟨rfl, ?_⟩
    refine thenK_n ?_
    refine W_cond rfl (fun g10 => ?_) (fun g10 => ?_)
    ·exact absurd (g10.symm.trans rfl) (by decide)
    ·skip
     refine W_skip ?_
     refine blockK_n ?_
     refine thenK_n ?_
     refine W_seqK (b' := 457) rfl rfl ?_
     refine q0 20 409 1 rfl rfl (T_move rfl rfl) rfl ?_
     refine q0 21 425 2 rfl rfl (T_add64 rfl rfl rfl (by first | assumption | omega | (have k1 := hq4 (by omega); omega) | (have k1 := hp.2 ((p.length : Int) - 1).toNat (by omega); omega))) rfl ?_
     refine q0 10 441 3 rfl rfl (T_assign rfl rfl) rfl ?_
     refine k_done rfl ?_
     refine thenK_n ?_
     have hq5 := hq3 (by omega)
     have hq6 : (instrs f (p.take j)).length + i = (instrs f (p.take (j + 1))).length := by omega
     refine ⟨j + 1, by (try dsimp only); exact ⟨by omega, by omega, fun m hm => hI.2.2 m (by omega), fun i1 h1 h2 => by rcases Nat.lt_or_ge i1 j with h | h; exact hJ.2.2.2 i1 h h2; rw [show i1 = j by omega] at h2 ⊢; first | omega | (unfold link blk; simp [-List.getD_eq_getElem?_getD, -Int.default_eq_zero, *])⟩, by (try dsimp only); omega, ?_⟩
     exact ⟨[(5, 5), (6, 6)], .same rfl rfl (.same rfl rfl (.same rfl rfl (.same rfl rfl (.eq rfl (.eq rfl (.nil) (by first | rfl | (congr 1; omega) | simp)) (by first | rfl | (congr 1; omega) | simp))))), .fzE rfl (.fzE rfl (.fzE rfl (.fzE rfl (.box (by first | rfl | (congr 1; omega) | simp) (.box (by first | rfl | (congr 1; omega) | simp) (.nil))) rfl) rfl) rfl) rfl, rfl⟩
 ·have h1 := c_lss_f g1
  refine W_exit ?_
  refine thenK_e ?_
  refine thenK_e ?_
  refine blockK_hit ?_
  refine thenK_n ?_
  refine W_seq ?_
  refine W_anyK (b' := 263) rfl rfl rfl ?_
  refine q0 77 71 1 rfl rfl (T_fa D (m := 1) rfl rfl rfl rfl rfl rfl) rfl ?_
  refine q0 78 87 2 rfl rfl (T_load_b D rfl rfl rfl rfl rfl rfl) rfl ?_
  refine q0 79 103 3 rfl rfl (T_move rfl rfl) rfl ?_
  refine q0 80 119 4 rfl rfl (T_move rfl rfl) rfl ?_
  refine q0 81 135 5 rfl rfl (T_len D rfl rfl rfl rfl rfl rfl) rfl ?_
  refine q0 82 151 6 rfl rfl (T_sub64 rfl rfl rfl (by first | assumption | omega | (have k1 := hq4 (by omega); omega) | (have k1 := hp.2 ((p.length : Int) - 1).toNat (by omega); omega))) rfl ?_
  first | refine q0 83 167 7 rfl rfl (T_indexAddr D rfl rfl rfl rfl rfl rfl rfl rfl (by first | assumption | omega | (have k1 := hq4 (by omega); omega) | (have k1 := hp.2 ((p.length : Int) - 1).toNat (by omega); omega))) rfl ?_ | refine q0 83 167 7 rfl rfl (T_indexAddrZ D rfl rfl rfl rfl rfl rfl rfl rfl (by first | assumption | omega | (have k1 := hq4 (by omega); omega) | (have k1 := hp.2 ((p.length : Int) - 1).toNat (by omega); omega)) (by first | assumption | omega | (have k1 := hq4 (by omega); omega) | (have k1 := hp.2 ((p.length : Int) - 1).toNat (by omega); omega))) rfl ?_
  refine q0 84 183 8 rfl rfl (T_ldE D (lv := .v _) (nn := 0) (upd := []) rfl rfl rfl rfl rfl (by first | assumption | omega | (have k1 := hq4 (by omega); omega) | (have k1 := hp.2 ((p.length : Int) - 1).toNat (by omega); omega)) rfl rfl rfl rfl) rfl ?_
  first | refine q0 85 199 9 rfl rfl (T_indexAddr D rfl rfl rfl rfl rfl rfl rfl rfl (by first | assumption | omega | (have k1 := hq4 (by omega); omega) | (have k1 := hp.2 ((p.length : Int) - 1).toNat (by omega); omega))) rfl ?_ | refine q0 85 199 9 rfl rfl (T_indexAddrZ D rfl rfl rfl rfl rfl rfl rfl rfl (by first | assumption | omega | (have k1 := hq4 (by omega); omega) | (have k1 := hp.2 ((p.length : Int) - 1).toNat (by omega); omega)) (by first | assumption | omega | (have k1 := hq4 (by omega); omega) | (have k1 := hp.2 ((p.length : Int) - 1).toNat (by omega); omega))) rfl ?_
  refine q1 86 215 10 rfl rfl (T_ldEA D (l := [.r 215, .v _, .v _, .v _, .v _]) (nn := 1) (upd := [(215, .fz 8 _)]) rfl rfl rfl rfl rfl (by first | assumption | omega | (have k1 := hq4 (by omega); omega) | (have k1 := hp.2 ((p.length : Int) - 1).toNat (by omega); omega)) rfl rfl rfl rfl rfl) rfl ?_
  refine qn 13 231 11 rfl rfl (T_nilbox [(70, 8)] (T_alloc D rfl rfl rfl) rfl (.cons (.nil rfl) <| .cons (.same _) <| .cons (.same _) <| .cons (.same _) <| .cons (.same _) <| .nil) (upd' := [(231, .box 72 [.r 232, .v (.int .i64 0), .v (.int .i64 0), .v (.int .i64 0), .v (.int .i64 0)]), (232, .row 70 8 (List.map eTac ([] : List (GTac))))]) (nn' := 2) rfl rfl) rfl ?_
  refine s1 247 12 rfl rfl (T_stB D (cs' := [_, _, _, _, _]) rfl rfl rfl rfl flat_agg rfl rfl (Nat.le_of_ble_eq_true rfl) rfl) rfl ?_
  refine k_done rfl ?_
  refine ⟨rfl, ?_⟩
  refine thenK_n ?_
  refine W_seq ?_
  refine W_seq ?_
  refine W_seqK (b' := 567) rfl rfl ?_
  refine q0 87 263 1 rfl rfl (T_move rfl rfl) rfl ?_
  refine q0 88 279 2 rfl rfl (T_fa D (m := 0) rfl rfl rfl rfl rfl rfl) rfl ?_
  refine q0 89 295 3 rfl rfl (T_load_b D rfl rfl rfl rfl rfl rfl) rfl ?_
  refine q0 90 311 4 rfl rfl (T_len D rfl rfl rfl rfl rfl rfl) rfl ?_
  refine q0 91 327 5 rfl rfl (T_cmp rfl rfl rfl rfl) rfl ?_
  refine q0 92 343 6 rfl rfl (T_move rfl rfl) rfl ?_
  refine k_split (d := 92) rfl (fun g11 => ?_) (fun g11 => ?_)
  ·have h11 := c_neq_t g11
   refine k_no (d := 93) (j' := 7) rfl rfl rfl (g_ft rfl rfl rfl g11) ?_
   refine k_no (d := 94) (j' := 8) rfl rfl rfl (g_ft rfl rfl rfl g11) ?_
   refine k_no (d := 95) (j' := 9) rfl rfl rfl (g_ft rfl rfl rfl g11) ?_
   refine k_no (d := 96) (j' := 10) rfl rfl rfl (g_ft rfl rfl rfl g11) ?_
   refine k_no (d := 97) (j' := 11) rfl rfl rfl (g_ft rfl rfl rfl g11) ?_
   refine q0 98 439 12 rfl rfl (T_pick_t rfl rfl rfl g11) rfl ?_
   refine q0 99 455 13 rfl rfl (T_move rfl rfl) rfl ?_
   refine k_no (d := 100) (j' := 14) rfl rfl rfl (g_ft rfl rfl rfl rfl) ?_
   refine k_no (d := 101) (j' := 15) rfl rfl rfl (g_ft rfl rfl rfl rfl) ?_
   refine k_no (d := 102) (j' := 16) rfl rfl rfl (g_ft rfl rfl rfl rfl) ?_
   refine k_no (d := 103) (j' := 17) rfl rfl rfl (g_ft rfl rfl rfl rfl) ?_
   refine k_no (d := 104) (j' := 18) rfl rfl rfl (g_ft rfl rfl rfl rfl) ?_
   refine q0 105 551 19 rfl rfl (T_pick_t rfl rfl rfl rfl) rfl ?_
   refine k_done rfl ?_
   refine thenK_n ?_
   refine W_cond rfl (fun g12 => ?_) (fun g12 => ?_)
   ·skip
    refine W_seq ?_
    refine W_seqK (b' := 583) rfl rfl ?_
    refine q0 8 567 1 rfl rfl (T_assign rfl rfl) rfl ?_
    refine k_done rfl ?_
    refine thenK_n ?_
    refine W_ret ?_
    refine thenK_r ?_
    exact .mk [] (.inr rfl) (.tmp rfl (.nil)) (by simp only [resLV, LV.ren, LV.v.injEq, Value.bool.injEq]; exact (made_ins (fun e => h11 (by rw [List.take_of_length_le (by omega), e]))).symm) (.nil) rfl
   ·exact absurd (g12.symm.trans rfl) (by decide)
  ·have h11 := c_neq_f g11
   refine k_op0 (d := 93) (b := 359) (j' := 7) rfl rfl rfl rfl (g_ff rfl rfl rfl g11) (T_fa D (m := 1) rfl rfl rfl rfl rfl rfl) rfl ?_
   refine k_op0 (d := 94) (b := 375) (j' := 8) rfl rfl rfl rfl (g_ff rfl rfl rfl g11) (T_load_b D rfl rfl rfl rfl rfl rfl) rfl ?_
   refine k_op0 (d := 95) (b := 391) (j' := 9) rfl rfl rfl rfl (g_ff rfl rfl rfl g11) (T_fa D (m := 1) rfl rfl rfl rfl rfl rfl) rfl ?_
   refine k_op0 (d := 96) (b := 407) (j' := 10) rfl rfl rfl rfl (g_ff rfl rfl rfl g11) (T_load_b D rfl rfl rfl rfl rfl rfl) rfl ?_
   refine k_op0 (d := 97) (b := 423) (j' := 11) rfl rfl rfl rfl (g_ff rfl rfl rfl g11) (T_cmp rfl rfl rfl rfl) rfl ?_
   refine q0 98 439 12 rfl rfl (T_pick_f rfl rfl rfl g11) rfl ?_
   refine q0 99 455 13 rfl rfl (T_move rfl rfl) rfl ?_
   refine k_split (d := 99) rfl (fun g13 => ?_) (fun g13 => ?_)
   ·have h13 := c_neq_t g13
    refine k_no (d := 100) (j' := 14) rfl rfl rfl (g_ft rfl rfl rfl g13) ?_
    refine k_no (d := 101) (j' := 15) rfl rfl rfl (g_ft rfl rfl rfl g13) ?_
    refine k_no (d := 102) (j' := 16) rfl rfl rfl (g_ft rfl rfl rfl g13) ?_
    refine k_no (d := 103) (j' := 17) rfl rfl rfl (g_ft rfl rfl rfl g13) ?_
    refine k_no (d := 104) (j' := 18) rfl rfl rfl (g_ft rfl rfl rfl g13) ?_
    refine q0 105 551 19 rfl rfl (T_pick_t rfl rfl rfl g13) rfl ?_
    refine k_done rfl ?_
    refine thenK_n ?_
    refine W_cond rfl (fun g14 => ?_) (fun g14 => ?_)
    ·skip
     refine W_seq ?_
     refine W_seqK (b' := 583) rfl rfl ?_
     refine q0 8 567 1 rfl rfl (T_assign rfl rfl) rfl ?_
     refine k_done rfl ?_
     refine thenK_n ?_
     refine W_ret ?_
     refine thenK_r ?_
     exact .mk [] (.inr rfl) (.tmp rfl (.nil)) (by simp only [resLV, LV.ren, LV.v.injEq, Value.bool.injEq]; have et : p.take j = p := List.take_of_length_le (by omega); rw [et] at h11 hJ; have e1 : b.ins = instrs f p := ext_getD (by omega) (fun m hm => hJ.2.2.1 m (by omega)); have hc : chainB f p = true := range_all_true (fun i hi => hJ.2.2.2 i (by omega) (by omega)); first | (exfalso; omega) | (rw [made_tail hc e1 h13 h15]; clear hJ hps hb hp hc et h11 h13 h15 e1; simp only [blk, lastOf, cmpB]; simp [-List.getD_eq_getElem?_getD, -Int.default_eq_zero, -Int.pred_toNat, *]) | exact (made_fin h13).symm | exact (made_v h15).symm) (.nil) rfl
    ·exact absurd (g14.symm.trans rfl) (by decide)
   ·have h13 := c_neq_f g13
    refine k_op0 (d := 100) (b := 471) (j' := 14) rfl rfl rfl rfl (g_ff rfl rfl rfl g13) (T_fa D (m := 2) rfl rfl rfl rfl rfl rfl) rfl ?_
    refine k_op0 (d := 101) (b := 487) (j' := 15) rfl rfl rfl rfl (g_ff rfl rfl rfl g13) (T_load_b D rfl rfl rfl rfl rfl rfl) rfl ?_
    refine k_op0 (d := 102) (b := 503) (j' := 16) rfl rfl rfl rfl (g_ff rfl rfl rfl g13) (T_fa D (m := 2) rfl rfl rfl rfl rfl rfl) rfl ?_
    refine k_op0 (d := 103) (b := 519) (j' := 17) rfl rfl rfl rfl (g_ff rfl rfl rfl g13) (T_load_b D rfl rfl rfl rfl rfl rfl) rfl ?_
    refine k_op0 (d := 104) (b := 535) (j' := 18) rfl rfl rfl rfl (g_ff rfl rfl rfl g13) (T_cmp rfl rfl rfl rfl) rfl ?_
    refine q0 105 551 19 rfl rfl (T_pick_f rfl rfl rfl g13) rfl ?_
    refine k_done rfl ?_
    refine thenK_n ?_
    refine W_cond rfl (fun g15 => ?_) (fun g15 => ?_)
    ·have h15 := c_neq_t g15
     refine W_seq ?_
     refine W_seqK (b' := 583) rfl rfl ?_
     refine q0 8 567 1 rfl rfl (T_assign rfl rfl) rfl ?_
     refine k_done rfl ?_
     refine thenK_n ?_
     refine W_ret ?_
     refine thenK_r ?_
     exact .mk [] (.inr rfl) (.tmp rfl (.nil)) (by simp only [resLV, LV.ren, LV.v.injEq, Value.bool.injEq]; have et : p.take j = p := List.take_of_length_le (by omega); rw [et] at h11 hJ; have e1 : b.ins = instrs f p := ext_getD (by omega) (fun m hm => hJ.2.2.1 m (by omega)); have hc : chainB f p = true := range_all_true (fun i hi => hJ.2.2.2 i (by omega) (by omega)); first | (exfalso; omega) | (rw [made_tail hc e1 h13 h15]; clear hJ hps hb hp hc et h11 h13 h15 e1; simp only [blk, lastOf, cmpB]; simp [-List.getD_eq_getElem?_getD, -Int.default_eq_zero, -Int.pred_toNat, *]) | exact (made_fin h13).symm | exact (made_v h15).symm) (.nil) rfl
    ·have h15 := c_neq_f g15
     refine W_skip ?_
     refine thenK_n ?_
     refine W_seq ?_
     refine W_seqK (b' := 663) rfl rfl ?_
     refine q0 106 567 1 rfl rfl (T_fa D (m := 3) rfl rfl rfl rfl rfl rfl) rfl ?_
     refine q0 107 583 2 rfl rfl (T_load_b D rfl rfl rfl rfl rfl rfl) rfl ?_
     refine q0 108 599 3 rfl rfl (T_fa D (m := 3) rfl rfl rfl rfl rfl rfl) rfl ?_
     refine q0 109 615 4 rfl rfl (T_load_b D rfl rfl rfl rfl rfl rfl) rfl ?_
     refine q0 110 631 5 rfl rfl (T_cmp rfl rfl rfl rfl) rfl ?_
     refine q0 14 647 6 rfl rfl (T_assign rfl rfl) rfl ?_
     refine k_done rfl ?_
     refine thenK_n ?_
     refine W_seq ?_
     refine W_seq ?_
     refine W_seqK (b' := 791) rfl rfl ?_
     refine q0 111 663 1 rfl rfl (T_fa D (m := 1) rfl rfl rfl rfl rfl rfl) rfl ?_
     refine q0 112 679 2 rfl rfl (T_load_b D rfl rfl rfl rfl rfl rfl) rfl ?_
     refine q0 113 695 3 rfl rfl (T_cmp rfl rfl rfl rfl) rfl ?_
     refine q0 114 711 4 rfl rfl (T_move rfl rfl) rfl ?_
     refine k_split (d := 114) rfl (fun g16 => ?_) (fun g16 => ?_)
     ·have h16 := c_eql_t g16
      refine k_no (d := 115) (j' := 5) rfl rfl rfl (g_ft rfl rfl rfl g16) ?_
      refine k_no (d := 116) (j' := 6) rfl rfl rfl (g_ft rfl rfl rfl g16) ?_
      refine k_no (d := 117) (j' := 7) rfl rfl rfl (g_ft rfl rfl rfl g16) ?_
      refine q0 118 775 8 rfl rfl (T_pick_t rfl rfl rfl g16) rfl ?_
      refine k_done rfl ?_
      refine thenK_n ?_
      refine W_cond rfl (fun g17 => ?_) (fun g17 => ?_)
      ·skip
       refine W_seqK (b' := 903) rfl rfl ?_
       refine q0 119 791 1 rfl rfl (T_move rfl rfl) rfl ?_
       refine q0 120 807 2 rfl rfl (T_fa D (m := 3) rfl rfl rfl rfl rfl rfl) rfl ?_
       refine q0 121 823 3 rfl rfl (T_load_b D rfl rfl rfl rfl rfl rfl) rfl ?_
       refine q0 122 839 4 rfl rfl (T_fa D (m := 3) rfl rfl rfl rfl rfl rfl) rfl ?_
       refine q0 123 855 5 rfl rfl (T_load_b D rfl rfl rfl rfl rfl rfl) rfl ?_
       refine q0 124 871 6 rfl rfl (T_callV (lvs := [_, _, _]) (L := [(1, 4)]) (leads_spec2 _ _ _ (fun k1 k2 => hps _ (getD_mem (by omega)))) body119 rfl rfl rfl rfl (.fz rfl (.nil)) rfl) rfl ?_
       refine q0 14 887 7 rfl rfl (T_assign rfl rfl) rfl ?_
       refine k_done rfl ?_
       refine thenK_n ?_
       refine W_seq ?_
       refine W_seqK (b' := 999) rfl rfl ?_
       refine q0 125 903 1 rfl rfl (T_fa D (m := 4) rfl rfl rfl rfl rfl rfl) rfl ?_
       refine q0 126 919 2 rfl rfl (T_load_b D rfl rfl rfl rfl rfl rfl) rfl ?_
       refine q0 127 935 3 rfl rfl (T_fa D (m := 4) rfl rfl rfl rfl rfl rfl) rfl ?_
       refine q0 128 951 4 rfl rfl (T_load_b D rfl rfl rfl rfl rfl rfl) rfl ?_
       refine q0 129 967 5 rfl rfl (T_cmp rfl rfl rfl rfl) rfl ?_
       refine q0 15 983 6 rfl rfl (T_assign rfl rfl) rfl ?_
       refine k_done rfl ?_
       refine thenK_n ?_
       refine W_seq ?_
       refine W_seq ?_
       refine W_seqK (b' := 1047) rfl rfl ?_
       refine q0 130 999 1 rfl rfl (T_fa D (m := 1) rfl rfl rfl rfl rfl rfl) rfl ?_
       refine q0 131 1015 2 rfl rfl (T_load_b D rfl rfl rfl rfl rfl rfl) rfl ?_
       refine q0 132 1031 3 rfl rfl (T_cmp rfl rfl rfl rfl) rfl ?_
       refine k_done rfl ?_
       refine thenK_n ?_
       refine W_cond rfl (fun g18 => ?_) (fun g18 => ?_)
       ·have h18 := c_eql_t g18
        refine W_seqK (b' := 1159) rfl rfl ?_
        refine q0 133 1047 1 rfl rfl (T_move rfl rfl) rfl ?_
        refine q0 134 1063 2 rfl rfl (T_fa D (m := 4) rfl rfl rfl rfl rfl rfl) rfl ?_
        refine q0 135 1079 3 rfl rfl (T_load_b D rfl rfl rfl rfl rfl rfl) rfl ?_
        refine q0 136 1095 4 rfl rfl (T_fa D (m := 4) rfl rfl rfl rfl rfl rfl) rfl ?_
        refine q0 137 1111 5 rfl rfl (T_load_b D rfl rfl rfl rfl rfl rfl) rfl ?_
        refine q0 138 1127 6 rfl rfl (T_callV (lvs := [_, _, _]) (L := [(1, 4)]) (leads_spec2 _ _ _ (fun k1 k2 => hps _ (getD_mem (by omega)))) body119 rfl rfl rfl rfl (.fz rfl (.nil)) rfl) rfl ?_
        refine q0 15 1143 7 rfl rfl (T_assign rfl rfl) rfl ?_
        refine k_done rfl ?_
        refine thenK_n ?_
        refine W_seq ?_
        refine W_seqK (b' := 1239) rfl rfl ?_
        refine q0 139 1159 1 rfl rfl (T_move rfl rfl) rfl ?_
        refine q0 140 1175 2 rfl rfl (T_move rfl rfl) rfl ?_
        refine k_split (d := 140) rfl (fun g19 => ?_) (fun g19 => ?_)
        ·have h19 := g19; (try simp only [cmpB, decide_eq_true_eq, decide_eq_false_iff_not, beq_iff_eq, beq_eq_false_iff_ne, bne_iff_ne, ne_eq, bne_eq_false_iff_eq, Bool.not_eq_true', Bool.not_eq_false', Int.not_lt, Int.not_le] at h19)
         refine k_op0 (d := 141) (b := 1191) (j' := 3) rfl rfl rfl rfl (g_tt rfl rfl rfl g19) (T_move rfl rfl) rfl ?_
         refine q0 142 1207 4 rfl rfl (T_pick_t rfl rfl rfl g19) rfl ?_
         refine q0 8 1223 5 rfl rfl (T_assign rfl rfl) rfl ?_
         refine k_done rfl ?_
         refine thenK_n ?_
         refine W_ret ?_
         exact .mk [] (.inr rfl) (.tmp rfl (.nil)) (by simp only [resLV, LV.ren, LV.v.injEq, Value.bool.injEq]; have et : p.take j = p := List.take_of_length_le (by omega); rw [et] at h11 hJ; have e1 : b.ins = instrs f p := ext_getD (by omega) (fun m hm => hJ.2.2.1 m (by omega)); have hc : chainB f p = true := range_all_true (fun i hi => hJ.2.2.2 i (by omega) (by omega)); first | (exfalso; omega) | (rw [made_tail hc e1 h13 h15]; clear hJ hps hb hp hc et h11 h13 h15 e1; simp only [blk, lastOf, cmpB]; simp [-List.getD_eq_getElem?_getD, -Int.default_eq_zero, -Int.pred_toNat, *]) | exact (made_fin h13).symm | exact (made_v h15).symm) (.nil) rfl
        ·have h19 := g19; (try simp only [cmpB, decide_eq_true_eq, decide_eq_false_iff_not, beq_iff_eq, beq_eq_false_iff_ne, bne_iff_ne, ne_eq, bne_eq_false_iff_eq, Bool.not_eq_true', Bool.not_eq_false', Int.not_lt, Int.not_le] at h19)
         refine k_no (d := 141) (j' := 3) rfl rfl rfl (g_tf rfl rfl rfl g19) ?_
         refine q0 142 1207 4 rfl rfl (T_pick_f rfl rfl rfl g19) rfl ?_
         refine q0 8 1223 5 rfl rfl (T_assign rfl rfl) rfl ?_
         refine k_done rfl ?_
         refine thenK_n ?_
         refine W_ret ?_
         exact .mk [] (.inr rfl) (.tmp rfl (.nil)) (by simp only [resLV, LV.ren, LV.v.injEq, Value.bool.injEq]; have et : p.take j = p := List.take_of_length_le (by omega); rw [et] at h11 hJ; have e1 : b.ins = instrs f p := ext_getD (by omega) (fun m hm => hJ.2.2.1 m (by omega)); have hc : chainB f p = true := range_all_true (fun i hi => hJ.2.2.2 i (by omega) (by omega)); first | (exfalso; omega) | (rw [made_tail hc e1 h13 h15]; clear hJ hps hb hp hc et h11 h13 h15 e1; simp only [blk, lastOf, cmpB]; simp [-List.getD_eq_getElem?_getD, -Int.default_eq_zero, -Int.pred_toNat, *]) | exact (made_fin h13).symm | exact (made_v h15).symm) (.nil) rfl
       ·have h18 := c_eql_f g18
        refine W_skip ?_
        refine thenK_n ?_
        refine W_seq ?_
        refine W_seqK (b' := 1127) rfl rfl ?_
        refine q0 139 1047 1 rfl rfl (T_move rfl rfl) rfl ?_
        refine q0 140 1063 2 rfl rfl (T_move rfl rfl) rfl ?_
        refine k_split (d := 140) rfl (fun g20 => ?_) (fun g20 => ?_)
        ·have h20 := g20; (try simp only [cmpB, decide_eq_true_eq, decide_eq_false_iff_not, beq_iff_eq, beq_eq_false_iff_ne, bne_iff_ne, ne_eq, bne_eq_false_iff_eq, Bool.not_eq_true', Bool.not_eq_false', Int.not_lt, Int.not_le] at h20)
         refine k_op0 (d := 141) (b := 1079) (j' := 3) rfl rfl rfl rfl (g_tt rfl rfl rfl g20) (T_move rfl rfl) rfl ?_
         refine q0 142 1095 4 rfl rfl (T_pick_t rfl rfl rfl g20) rfl ?_
         refine q0 8 1111 5 rfl rfl (T_assign rfl rfl) rfl ?_
         refine k_done rfl ?_
         refine thenK_n ?_
         refine W_ret ?_
         exact .mk [] (.inr rfl) (.tmp rfl (.nil)) (by simp only [resLV, LV.ren, LV.v.injEq, Value.bool.injEq]; have et : p.take j = p := List.take_of_length_le (by omega); rw [et] at h11 hJ; have e1 : b.ins = instrs f p := ext_getD (by omega) (fun m hm => hJ.2.2.1 m (by omega)); have hc : chainB f p = true := range_all_true (fun i hi => hJ.2.2.2 i (by omega) (by omega)); first | (exfalso; omega) | (rw [made_tail hc e1 h13 h15]; clear hJ hps hb hp hc et h11 h13 h15 e1; simp only [blk, lastOf, cmpB]; simp [-List.getD_eq_getElem?_getD, -Int.default_eq_zero, -Int.pred_toNat, *]) | exact (made_fin h13).symm | exact (made_v h15).symm) (.nil) rfl
        ·have h20 := g20; (try simp only [cmpB, decide_eq_true_eq, decide_eq_false_iff_not, beq_iff_eq, beq_eq_false_iff_ne, bne_iff_ne, ne_eq, bne_eq_false_iff_eq, Bool.not_eq_true', Bool.not_eq_false', Int.not_lt, Int.not_le] at h20)
         refine k_no (d := 141) (j' := 3) rfl rfl rfl (g_tf rfl rfl rfl g20) ?_
         refine q0 142 1095 4 rfl rfl (T_pick_f rfl rfl rfl g20) rfl ?_
         refine q0 8 1111 5 rfl rfl (T_assign rfl rfl) rfl ?_
         refine k_done rfl ?_
         refine thenK_n ?_
         refine W_ret ?_
         exact .mk [] (.inr rfl) (.tmp rfl (.nil)) (by simp only [resLV, LV.ren, LV.v.injEq, Value.bool.injEq]; have et : p.take j = p := List.take_of_length_le (by omega); rw [et] at h11 hJ; have e1 : b.ins = instrs f p := ext_getD (by omega) (fun m hm => hJ.2.2.1 m (by omega)); have hc : chainB f p = true := range_all_true (fun i hi => hJ.2.2.2 i (by omega) (by omega)); first | (exfalso; omega) | (rw [made_tail hc e1 h13 h15]; clear hJ hps hb hp hc et h11 h13 h15 e1; simp only [blk, lastOf, cmpB]; simp [-List.getD_eq_getElem?_getD, -Int.default_eq_zero, -Int.pred_toNat, *]) | exact (made_fin h13).symm | exact (made_v h15).symm) (.nil) rfl
      ·exact absurd (g17.symm.trans rfl) (by decide)
     ·have h16 := c_eql_f g16
      refine k_op0 (d := 115) (b := 727) (j' := 5) rfl rfl rfl rfl (g_ff rfl rfl rfl g16) (T_fa D (m := 1) rfl rfl rfl rfl rfl rfl) rfl ?_
      refine k_op0 (d := 116) (b := 743) (j' := 6) rfl rfl rfl rfl (g_ff rfl rfl rfl g16) (T_load_b D rfl rfl rfl rfl rfl rfl) rfl ?_
      refine k_op0 (d := 117) (b := 759) (j' := 7) rfl rfl rfl rfl (g_ff rfl rfl rfl g16) (T_cmp rfl rfl rfl rfl) rfl ?_
      refine q0 118 775 8 rfl rfl (T_pick_f rfl rfl rfl g16) rfl ?_
      refine k_done rfl ?_
      refine thenK_n ?_
      refine W_cond rfl (fun g21 => ?_) (fun g21 => ?_)
      ·have h21 := c_eql_t g21
       refine W_seqK (b' := 903) rfl rfl ?_
       refine q0 119 791 1 rfl rfl (T_move rfl rfl) rfl ?_
       refine q0 120 807 2 rfl rfl (T_fa D (m := 3) rfl rfl rfl rfl rfl rfl) rfl ?_
       refine q0 121 823 3 rfl rfl (T_load_b D rfl rfl rfl rfl rfl rfl) rfl ?_
       refine q0 122 839 4 rfl rfl (T_fa D (m := 3) rfl rfl rfl rfl rfl rfl) rfl ?_
       refine q0 123 855 5 rfl rfl (T_load_b D rfl rfl rfl rfl rfl rfl) rfl ?_
       refine q0 124 871 6 rfl rfl (T_callV (lvs := [_, _, _]) (L := [(1, 4)]) (leads_spec2 _ _ _ (fun k1 k2 => hps _ (getD_mem (by omega)))) body119 rfl rfl rfl rfl (.fz rfl (.nil)) rfl) rfl ?_
       refine q0 14 887 7 rfl rfl (T_assign rfl rfl) rfl ?_
       refine k_done rfl ?_
       refine thenK_n ?_
       refine W_seq ?_
       refine W_seqK (b' := 999) rfl rfl ?_
       refine q0 125 903 1 rfl rfl (T_fa D (m := 4) rfl rfl rfl rfl rfl rfl) rfl ?_
       refine q0 126 919 2 rfl rfl (T_load_b D rfl rfl rfl rfl rfl rfl) rfl ?_
       refine q0 127 935 3 rfl rfl (T_fa D (m := 4) rfl rfl rfl rfl rfl rfl) rfl ?_
       refine q0 128 951 4 rfl rfl (T_load_b D rfl rfl rfl rfl rfl rfl) rfl ?_
       refine q0 129 967 5 rfl rfl (T_cmp rfl rfl rfl rfl) rfl ?_
       refine q0 15 983 6 rfl rfl (T_assign rfl rfl) rfl ?_
       refine k_done rfl ?_
       refine thenK_n ?_
       refine W_seq ?_
       refine W_seq ?_
       refine W_seqK (b' := 1047) rfl rfl ?_
       refine q0 130 999 1 rfl rfl (T_fa D (m := 1) rfl rfl rfl rfl rfl rfl) rfl ?_
       refine q0 131 1015 2 rfl rfl (T_load_b D rfl rfl rfl rfl rfl rfl) rfl ?_
       refine q0 132 1031 3 rfl rfl (T_cmp rfl rfl rfl rfl) rfl ?_
       refine k_done rfl ?_
       refine thenK_n ?_
       refine W_cond rfl (fun g22 => ?_) (fun g22 => ?_)
       ·have h22 := c_eql_t g22
        refine W_seqK (b' := 1159) rfl rfl ?_
        refine q0 133 1047 1 rfl rfl (T_move rfl rfl) rfl ?_
        refine q0 134 1063 2 rfl rfl (T_fa D (m := 4) rfl rfl rfl rfl rfl rfl) rfl ?_
        refine q0 135 1079 3 rfl rfl (T_load_b D rfl rfl rfl rfl rfl rfl) rfl ?_
        refine q0 136 1095 4 rfl rfl (T_fa D (m := 4) rfl rfl rfl rfl rfl rfl) rfl ?_
        refine q0 137 1111 5 rfl rfl (T_load_b D rfl rfl rfl rfl rfl rfl) rfl ?_
        refine q0 138 1127 6 rfl rfl (T_callV (lvs := [_, _, _]) (L := [(1, 4)]) (leads_spec2 _ _ _ (fun k1 k2 => hps _ (getD_mem (by omega)))) body119 rfl rfl rfl rfl (.fz rfl (.nil)) rfl) rfl ?_
        refine q0 15 1143 7 rfl rfl (T_assign rfl rfl) rfl ?_
        refine k_done rfl ?_
        refine thenK_n ?_
        refine W_seq ?_
        refine W_seqK (b' := 1239) rfl rfl ?_
        refine q0 139 1159 1 rfl rfl (T_move rfl rfl) rfl ?_
        refine q0 140 1175 2 rfl rfl (T_move rfl rfl) rfl ?_
        refine k_split (d := 140) rfl (fun g23 => ?_) (fun g23 => ?_)
        ·have h23 := g23; (try simp only [cmpB, decide_eq_true_eq, decide_eq_false_iff_not, beq_iff_eq, beq_eq_false_iff_ne, bne_iff_ne, ne_eq, bne_eq_false_iff_eq, Bool.not_eq_true', Bool.not_eq_false', Int.not_lt, Int.not_le] at h23)
         refine k_op0 (d := 141) (b := 1191) (j' := 3) rfl rfl rfl rfl (g_tt rfl rfl rfl g23) (T_move rfl rfl) rfl ?_
         refine q0 142 1207 4 rfl rfl (T_pick_t rfl rfl rfl g23) rfl ?_
         refine q0 8 1223 5 rfl rfl (T_assign rfl rfl) rfl ?_
         refine k_done rfl ?_
         refine thenK_n ?_
         refine W_ret ?_
         exact .mk [] (.inr rfl) (.tmp rfl (.nil)) (by simp only [resLV, LV.ren, LV.v.injEq, Value.bool.injEq]; have et : p.take j = p := List.take_of_length_le (by omega); rw [et] at h11 hJ; have e1 : b.ins = instrs f p := ext_getD (by omega) (fun m hm => hJ.2.2.1 m (by omega)); have hc : chainB f p = true := range_all_true (fun i hi => hJ.2.2.2 i (by omega) (by omega)); first | (exfalso; omega) | (rw [made_tail hc e1 h13 h15]; clear hJ hps hb hp hc et h11 h13 h15 e1; simp only [blk, lastOf, cmpB]; simp [-List.getD_eq_getElem?_getD, -Int.default_eq_zero, -Int.pred_toNat, *]) | exact (made_fin h13).symm | exact (made_v h15).symm) (.nil) rfl
        ·have h23 := g23; (try simp only [cmpB, decide_eq_true_eq, decide_eq_false_iff_not, beq_iff_eq, beq_eq_false_iff_ne, bne_iff_ne, ne_eq, bne_eq_false_iff_eq, Bool.not_eq_true', Bool.not_eq_false', Int.not_lt, Int.not_le] at h23)
         refine k_no (d := 141) (j' := 3) rfl rfl rfl (g_tf rfl rfl rfl g23) ?_
         refine q0 142 1207 4 rfl rfl (T_pick_f rfl rfl rfl g23) rfl ?_
         refine q0 8 1223 5 rfl rfl (T_assign rfl rfl) rfl ?_
         refine k_done rfl ?_
         refine thenK_n ?_
         refine W_ret ?_
         exact .mk [] (.inr rfl) (.tmp rfl (.nil)) (by simp only [resLV, LV.ren, LV.v.injEq, Value.bool.injEq]; have et : p.take j = p := List.take_of_length_le (by omega); rw [et] at h11 hJ; have e1 : b.ins = instrs f p := ext_getD (by omega) (fun m hm => hJ.2.2.1 m (by omega)); have hc : chainB f p = true := range_all_true (fun i hi => hJ.2.2.2 i (by omega) (by omega)); first | (exfalso; omega) | (rw [made_tail hc e1 h13 h15]; clear hJ hps hb hp hc et h11 h13 h15 e1; simp only [blk, lastOf, cmpB]; simp [-List.getD_eq_getElem?_getD, -Int.default_eq_zero, -Int.pred_toNat, *]) | exact (made_fin h13).symm | exact (made_v h15).symm) (.nil) rfl
       ·have h22 := c_eql_f g22
        refine W_skip ?_
        refine thenK_n ?_
        refine W_seq ?_
        refine W_seqK (b' := 1127) rfl rfl ?_
        refine q0 139 1047 1 rfl rfl (T_move rfl rfl) rfl ?_
        refine q0 140 1063 2 rfl rfl (T_move rfl rfl) rfl ?_
        refine k_split (d := 140) rfl (fun g24 => ?_) (fun g24 => ?_)
        ·have h24 := g24; (try simp only [cmpB, decide_eq_true_eq, decide_eq_false_iff_not, beq_iff_eq, beq_eq_false_iff_ne, bne_iff_ne, ne_eq, bne_eq_false_iff_eq, Bool.not_eq_true', Bool.not_eq_false', Int.not_lt, Int.not_le] at h24)
         refine k_op0 (d := 141) (b := 1079) (j' := 3) rfl rfl rfl rfl (g_tt rfl rfl rfl g24) (T_move rfl rfl) rfl ?_
         refine q0 142 1095 4 rfl rfl (T_pick_t rfl rfl rfl g24) rfl ?_
         refine q0 8 1111 5 rfl rfl (T_assign rfl rfl) rfl ?_
         refine k_done rfl ?_
         refine thenK_n ?_
         refine W_ret ?_
         exact .mk [] (.inr rfl) (.tmp rfl (.nil)) (by simp only [resLV, LV.ren, LV.v.injEq, Value.bool.injEq]; have et : p.take j = p := List.take_of_length_le (by omega); rw [et] at h11 hJ; have e1 : b.ins = instrs f p := ext_getD (by omega) (fun m hm => hJ.2.2.1 m (by omega)); have hc : chainB f p = true := range_all_true (fun i hi => hJ.2.2.2 i (by omega) (by omega)); first | (exfalso; omega) | (rw [made_tail hc e1 h13 h15]; clear hJ hps hb hp hc et h11 h13 h15 e1; simp only [blk, lastOf, cmpB]; simp [-List.getD_eq_getElem?_getD, -Int.default_eq_zero, -Int.pred_toNat, *]) | exact (made_fin h13).symm | exact (made_v h15).symm) (.nil) rfl
        ·have h24 := g24; (try simp only [cmpB, decide_eq_true_eq, decide_eq_false_iff_not, beq_iff_eq, beq_eq_false_iff_ne, bne_iff_ne, ne_eq, bne_eq_false_iff_eq, Bool.not_eq_true', Bool.not_eq_false', Int.not_lt, Int.not_le] at h24)
         refine k_no (d := 141) (j' := 3) rfl rfl rfl (g_tf rfl rfl rfl g24) ?_
         refine q0 142 1095 4 rfl rfl (T_pick_f rfl rfl rfl g24) rfl ?_
         refine q0 8 1111 5 rfl rfl (T_assign rfl rfl) rfl ?_
         refine k_done rfl ?_
         refine thenK_n ?_
         refine W_ret ?_
         exact .mk [] (.inr rfl) (.tmp rfl (.nil)) (by simp only [resLV, LV.ren, LV.v.injEq, Value.bool.injEq]; have et : p.take j = p := List.take_of_length_le (by omega); rw [et] at h11 hJ; have e1 : b.ins = instrs f p := ext_getD (by omega) (fun m hm => hJ.2.2.1 m (by omega)); have hc : chainB f p = true := range_all_true (fun i hi => hJ.2.2.2 i (by omega) (by omega)); first | (exfalso; omega) | (rw [made_tail hc e1 h13 h15]; clear hJ hps hb hp hc et h11 h13 h15 e1; simp only [blk, lastOf, cmpB]; simp [-List.getD_eq_getElem?_getD, -Int.default_eq_zero, -Int.pred_toNat, *]) | exact (made_fin h13).symm | exact (made_v h15).symm) (.nil) rfl
      ·have h21 := c_eql_f g21
       refine W_skip ?_
       refine thenK_n ?_
       refine W_seq ?_
       refine W_seqK (b' := 887) rfl rfl ?_
       refine q0 125 791 1 rfl rfl (T_fa D (m := 4) rfl rfl rfl rfl rfl rfl) rfl ?_
       refine q0 126 807 2 rfl rfl (T_load_b D rfl rfl rfl rfl rfl rfl) rfl ?_
       refine q0 127 823 3 rfl rfl (T_fa D (m := 4) rfl rfl rfl rfl rfl rfl) rfl ?_
       refine q0 128 839 4 rfl rfl (T_load_b D rfl rfl rfl rfl rfl rfl) rfl ?_
       refine q0 129 855 5 rfl rfl (T_cmp rfl rfl rfl rfl) rfl ?_
       refine q0 15 871 6 rfl rfl (T_assign rfl rfl) rfl ?_
       refine k_done rfl ?_
       refine thenK_n ?_
       refine W_seq ?_
       refine W_seq ?_
       refine W_seqK (b' := 935) rfl rfl ?_
       refine q0 130 887 1 rfl rfl (T_fa D (m := 1) rfl rfl rfl rfl rfl rfl) rfl ?_
       refine q0 131 903 2 rfl rfl (T_load_b D rfl rfl rfl rfl rfl rfl) rfl ?_
       refine q0 132 919 3 rfl rfl (T_cmp rfl rfl rfl rfl) rfl ?_
       refine k_done rfl ?_
       refine thenK_n ?_
       refine W_cond rfl (fun g25 => ?_) (fun g25 => ?_)
       ·have h25 := c_eql_t g25
        refine W_seqK (b' := 1047) rfl rfl ?_
        refine q0 133 935 1 rfl rfl (T_move rfl rfl) rfl ?_
        refine q0 134 951 2 rfl rfl (T_fa D (m := 4) rfl rfl rfl rfl rfl rfl) rfl ?_
        refine q0 135 967 3 rfl rfl (T_load_b D rfl rfl rfl rfl rfl rfl) rfl ?_
        refine q0 136 983 4 rfl rfl (T_fa D (m := 4) rfl rfl rfl rfl rfl rfl) rfl ?_
        refine q0 137 999 5 rfl rfl (T_load_b D rfl rfl rfl rfl rfl rfl) rfl ?_
        refine q0 138 1015 6 rfl rfl (T_callV (lvs := [_, _, _]) (L := [(1, 4)]) (leads_spec2 _ _ _ (fun k1 k2 => hps _ (getD_mem (by omega)))) body119 rfl rfl rfl rfl (.fz rfl (.nil)) rfl) rfl ?_
        refine q0 15 1031 7 rfl rfl (T_assign rfl rfl) rfl ?_
        refine k_done rfl ?_
        refine thenK_n ?_
        refine W_seq ?_
        refine W_seqK (b' := 1127) rfl rfl ?_
        refine q0 139 1047 1 rfl rfl (T_move rfl rfl) rfl ?_
        refine q0 140 1063 2 rfl rfl (T_move rfl rfl) rfl ?_
        refine k_split (d := 140) rfl (fun g26 => ?_) (fun g26 => ?_)
        ·have h26 := c_eql_t g26
         refine k_op0 (d := 141) (b := 1079) (j' := 3) rfl rfl rfl rfl (g_tt rfl rfl rfl g26) (T_move rfl rfl) rfl ?_
         refine q0 142 1095 4 rfl rfl (T_pick_t rfl rfl rfl g26) rfl ?_
         refine q0 8 1111 5 rfl rfl (T_assign rfl rfl) rfl ?_
         refine k_done rfl ?_
         refine thenK_n ?_
         refine W_ret ?_
         exact .mk [] (.inr rfl) (.tmp rfl (.nil)) (by simp only [resLV, LV.ren, LV.v.injEq, Value.bool.injEq]; have et : p.take j = p := List.take_of_length_le (by omega); rw [et] at h11 hJ; have e1 : b.ins = instrs f p := ext_getD (by omega) (fun m hm => hJ.2.2.1 m (by omega)); have hc : chainB f p = true := range_all_true (fun i hi => hJ.2.2.2 i (by omega) (by omega)); first | (exfalso; omega) | (rw [made_tail hc e1 h13 h15]; clear hJ hps hb hp hc et h11 h13 h15 e1; simp only [blk, lastOf, cmpB]; simp [-List.getD_eq_getElem?_getD, -Int.default_eq_zero, -Int.pred_toNat, *]) | exact (made_fin h13).symm | exact (made_v h15).symm) (.nil) rfl
        ·have h26 := c_eql_f g26
         refine k_no (d := 141) (j' := 3) rfl rfl rfl (g_tf rfl rfl rfl g26) ?_
         refine q0 142 1095 4 rfl rfl (T_pick_f rfl rfl rfl g26) rfl ?_
         refine q0 8 1111 5 rfl rfl (T_assign rfl rfl) rfl ?_
         refine k_done rfl ?_
         refine thenK_n ?_
         refine W_ret ?_
         exact .mk [] (.inr rfl) (.tmp rfl (.nil)) (by simp only [resLV, LV.ren, LV.v.injEq, Value.bool.injEq]; have et : p.take j = p := List.take_of_length_le (by omega); rw [et] at h11 hJ; have e1 : b.ins = instrs f p := ext_getD (by omega) (fun m hm => hJ.2.2.1 m (by omega)); have hc : chainB f p = true := range_all_true (fun i hi => hJ.2.2.2 i (by omega) (by omega)); first | (exfalso; omega) | (rw [made_tail hc e1 h13 h15]; clear hJ hps hb hp hc et h11 h13 h15 e1; simp only [blk, lastOf, cmpB]; simp [-List.getD_eq_getElem?_getD, -Int.default_eq_zero, -Int.pred_toNat, *]) | exact (made_fin h13).symm | exact (made_v h15).symm) (.nil) rfl
       ·have h25 := c_eql_f g25
        refine W_skip ?_
        refine thenK_n ?_
        refine W_seq ?_
        refine W_seqK (b' := 1015) rfl rfl ?_
        refine q0 139 935 1 rfl rfl (T_move rfl rfl) rfl ?_
        refine q0 140 951 2 rfl rfl (T_move rfl rfl) rfl ?_
        refine k_split (d := 140) rfl (fun g27 => ?_) (fun g27 => ?_)
        ·have h27 := c_eql_t g27
         refine k_op0 (d := 141) (b := 967) (j' := 3) rfl rfl rfl rfl (g_tt rfl rfl rfl g27) (T_move rfl rfl) rfl ?_
         refine q0 142 983 4 rfl rfl (T_pick_t rfl rfl rfl g27) rfl ?_
         refine q0 8 999 5 rfl rfl (T_assign rfl rfl) rfl ?_
         refine k_done rfl ?_
         refine thenK_n ?_
         refine W_ret ?_
         exact .mk [] (.inr rfl) (.tmp rfl (.nil)) (by simp only [resLV, LV.ren, LV.v.injEq, Value.bool.injEq]; have et : p.take j = p := List.take_of_length_le (by omega); rw [et] at h11 hJ; have e1 : b.ins = instrs f p := ext_getD (by omega) (fun m hm => hJ.2.2.1 m (by omega)); have hc : chainB f p = true := range_all_true (fun i hi => hJ.2.2.2 i (by omega) (by omega)); first | (exfalso; omega) | (rw [made_tail hc e1 h13 h15]; clear hJ hps hb hp hc et h11 h13 h15 e1; simp only [blk, lastOf, cmpB]; simp [-List.getD_eq_getElem?_getD, -Int.default_eq_zero, -Int.pred_toNat, *]) | exact (made_fin h13).symm | exact (made_v h15).symm) (.nil) rfl
        ·have h27 := c_eql_f g27
         refine k_no (d := 141) (j' := 3) rfl rfl rfl (g_tf rfl rfl rfl g27) ?_
         refine q0 142 983 4 rfl rfl (T_pick_f rfl rfl rfl g27) rfl ?_
         refine q0 8 999 5 rfl rfl (T_assign rfl rfl) rfl ?_
         refine k_done rfl ?_
         refine thenK_n ?_
         refine W_ret ?_
         exact .mk [] (.inr rfl) (.tmp rfl (.nil)) (by simp only [resLV, LV.ren, LV.v.injEq, Value.bool.injEq]; have et : p.take j = p := List.take_of_length_le (by omega); rw [et] at h11 hJ; have e1 : b.ins = instrs f p := ext_getD (by omega) (fun m hm => hJ.2.2.1 m (by omega)); have hc : chainB f p = true := range_all_true (fun i hi => hJ.2.2.2 i (by omega) (by omega)); first | (exfalso; omega) | (rw [made_tail hc e1 h13 h15]; clear hJ hps hb hp hc et h11 h13 h15 e1; simp only [blk, lastOf, cmpB]; simp [-List.getD_eq_getElem?_getD, -Int.default_eq_zero, -Int.pred_toNat, *]) | exact (made_fin h13).symm | exact (made_v h15).symm) (.nil) rfl
end Lg
end Go.Proofs.Ytpfhmodjjljpjaa

namespace Go.Proofs.Ytpfhmodjjljpjaa
open Go.RowKit
namespace Lg
set_option maxRecDepth 100000
set_option linter.unusedVariables false
set_option linter.unusedSimpArgs false
theorem body33 : (Try.prog.funcs[33]?).map (fun fn => (fn.name == "runtime.NumGoroutine" || fn.body.isNone)) = some false := by kernel_rfl
theorem rcheck_spec (f g : GFn) (ps : List (List Int)) (hl : ps.length ≤ 1000000000) (hpl : ∀ p ∈ ps, p.length ≤ 1000000000) (hgi : ∀ b ∈ g.blocks, b.ins.length ≤ 1000000) (hI : ∀ p ∈ ps, ∀ j, (instrs f (p.take j)).length ≤ 1000000000) : Spec Try.prog 33 [.agg [.v (.int .i64 f.regs), .r 1], .agg [.v (.int .i64 g.regs), .r 2], .r 3] 4 [(1, .fz 5 (f.blocks.map eBlock)), (2, .fz 5 (g.blocks.map eBlock)), (3, .fz 1 (ps.map eIs))] (.v (.bool (tcheck f g ps))) 4 [] := by
 refine spec_of D (fn := Try.f33) rfl rfl (Nat.le_of_ble_eq_true rfl) ?_
 refine W_seq ?_
 refine W_seqK (b' := 52) rfl rfl ?_
 refine q1 3 4 1 rfl rfl (T_box rfl rfl flat_agg) rfl ?_
 refine q1 4 20 2 rfl rfl (T_box rfl rfl flat_agg) rfl ?_
 refine q0 6 36 3 rfl rfl (T_assign rfl rfl) rfl ?_
 refine k_done rfl ?_
 refine thenK_n ?_
 refine W_seq ?_
 refine W_seq ?_
 refine W_seqK (b' := 340) rfl rfl ?_
 refine q0 10 52 1 rfl rfl (T_move rfl rfl) rfl ?_
 refine q0 11 68 2 rfl rfl (T_len D rfl rfl rfl rfl rfl rfl) rfl ?_
 refine q0 12 84 3 rfl rfl (T_fa D (m := 1) rfl rfl rfl rfl rfl rfl) rfl ?_
 refine q0 13 100 4 rfl rfl (T_load_b D rfl rfl rfl rfl rfl rfl) rfl ?_
 refine q0 14 116 5 rfl rfl (T_len D rfl rfl rfl rfl rfl rfl) rfl ?_
 refine q0 15 132 6 rfl rfl (T_cmp rfl rfl rfl rfl) rfl ?_
 refine q0 16 148 7 rfl rfl (T_move rfl rfl) rfl ?_
 refine k_split (d := 16) rfl (fun g1 => ?_) (fun g1 => ?_)
 ·have h1 := g1; (try simp only [cmpB, decide_eq_true_eq, decide_eq_false_iff_not, beq_iff_eq, beq_eq_false_iff_ne, bne_iff_ne, ne_eq, bne_eq_false_iff_eq, Bool.not_eq_true', Bool.not_eq_false', Int.not_lt, Int.not_le] at h1)
  refine k_no (d := 17) (j' := 8) rfl rfl rfl (g_ft rfl rfl rfl g1) ?_
  refine k_no (d := 18) (j' := 9) rfl rfl rfl (g_ft rfl rfl rfl g1) ?_
  refine k_no (d := 19) (j' := 10) rfl rfl rfl (g_ft rfl rfl rfl g1) ?_
  refine q0 20 212 11 rfl rfl (T_pick_t rfl rfl rfl g1) rfl ?_
  refine q0 21 228 12 rfl rfl (T_move rfl rfl) rfl ?_
  refine k_no (d := 22) (j' := 13) rfl rfl rfl (g_ft rfl rfl rfl rfl) ?_
  refine k_no (d := 23) (j' := 14) rfl rfl rfl (g_ft rfl rfl rfl rfl) ?_
  refine k_no (d := 24) (j' := 15) rfl rfl rfl (g_ft rfl rfl rfl rfl) ?_
  refine k_no (d := 25) (j' := 16) rfl rfl rfl (g_ft rfl rfl rfl rfl) ?_
  refine k_no (d := 26) (j' := 17) rfl rfl rfl (g_ft rfl rfl rfl rfl) ?_
  refine q0 27 324 18 rfl rfl (T_pick_t rfl rfl rfl rfl) rfl ?_
  refine k_done rfl ?_
  refine thenK_n ?_
  refine W_cond rfl (fun g2 => ?_) (fun g2 => ?_)
  ·skip
   refine W_seq ?_
   refine W_seqK (b' := 356) rfl rfl ?_
   refine q0 6 340 1 rfl rfl (T_assign rfl rfl) rfl ?_
   refine k_done rfl ?_
   refine thenK_n ?_
   refine W_ret ?_
   refine thenK_r ?_
   exact .mk [] (.inr rfl) (.tmp rfl (.nil)) (by simp only [resLV, LV.ren, LV.v.injEq, Value.bool.injEq]; rw [tcheck, if_pos (by omega)]) (.nil) rfl
  ·exact absurd (g2.symm.trans rfl) (by decide)
 ·have h1 := g1; (try simp only [cmpB, decide_eq_true_eq, decide_eq_false_iff_not, beq_iff_eq, beq_eq_false_iff_ne, bne_iff_ne, ne_eq, bne_eq_false_iff_eq, Bool.not_eq_true', Bool.not_eq_false', Int.not_lt, Int.not_le] at h1)
  refine k_op0 (d := 17) (b := 164) (j' := 8) rfl rfl rfl rfl (g_ff rfl rfl rfl g1) (T_move rfl rfl) rfl ?_
  refine k_op0 (d := 18) (b := 180) (j' := 9) rfl rfl rfl rfl (g_ff rfl rfl rfl g1) (T_len D rfl rfl rfl rfl rfl rfl) rfl ?_
  refine k_op0 (d := 19) (b := 196) (j' := 10) rfl rfl rfl rfl (g_ff rfl rfl rfl g1) (T_cmp rfl rfl rfl rfl) rfl ?_
  refine q0 20 212 11 rfl rfl (T_pick_f rfl rfl rfl g1) rfl ?_
  refine q0 21 228 12 rfl rfl (T_move rfl rfl) rfl ?_
  refine k_split (d := 21) rfl (fun g3 => ?_) (fun g3 => ?_)
  ·have h3 := g3; (try simp only [cmpB, decide_eq_true_eq, decide_eq_false_iff_not, beq_iff_eq, beq_eq_false_iff_ne, bne_iff_ne, ne_eq, bne_eq_false_iff_eq, Bool.not_eq_true', Bool.not_eq_false', Int.not_lt, Int.not_le] at h3)
   refine k_no (d := 22) (j' := 13) rfl rfl rfl (g_ft rfl rfl rfl g3) ?_
   refine k_no (d := 23) (j' := 14) rfl rfl rfl (g_ft rfl rfl rfl g3) ?_
   refine k_no (d := 24) (j' := 15) rfl rfl rfl (g_ft rfl rfl rfl g3) ?_
   refine k_no (d := 25) (j' := 16) rfl rfl rfl (g_ft rfl rfl rfl g3) ?_
   refine k_no (d := 26) (j' := 17) rfl rfl rfl (g_ft rfl rfl rfl g3) ?_
   refine q0 27 324 18 rfl rfl (T_pick_t rfl rfl rfl g3) rfl ?_
   refine k_done rfl ?_
   refine thenK_n ?_
   refine W_cond rfl (fun g4 => ?_) (fun g4 => ?_)
   ·skip
    refine W_seq ?_
    refine W_seqK (b' := 356) rfl rfl ?_
    refine q0 6 340 1 rfl rfl (T_assign rfl rfl) rfl ?_
    refine k_done rfl ?_
    refine thenK_n ?_
    refine W_ret ?_
    refine thenK_r ?_
    exact .mk [] (.inr rfl) (.tmp rfl (.nil)) (by simp only [resLV, LV.ren, LV.v.injEq, Value.bool.injEq]; rw [tcheck, if_pos (by omega)]) (.nil) rfl
   ·exact absurd (g4.symm.trans rfl) (by decide)
  ·have h3 := g3; (try simp only [cmpB, decide_eq_true_eq, decide_eq_false_iff_not, beq_iff_eq, beq_eq_false_iff_ne, bne_iff_ne, ne_eq, bne_eq_false_iff_eq, Bool.not_eq_true', Bool.not_eq_false', Int.not_lt, Int.not_le] at h3)
   refine k_op0 (d := 22) (b := 244) (j' := 13) rfl rfl rfl rfl (g_ff rfl rfl rfl g3) (T_fa D (m := 0) rfl rfl rfl rfl rfl rfl) rfl ?_
   refine k_op0 (d := 23) (b := 260) (j' := 14) rfl rfl rfl rfl (g_ff rfl rfl rfl g3) (T_load_b D rfl rfl rfl rfl rfl rfl) rfl ?_
   refine k_op0 (d := 24) (b := 276) (j' := 15) rfl rfl rfl rfl (g_ff rfl rfl rfl g3) (T_fa D (m := 0) rfl rfl rfl rfl rfl rfl) rfl ?_
   refine k_op0 (d := 25) (b := 292) (j' := 16) rfl rfl rfl rfl (g_ff rfl rfl rfl g3) (T_load_b D rfl rfl rfl rfl rfl rfl) rfl ?_
   refine k_op0 (d := 26) (b := 308) (j' := 17) rfl rfl rfl rfl (g_ff rfl rfl rfl g3) (T_cmp rfl rfl rfl rfl) rfl ?_
   refine q0 27 324 18 rfl rfl (T_pick_f rfl rfl rfl g3) rfl ?_
   refine k_done rfl ?_
   refine thenK_n ?_
   refine W_cond rfl (fun g5 => ?_) (fun g5 => ?_)
   ·have h5 := g5; (try simp only [cmpB, decide_eq_true_eq, decide_eq_false_iff_not, beq_iff_eq, beq_eq_false_iff_ne, bne_iff_ne, ne_eq, bne_eq_false_iff_eq, Bool.not_eq_true', Bool.not_eq_false', Int.not_lt, Int.not_le] at h5)
    refine W_seq ?_
    refine W_seqK (b' := 356) rfl rfl ?_
    refine q0 6 340 1 rfl rfl (T_assign rfl rfl) rfl ?_
    refine k_done rfl ?_
    refine thenK_n ?_
    refine W_ret ?_
    refine thenK_r ?_
    exact .mk [] (.inr rfl) (.tmp rfl (.nil)) (by simp only [resLV, LV.ren, LV.v.injEq, Value.bool.injEq]; rw [tcheck, if_pos (by omega)]) (.nil) rfl
   ·have h5 := g5; (try simp only [cmpB, decide_eq_true_eq, decide_eq_false_iff_not, beq_iff_eq, beq_eq_false_iff_ne, bne_iff_ne, ne_eq, bne_eq_false_iff_eq, Bool.not_eq_true', Bool.not_eq_false', Int.not_lt, Int.not_le] at h5)
    refine W_skip ?_
    refine thenK_n ?_
    refine W_seq ?_
    refine W_seq ?_
    refine W_seqK (b' := 356) rfl rfl ?_
    refine q0 7 340 1 rfl rfl (T_assign rfl rfl) rfl ?_
    refine k_done rfl ?_
    refine thenK_n ?_
    refine W_block ?_
    refine W_loop (ι := Nat) 6 (fun j => ⟨[(2, .r 3), (3, .p 4 0), (4, .p 5 0), (7, .v (.int .i64 (j : Int)))], [(1, .fz 5 (f.blocks.map eBlock)), (2, .fz 5 (g.blocks.map eBlock)), (3, .fz 1 (ps.map eIs)), (4, .box 29 [.v (.int .i64 f.regs), .r 1]), (5, .box 29 [.v (.int .i64 g.regs), .r 2])]⟩) (fun j => j ≤ ps.length ∧ ∀ i, i < j → okPath f (ps.getD i default) = true) (fun j => ps.length - j) (0) (by exact ⟨Nat.zero_le _, fun i h => absurd h (Nat.not_lt_zero _)⟩) ?_ (fun j hJ => ?_)
    ·exact ⟨[(4, 4), (5, 20)], .same rfl rfl (.same rfl rfl (.same rfl rfl (.eq rfl (.nil) (by first | rfl | simp)))), .fzE rfl (.fzE rfl (.fzE rfl (.box (by first | rfl | simp) (.box (by first | rfl | simp) (.nil))) (by first | rfl | simp)) (by first | rfl | simp)) (by first | rfl | simp), rfl⟩
    have hpj := fun h => hpl (ps.getD j default) (getD_mem h)
    refine W_seq ?_
    refine W_seq ?_
    refine W_seqK (b' := 70) rfl rfl ?_
    refine q0 28 6 1 rfl rfl (T_move rfl rfl) rfl ?_
    refine q0 29 22 2 rfl rfl (T_move rfl rfl) rfl ?_
    refine q0 30 38 3 rfl rfl (T_len D rfl rfl rfl rfl rfl rfl) rfl ?_
    refine q0 31 54 4 rfl rfl (T_cmp rfl rfl rfl rfl) rfl ?_
    refine k_done rfl ?_
    refine thenK_n ?_
    refine W_cond rfl (fun g6 => ?_) (fun g6 => ?_)
    ·have h6 := g6; (try simp only [cmpB, decide_eq_true_eq, decide_eq_false_iff_not, beq_iff_eq, beq_eq_false_iff_ne, bne_iff_ne, ne_eq, bne_eq_false_iff_eq, Bool.not_eq_true', Bool.not_eq_false', Int.not_lt, Int.not_le] at h6)
     refine W_skip ?_
     refine thenK_n ?_
     refine W_seq ?_
     refine W_block ?_
     refine W_seq ?_
     refine W_seq ?_
     refine W_seqK (b' := 166) rfl rfl ?_
     refine q0 34 70 1 rfl rfl (T_move rfl rfl) rfl ?_
     refine q0 35 86 2 rfl rfl (T_move rfl rfl) rfl ?_
     first | refine q0 36 102 3 rfl rfl (T_indexAddr D rfl rfl rfl rfl rfl rfl rfl rfl (by first | assumption | omega | exact okPath_len (hJ.2 0 (by omega)) | (simp; omega))) rfl ?_ | refine q0 36 102 3 rfl rfl (T_indexAddrZ D rfl rfl rfl rfl rfl rfl rfl rfl (by first | assumption | omega | exact okPath_len (hJ.2 0 (by omega)) | (simp; omega)) (by first | assumption | omega | exact okPath_len (hJ.2 0 (by omega)) | (simp; omega))) rfl ?_
     refine q1 37 118 4 rfl rfl (T_ldE D (lv := .r 118) (nn := 1) (upd := [(118, .fz 1 _)]) rfl rfl rfl rfl rfl (by first | assumption | omega | exact okPath_len (hJ.2 0 (by omega)) | (simp; omega)) rfl rfl rfl rfl) rfl ?_
     refine q0 38 134 5 rfl rfl (T_len D rfl rfl rfl rfl rfl rfl) rfl ?_
     refine q0 39 150 6 rfl rfl (T_cmp rfl rfl rfl rfl) rfl ?_
     refine k_done rfl ?_
     refine thenK_n ?_
     refine W_cond rfl (fun g7 => ?_) (fun g7 => ?_)
     ·have h7 := g7; (try simp only [cmpB, decide_eq_true_eq, decide_eq_false_iff_not, beq_iff_eq, beq_eq_false_iff_ne, bne_iff_ne, ne_eq, bne_eq_false_iff_eq, Bool.not_eq_true', Bool.not_eq_false', Int.not_lt, Int.not_le] at h7)
      refine W_seq ?_
      refine W_seqK (b' := 182) rfl rfl ?_
      refine q0 6 166 1 rfl rfl (T_assign rfl rfl) rfl ?_
      refine k_done rfl ?_
      refine thenK_n ?_
      refine W_ret ?_
      refine thenK_r ?_
      refine blockK_r ?_
      refine thenK_r ?_
      refine thenK_r ?_
      refine blockK_r ?_
      refine thenK_r ?_
      exact .mk [] (.inr rfl) (.tmp rfl (.nil)) (by simp only [resLV, LV.ren, LV.v.injEq, Value.bool.injEq]; rw [tcheck, if_neg (by omega), if_pos (all_false_at (i := j) (by omega) (by simp only [okPath, decide_eq_true (p := (ps.getD j default).length = 0) (by omega)]; rfl))]) (.nil) rfl
     ·have h7 := g7; (try simp only [cmpB, decide_eq_true_eq, decide_eq_false_iff_not, beq_iff_eq, beq_eq_false_iff_ne, bne_iff_ne, ne_eq, bne_eq_false_iff_eq, Bool.not_eq_true', Bool.not_eq_false', Int.not_lt, Int.not_le] at h7)
      refine W_skip ?_
      refine thenK_n ?_
      refine W_seq ?_
      refine W_seqK (b' := 182) rfl rfl ?_
      refine q0 8 166 1 rfl rfl (T_assign rfl rfl) rfl ?_
      refine k_done rfl ?_
      refine thenK_n ?_
      refine W_block ?_
      have hpj := hpl (ps.getD j default) (getD_mem (by omega))
      refine W_loop (ι := Nat) 6 (fun i => ⟨[(2, .r 3), (3, .p 4 0), (4, .p 5 0), (7, .v (.int .i64 (j : Int))), (8, .v (.int .i64 (i : Int)))], [(1, .fz 5 (f.blocks.map eBlock)), (2, .fz 5 (g.blocks.map eBlock)), (3, .fz 1 (ps.map eIs)), (4, .box 29 [.v (.int .i64 f.regs), .r 1]), (5, .box 29 [.v (.int .i64 g.regs), .r 2])]⟩) (fun i => i ≤ (ps.getD j default).length ∧ ∀ m, m < i → outside f ((ps.getD j default).getD m default) = false) (fun i => (ps.getD j default).length - i) (0) (by exact ⟨Nat.zero_le _, fun m h => absurd h (Nat.not_lt_zero _)⟩) ?_ (fun i hI => ?_)
      ·exact ⟨[(4, 4), (5, 5)], .same rfl rfl (.same rfl rfl (.same rfl rfl (.eq rfl (.eq rfl (.nil) (by first | rfl | simp)) (by first | rfl | simp)))), .fzE rfl (.fzE rfl (.fzE rfl (.box (by first | rfl | simp) (.box (by first | rfl | simp) (.nil))) (by first | rfl | simp)) (by first | rfl | simp)) (by first | rfl | simp), rfl⟩
      refine W_seq ?_
      refine W_seq ?_
      refine W_seqK (b' := 118) rfl rfl ?_
      refine q0 40 6 1 rfl rfl (T_move rfl rfl) rfl ?_
      refine q0 41 22 2 rfl rfl (T_move rfl rfl) rfl ?_
      refine q0 42 38 3 rfl rfl (T_move rfl rfl) rfl ?_
      first | refine q0 43 54 4 rfl rfl (T_indexAddr D rfl rfl rfl rfl rfl rfl rfl rfl (by first | assumption | omega | exact okPath_len (hJ.2 0 (by omega)) | (simp; omega))) rfl ?_ | refine q0 43 54 4 rfl rfl (T_indexAddrZ D rfl rfl rfl rfl rfl rfl rfl rfl (by first | assumption | omega | exact okPath_len (hJ.2 0 (by omega)) | (simp; omega)) (by first | assumption | omega | exact okPath_len (hJ.2 0 (by omega)) | (simp; omega))) rfl ?_
      refine q1 44 70 5 rfl rfl (T_ldE D (lv := .r 70) (nn := 1) (upd := [(70, .fz 1 _)]) rfl rfl rfl rfl rfl (by first | assumption | omega | exact okPath_len (hJ.2 0 (by omega)) | (simp; omega)) rfl rfl rfl rfl) rfl ?_
      refine q0 45 86 6 rfl rfl (T_len D rfl rfl rfl rfl rfl rfl) rfl ?_
      refine q0 46 102 7 rfl rfl (T_cmp rfl rfl rfl rfl) rfl ?_
      refine k_done rfl ?_
      refine thenK_n ?_
      refine W_cond rfl (fun g8 => ?_) (fun g8 => ?_)
      ·have h8 := g8; (try simp only [cmpB, decide_eq_true_eq, decide_eq_false_iff_not, beq_iff_eq, beq_eq_false_iff_ne, bne_iff_ne, ne_eq, bne_eq_false_iff_eq, Bool.not_eq_true', Bool.not_eq_false', Int.not_lt, Int.not_le] at h8)
       refine W_skip ?_
       refine thenK_n ?_
       refine W_seq ?_
       refine W_block ?_
       refine W_seq ?_
       refine W_anyK (b' := 454) rfl rfl rfl ?_
       refine q0 49 118 1 rfl rfl (T_move rfl rfl) rfl ?_
       refine q0 50 134 2 rfl rfl (T_move rfl rfl) rfl ?_
       first | refine q0 51 150 3 rfl rfl (T_indexAddr D rfl rfl rfl rfl rfl rfl rfl rfl (by first | assumption | omega | exact okPath_len (hJ.2 0 (by omega)) | (simp; omega))) rfl ?_ | refine q0 51 150 3 rfl rfl (T_indexAddrZ D rfl rfl rfl rfl rfl rfl rfl rfl (by first | assumption | omega | exact okPath_len (hJ.2 0 (by omega)) | (simp; omega)) (by first | assumption | omega | exact okPath_len (hJ.2 0 (by omega)) | (simp; omega))) rfl ?_
       refine q1 52 166 4 rfl rfl (T_ldE D (lv := .r 166) (nn := 1) (upd := [(166, .fz 1 _)]) rfl rfl rfl rfl rfl (by first | assumption | omega | exact okPath_len (hJ.2 0 (by omega)) | (simp; omega)) rfl rfl rfl rfl) rfl ?_
       refine q0 53 182 5 rfl rfl (T_move rfl rfl) rfl ?_
       first | refine q0 54 198 6 rfl rfl (T_indexAddr D rfl rfl rfl rfl rfl rfl rfl rfl (by first | assumption | omega | exact okPath_len (hJ.2 0 (by omega)) | (simp; omega))) rfl ?_ | refine q0 54 198 6 rfl rfl (T_indexAddrZ D rfl rfl rfl rfl rfl rfl rfl rfl (by first | assumption | omega | exact okPath_len (hJ.2 0 (by omega)) | (simp; omega)) (by first | assumption | omega | exact okPath_len (hJ.2 0 (by omega)) | (simp; omega))) rfl ?_
       refine q0 55 214 7 rfl rfl (T_ldE D (lv := .v _) (nn := 0) (upd := []) rfl rfl rfl rfl rfl (by first | assumption | omega | exact okPath_len (hJ.2 0 (by omega)) | (simp; omega)) rfl rfl rfl rfl) rfl ?_
       refine q0 56 230 8 rfl rfl (T_cmp rfl rfl rfl rfl) rfl ?_
       refine q0 57 246 9 rfl rfl (T_move rfl rfl) rfl ?_
       refine k_split (d := 57) rfl (fun g9 => ?_) (fun g9 => ?_)
       ·have h9 := g9; (try simp only [cmpB, decide_eq_true_eq, decide_eq_false_iff_not, beq_iff_eq, beq_eq_false_iff_ne, bne_iff_ne, ne_eq, bne_eq_false_iff_eq, Bool.not_eq_true', Bool.not_eq_false', Int.not_lt, Int.not_le] at h9)
        refine k_no (d := 58) (j' := 10) rfl rfl rfl (g_ft rfl rfl rfl g9) ?_
        refine k_no (d := 59) (j' := 11) rfl rfl rfl (g_ft rfl rfl rfl g9) ?_
        refine k_no (d := 60) (j' := 12) rfl rfl rfl (g_ft rfl rfl rfl g9) ?_
        refine k_no (d := 61) (j' := 13) rfl rfl rfl (g_ft rfl rfl rfl g9) ?_
        refine k_no (d := 62) (j' := 14) rfl rfl rfl (g_ft rfl rfl rfl g9) ?_
        refine k_no (d := 63) (j' := 15) rfl rfl rfl (g_ft rfl rfl rfl g9) ?_
        refine k_no (d := 64) (j' := 16) rfl rfl rfl (g_ft rfl rfl rfl g9) ?_
        refine k_no (d := 65) (j' := 17) rfl rfl rfl (g_ft rfl rfl rfl g9) ?_
        refine k_no (d := 66) (j' := 18) rfl rfl rfl (g_ft rfl rfl rfl g9) ?_
        refine k_no (d := 67) (j' := 19) rfl rfl rfl (g_ft rfl rfl rfl g9) ?_
        refine k_no (d := 68) (j' := 20) rfl rfl rfl (g_ft rfl rfl rfl g9) ?_
        refine q0 69 438 21 rfl rfl (T_pick_t rfl rfl rfl g9) rfl ?_
        refine k_done rfl ?_
        refine ⟨rfl, ?_⟩
        refine thenK_n ?_
        refine W_cond rfl (fun g10 => ?_) (fun g10 => ?_)
        ·skip
         refine W_seq ?_
         refine W_seqK (b' := 470) rfl rfl ?_
         refine q0 6 454 1 rfl rfl (T_assign rfl rfl) rfl ?_
         refine k_done rfl ?_
         refine thenK_n ?_
         refine W_ret ?_
         refine blockK_r ?_
         refine thenK_r ?_
         refine thenK_r ?_
         refine blockK_r ?_
         refine blockK_r ?_
         refine thenK_r ?_
         refine thenK_r ?_
         refine blockK_r ?_
         refine thenK_r ?_
         exact .mk [] (.inr rfl) (.tmp rfl (.nil)) (by simp only [resLV, LV.ren, LV.v.injEq, Value.bool.injEq]; rw [tcheck, if_neg (by omega), if_pos (all_false_at (i := j) (by omega) (by rw [okPath, any_true_getD (i := i) (by omega) (by simp only [outside, Bool.or_eq_true, decide_eq_true_eq]; omega)]; simp))]) (.nil) rfl
        ·exact absurd (g10.symm.trans rfl) (by decide)
       ·have h9 := g9; (try simp only [cmpB, decide_eq_true_eq, decide_eq_false_iff_not, beq_iff_eq, beq_eq_false_iff_ne, bne_iff_ne, ne_eq, bne_eq_false_iff_eq, Bool.not_eq_true', Bool.not_eq_false', Int.not_lt, Int.not_le] at h9)
        refine k_op0 (d := 58) (b := 262) (j' := 10) rfl rfl rfl rfl (g_ff rfl rfl rfl g9) (T_move rfl rfl) rfl ?_
        refine k_op0 (d := 59) (b := 278) (j' := 11) rfl rfl rfl rfl (g_ff rfl rfl rfl g9) (T_move rfl rfl) rfl ?_
        first | refine k_op0 (d := 60) (b := 294) (j' := 12) rfl rfl rfl rfl (g_ff rfl rfl rfl g9) (T_indexAddr D rfl rfl rfl rfl rfl rfl rfl rfl (by first | assumption | omega | exact okPath_len (hJ.2 0 (by omega)) | (simp; omega))) rfl ?_ | refine k_op0 (d := 60) (b := 294) (j' := 12) rfl rfl rfl rfl (g_ff rfl rfl rfl g9) (T_indexAddrZ D rfl rfl rfl rfl rfl rfl rfl rfl (by first | assumption | omega | exact okPath_len (hJ.2 0 (by omega)) | (simp; omega)) (by first | assumption | omega | exact okPath_len (hJ.2 0 (by omega)) | (simp; omega))) rfl ?_
        refine k_op1 (d := 61) (b := 310) (j' := 13) rfl rfl rfl rfl (g_ff rfl rfl rfl g9) (T_ldE D (lv := .r 310) (nn := 1) (upd := [(310, .fz 1 _)]) rfl rfl rfl rfl rfl (by first | assumption | omega | exact okPath_len (hJ.2 0 (by omega)) | (simp; omega)) rfl rfl rfl rfl) rfl ?_
        refine k_op0 (d := 62) (b := 326) (j' := 14) rfl rfl rfl rfl (g_ff rfl rfl rfl g9) (T_move rfl rfl) rfl ?_
        first | refine k_op0 (d := 63) (b := 342) (j' := 15) rfl rfl rfl rfl (g_ff rfl rfl rfl g9) (T_indexAddr D rfl rfl rfl rfl rfl rfl rfl rfl (by first | assumption | omega | exact okPath_len (hJ.2 0 (by omega)) | (simp; omega))) rfl ?_ | refine k_op0 (d := 63) (b := 342) (j' := 15) rfl rfl rfl rfl (g_ff rfl rfl rfl g9) (T_indexAddrZ D rfl rfl rfl rfl rfl rfl rfl rfl (by first | assumption | omega | exact okPath_len (hJ.2 0 (by omega)) | (simp; omega)) (by first | assumption | omega | exact okPath_len (hJ.2 0 (by omega)) | (simp; omega))) rfl ?_
        refine k_op0 (d := 64) (b := 358) (j' := 16) rfl rfl rfl rfl (g_ff rfl rfl rfl g9) (T_ldE D (lv := .v _) (nn := 0) (upd := []) rfl rfl rfl rfl rfl (by first | assumption | omega | exact okPath_len (hJ.2 0 (by omega)) | (simp; omega)) rfl rfl rfl rfl) rfl ?_
        refine k_op0 (d := 65) (b := 374) (j' := 17) rfl rfl rfl rfl (g_ff rfl rfl rfl g9) (T_fa D (m := 1) rfl rfl rfl rfl rfl rfl) rfl ?_
        refine k_op0 (d := 66) (b := 390) (j' := 18) rfl rfl rfl rfl (g_ff rfl rfl rfl g9) (T_load_b D rfl rfl rfl rfl rfl rfl) rfl ?_
        refine k_op0 (d := 67) (b := 406) (j' := 19) rfl rfl rfl rfl (g_ff rfl rfl rfl g9) (T_len D rfl rfl rfl rfl rfl rfl) rfl ?_
        refine k_op0 (d := 68) (b := 422) (j' := 20) rfl rfl rfl rfl (g_ff rfl rfl rfl g9) (T_cmp rfl rfl rfl rfl) rfl ?_
        refine q0 69 438 21 rfl rfl (T_pick_f rfl rfl rfl g9) rfl ?_
        refine k_done rfl ?_
        refine ⟨rfl, ?_⟩
        refine thenK_n ?_
        refine W_cond rfl (fun g11 => ?_) (fun g11 => ?_)
        ·have h11 := g11; (try simp only [cmpB, decide_eq_true_eq, decide_eq_false_iff_not, beq_iff_eq, beq_eq_false_iff_ne, bne_iff_ne, ne_eq, bne_eq_false_iff_eq, Bool.not_eq_true', Bool.not_eq_false', Int.not_lt, Int.not_le] at h11)
         refine W_seq ?_
         refine W_seqK (b' := 470) rfl rfl ?_
         refine q0 6 454 1 rfl rfl (T_assign rfl rfl) rfl ?_
         refine k_done rfl ?_
         refine thenK_n ?_
         refine W_ret ?_
         refine blockK_r ?_
         refine thenK_r ?_
         refine thenK_r ?_
         refine blockK_r ?_
         refine blockK_r ?_
         refine thenK_r ?_
         refine thenK_r ?_
         refine blockK_r ?_
         refine thenK_r ?_
         exact .mk [] (.inr rfl) (.tmp rfl (.nil)) (by simp only [resLV, LV.ren, LV.v.injEq, Value.bool.injEq]; rw [tcheck, if_neg (by omega), if_pos (all_false_at (i := j) (by omega) (by rw [okPath, any_true_getD (i := i) (by omega) (by simp only [outside, Bool.or_eq_true, decide_eq_true_eq]; omega)]; simp))]) (.nil) rfl
        ·have h11 := g11; (try simp only [cmpB, decide_eq_true_eq, decide_eq_false_iff_not, beq_iff_eq, beq_eq_false_iff_ne, bne_iff_ne, ne_eq, bne_eq_false_iff_eq, Bool.not_eq_true', Bool.not_eq_false', Int.not_lt, Int.not_le] at h11)
         refine W_skip ?_
         refine blockK_n ?_
         refine thenK_n ?_
         refine W_seqK (b' := 502) rfl rfl ?_
         refine q0 47 454 1 rfl rfl (T_move rfl rfl) rfl ?_
         refine q0 48 470 2 rfl rfl (T_add64 rfl rfl rfl (by first | assumption | omega | exact okPath_len (hJ.2 0 (by omega)) | (simp; omega))) rfl ?_
         refine q0 8 486 3 rfl rfl (T_assign rfl rfl) rfl ?_
         refine k_done rfl ?_
         refine thenK_n ?_
         refine ⟨i + 1, by (try dsimp only); exact ⟨by omega, fun m hm => by rcases Nat.lt_or_ge m i with h | h; exact hI.2 m h; rw [show m = i by omega]; unfold outside; rw [decide_eq_false (by omega), decide_eq_false (by omega)]; rfl⟩, by (try dsimp only); omega, ?_⟩
         exact ⟨[(4, 4), (5, 5)], .same rfl rfl (.same rfl rfl (.same rfl rfl (.eq rfl (.eq rfl (.nil) (by first | rfl | simp)) rfl))), .fzE rfl (.fzE rfl (.fzE rfl (.box (by first | rfl | simp) (.box (by first | rfl | simp) (.nil))) rfl) rfl) rfl, rfl⟩
      ·have h8 := g8; (try simp only [cmpB, decide_eq_true_eq, decide_eq_false_iff_not, beq_iff_eq, beq_eq_false_iff_ne, bne_iff_ne, ne_eq, bne_eq_false_iff_eq, Bool.not_eq_true', Bool.not_eq_false', Int.not_lt, Int.not_le] at h8)
       refine W_exit ?_
       refine thenK_e ?_
       refine thenK_e ?_
       refine blockK_hit ?_
       refine blockK_n ?_
       refine thenK_n ?_
       refine W_seqK (b' := 166) rfl rfl ?_
       refine q0 32 118 1 rfl rfl (T_move rfl rfl) rfl ?_
       refine q0 33 134 2 rfl rfl (T_add64 rfl rfl rfl (by first | assumption | omega | exact okPath_len (hJ.2 0 (by omega)) | (simp; omega))) rfl ?_
       refine q0 7 150 3 rfl rfl (T_assign rfl rfl) rfl ?_
       refine k_done rfl ?_
       refine thenK_n ?_
       refine ⟨j + 1, by (try dsimp only); exact ⟨by omega, fun i1 hi => by rcases Nat.lt_or_ge i1 j with h | h; exact hJ.2 i1 h; rw [show i1 = j by omega]; exact okPath_t (by omega) (any_false_getD (fun m hm => hI.2 m (by omega)))⟩, by (try dsimp only); omega, ?_⟩
       exact ⟨[(4, 4), (5, 5)], .same rfl rfl (.same rfl rfl (.same rfl rfl (.eq rfl (.nil) (by first | rfl | simp)))), .fzE rfl (.fzE rfl (.fzE rfl (.box (by first | rfl | simp) (.box (by first | rfl | simp) (.nil))) rfl) rfl) rfl, rfl⟩
    ·have h6 := g6; (try simp only [cmpB, decide_eq_true_eq, decide_eq_false_iff_not, beq_iff_eq, beq_eq_false_iff_ne, bne_iff_ne, ne_eq, bne_eq_false_iff_eq, Bool.not_eq_true', Bool.not_eq_false', Int.not_lt, Int.not_le] at h6)
     refine W_exit ?_
     refine thenK_e ?_
     refine thenK_e ?_
     refine blockK_hit ?_
     refine thenK_n ?_
     refine W_seq ?_
     refine W_seq ?_
     refine W_seqK (b' := 166) rfl rfl ?_
     refine q0 70 70 1 rfl rfl (T_move rfl rfl) rfl ?_
     first | refine q0 71 86 2 rfl rfl (T_indexAddr D rfl rfl rfl rfl rfl rfl rfl rfl (by first | assumption | omega | exact okPath_len (hJ.2 0 (by omega)) | (simp; omega))) rfl ?_ | refine q0 71 86 2 rfl rfl (T_indexAddrZ D rfl rfl rfl rfl rfl rfl rfl rfl (by first | assumption | omega | exact okPath_len (hJ.2 0 (by omega)) | (simp; omega)) (by first | assumption | omega | exact okPath_len (hJ.2 0 (by omega)) | (simp; omega))) rfl ?_
     refine q1 72 102 3 rfl rfl (T_ldE D (lv := .r 102) (nn := 1) (upd := [(102, .fz 1 _)]) rfl rfl rfl rfl rfl (by first | assumption | omega | exact okPath_len (hJ.2 0 (by omega)) | (simp; omega)) rfl rfl rfl rfl) rfl ?_
     first | refine q0 73 118 4 rfl rfl (T_indexAddr D rfl rfl rfl rfl rfl rfl rfl rfl (by first | assumption | omega | exact okPath_len (hJ.2 0 (by omega)) | (simp; omega))) rfl ?_ | refine q0 73 118 4 rfl rfl (T_indexAddrZ D rfl rfl rfl rfl rfl rfl rfl rfl (by first | assumption | omega | exact okPath_len (hJ.2 0 (by omega)) | (simp; omega)) (by first | assumption | omega | exact okPath_len (hJ.2 0 (by omega)) | (simp; omega))) rfl ?_
     refine q0 74 134 5 rfl rfl (T_ldE D (lv := .v _) (nn := 0) (upd := []) rfl rfl rfl rfl rfl (by first | assumption | omega | exact okPath_len (hJ.2 0 (by omega)) | (simp; omega)) rfl rfl rfl rfl) rfl ?_
     refine q0 75 150 6 rfl rfl (T_cmp rfl rfl rfl rfl) rfl ?_
     refine k_done rfl ?_
     refine thenK_n ?_
     refine W_cond rfl (fun g12 => ?_) (fun g12 => ?_)
     ·have h12 := g12; (try simp only [cmpB, decide_eq_true_eq, decide_eq_false_iff_not, beq_iff_eq, beq_eq_false_iff_ne, bne_iff_ne, ne_eq, bne_eq_false_iff_eq, Bool.not_eq_true', Bool.not_eq_false', Int.not_lt, Int.not_le] at h12)
      refine W_seq ?_
      refine W_seqK (b' := 182) rfl rfl ?_
      refine q0 6 166 1 rfl rfl (T_assign rfl rfl) rfl ?_
      refine k_done rfl ?_
      refine thenK_n ?_
      refine W_ret ?_
      refine thenK_r ?_
      exact .mk [] (.inr rfl) (.tmp rfl (.nil)) (by simp only [resLV, LV.ren, LV.v.injEq, Value.bool.injEq]; rw [tcheck, if_neg (by omega), if_neg (by simp only [Bool.not_eq_false]; exact all_iff_getD.2 (fun i hi => hJ.2 i (by omega))), if_pos (by assumption)]) (.nil) rfl
     ·have h12 := g12; (try simp only [cmpB, decide_eq_true_eq, decide_eq_false_iff_not, beq_iff_eq, beq_eq_false_iff_ne, bne_iff_ne, ne_eq, bne_eq_false_iff_eq, Bool.not_eq_true', Bool.not_eq_false', Int.not_lt, Int.not_le] at h12)
      refine W_skip ?_
      refine thenK_n ?_
      refine W_seq ?_
      refine W_seq ?_
      refine W_seqK (b' := 182) rfl rfl ?_
      refine q0 9 166 1 rfl rfl (T_assign rfl rfl) rfl ?_
      refine k_done rfl ?_
      refine thenK_n ?_
      refine W_block ?_
      have ok1 : ∀ i, i < ps.length → okPath f (ps.getD i default) = true := fun i hi => hJ.2 i (by omega)
      have hall : ps.all (okPath f) = true := all_iff_getD.2 ok1
      have hps : ∀ q ∈ ps, 0 < q.length := fun q hq => okPath_len (List.all_eq_true.1 hall q hq)
      clear hJ
      refine W_loop (ι := Nat) 6 (fun j => ⟨[(2, .r 3), (3, .p 4 0), (4, .p 5 0), (9, .v (.int .i64 (j : Int)))], [(1, .fz 5 (f.blocks.map eBlock)), (2, .fz 5 (g.blocks.map eBlock)), (3, .fz 1 (ps.map eIs)), (4, .box 29 [.v (.int .i64 f.regs), .r 1]), (5, .box 29 [.v (.int .i64 g.regs), .r 2])]⟩) (fun j => j ≤ ps.length ∧ ∀ i, i < j → made f (g.blocks.getD i default) (ps.getD i default) ps = true) (fun j => ps.length - j) (0) (by exact ⟨Nat.zero_le _, fun i h => absurd h (Nat.not_lt_zero _)⟩) ?_ (fun j hJ => ?_)
      ·exact ⟨[(4, 4), (5, 5)], .same rfl rfl (.same rfl rfl (.same rfl rfl (.eq rfl (.nil) (by first | rfl | simp)))), .fzE rfl (.fzE rfl (.fzE rfl (.box (by first | rfl | simp) (.box (by first | rfl | simp) (.nil))) (by first | rfl | simp)) (by first | rfl | simp)) (by first | rfl | simp), rfl⟩
      refine W_seq ?_
      refine W_seq ?_
      refine W_seqK (b' := 70) rfl rfl ?_
      refine q0 76 6 1 rfl rfl (T_move rfl rfl) rfl ?_
      refine q0 77 22 2 rfl rfl (T_move rfl rfl) rfl ?_
      refine q0 78 38 3 rfl rfl (T_len D rfl rfl rfl rfl rfl rfl) rfl ?_
      refine q0 79 54 4 rfl rfl (T_cmp rfl rfl rfl rfl) rfl ?_
      refine k_done rfl ?_
      refine thenK_n ?_
      refine W_cond rfl (fun g13 => ?_) (fun g13 => ?_)
      ·have h13 := g13; (try simp only [cmpB, decide_eq_true_eq, decide_eq_false_iff_not, beq_iff_eq, beq_eq_false_iff_ne, bne_iff_ne, ne_eq, bne_eq_false_iff_eq, Bool.not_eq_true', Bool.not_eq_false', Int.not_lt, Int.not_le] at h13)
       refine W_skip ?_
       refine thenK_n ?_
       refine W_seq ?_
       refine W_block ?_
       refine W_seq ?_
       refine W_anyK (b' := 278) rfl rfl rfl ?_
       refine q0 82 70 1 rfl rfl (T_load_bA D (l := [_, _]) rfl rfl rfl rfl rfl rfl rfl) rfl ?_
       refine q0 83 86 2 rfl rfl (T_fa D (m := 1) rfl rfl rfl rfl rfl rfl) rfl ?_
       refine q0 84 102 3 rfl rfl (T_load_b D rfl rfl rfl rfl rfl rfl) rfl ?_
       refine q0 85 118 4 rfl rfl (T_move rfl rfl) rfl ?_
       first | refine q0 86 134 5 rfl rfl (T_indexAddr D rfl rfl rfl rfl rfl rfl rfl rfl (by first | assumption | omega | exact okPath_len (hJ.2 0 (by omega)) | (simp; omega))) rfl ?_ | refine q0 86 134 5 rfl rfl (T_indexAddrZ D rfl rfl rfl rfl rfl rfl rfl rfl (by first | assumption | omega | exact okPath_len (hJ.2 0 (by omega)) | (simp; omega)) (by first | assumption | omega | exact okPath_len (hJ.2 0 (by omega)) | (simp; omega))) rfl ?_
       refine q1 87 150 6 rfl rfl (T_ldEA D (l := [.r 150, .v _, .v _, .v _, .v _]) (nn := 1) (upd := [(150, .fz 8 _)]) rfl rfl rfl rfl rfl (by first | assumption | omega | exact okPath_len (hJ.2 0 (by omega)) | (simp; omega)) rfl rfl rfl rfl rfl) rfl ?_
       refine q0 88 166 7 rfl rfl (T_move rfl rfl) rfl ?_
       refine q0 89 182 8 rfl rfl (T_move rfl rfl) rfl ?_
       refine q0 90 198 9 rfl rfl (T_move rfl rfl) rfl ?_
       first | refine q0 91 214 10 rfl rfl (T_indexAddr D rfl rfl rfl rfl rfl rfl rfl rfl (by first | assumption | omega | exact okPath_len (hJ.2 0 (by omega)) | (simp; omega))) rfl ?_ | refine q0 91 214 10 rfl rfl (T_indexAddrZ D rfl rfl rfl rfl rfl rfl rfl rfl (by first | assumption | omega | exact okPath_len (hJ.2 0 (by omega)) | (simp; omega)) (by first | assumption | omega | exact okPath_len (hJ.2 0 (by omega)) | (simp; omega))) rfl ?_
       refine q1 92 230 11 rfl rfl (T_ldE D (lv := .r 230) (nn := 1) (upd := [(230, .fz 1 _)]) rfl rfl rfl rfl rfl (by first | assumption | omega | exact okPath_len (hJ.2 0 (by omega)) | (simp; omega)) rfl rfl rfl rfl) rfl ?_
       refine q0 93 246 12 rfl rfl (T_callV (lvs := [_, _, _, _]) (L := [(1, 1), (2, 150), (3, 230), (4, 3)]) (one_spec _ _ _ _ (hgi _ (getD_mem (by omega))) (okPath_len (ok1 _ (by omega))) ⟨hpl _ (getD_mem (by omega)), okPath_in (ok1 _ (by omega))⟩ (hI _ (getD_mem (by omega))) hps) body76 rfl rfl rfl rfl (.fz rfl (.fz rfl (.fz rfl (.fz rfl (.nil))))) rfl) rfl ?_
       refine q0 94 262 13 rfl rfl (T_not rfl rfl) rfl ?_
       refine k_done rfl ?_
       refine ⟨rfl, ?_⟩
       refine thenK_n ?_
       refine W_cond rfl (fun g14 => ?_) (fun g14 => ?_)
       ·have h14 := g14; (try simp only [cmpB, decide_eq_true_eq, decide_eq_false_iff_not, beq_iff_eq, beq_eq_false_iff_ne, bne_iff_ne, ne_eq, bne_eq_false_iff_eq, Bool.not_eq_true', Bool.not_eq_false', Int.not_lt, Int.not_le] at h14)
        refine W_seq ?_
        refine W_seqK (b' := 294) rfl rfl ?_
        refine q0 6 278 1 rfl rfl (T_assign rfl rfl) rfl ?_
        refine k_done rfl ?_
        refine thenK_n ?_
        refine W_ret ?_
        refine blockK_r ?_
        refine thenK_r ?_
        refine thenK_r ?_
        refine blockK_r ?_
        refine thenK_r ?_
        exact .mk [] (.inr rfl) (.tmp rfl (.nil)) (by simp only [resLV, LV.ren, LV.v.injEq, Value.bool.injEq]; rw [tcheck, if_neg (by omega), if_neg (by simp only [Bool.not_eq_false]; exact hall), if_neg (by omega)]; exact (range_all_false (i := j) (by omega) (by simpa using h14)).symm) (.nil) rfl
       ·have h14 := g14; (try simp only [cmpB, decide_eq_true_eq, decide_eq_false_iff_not, beq_iff_eq, beq_eq_false_iff_ne, bne_iff_ne, ne_eq, bne_eq_false_iff_eq, Bool.not_eq_true', Bool.not_eq_false', Int.not_lt, Int.not_le] at h14)
        refine W_skip ?_
        refine blockK_n ?_
        refine thenK_n ?_
        refine W_seqK (b' := 326) rfl rfl ?_
        refine q0 80 278 1 rfl rfl (T_move rfl rfl) rfl ?_
        refine q0 81 294 2 rfl rfl (T_add64 rfl rfl rfl (by first | assumption | omega | exact okPath_len (hJ.2 0 (by omega)) | (simp; omega))) rfl ?_
        refine q0 9 310 3 rfl rfl (T_assign rfl rfl) rfl ?_
        refine k_done rfl ?_
        refine thenK_n ?_
        refine ⟨j + 1, by (try dsimp only); exact ⟨by omega, fun i hi => by rcases Nat.lt_or_ge i j with h | h; exact hJ.2 i h; rw [show i = j by omega]; simpa using h14⟩, by (try dsimp only); omega, ?_⟩
        exact ⟨[(4, 4), (5, 5)], .same rfl rfl (.same rfl rfl (.same rfl rfl (.eq rfl (.nil) (by first | rfl | simp)))), .fzE rfl (.fzE rfl (.fzE rfl (.box (by first | rfl | simp) (.box (by first | rfl | simp) (.nil))) rfl) rfl) rfl, rfl⟩
      ·have h13 := g13; (try simp only [cmpB, decide_eq_true_eq, decide_eq_false_iff_not, beq_iff_eq, beq_eq_false_iff_ne, bne_iff_ne, ne_eq, bne_eq_false_iff_eq, Bool.not_eq_true', Bool.not_eq_false', Int.not_lt, Int.not_le] at h13)
       refine W_exit ?_
       refine thenK_e ?_
       refine thenK_e ?_
       refine blockK_hit ?_
       refine thenK_n ?_
       refine W_seq ?_
       refine W_seqK (b' := 86) rfl rfl ?_
       refine q0 6 70 1 rfl rfl (T_assign rfl rfl) rfl ?_
       refine k_done rfl ?_
       refine thenK_n ?_
       refine W_ret ?_
       exact .mk [] (.inr rfl) (.tmp rfl (.nil)) (by simp only [resLV, LV.ren, LV.v.injEq, Value.bool.injEq]; rw [tcheck, if_neg (by omega), if_neg (by simp only [Bool.not_eq_false]; exact hall), if_neg (by omega)]; exact (range_all_true (fun i hi => hJ.2 i (by omega))).symm) (.nil) rfl
end Lg
end Go.Proofs.Ytpfhmodjjljpjaa

namespace Go.Proofs.Ytpfhmodjjljpjaa
open Go.RowKit
namespace Lg
def follow (by_ : List Int) : Nat → List Int → Option (List Int)
  | 0, _ => none
  | m + 1, p => if fstIdx (fun y => y == lastOf p) by_ ≥ 0 then follow by_ m (p ++ [fstIdx (fun y => y == lastOf p) by_]) else some p
theorem block_ext {a b : GBlock} (h1 : a.fin = b.fin) (h2 : a.v = b.v) (h3 : a.to = b.to) (h4 : a.els = b.els) (h5 : a.ins = b.ins) : a = b := by
  cases a; cases b; simp_all
theorem fn_ne {f g : GFn} (h : ¬ f.regs = g.regs ∨ ¬ (f.blocks.length : Int) = (g.blocks.length : Int) ∨ ∃ j, ¬ f.blocks.getD j default = g.blocks.getD j default) : false = decide (f = g) := by
  refine (decide_eq_false (fun e => ?_)).symm
  subst e
  rcases h with h | h | ⟨j, h⟩ <;> exact h rfl
theorem fn_eq {f g : GFn} (h1 : f.regs = g.regs) (h2 : f.blocks.length = g.blocks.length) (h3 : ∀ j, j < f.blocks.length → f.blocks.getD j default = g.blocks.getD j default) : true = decide (f = g) := by
  refine (decide_eq_true ?_).symm
  have h4 := ext_getD h2 h3
  cases f; cases g; simp_all
end Lg
end Go.Proofs.Ytpfhmodjjljpjaa

namespace Go.Proofs.Ytpfhmodjjljpjaa
open Go.RowKit
namespace Lg
set_option maxRecDepth 100000
set_option linter.unusedVariables false
set_option linter.unusedSimpArgs false
theorem body114 : (Try.prog.funcs[114]?).map (fun fn => (fn.name == "runtime.NumGoroutine" || fn.body.isNone)) = some false := by kernel_rfl
theorem index_spec (p : List Int) (v : Int) (hp : p.length ≤ 1000000000) : Spec Try.prog 114 [.r 1, .v (.int .i64 v)] 2 [(1, .fz 1 (p.map eI))] (.v (.int .i64 (fstIdx (fun y => y == v) p))) 2 [] := by
 refine spec_of D (fn := Try.f114) rfl rfl (Nat.le_of_ble_eq_true rfl) ?_
 refine W_seq ?_
 refine W_seqK (b' := 18) rfl rfl ?_
 refine q0 4 2 1 rfl rfl (T_assign rfl rfl) rfl ?_
 refine k_done rfl ?_
 refine thenK_n ?_
 refine W_seq ?_
 refine W_seq ?_
 refine W_seqK (b' := 66) rfl rfl ?_
 refine q0 6 18 1 rfl rfl (T_move rfl rfl) rfl ?_
 refine q0 7 34 2 rfl rfl (T_len D rfl rfl rfl rfl rfl rfl) rfl ?_
 refine q0 8 50 3 rfl rfl (T_move rfl rfl) rfl ?_
 refine k_done rfl ?_
 refine thenK_n ?_
 refine W_block ?_
 refine W_loop (ι := Nat) 2 (fun j => ⟨[(0, .r 1), (1, .v (.int .i64 v)), (7, .v (.int .i64 (p.length : Int))), (8, .v (.int .i64 (j : Int)))], [(1, .fz 1 (p.map eI))]⟩) (fun j => j ≤ p.length ∧ ∀ i, i < j → (p.getD i default == v) = false) (fun j => p.length - j) (0) (by exact ⟨Nat.zero_le _, fun i h => absurd h (Nat.not_lt_zero _)⟩) ?_ (fun j hJ => ?_)
 ·exact ⟨[], .same rfl rfl (.eq rfl (.eq rfl (.eq rfl (.nil) (by first | rfl | simp)) (by first | rfl | simp)) (by first | rfl | simp)), .fzE rfl (.nil) (by first | rfl | simp), rfl⟩
 refine W_seq ?_
 refine W_seqK (b' := 18) rfl rfl ?_
 refine q0 9 2 1 rfl rfl (T_cmp rfl rfl rfl rfl) rfl ?_
 refine k_done rfl ?_
 refine thenK_n ?_
 refine W_seq ?_
 refine W_cond rfl (fun g1 => ?_) (fun g1 => ?_)
 ·have h1 := c_lss_t g1
  refine W_skip ?_
  refine thenK_n ?_
  refine W_seq ?_
  refine W_block ?_
  refine W_seq ?_
  refine W_seqK (b' := 50) rfl rfl ?_
  refine q0 10 18 1 rfl rfl (T_move rfl rfl) rfl ?_
  refine q0 5 34 2 rfl rfl (T_assign rfl rfl) rfl ?_
  refine k_done rfl ?_
  refine thenK_n ?_
  refine W_seq ?_
  refine W_seqK (b' := 146) rfl rfl ?_
  refine q0 11 50 1 rfl rfl (T_move rfl rfl) rfl ?_
  refine q0 12 66 2 rfl rfl (T_move rfl rfl) rfl ?_
  refine q0 13 82 3 rfl rfl (T_move rfl rfl) rfl ?_
  first | refine q0 14 98 4 rfl rfl (T_indexAddr D rfl rfl rfl rfl rfl rfl rfl rfl (by first | assumption | omega | (simp; omega))) rfl ?_ | refine q0 14 98 4 rfl rfl (T_indexAddrZ D rfl rfl rfl rfl rfl rfl rfl rfl (by first | assumption | omega | (simp; omega)) (by first | assumption | omega | (simp; omega))) rfl ?_
  refine q0 15 114 5 rfl rfl (T_ldE D (lv := .v _) (nn := 0) (upd := []) rfl rfl rfl rfl rfl (by first | assumption | omega | (simp; omega)) rfl rfl rfl rfl) rfl ?_
  refine q0 16 130 6 rfl rfl (T_cmp rfl rfl rfl rfl) rfl ?_
  refine k_done rfl ?_
  refine thenK_n ?_
  refine W_cond rfl (fun g2 => ?_) (fun g2 => ?_)
  ·have h2 := c_eql_t g2
   refine W_seq ?_
   refine W_seqK (b' := 178) rfl rfl ?_
   refine q0 17 146 1 rfl rfl (T_move rfl rfl) rfl ?_
   refine q0 4 162 2 rfl rfl (T_assign rfl rfl) rfl ?_
   refine k_done rfl ?_
   refine thenK_n ?_
   refine W_ret ?_
   refine blockK_r ?_
   refine thenK_r ?_
   refine thenK_r ?_
   refine blockK_r ?_
   refine thenK_r ?_
   exact .mk [] (.inr rfl) (.tmp rfl (.nil)) (by simp only [resLV, LV.ren, LV.v.injEq, Value.int.injEq, true_and]; exact (fstIdx_hit _ _ (by omega) (by simp [-List.getD_eq_getElem?_getD, -Int.default_eq_zero, h2]) (fun i hi => hJ.2 i hi)).symm) (.nil) rfl
  ·have h2 := c_eql_f g2
   refine W_skip ?_
   refine blockK_n ?_
   refine thenK_n ?_
   refine W_seqK (b' := 178) rfl rfl ?_
   refine q0 18 146 1 rfl rfl (T_add64 rfl rfl rfl (by first | assumption | omega | (simp; omega))) rfl ?_
   refine q0 8 162 2 rfl rfl (T_move rfl rfl) rfl ?_
   refine k_done rfl ?_
   refine thenK_n ?_
   refine ⟨j + 1, by (try dsimp only); exact ⟨by omega, fun i hi => by rcases Nat.lt_or_ge i j with h | h; exact hJ.2 i h; rw [show i = j by omega]; exact beq_eq_false_iff_ne.2 (fun e => h2 e.symm)⟩, by (try dsimp only); omega, ?_⟩
   exact ⟨[], .same rfl rfl (.eq rfl (.eq rfl (.eq rfl (.nil) (by first | rfl | simp)) rfl) rfl), .fzE rfl (.nil) rfl, rfl⟩
 ·have h1 := c_lss_f g1
  refine W_exit ?_
  refine thenK_e ?_
  refine thenK_e ?_
  refine blockK_hit ?_
  refine thenK_n ?_
  refine W_seq ?_
  refine W_seqK (b' := 34) rfl rfl ?_
  refine q0 4 18 1 rfl rfl (T_assign rfl rfl) rfl ?_
  refine k_done rfl ?_
  refine thenK_n ?_
  refine W_ret ?_
  exact .mk [] (.inr rfl) (.tmp rfl (.nil)) (by simp only [resLV, LV.ren, LV.v.injEq, Value.int.injEq, true_and]; exact (fstIdx_none _ _ (fun i hi => hJ.2 i (by omega))).symm) (.nil) rfl
theorem body113 : (Try.prog.funcs[113]?).map (fun fn => (fn.name == "runtime.NumGoroutine" || fn.body.isNone)) = some false := by kernel_rfl
theorem follow_spec (by_ : List Int) (hb : by_.length ≤ 1000000) : ∀ (m : Nat) (p q : List Int), 1 ≤ p.length → follow by_ m p = some q → p.length + m ≤ 1000000 →  Spec Try.prog 113 [.r 1, .p 2 0, .p 3 0] 5 [(1, .row 3 1 (p.map eI)), (2, .box 52 [.r 4]), (3, .box 144 [.fn 113 [.p 2 0, .p 3 0]]), (4, .fz 1 (by_.map eI))] (.r 5) 6 [(1, .no), (2, .box 52 [.r 4]), (3, .box 144 [.fn 113 [.p 2 0, .p 3 0]]), (5, .row 3 1 (q.map eI))] := by
 intro m
 induction m with
 | zero => intro p q _ h; cases h
 | succ m ih =>
  intro p q h0 hf hl
  refine spec_of D (fn := Try.f113) rfl rfl (Nat.le_of_ble_eq_true rfl) ?_
  refine W_seq ?_
  refine W_seqK (b' := 21) rfl rfl ?_
  refine q1 4 5 1 rfl rfl (T_nils [(3, 1)] (T_assign rfl rfl) rfl (.inr ⟨rfl, rfl⟩) (.cons (.nil rfl) .nil) (lv' := .r 5) (upd' := [(5, .row 3 1 (List.map eI ([] : List (Int))))]) (nn' := 1) rfl rfl) rfl ?_
  refine k_done rfl ?_
  refine thenK_n ?_
  refine W_seq ?_
  refine W_seqK (b' := 133) rfl rfl ?_
  refine q0 7 21 1 rfl rfl (T_move rfl rfl) rfl ?_
  refine q0 8 37 2 rfl rfl (T_move rfl rfl) rfl ?_
  refine q0 9 53 3 rfl rfl (T_len D rfl rfl rfl rfl rfl rfl) rfl ?_
  refine q0 10 69 4 rfl rfl (T_sub64 rfl rfl rfl (by first | assumption | omega | (simp; omega))) rfl ?_
  first | refine q0 11 85 5 rfl rfl (T_indexAddr D rfl rfl rfl rfl rfl rfl rfl rfl (by first | assumption | omega | (simp; omega))) rfl ?_ | refine q0 11 85 5 rfl rfl (T_indexAddrZ D rfl rfl rfl rfl rfl rfl rfl rfl (by first | assumption | omega | (simp; omega)) (by first | assumption | omega | (simp; omega))) rfl ?_
  refine q0 12 101 6 rfl rfl (T_ldE D (lv := .v _) (nn := 0) (upd := []) rfl rfl rfl rfl rfl (by first | assumption | omega | (simp; omega)) rfl rfl rfl rfl) rfl ?_
  refine q0 5 117 7 rfl rfl (T_assign rfl rfl) rfl ?_
  refine k_done rfl ?_
  refine thenK_n ?_
  refine W_seq ?_
  refine W_seq ?_
  refine W_seqK (b' := 197) rfl rfl ?_
  refine q0 13 133 1 rfl rfl (T_load_b D rfl rfl rfl rfl rfl rfl) rfl ?_
  refine q0 14 149 2 rfl rfl (T_move rfl rfl) rfl ?_
  refine q0 15 165 3 rfl rfl (T_callV (lvs := [_, _]) (L := [(1, 4)]) (index_spec _ _ (by omega)) body114 rfl rfl rfl rfl (.fz rfl (.nil)) rfl) rfl ?_
  refine q0 6 181 4 rfl rfl (T_assign rfl rfl) rfl ?_
  refine k_done rfl ?_
  refine thenK_n ?_
  refine W_seq ?_
  refine W_seqK (b' := 229) rfl rfl ?_
  refine q0 16 197 1 rfl rfl (T_move rfl rfl) rfl ?_
  refine q0 17 213 2 rfl rfl (T_cmp rfl rfl rfl rfl) rfl ?_
  refine k_done rfl ?_
  refine thenK_n ?_
  refine W_cond rfl (fun g1 => ?_) (fun g1 => ?_)
  ·have h1 := c_geq_t g1
   refine W_seq ?_
   refine W_anyK (b' := 341) rfl rfl rfl ?_
   refine q0 18 229 1 rfl rfl (T_load_b D rfl rfl rfl rfl rfl rfl) rfl ?_
   refine q0 19 245 2 rfl rfl (T_move rfl rfl) rfl ?_
   refine q0 20 261 3 rfl rfl (T_move rfl rfl) rfl ?_
   refine q1 21 277 4 rfl rfl (T_bs D (ys := [_]) (enc := eI) (l := [_]) rfl rfl rfl rfl rfl rfl (.cons rfl (flat_v rfl) (.nil)) rfl rfl rfl rfl (.v rfl (.nil)) rfl rfl) rfl ?_
   refine qn 22 293 5 rfl rfl (T_append D rfl rfl rfl rfl rfl rfl rfl rfl rfl rfl rfl rfl (by (try simp only [ty3]); first | assumption | omega | (simp; omega)) (by (try simp only [ty3]); first | assumption | omega | (simp; omega))) rfl ?_
   refine qn 23 309 6 rfl rfl (T_call (lvs := [_]) (L := [(1, 293), (2, 2), (3, 3), (4, 4)]) (lv := .r 309) (upd := [(293, .no), (2, .box 52 [.r 4]), (3, .box 144 [.fn 113 [.p 2 0, .p 3 0]]), (309, .row 3 1 _)]) (nn := 1) false (ih (p ++ [fstIdx (fun y => y == lastOf p) by_]) q (by simp) (by rw [follow, if_pos (by exact h1)] at hf; exact hf) (by simp; omega)) body113 rfl rfl rfl rfl (.row rfl (.box rfl (.box rfl (.fz rfl (.nil))))) rfl (.inl rfl) rfl rfl rfl) rfl ?_
   refine q0 4 325 7 rfl rfl (T_assign rfl rfl) rfl ?_
   refine k_done rfl ?_
   refine ⟨rfl, ?_⟩
   refine thenK_n ?_
   refine W_ret ?_
   refine thenK_r ?_
   exact .mk [(5, 309)] (.inr rfl) (.tmp rfl (.nil)) rfl (.no (.box (by first | rfl | (rw [follow, if_neg (by have := h1; unfold lastOf; omega)] at hf; cases hf; rfl)) (.box (by first | rfl | (rw [follow, if_neg (by have := h1; unfold lastOf; omega)] at hf; cases hf; rfl)) (.rowE rfl (.nil) (by first | rfl | (rw [follow, if_neg (by have := h1; unfold lastOf; omega)] at hf; cases hf; rfl)))))) rfl
  ·have h1 := c_geq_f g1
   refine W_skip ?_
   refine thenK_n ?_
   refine W_seq ?_
   refine W_seqK (b' := 261) rfl rfl ?_
   refine q0 24 229 1 rfl rfl (T_move rfl rfl) rfl ?_
   refine q0 4 245 2 rfl rfl (T_assign rfl rfl) rfl ?_
   refine k_done rfl ?_
   refine thenK_n ?_
   refine W_ret ?_
   exact .mk [(5, 1)] (.inr rfl) (.tmp rfl (.nil)) rfl (.no (.box (by first | rfl | (rw [follow, if_neg (by have := h1; unfold lastOf; omega)] at hf; cases hf; rfl)) (.box (by first | rfl | (rw [follow, if_neg (by have := h1; unfold lastOf; omega)] at hf; cases hf; rfl)) (.rowE rfl (.nil) (by first | rfl | (rw [follow, if_neg (by have := h1; unfold lastOf; omega)] at hf; cases hf; rfl)))))) rfl
end Lg
end Go.Proofs.Ytpfhmodjjljpjaa

namespace Go.Proofs.Ytpfhmodjjljpjaa
open Go.RowKit
namespace Lg
set_option maxRecDepth 100000
set_option linter.unusedVariables false
set_option linter.unusedSimpArgs false
theorem body69 : (Try.prog.funcs[69]?).map (fun fn => (fn.name == "runtime.NumGoroutine" || fn.body.isNone)) = some false := by kernel_rfl
theorem begins_spec (p : List Int) (old : Int) (hp : 1 ≤ p.length) : Spec Try.prog 69 [.r 1, .p 2 0] 3 [(1, .fz 1 (p.map eI)), (2, .box 3 [.v (.int .i64 old)])] (.v (.bool (p.getD 0 default == old))) 3 [(2, .box 3 [.v (.int .i64 old)])] := by
 refine spec_of D (fn := Try.f69) rfl rfl (Nat.le_of_ble_eq_true rfl) ?_
 refine W_seq ?_
 refine W_seqK (b' := 19) rfl rfl ?_
 refine q0 3 3 1 rfl rfl (T_assign rfl rfl) rfl ?_
 refine k_done rfl ?_
 refine thenK_n ?_
 refine W_seq ?_
 refine W_anyK (b' := 115) rfl rfl rfl ?_
 refine q0 4 19 1 rfl rfl (T_move rfl rfl) rfl ?_
 first | refine q0 5 35 2 rfl rfl (T_indexAddr D rfl rfl rfl rfl rfl rfl rfl rfl (by first | assumption | omega | (simp; omega))) rfl ?_ | refine q0 5 35 2 rfl rfl (T_indexAddrZ D rfl rfl rfl rfl rfl rfl rfl rfl (by first | assumption | omega | (simp; omega)) (by first | assumption | omega | (simp; omega))) rfl ?_
 refine q0 6 51 3 rfl rfl (T_ldE D (lv := .v _) (nn := 0) (upd := []) rfl rfl rfl rfl rfl (by first | assumption | omega | (simp; omega)) rfl rfl rfl rfl) rfl ?_
 refine q0 7 67 4 rfl rfl (T_load_b D rfl rfl rfl rfl rfl rfl) rfl ?_
 refine q0 8 83 5 rfl rfl (T_cmp rfl rfl rfl rfl) rfl ?_
 refine q0 3 99 6 rfl rfl (T_assign rfl rfl) rfl ?_
 refine k_done rfl ?_
 refine ⟨rfl, ?_⟩
 refine thenK_n ?_
 refine W_ret ?_
 exact .mk [] (.inr rfl) (.tmp rfl (.nil)) (by first | rfl | simp) (.box (by first | rfl | simp) (.nil)) rfl
theorem body68 : (Try.prog.funcs[68]?).map (fun fn => (fn.name == "runtime.NumGoroutine" || fn.body.isNone)) = some false := by kernel_rfl
theorem head_spec (ps : List (List Int)) (old : Int) (hl : ps.length ≤ 1000000000) (hps : ∀ p ∈ ps, 1 ≤ p.length) : Spec Try.prog 68 [.r 1, .fn 69 [.p 2 0]] 3 [(1, .fz 1 (ps.map eIs)), (2, .box 3 [.v (.int .i64 old)])] (.v (.int .i64 (fstIdx (fun p => p.getD 0 default == old) ps))) 3 [(2, .box 3 [.v (.int .i64 old)])] := by
 refine spec_of D (fn := Try.f68) rfl rfl (Nat.le_of_ble_eq_true rfl) ?_
 refine W_seq ?_
 refine W_seqK (b' := 19) rfl rfl ?_
 refine q0 4 3 1 rfl rfl (T_assign rfl rfl) rfl ?_
 refine k_done rfl ?_
 refine thenK_n ?_
 refine W_seq ?_
 refine W_seq ?_
 refine W_seqK (b' := 67) rfl rfl ?_
 refine q0 6 19 1 rfl rfl (T_move rfl rfl) rfl ?_
 refine q0 7 35 2 rfl rfl (T_len D rfl rfl rfl rfl rfl rfl) rfl ?_
 refine q0 8 51 3 rfl rfl (T_move rfl rfl) rfl ?_
 refine k_done rfl ?_
 refine thenK_n ?_
 refine W_block ?_
 refine W_loop (ι := Nat) 3 (fun j => ⟨[(0, .r 1), (1, .fn 69 [.p 2 0]), (7, .v (.int .i64 (ps.length : Int))), (8, .v (.int .i64 (j : Int)))], [(1, .fz 1 (ps.map eIs)), (2, .box 3 [.v (.int .i64 old)])]⟩) (fun j => j ≤ ps.length ∧ ∀ i, i < j → ((ps.getD i default).getD 0 default == old) = false) (fun j => ps.length - j) (0) (by exact ⟨Nat.zero_le _, fun i h => absurd h (Nat.not_lt_zero _)⟩) ?_ (fun j hJ => ?_)
 ·exact ⟨[], .same rfl rfl (.same rfl rfl (.eq rfl (.eq rfl (.nil) (by first | rfl | simp)) (by first | rfl | simp))), .fzE rfl (.box (by first | rfl | simp) (.nil)) (by first | rfl | simp), rfl⟩
 refine W_seq ?_
 refine W_seqK (b' := 19) rfl rfl ?_
 refine q0 9 3 1 rfl rfl (T_cmp rfl rfl rfl rfl) rfl ?_
 refine k_done rfl ?_
 refine thenK_n ?_
 refine W_seq ?_
 refine W_cond rfl (fun g1 => ?_) (fun g1 => ?_)
 ·have h1 := c_lss_t g1
  refine W_skip ?_
  refine thenK_n ?_
  refine W_seq ?_
  refine W_block ?_
  refine W_seq ?_
  refine W_seqK (b' := 51) rfl rfl ?_
  refine q0 10 19 1 rfl rfl (T_move rfl rfl) rfl ?_
  refine q0 5 35 2 rfl rfl (T_assign rfl rfl) rfl ?_
  refine k_done rfl ?_
  refine thenK_n ?_
  refine W_seq ?_
  refine W_seqK (b' := 147) rfl rfl ?_
  refine q0 11 51 1 rfl rfl (T_move rfl rfl) rfl ?_
  refine q0 12 67 2 rfl rfl (T_move rfl rfl) rfl ?_
  refine q0 13 83 3 rfl rfl (T_move rfl rfl) rfl ?_
  first | refine q0 14 99 4 rfl rfl (T_indexAddr D rfl rfl rfl rfl rfl rfl rfl rfl (by first | assumption | omega | (simp; omega))) rfl ?_ | refine q0 14 99 4 rfl rfl (T_indexAddrZ D rfl rfl rfl rfl rfl rfl rfl rfl (by first | assumption | omega | (simp; omega)) (by first | assumption | omega | (simp; omega))) rfl ?_
  refine q1 15 115 5 rfl rfl (T_ldE D (lv := .r 115) (nn := 1) (upd := [(115, .fz 1 _)]) rfl rfl rfl rfl rfl (by first | assumption | omega | (simp; omega)) rfl rfl rfl rfl) rfl ?_
  refine q1 16 131 6 rfl rfl (T_call (lvs := [_]) (L := [(1, 115), (2, 2)]) (lv := .v _) (upd := [(2, .box 3 [.v _])]) (nn := 0) false (begins_spec _ _ (hps _ (getD_mem (by omega)))) body69 rfl rfl rfl rfl (.fz rfl (.box rfl (.nil))) rfl (.inl rfl) rfl rfl rfl) rfl ?_
  refine k_done rfl ?_
  refine thenK_n ?_
  refine W_cond rfl (fun g2 => ?_) (fun g2 => ?_)
  ·have h2 := g2; (try simp only [cmpB, decide_eq_true_eq, decide_eq_false_iff_not, beq_iff_eq, beq_eq_false_iff_ne, bne_iff_ne, ne_eq, bne_eq_false_iff_eq, Bool.not_eq_true', Bool.not_eq_false', Int.not_lt, Int.not_le] at h2)
   refine W_seq ?_
   refine W_seqK (b' := 179) rfl rfl ?_
   refine q0 17 147 1 rfl rfl (T_move rfl rfl) rfl ?_
   refine q0 4 163 2 rfl rfl (T_assign rfl rfl) rfl ?_
   refine k_done rfl ?_
   refine thenK_n ?_
   refine W_ret ?_
   refine blockK_r ?_
   refine thenK_r ?_
   refine thenK_r ?_
   refine blockK_r ?_
   refine thenK_r ?_
   exact .mk [] (.inr rfl) (.tmp rfl (.nil)) (by first | rfl | (simp only [resLV, LV.ren, LV.v.injEq, Value.int.injEq, true_and]; exact (fstIdx_hit (fun p : List Int => p.getD 0 default == old) _ (by omega) g2 (fun i hi => hJ.2 i hi)).symm)) (.box (by first | rfl | (simp only [resLV, LV.ren, LV.v.injEq, Value.int.injEq, true_and]; exact (fstIdx_hit (fun p : List Int => p.getD 0 default == old) _ (by omega) g2 (fun i hi => hJ.2 i hi)).symm)) (.nil)) rfl
  ·have h2 := g2; (try simp only [cmpB, decide_eq_true_eq, decide_eq_false_iff_not, beq_iff_eq, beq_eq_false_iff_ne, bne_iff_ne, ne_eq, bne_eq_false_iff_eq, Bool.not_eq_true', Bool.not_eq_false', Int.not_lt, Int.not_le] at h2)
   refine W_skip ?_
   refine blockK_n ?_
   refine thenK_n ?_
   refine W_seqK (b' := 179) rfl rfl ?_
   refine q0 18 147 1 rfl rfl (T_add64 rfl rfl rfl (by first | assumption | omega | (simp; omega))) rfl ?_
   refine q0 8 163 2 rfl rfl (T_move rfl rfl) rfl ?_
   refine k_done rfl ?_
   refine thenK_n ?_
   refine ⟨j + 1, by (try dsimp only); exact ⟨by omega, fun i hi => by rcases Nat.lt_or_ge i j with h | h; exact hJ.2 i h; rw [show i = j by omega]; exact g2⟩, by (try dsimp only); omega, ?_⟩
   exact ⟨[], .same rfl rfl (.same rfl rfl (.eq rfl (.eq rfl (.nil) (by first | rfl | simp)) rfl)), .fzE rfl (.box (by first | rfl | simp) (.nil)) rfl, rfl⟩
 ·have h1 := c_lss_f g1
  refine W_exit ?_
  refine thenK_e ?_
  refine thenK_e ?_
  refine blockK_hit ?_
  refine thenK_n ?_
  refine W_seq ?_
  refine W_seqK (b' := 35) rfl rfl ?_
  refine q0 4 19 1 rfl rfl (T_assign rfl rfl) rfl ?_
  refine k_done rfl ?_
  refine thenK_n ?_
  refine W_ret ?_
  exact .mk [] (.inr rfl) (.tmp rfl (.nil)) (by first | rfl | (simp only [resLV, LV.ren, LV.v.injEq, Value.int.injEq, true_and]; exact (fstIdx_none (fun p : List Int => p.getD 0 default == old) _ (fun i hi => hJ.2 i (by omega))).symm)) (.box (by first | rfl | (simp only [resLV, LV.ren, LV.v.injEq, Value.int.injEq, true_and]; exact (fstIdx_none (fun p : List Int => p.getD 0 default == old) _ (fun i hi => hJ.2 i (by omega))).symm)) (.nil)) rfl
theorem body67 : (Try.prog.funcs[67]?).map (fun fn => (fn.name == "runtime.NumGoroutine" || fn.body.isNone)) = some false := by kernel_rfl
theorem of1_spec (ps : List (List Int)) (old : Int) (hl : ps.length ≤ 1000000000) (hps : ∀ p ∈ ps, 1 ≤ p.length) : Spec Try.prog 67 [.v (.int .i64 old), .p 1 0] 3 [(1, .box 30 [.r 2]), (2, .fz 1 (ps.map eIs))] (.v (.int .i64 (fstIdx (fun p => p.getD 0 default == old) ps))) 3 [(1, .box 30 [.r 2])] := by
 refine spec_of D (fn := Try.f67) rfl rfl (Nat.le_of_ble_eq_true rfl) ?_
 refine W_seq ?_
 refine W_seqK (b' := 35) rfl rfl ?_
 refine q1 2 3 1 rfl rfl (T_box rfl rfl (flat_v rfl)) rfl ?_
 refine q0 3 19 2 rfl rfl (T_assign rfl rfl) rfl ?_
 refine k_done rfl ?_
 refine thenK_n ?_
 refine W_seq ?_
 refine W_seqK (b' := 99) rfl rfl ?_
 refine q0 4 35 1 rfl rfl (T_load_b D rfl rfl rfl rfl rfl rfl) rfl ?_
 refine q0 5 51 2 rfl rfl (T_makeFunc (l := [_]) rfl rfl) rfl ?_
 refine q1 6 67 3 rfl rfl (T_call (lvs := [_, _]) (L := [(1, 2), (2, 3)]) (lv := .v _) (upd := [(3, .box 3 [.v _])]) (nn := 0) false (head_spec _ _ hl hps) body68 rfl rfl rfl rfl (.fz rfl (.box rfl (.nil))) rfl (.inl rfl) rfl rfl rfl) rfl ?_
 refine q0 3 83 4 rfl rfl (T_assign rfl rfl) rfl ?_
 refine k_done rfl ?_
 refine thenK_n ?_
 refine W_ret ?_
 exact .mk [] (.inr rfl) (.tmp rfl (.nil)) (by first | rfl | simp) (.box (by first | rfl | simp) (.nil)) rfl
end Lg
end Go.Proofs.Ytpfhmodjjljpjaa

namespace Go.Proofs.Ytpfhmodjjljpjaa
open Go.RowKit
namespace Lg
set_option maxRecDepth 100000
set_option linter.unusedVariables false
set_option linter.unusedSimpArgs false
theorem body28 : (Try.prog.funcs[28]?).map (fun fn => (fn.name == "runtime.NumGoroutine" || fn.body.isNone)) = some false := by kernel_rfl
theorem same_spec (f g : GFn) (hf : f.blocks.length ≤ 1000000000) (hi : ∀ b ∈ f.blocks, b.ins.length ≤ 1000000000) : Spec Try.prog 28 [.agg [.v (.int .i64 f.regs), .r 1], .agg [.v (.int .i64 g.regs), .r 2]] 3 [(1, .fz 5 (f.blocks.map eBlock)), (2, .fz 5 (g.blocks.map eBlock))] (.v (.bool (decide (f = g)))) 3 [] := by
 refine spec_of D (fn := Try.f28) rfl rfl (Nat.le_of_ble_eq_true rfl) ?_
 refine W_seq ?_
 refine W_seqK (b' := 51) rfl rfl ?_
 refine q1 2 3 1 rfl rfl (T_box rfl rfl flat_agg) rfl ?_
 refine q1 3 19 2 rfl rfl (T_box rfl rfl flat_agg) rfl ?_
 refine q0 4 35 3 rfl rfl (T_assign rfl rfl) rfl ?_
 refine k_done rfl ?_
 refine thenK_n ?_
 refine W_seq ?_
 refine W_seq ?_
 refine W_seqK (b' := 275) rfl rfl ?_
 refine q0 9 51 1 rfl rfl (T_fa D (m := 0) rfl rfl rfl rfl rfl rfl) rfl ?_
 refine q0 10 67 2 rfl rfl (T_load_b D rfl rfl rfl rfl rfl rfl) rfl ?_
 refine q0 11 83 3 rfl rfl (T_fa D (m := 0) rfl rfl rfl rfl rfl rfl) rfl ?_
 refine q0 12 99 4 rfl rfl (T_load_b D rfl rfl rfl rfl rfl rfl) rfl ?_
 refine q0 13 115 5 rfl rfl (T_cmp rfl rfl rfl rfl) rfl ?_
 refine q0 14 131 6 rfl rfl (T_move rfl rfl) rfl ?_
 refine k_split (d := 14) rfl (fun g1 => ?_) (fun g1 => ?_)
 ·have h1 := c_neq_t g1
  refine k_no (d := 15) (j' := 7) rfl rfl rfl (g_ft rfl rfl rfl g1) ?_
  refine k_no (d := 16) (j' := 8) rfl rfl rfl (g_ft rfl rfl rfl g1) ?_
  refine k_no (d := 17) (j' := 9) rfl rfl rfl (g_ft rfl rfl rfl g1) ?_
  refine k_no (d := 18) (j' := 10) rfl rfl rfl (g_ft rfl rfl rfl g1) ?_
  refine k_no (d := 19) (j' := 11) rfl rfl rfl (g_ft rfl rfl rfl g1) ?_
  refine k_no (d := 20) (j' := 12) rfl rfl rfl (g_ft rfl rfl rfl g1) ?_
  refine k_no (d := 21) (j' := 13) rfl rfl rfl (g_ft rfl rfl rfl g1) ?_
  refine q0 22 259 14 rfl rfl (T_pick_t rfl rfl rfl g1) rfl ?_
  refine k_done rfl ?_
  refine thenK_n ?_
  refine W_cond rfl (fun g2 => ?_) (fun g2 => ?_)
  ·skip
   refine W_seq ?_
   refine W_seqK (b' := 291) rfl rfl ?_
   refine q0 4 275 1 rfl rfl (T_assign rfl rfl) rfl ?_
   refine k_done rfl ?_
   refine thenK_n ?_
   refine W_ret ?_
   refine thenK_r ?_
   exact .mk [] (.inr rfl) (.tmp rfl (.nil)) (by simp only [resLV, LV.ren, LV.v.injEq, Value.bool.injEq]; exact fn_ne (.inl h1)) (.nil) rfl
  ·exact absurd (g2.symm.trans rfl) (by decide)
 ·have h1 := c_neq_f g1
  refine k_op0 (d := 15) (b := 147) (j' := 7) rfl rfl rfl rfl (g_ff rfl rfl rfl g1) (T_fa D (m := 1) rfl rfl rfl rfl rfl rfl) rfl ?_
  refine k_op0 (d := 16) (b := 163) (j' := 8) rfl rfl rfl rfl (g_ff rfl rfl rfl g1) (T_load_b D rfl rfl rfl rfl rfl rfl) rfl ?_
  refine k_op0 (d := 17) (b := 179) (j' := 9) rfl rfl rfl rfl (g_ff rfl rfl rfl g1) (T_len D rfl rfl rfl rfl rfl rfl) rfl ?_
  refine k_op0 (d := 18) (b := 195) (j' := 10) rfl rfl rfl rfl (g_ff rfl rfl rfl g1) (T_fa D (m := 1) rfl rfl rfl rfl rfl rfl) rfl ?_
  refine k_op0 (d := 19) (b := 211) (j' := 11) rfl rfl rfl rfl (g_ff rfl rfl rfl g1) (T_load_b D rfl rfl rfl rfl rfl rfl) rfl ?_
  refine k_op0 (d := 20) (b := 227) (j' := 12) rfl rfl rfl rfl (g_ff rfl rfl rfl g1) (T_len D rfl rfl rfl rfl rfl rfl) rfl ?_
  refine k_op0 (d := 21) (b := 243) (j' := 13) rfl rfl rfl rfl (g_ff rfl rfl rfl g1) (T_cmp rfl rfl rfl rfl) rfl ?_
  refine q0 22 259 14 rfl rfl (T_pick_f rfl rfl rfl g1) rfl ?_
  refine k_done rfl ?_
  refine thenK_n ?_
  refine W_cond rfl (fun g3 => ?_) (fun g3 => ?_)
  ·have h3 := c_neq_t g3
   refine W_seq ?_
   refine W_seqK (b' := 291) rfl rfl ?_
   refine q0 4 275 1 rfl rfl (T_assign rfl rfl) rfl ?_
   refine k_done rfl ?_
   refine thenK_n ?_
   refine W_ret ?_
   refine thenK_r ?_
   exact .mk [] (.inr rfl) (.tmp rfl (.nil)) (by simp only [resLV, LV.ren, LV.v.injEq, Value.bool.injEq]; exact fn_ne (.inr (.inl h3))) (.nil) rfl
  ·have h3 := c_neq_f g3
   refine W_skip ?_
   refine thenK_n ?_
   refine W_seq ?_
   refine W_seq ?_
   refine W_seqK (b' := 291) rfl rfl ?_
   refine q0 5 275 1 rfl rfl (T_assign rfl rfl) rfl ?_
   refine k_done rfl ?_
   refine thenK_n ?_
   refine W_block ?_
   refine W_loop (ι := Nat) 5 (fun j => ⟨[(2, .p 3 0), (3, .p 4 0), (5, .v (.int .i64 (j : Int)))], [(1, .fz 5 (f.blocks.map eBlock)), (2, .fz 5 (g.blocks.map eBlock)), (3, .box 29 [.v (.int .i64 f.regs), .r 1]), (4, .box 29 [.v (.int .i64 g.regs), .r 2])]⟩) (fun j => j ≤ f.blocks.length ∧ ∀ i, i < j → f.blocks.getD i default = g.blocks.getD i default) (fun j => f.blocks.length - j) (0) (by exact ⟨Nat.zero_le _, fun i h => absurd h (Nat.not_lt_zero _)⟩) ?_ (fun j hJ => ?_)
   ·exact ⟨[(3, 3), (4, 19)], .same rfl rfl (.same rfl rfl (.eq rfl (.nil) (by first | rfl | simp))), .fzE rfl (.fzE rfl (.box (by first | rfl | simp) (.box (by first | rfl | simp) (.nil))) (by first | rfl | simp)) (by first | rfl | simp), rfl⟩
   refine W_seq ?_
   refine W_seq ?_
   refine W_seqK (b' := 85) rfl rfl ?_
   refine q0 23 5 1 rfl rfl (T_move rfl rfl) rfl ?_
   refine q0 24 21 2 rfl rfl (T_fa D (m := 1) rfl rfl rfl rfl rfl rfl) rfl ?_
   refine q0 25 37 3 rfl rfl (T_load_b D rfl rfl rfl rfl rfl rfl) rfl ?_
   refine q0 26 53 4 rfl rfl (T_len D rfl rfl rfl rfl rfl rfl) rfl ?_
   refine q0 27 69 5 rfl rfl (T_cmp rfl rfl rfl rfl) rfl ?_
   refine k_done rfl ?_
   refine thenK_n ?_
   refine W_cond rfl (fun g4 => ?_) (fun g4 => ?_)
   ·have h4 := c_lss_t g4
    refine W_skip ?_
    refine thenK_n ?_
    refine W_seq ?_
    refine W_block ?_
    refine W_seq ?_
    refine W_seqK (b' := 197) rfl rfl ?_
    refine q0 30 85 1 rfl rfl (T_fa D (m := 1) rfl rfl rfl rfl rfl rfl) rfl ?_
    refine q0 31 101 2 rfl rfl (T_load_b D rfl rfl rfl rfl rfl rfl) rfl ?_
    refine q0 32 117 3 rfl rfl (T_move rfl rfl) rfl ?_
    first | refine q0 33 133 4 rfl rfl (T_indexAddr D rfl rfl rfl rfl rfl rfl rfl rfl (by first | assumption | omega | (simp; omega))) rfl ?_ | refine q0 33 133 4 rfl rfl (T_indexAddrZ D rfl rfl rfl rfl rfl rfl rfl rfl (by first | assumption | omega | (simp; omega)) (by first | assumption | omega | (simp; omega))) rfl ?_
    refine q1 34 149 5 rfl rfl (T_ldEA D (l := [.r 149, .v _, .v _, .v _, .v _]) (nn := 1) (upd := [(149, .fz 8 _)]) rfl rfl rfl rfl rfl (by first | assumption | omega | (simp; omega)) rfl rfl rfl rfl rfl) rfl ?_
    refine qn 6 165 6 rfl rfl (T_nilbox [(70, 8)] (T_alloc D rfl rfl rfl) rfl (.cons (.nil rfl) <| .cons (.same _) <| .cons (.same _) <| .cons (.same _) <| .cons (.same _) <| .nil) (upd' := [(165, .box 72 [.r 166, .v (.int .i64 0), .v (.int .i64 0), .v (.int .i64 0), .v (.int .i64 0)]), (166, .row 70 8 (List.map eTac ([] : List (GTac))))]) (nn' := 2) rfl rfl) rfl ?_
    refine s1 181 7 rfl rfl (T_stB D (cs' := [_, _, _, _, _]) rfl rfl rfl rfl flat_agg rfl rfl (Nat.le_of_ble_eq_true rfl) rfl) rfl ?_
    refine k_done rfl ?_
    refine thenK_n ?_
    refine W_seq ?_
    refine W_seqK (b' := 309) rfl rfl ?_
    refine q0 35 197 1 rfl rfl (T_fa D (m := 1) rfl rfl rfl rfl rfl rfl) rfl ?_
    refine q0 36 213 2 rfl rfl (T_load_b D rfl rfl rfl rfl rfl rfl) rfl ?_
    refine q0 37 229 3 rfl rfl (T_move rfl rfl) rfl ?_
    first | refine q0 38 245 4 rfl rfl (T_indexAddr D rfl rfl rfl rfl rfl rfl rfl rfl (by first | assumption | omega | (simp; omega))) rfl ?_ | refine q0 38 245 4 rfl rfl (T_indexAddrZ D rfl rfl rfl rfl rfl rfl rfl rfl (by first | assumption | omega | (simp; omega)) (by first | assumption | omega | (simp; omega))) rfl ?_
    refine q1 39 261 5 rfl rfl (T_ldEA D (l := [.r 261, .v _, .v _, .v _, .v _]) (nn := 1) (upd := [(261, .fz 8 _)]) rfl rfl rfl rfl rfl (by first | assumption | omega | (simp; omega)) rfl rfl rfl rfl rfl) rfl ?_
    refine qn 7 277 6 rfl rfl (T_nilbox [(70, 8)] (T_alloc D rfl rfl rfl) rfl (.cons (.nil rfl) <| .cons (.same _) <| .cons (.same _) <| .cons (.same _) <| .cons (.same _) <| .nil) (upd' := [(277, .box 72 [.r 278, .v (.int .i64 0), .v (.int .i64 0), .v (.int .i64 0), .v (.int .i64 0)]), (278, .row 70 8 (List.map eTac ([] : List (GTac))))]) (nn' := 2) rfl rfl) rfl ?_
    refine s1 293 7 rfl rfl (T_stB D (cs' := [_, _, _, _, _]) rfl rfl rfl rfl flat_agg rfl rfl (Nat.le_of_ble_eq_true rfl) rfl) rfl ?_
    refine k_done rfl ?_
    refine thenK_n ?_
    refine W_seq ?_
    refine W_seq ?_
    refine W_seqK (b' := 869) rfl rfl ?_
    refine q0 40 309 1 rfl rfl (T_fa D (m := 1) rfl rfl rfl rfl rfl rfl) rfl ?_
    refine q0 41 325 2 rfl rfl (T_load_b D rfl rfl rfl rfl rfl rfl) rfl ?_
    refine q0 42 341 3 rfl rfl (T_fa D (m := 1) rfl rfl rfl rfl rfl rfl) rfl ?_
    refine q0 43 357 4 rfl rfl (T_load_b D rfl rfl rfl rfl rfl rfl) rfl ?_
    refine q0 44 373 5 rfl rfl (T_cmp rfl rfl rfl rfl) rfl ?_
    refine q0 45 389 6 rfl rfl (T_move rfl rfl) rfl ?_
    refine k_split (d := 45) rfl (fun g5 => ?_) (fun g5 => ?_)
    ·have h5 := c_neq_t g5
     refine k_no (d := 46) (j' := 7) rfl rfl rfl (g_ft rfl rfl rfl g5) ?_
     refine k_no (d := 47) (j' := 8) rfl rfl rfl (g_ft rfl rfl rfl g5) ?_
     refine k_no (d := 48) (j' := 9) rfl rfl rfl (g_ft rfl rfl rfl g5) ?_
     refine k_no (d := 49) (j' := 10) rfl rfl rfl (g_ft rfl rfl rfl g5) ?_
     refine k_no (d := 50) (j' := 11) rfl rfl rfl (g_ft rfl rfl rfl g5) ?_
     refine q0 51 485 12 rfl rfl (T_pick_t rfl rfl rfl g5) rfl ?_
     refine q0 52 501 13 rfl rfl (T_move rfl rfl) rfl ?_
     refine k_no (d := 53) (j' := 14) rfl rfl rfl (g_ft rfl rfl rfl rfl) ?_
     refine k_no (d := 54) (j' := 15) rfl rfl rfl (g_ft rfl rfl rfl rfl) ?_
     refine k_no (d := 55) (j' := 16) rfl rfl rfl (g_ft rfl rfl rfl rfl) ?_
     refine k_no (d := 56) (j' := 17) rfl rfl rfl (g_ft rfl rfl rfl rfl) ?_
     refine k_no (d := 57) (j' := 18) rfl rfl rfl (g_ft rfl rfl rfl rfl) ?_
     refine q0 58 597 19 rfl rfl (T_pick_t rfl rfl rfl rfl) rfl ?_
     refine q0 59 613 20 rfl rfl (T_move rfl rfl) rfl ?_
     refine k_no (d := 60) (j' := 21) rfl rfl rfl (g_ft rfl rfl rfl rfl) ?_
     refine k_no (d := 61) (j' := 22) rfl rfl rfl (g_ft rfl rfl rfl rfl) ?_
     refine k_no (d := 62) (j' := 23) rfl rfl rfl (g_ft rfl rfl rfl rfl) ?_
     refine k_no (d := 63) (j' := 24) rfl rfl rfl (g_ft rfl rfl rfl rfl) ?_
     refine k_no (d := 64) (j' := 25) rfl rfl rfl (g_ft rfl rfl rfl rfl) ?_
     refine q0 65 709 26 rfl rfl (T_pick_t rfl rfl rfl rfl) rfl ?_
     refine q0 66 725 27 rfl rfl (T_move rfl rfl) rfl ?_
     refine k_no (d := 67) (j' := 28) rfl rfl rfl (g_ft rfl rfl rfl rfl) ?_
     refine k_no (d := 68) (j' := 29) rfl rfl rfl (g_ft rfl rfl rfl rfl) ?_
     refine k_no (d := 69) (j' := 30) rfl rfl rfl (g_ft rfl rfl rfl rfl) ?_
     refine k_no (d := 70) (j' := 31) rfl rfl rfl (g_ft rfl rfl rfl rfl) ?_
     refine k_no (d := 71) (j' := 32) rfl rfl rfl (g_ft rfl rfl rfl rfl) ?_
     refine k_no (d := 72) (j' := 33) rfl rfl rfl (g_ft rfl rfl rfl rfl) ?_
     refine k_no (d := 73) (j' := 34) rfl rfl rfl (g_ft rfl rfl rfl rfl) ?_
     refine q0 74 853 35 rfl rfl (T_pick_t rfl rfl rfl rfl) rfl ?_
     refine k_done rfl ?_
     refine thenK_n ?_
     refine W_cond rfl (fun g6 => ?_) (fun g6 => ?_)
     ·skip
      refine W_seq ?_
      refine W_seqK (b' := 885) rfl rfl ?_
      refine q0 4 869 1 rfl rfl (T_assign rfl rfl) rfl ?_
      refine k_done rfl ?_
      refine thenK_n ?_
      refine W_ret ?_
      refine thenK_r ?_
      refine blockK_r ?_
      refine thenK_r ?_
      refine thenK_r ?_
      refine blockK_r ?_
      refine thenK_r ?_
      exact .mk [] (.inr rfl) (.tmp rfl (.nil)) (by simp only [resLV, LV.ren, LV.v.injEq, Value.bool.injEq]; exact fn_ne (.inr (.inr ⟨j, fun e => h5 (by rw [e])⟩))) (.nil) rfl
     ·exact absurd (g6.symm.trans rfl) (by decide)
    ·have h5 := c_neq_f g5
     refine k_op0 (d := 46) (b := 405) (j' := 7) rfl rfl rfl rfl (g_ff rfl rfl rfl g5) (T_fa D (m := 2) rfl rfl rfl rfl rfl rfl) rfl ?_
     refine k_op0 (d := 47) (b := 421) (j' := 8) rfl rfl rfl rfl (g_ff rfl rfl rfl g5) (T_load_b D rfl rfl rfl rfl rfl rfl) rfl ?_
     refine k_op0 (d := 48) (b := 437) (j' := 9) rfl rfl rfl rfl (g_ff rfl rfl rfl g5) (T_fa D (m := 2) rfl rfl rfl rfl rfl rfl) rfl ?_
     refine k_op0 (d := 49) (b := 453) (j' := 10) rfl rfl rfl rfl (g_ff rfl rfl rfl g5) (T_load_b D rfl rfl rfl rfl rfl rfl) rfl ?_
     refine k_op0 (d := 50) (b := 469) (j' := 11) rfl rfl rfl rfl (g_ff rfl rfl rfl g5) (T_cmp rfl rfl rfl rfl) rfl ?_
     refine q0 51 485 12 rfl rfl (T_pick_f rfl rfl rfl g5) rfl ?_
     refine q0 52 501 13 rfl rfl (T_move rfl rfl) rfl ?_
     refine k_split (d := 52) rfl (fun g7 => ?_) (fun g7 => ?_)
     ·have h7 := c_neq_t g7
      refine k_no (d := 53) (j' := 14) rfl rfl rfl (g_ft rfl rfl rfl g7) ?_
      refine k_no (d := 54) (j' := 15) rfl rfl rfl (g_ft rfl rfl rfl g7) ?_
      refine k_no (d := 55) (j' := 16) rfl rfl rfl (g_ft rfl rfl rfl g7) ?_
      refine k_no (d := 56) (j' := 17) rfl rfl rfl (g_ft rfl rfl rfl g7) ?_
      refine k_no (d := 57) (j' := 18) rfl rfl rfl (g_ft rfl rfl rfl g7) ?_
      refine q0 58 597 19 rfl rfl (T_pick_t rfl rfl rfl g7) rfl ?_
      refine q0 59 613 20 rfl rfl (T_move rfl rfl) rfl ?_
      refine k_no (d := 60) (j' := 21) rfl rfl rfl (g_ft rfl rfl rfl rfl) ?_
      refine k_no (d := 61) (j' := 22) rfl rfl rfl (g_ft rfl rfl rfl rfl) ?_
      refine k_no (d := 62) (j' := 23) rfl rfl rfl (g_ft rfl rfl rfl rfl) ?_
      refine k_no (d := 63) (j' := 24) rfl rfl rfl (g_ft rfl rfl rfl rfl) ?_
      refine k_no (d := 64) (j' := 25) rfl rfl rfl (g_ft rfl rfl rfl rfl) ?_
      refine q0 65 709 26 rfl rfl (T_pick_t rfl rfl rfl rfl) rfl ?_
      refine q0 66 725 27 rfl rfl (T_move rfl rfl) rfl ?_
      refine k_no (d := 67) (j' := 28) rfl rfl rfl (g_ft rfl rfl rfl rfl) ?_
      refine k_no (d := 68) (j' := 29) rfl rfl rfl (g_ft rfl rfl rfl rfl) ?_
      refine k_no (d := 69) (j' := 30) rfl rfl rfl (g_ft rfl rfl rfl rfl) ?_
      refine k_no (d := 70) (j' := 31) rfl rfl rfl (g_ft rfl rfl rfl rfl) ?_
      refine k_no (d := 71) (j' := 32) rfl rfl rfl (g_ft rfl rfl rfl rfl) ?_
      refine k_no (d := 72) (j' := 33) rfl rfl rfl (g_ft rfl rfl rfl rfl) ?_
      refine k_no (d := 73) (j' := 34) rfl rfl rfl (g_ft rfl rfl rfl rfl) ?_
      refine q0 74 853 35 rfl rfl (T_pick_t rfl rfl rfl rfl) rfl ?_
      refine k_done rfl ?_
      refine thenK_n ?_
      refine W_cond rfl (fun g8 => ?_) (fun g8 => ?_)
      ·skip
       refine W_seq ?_
       refine W_seqK (b' := 885) rfl rfl ?_
       refine q0 4 869 1 rfl rfl (T_assign rfl rfl) rfl ?_
       refine k_done rfl ?_
       refine thenK_n ?_
       refine W_ret ?_
       refine thenK_r ?_
       refine blockK_r ?_
       refine thenK_r ?_
       refine thenK_r ?_
       refine blockK_r ?_
       refine thenK_r ?_
       exact .mk [] (.inr rfl) (.tmp rfl (.nil)) (by simp only [resLV, LV.ren, LV.v.injEq, Value.bool.injEq]; exact fn_ne (.inr (.inr ⟨j, fun e => h7 (by rw [e])⟩))) (.nil) rfl
      ·exact absurd (g8.symm.trans rfl) (by decide)
     ·have h7 := c_neq_f g7
      refine k_op0 (d := 53) (b := 517) (j' := 14) rfl rfl rfl rfl (g_ff rfl rfl rfl g7) (T_fa D (m := 3) rfl rfl rfl rfl rfl rfl) rfl ?_
      refine k_op0 (d := 54) (b := 533) (j' := 15) rfl rfl rfl rfl (g_ff rfl rfl rfl g7) (T_load_b D rfl rfl rfl rfl rfl rfl) rfl ?_
      refine k_op0 (d := 55) (b := 549) (j' := 16) rfl rfl rfl rfl (g_ff rfl rfl rfl g7) (T_fa D (m := 3) rfl rfl rfl rfl rfl rfl) rfl ?_
      refine k_op0 (d := 56) (b := 565) (j' := 17) rfl rfl rfl rfl (g_ff rfl rfl rfl g7) (T_load_b D rfl rfl rfl rfl rfl rfl) rfl ?_
      refine k_op0 (d := 57) (b := 581) (j' := 18) rfl rfl rfl rfl (g_ff rfl rfl rfl g7) (T_cmp rfl rfl rfl rfl) rfl ?_
      refine q0 58 597 19 rfl rfl (T_pick_f rfl rfl rfl g7) rfl ?_
      refine q0 59 613 20 rfl rfl (T_move rfl rfl) rfl ?_
      refine k_split (d := 59) rfl (fun g9 => ?_) (fun g9 => ?_)
      ·have h9 := c_neq_t g9
       refine k_no (d := 60) (j' := 21) rfl rfl rfl (g_ft rfl rfl rfl g9) ?_
       refine k_no (d := 61) (j' := 22) rfl rfl rfl (g_ft rfl rfl rfl g9) ?_
       refine k_no (d := 62) (j' := 23) rfl rfl rfl (g_ft rfl rfl rfl g9) ?_
       refine k_no (d := 63) (j' := 24) rfl rfl rfl (g_ft rfl rfl rfl g9) ?_
       refine k_no (d := 64) (j' := 25) rfl rfl rfl (g_ft rfl rfl rfl g9) ?_
       refine q0 65 709 26 rfl rfl (T_pick_t rfl rfl rfl g9) rfl ?_
       refine q0 66 725 27 rfl rfl (T_move rfl rfl) rfl ?_
       refine k_no (d := 67) (j' := 28) rfl rfl rfl (g_ft rfl rfl rfl rfl) ?_
       refine k_no (d := 68) (j' := 29) rfl rfl rfl (g_ft rfl rfl rfl rfl) ?_
       refine k_no (d := 69) (j' := 30) rfl rfl rfl (g_ft rfl rfl rfl rfl) ?_
       refine k_no (d := 70) (j' := 31) rfl rfl rfl (g_ft rfl rfl rfl rfl) ?_
       refine k_no (d := 71) (j' := 32) rfl rfl rfl (g_ft rfl rfl rfl rfl) ?_
       refine k_no (d := 72) (j' := 33) rfl rfl rfl (g_ft rfl rfl rfl rfl) ?_
       refine k_no (d := 73) (j' := 34) rfl rfl rfl (g_ft rfl rfl rfl rfl) ?_
       refine q0 74 853 35 rfl rfl (T_pick_t rfl rfl rfl rfl) rfl ?_
       refine k_done rfl ?_
       refine thenK_n ?_
       refine W_cond rfl (fun g10 => ?_) (fun g10 => ?_)
       ·skip
        refine W_seq ?_
        refine W_seqK (b' := 885) rfl rfl ?_
        refine q0 4 869 1 rfl rfl (T_assign rfl rfl) rfl ?_
        refine k_done rfl ?_
        refine thenK_n ?_
        refine W_ret ?_
        refine thenK_r ?_
        refine blockK_r ?_
        refine thenK_r ?_
        refine thenK_r ?_
        refine blockK_r ?_
        refine thenK_r ?_
        exact .mk [] (.inr rfl) (.tmp rfl (.nil)) (by simp only [resLV, LV.ren, LV.v.injEq, Value.bool.injEq]; exact fn_ne (.inr (.inr ⟨j, fun e => h9 (by rw [e])⟩))) (.nil) rfl
       ·exact absurd (g10.symm.trans rfl) (by decide)
      ·have h9 := c_neq_f g9
       refine k_op0 (d := 60) (b := 629) (j' := 21) rfl rfl rfl rfl (g_ff rfl rfl rfl g9) (T_fa D (m := 4) rfl rfl rfl rfl rfl rfl) rfl ?_
       refine k_op0 (d := 61) (b := 645) (j' := 22) rfl rfl rfl rfl (g_ff rfl rfl rfl g9) (T_load_b D rfl rfl rfl rfl rfl rfl) rfl ?_
       refine k_op0 (d := 62) (b := 661) (j' := 23) rfl rfl rfl rfl (g_ff rfl rfl rfl g9) (T_fa D (m := 4) rfl rfl rfl rfl rfl rfl) rfl ?_
       refine k_op0 (d := 63) (b := 677) (j' := 24) rfl rfl rfl rfl (g_ff rfl rfl rfl g9) (T_load_b D rfl rfl rfl rfl rfl rfl) rfl ?_
       refine k_op0 (d := 64) (b := 693) (j' := 25) rfl rfl rfl rfl (g_ff rfl rfl rfl g9) (T_cmp rfl rfl rfl rfl) rfl ?_
       refine q0 65 709 26 rfl rfl (T_pick_f rfl rfl rfl g9) rfl ?_
       refine q0 66 725 27 rfl rfl (T_move rfl rfl) rfl ?_
       refine k_split (d := 66) rfl (fun g11 => ?_) (fun g11 => ?_)
       ·have h11 := c_neq_t g11
        refine k_no (d := 67) (j' := 28) rfl rfl rfl (g_ft rfl rfl rfl g11) ?_
        refine k_no (d := 68) (j' := 29) rfl rfl rfl (g_ft rfl rfl rfl g11) ?_
        refine k_no (d := 69) (j' := 30) rfl rfl rfl (g_ft rfl rfl rfl g11) ?_
        refine k_no (d := 70) (j' := 31) rfl rfl rfl (g_ft rfl rfl rfl g11) ?_
        refine k_no (d := 71) (j' := 32) rfl rfl rfl (g_ft rfl rfl rfl g11) ?_
        refine k_no (d := 72) (j' := 33) rfl rfl rfl (g_ft rfl rfl rfl g11) ?_
        refine k_no (d := 73) (j' := 34) rfl rfl rfl (g_ft rfl rfl rfl g11) ?_
        refine q0 74 853 35 rfl rfl (T_pick_t rfl rfl rfl g11) rfl ?_
        refine k_done rfl ?_
        refine thenK_n ?_
        refine W_cond rfl (fun g12 => ?_) (fun g12 => ?_)
        ·skip
         refine W_seq ?_
         refine W_seqK (b' := 885) rfl rfl ?_
         refine q0 4 869 1 rfl rfl (T_assign rfl rfl) rfl ?_
         refine k_done rfl ?_
         refine thenK_n ?_
         refine W_ret ?_
         refine thenK_r ?_
         refine blockK_r ?_
         refine thenK_r ?_
         refine thenK_r ?_
         refine blockK_r ?_
         refine thenK_r ?_
         exact .mk [] (.inr rfl) (.tmp rfl (.nil)) (by simp only [resLV, LV.ren, LV.v.injEq, Value.bool.injEq]; exact fn_ne (.inr (.inr ⟨j, fun e => h11 (by rw [e])⟩))) (.nil) rfl
        ·exact absurd (g12.symm.trans rfl) (by decide)
       ·have h11 := c_neq_f g11
        refine k_op0 (d := 67) (b := 741) (j' := 28) rfl rfl rfl rfl (g_ff rfl rfl rfl g11) (T_fa D (m := 0) rfl rfl rfl rfl rfl rfl) rfl ?_
        refine k_op0 (d := 68) (b := 757) (j' := 29) rfl rfl rfl rfl (g_ff rfl rfl rfl g11) (T_load_b D rfl rfl rfl rfl rfl rfl) rfl ?_
        refine k_op0 (d := 69) (b := 773) (j' := 30) rfl rfl rfl rfl (g_ff rfl rfl rfl g11) (T_len D rfl rfl rfl rfl rfl rfl) rfl ?_
        refine k_op0 (d := 70) (b := 789) (j' := 31) rfl rfl rfl rfl (g_ff rfl rfl rfl g11) (T_fa D (m := 0) rfl rfl rfl rfl rfl rfl) rfl ?_
        refine k_op0 (d := 71) (b := 805) (j' := 32) rfl rfl rfl rfl (g_ff rfl rfl rfl g11) (T_load_b D rfl rfl rfl rfl rfl rfl) rfl ?_
        refine k_op0 (d := 72) (b := 821) (j' := 33) rfl rfl rfl rfl (g_ff rfl rfl rfl g11) (T_len D rfl rfl rfl rfl rfl rfl) rfl ?_
        refine k_op0 (d := 73) (b := 837) (j' := 34) rfl rfl rfl rfl (g_ff rfl rfl rfl g11) (T_cmp rfl rfl rfl rfl) rfl ?_
        refine q0 74 853 35 rfl rfl (T_pick_f rfl rfl rfl g11) rfl ?_
        refine k_done rfl ?_
        refine thenK_n ?_
        refine W_cond rfl (fun g13 => ?_) (fun g13 => ?_)
        ·have h13 := c_neq_t g13
         refine W_seq ?_
         refine W_seqK (b' := 885) rfl rfl ?_
         refine q0 4 869 1 rfl rfl (T_assign rfl rfl) rfl ?_
         refine k_done rfl ?_
         refine thenK_n ?_
         refine W_ret ?_
         refine thenK_r ?_
         refine blockK_r ?_
         refine thenK_r ?_
         refine thenK_r ?_
         refine blockK_r ?_
         refine thenK_r ?_
         exact .mk [] (.inr rfl) (.tmp rfl (.nil)) (by simp only [resLV, LV.ren, LV.v.injEq, Value.bool.injEq]; exact fn_ne (.inr (.inr ⟨j, fun e => h13 (by rw [e])⟩))) (.nil) rfl
        ·have h13 := c_neq_f g13
         refine W_skip ?_
         refine thenK_n ?_
         refine W_seq ?_
         refine W_seqK (b' := 885) rfl rfl ?_
         refine q0 8 869 1 rfl rfl (T_assign rfl rfl) rfl ?_
         refine k_done rfl ?_
         refine thenK_n ?_
         refine W_block ?_
         have hij := hi (f.blocks.getD j default) (getD_mem (by omega))
         refine W_loop (ι := Nat) 9 (fun i => ⟨[(2, .p 3 0), (3, .p 4 0), (5, .v (.int .i64 (j : Int))), (6, .p 5 0), (7, .p 7 0), (8, .v (.int .i64 (i : Int)))], [(1, .fz 5 (f.blocks.map eBlock)), (2, .fz 5 (g.blocks.map eBlock)), (3, .box 29 [.v (.int .i64 f.regs), .r 1]), (4, .box 29 [.v (.int .i64 g.regs), .r 2]), (5, .box 72 [.r 6, .v (.int .i64 (f.blocks.getD j default).fin), .v (.int .i64 (f.blocks.getD j default).v), .v (.int .i64 (f.blocks.getD j default).to), .v (.int .i64 (f.blocks.getD j default).els)]), (6, .fz 8 ((f.blocks.getD j default).ins.map eTac)), (7, .box 72 [.r 8, .v (.int .i64 (g.blocks.getD j default).fin), .v (.int .i64 (g.blocks.getD j default).v), .v (.int .i64 (g.blocks.getD j default).to), .v (.int .i64 (g.blocks.getD j default).els)]), (8, .fz 8 ((g.blocks.getD j default).ins.map eTac))]⟩) (fun i => i ≤ (f.blocks.getD j default).ins.length ∧ ∀ m, m < i → (f.blocks.getD j default).ins.getD m default = (g.blocks.getD j default).ins.getD m default) (fun i => (f.blocks.getD j default).ins.length - i) (0) (by exact ⟨Nat.zero_le _, fun m h => absurd h (Nat.not_lt_zero _)⟩) ?_ (fun i hI => ?_)
         ·exact ⟨[(3, 3), (4, 4), (5, 165), (6, 149), (7, 277), (8, 261)], .same rfl rfl (.same rfl rfl (.eq rfl (.same rfl rfl (.same rfl rfl (.eq rfl (.nil) (by first | rfl | simp)))) (by first | rfl | simp))), .fzE rfl (.fzE rfl (.box (by first | rfl | simp) (.box (by first | rfl | simp) (.box (by first | rfl | simp) (.fzE rfl (.box (by first | rfl | simp) (.fzE rfl (.nil) (by first | rfl | simp))) (by first | rfl | simp))))) (by first | rfl | simp)) (by first | rfl | simp), rfl⟩
         refine W_seq ?_
         refine W_seq ?_
         refine W_seqK (b' := 89) rfl rfl ?_
         refine q0 75 9 1 rfl rfl (T_move rfl rfl) rfl ?_
         refine q0 76 25 2 rfl rfl (T_fa D (m := 0) rfl rfl rfl rfl rfl rfl) rfl ?_
         refine q0 77 41 3 rfl rfl (T_load_b D rfl rfl rfl rfl rfl rfl) rfl ?_
         refine q0 78 57 4 rfl rfl (T_len D rfl rfl rfl rfl rfl rfl) rfl ?_
         refine q0 79 73 5 rfl rfl (T_cmp rfl rfl rfl rfl) rfl ?_
         refine k_done rfl ?_
         refine thenK_n ?_
         refine W_cond rfl (fun g14 => ?_) (fun g14 => ?_)
         ·have h14 := c_lss_t g14
          refine W_skip ?_
          refine thenK_n ?_
          refine W_seq ?_
          refine W_block ?_
          refine W_seq ?_
          refine W_anyK (b' := 265) rfl rfl rfl ?_
          refine q0 82 89 1 rfl rfl (T_fa D (m := 0) rfl rfl rfl rfl rfl rfl) rfl ?_
          refine q0 83 105 2 rfl rfl (T_load_b D rfl rfl rfl rfl rfl rfl) rfl ?_
          refine q0 84 121 3 rfl rfl (T_move rfl rfl) rfl ?_
          first | refine q0 85 137 4 rfl rfl (T_indexAddr D rfl rfl rfl rfl rfl rfl rfl rfl (by first | assumption | omega | (simp; omega))) rfl ?_ | refine q0 85 137 4 rfl rfl (T_indexAddrZ D rfl rfl rfl rfl rfl rfl rfl rfl (by first | assumption | omega | (simp; omega)) (by first | assumption | omega | (simp; omega))) rfl ?_
          refine q0 86 153 5 rfl rfl (T_ldEA D (l := [.v _, .v _, .v _, .v _, .v _, .v _, .v _, .v _]) (nn := 0) (upd := []) rfl rfl rfl rfl rfl (by first | assumption | omega | (simp; omega)) rfl rfl rfl rfl rfl) rfl ?_
          refine q0 87 169 6 rfl rfl (T_fa D (m := 0) rfl rfl rfl rfl rfl rfl) rfl ?_
          refine q0 88 185 7 rfl rfl (T_load_b D rfl rfl rfl rfl rfl rfl) rfl ?_
          refine q0 89 201 8 rfl rfl (T_move rfl rfl) rfl ?_
          first | refine q0 90 217 9 rfl rfl (T_indexAddr D rfl rfl rfl rfl rfl rfl rfl rfl (by first | assumption | omega | (simp; omega))) rfl ?_ | refine q0 90 217 9 rfl rfl (T_indexAddrZ D rfl rfl rfl rfl rfl rfl rfl rfl (by first | assumption | omega | (simp; omega)) (by first | assumption | omega | (simp; omega))) rfl ?_
          refine q0 91 233 10 rfl rfl (T_ldEA D (l := [.v _, .v _, .v _, .v _, .v _, .v _, .v _, .v _]) (nn := 0) (upd := []) rfl rfl rfl rfl rfl (by first | assumption | omega | (simp; omega)) rfl rfl rfl rfl rfl) rfl ?_
          refine q0 92 249 11 rfl rfl (T_eqTacN ((f.blocks.getD j default).ins.getD i default) ((g.blocks.getD j default).ins.getD i default) rfl rfl rfl) rfl ?_
          refine k_done rfl ?_
          refine ⟨rfl, ?_⟩
          refine thenK_n ?_
          refine W_cond rfl (fun g15 => ?_) (fun g15 => ?_)
          ·have h15 := g15; (try simp only [cmpB, decide_eq_true_eq, decide_eq_false_iff_not, beq_iff_eq, beq_eq_false_iff_ne, bne_iff_ne, ne_eq, bne_eq_false_iff_eq, Bool.not_eq_true', Bool.not_eq_false', Int.not_lt, Int.not_le] at h15)
           refine W_seq ?_
           refine W_seqK (b' := 281) rfl rfl ?_
           refine q0 4 265 1 rfl rfl (T_assign rfl rfl) rfl ?_
           refine k_done rfl ?_
           refine thenK_n ?_
           refine W_ret ?_
           refine blockK_r ?_
           refine thenK_r ?_
           refine thenK_r ?_
           refine blockK_r ?_
           refine blockK_r ?_
           refine thenK_r ?_
           refine thenK_r ?_
           refine blockK_r ?_
           refine thenK_r ?_
           exact .mk [] (.inr rfl) (.tmp rfl (.nil)) (by simp only [resLV, LV.ren, LV.v.injEq, Value.bool.injEq]; exact fn_ne (.inr (.inr ⟨j, fun e => h15 (by rw [e])⟩))) (.nil) rfl
          ·have h15 := g15; (try simp only [cmpB, decide_eq_true_eq, decide_eq_false_iff_not, beq_iff_eq, beq_eq_false_iff_ne, bne_iff_ne, ne_eq, bne_eq_false_iff_eq, Bool.not_eq_true', Bool.not_eq_false', Int.not_lt, Int.not_le] at h15)
           refine W_skip ?_
           refine blockK_n ?_
           refine thenK_n ?_
           refine W_seqK (b' := 313) rfl rfl ?_
           refine q0 80 265 1 rfl rfl (T_move rfl rfl) rfl ?_
           refine q0 81 281 2 rfl rfl (T_add64 rfl rfl rfl (by first | assumption | omega | (simp; omega))) rfl ?_
           refine q0 8 297 3 rfl rfl (T_assign rfl rfl) rfl ?_
           refine k_done rfl ?_
           refine thenK_n ?_
           refine ⟨i + 1, by (try dsimp only); exact ⟨by omega, fun m hm => by rcases Nat.lt_or_ge m i with h | h; exact hI.2 m h; rw [show m = i by omega]; assumption⟩, by (try dsimp only); omega, ?_⟩
           exact ⟨[(3, 3), (4, 4), (5, 5), (6, 6), (7, 7), (8, 8)], .same rfl rfl (.same rfl rfl (.eq rfl (.same rfl rfl (.same rfl rfl (.eq rfl (.nil) (by first | rfl | simp)))) rfl)), .fzE rfl (.fzE rfl (.box (by first | rfl | simp) (.box (by first | rfl | simp) (.box (by first | rfl | simp) (.fzE rfl (.box (by first | rfl | simp) (.fzE rfl (.nil) rfl)) rfl)))) rfl) rfl, rfl⟩
         ·have h14 := c_lss_f g14
          refine W_exit ?_
          refine thenK_e ?_
          refine thenK_e ?_
          refine blockK_hit ?_
          refine blockK_n ?_
          refine thenK_n ?_
          refine W_seqK (b' := 137) rfl rfl ?_
          refine q0 28 89 1 rfl rfl (T_move rfl rfl) rfl ?_
          refine q0 29 105 2 rfl rfl (T_add64 rfl rfl rfl (by first | assumption | omega | (simp; omega))) rfl ?_
          refine q0 5 121 3 rfl rfl (T_assign rfl rfl) rfl ?_
          refine k_done rfl ?_
          refine thenK_n ?_
          refine ⟨j + 1, by (try dsimp only); exact ⟨by omega, fun i1 h => by rcases Nat.lt_or_ge i1 j with h0 | h0; exact hJ.2 i1 h0; rw [show i1 = j by omega]; exact block_ext (by omega) (by omega) (by omega) (by omega) (ext_getD (by omega) (fun m hm => hI.2 m (by omega)))⟩, by (try dsimp only); omega, ?_⟩
          exact ⟨[(3, 3), (4, 4)], .same rfl rfl (.same rfl rfl (.eq rfl (.nil) (by first | rfl | simp))), .fzE rfl (.fzE rfl (.box (by first | rfl | simp) (.box (by first | rfl | simp) (.nil))) rfl) rfl, rfl⟩
   ·have h4 := c_lss_f g4
    refine W_exit ?_
    refine thenK_e ?_
    refine thenK_e ?_
    refine blockK_hit ?_
    refine thenK_n ?_
    refine W_seq ?_
    refine W_seqK (b' := 101) rfl rfl ?_
    refine q0 4 85 1 rfl rfl (T_assign rfl rfl) rfl ?_
    refine k_done rfl ?_
    refine thenK_n ?_
    refine W_ret ?_
    exact .mk [] (.inr rfl) (.tmp rfl (.nil)) (by simp only [resLV, LV.ren, LV.v.injEq, Value.bool.injEq]; exact fn_eq h1 (by omega) (fun j1 h => hJ.2 j1 (by omega))) (.nil) rfl
end Lg
end Go.Proofs.Ytpfhmodjjljpjaa

namespace Go.Proofs.Ytpfhmodjjljpjaa
open Go.RowKit
namespace Lg
def visit (next : List (List Int)) (bar : Int) : Nat → Int → List Bool × List Bool → Option (List Bool × List Bool)
  | 0, _, _ => none
  | m + 1, b, st => if b < 0 ∨ b ≥ (next.length : Int) ∨ st.1.getD b.toNat default = true ∨ b = bar then some st
    else ((next.getD b.toNat default).foldlM (fun st n => visit next bar m n st) (st.1.set b.toNat true, st.2)).map fun st => (st.1, st.2.set b.toNat true)
theorem foldlM_take {α β : Type} [Inhabited β] (f : α → β → Option α) : ∀ (l : List β) (a r : α), l.foldlM f a = some r → ∀ j, j ≤ l.length → ∃ st, (l.take j).foldlM f a = some st ∧ (j < l.length → ∃ st', f st (l.getD j default) = some st' ∧ (l.take (j + 1)).foldlM f a = some st')
  | [], a, r, h, j, hj => ⟨a, by simp, fun hj => by simp at hj⟩
  | b :: l, a, r, h, 0, hj => by
    simp only [List.foldlM_cons] at h
    cases hb : f a b with
    | none => rw [hb] at h; cases h
    | some a' => exact ⟨a, by simp, fun _ => ⟨a', by simpa using hb, by simp [hb]⟩⟩
  | b :: l, a, r, h, j + 1, hj => by
    simp only [List.foldlM_cons] at h
    cases hb : f a b with
    | none => rw [hb] at h; cases h
    | some a' =>
      rw [hb] at h
      obtain ⟨st, h1, h2⟩ := foldlM_take f l a' r h j (by simpa using hj)
      refine ⟨st, by simp [hb, h1], fun hj2 => ?_⟩
      obtain ⟨st', h3, h4⟩ := h2 (by simpa using hj2)
      exact ⟨st', by simpa using h3, by simpa [hb] using h4⟩
theorem foldlM_len {β : Type} (f : List Bool × List Bool → β → Option (List Bool × List Bool)) (n : Nat) (hf : ∀ st x st', f st x = some st' → st.1.length = n → st.2.length = n → st'.1.length = n ∧ st'.2.length = n) : ∀ (l : List β) (a r : List Bool × List Bool), l.foldlM f a = some r → a.1.length = n → a.2.length = n → r.1.length = n ∧ r.2.length = n
  | [], a, r, h, h1, h2 => by cases h; exact ⟨h1, h2⟩
  | b :: l, a, r, h, h1, h2 => by
    simp only [List.foldlM_cons] at h
    cases hb : f a b with
    | none => rw [hb] at h; cases h
    | some a' =>
      rw [hb] at h
      obtain ⟨h3, h4⟩ := hf a b a' hb h1 h2
      exact foldlM_len f n hf l a' r h h3 h4
theorem visit_len (next : List (List Int)) (bar : Int) (n : Nat) : ∀ (m : Nat) (b : Int) (st st' : List Bool × List Bool), visit next bar m b st = some st' → st.1.length = n → st.2.length = n → st'.1.length = n ∧ st'.2.length = n
  | 0, b, st, st', h, _, _ => by cases h
  | m + 1, b, st, st', h, h1, h2 => by
    rw [visit] at h
    split at h
    · cases h; exact ⟨h1, h2⟩
    · obtain ⟨r, hr, rfl⟩ := Option.map_eq_some_iff.1 h
      obtain ⟨h3, h4⟩ := foldlM_len _ n (fun st x st' h => visit_len next bar n m x st st' h) _ _ _ hr (by simpa using h1) h2
      exact ⟨h3, by simpa using h4⟩
def vnext (next : List (List Int)) (bar : Int) (m : Nat) (b : Int) (st : List Bool × List Bool) : List Bool × List Bool := (visit next bar m b st).getD st
theorem vstep {next : List (List Int)} {bar : Int} {m : Nat} {l : List Int} {a r st : List Bool × List Bool} (h : l.foldlM (fun st n => visit next bar m n st) a = some r) {j : Nat} (hj : j < l.length) (hst : (l.take j).foldlM (fun st n => visit next bar m n st) a = some st) :
    visit next bar m (l.getD j default) st = some (vnext next bar m (l.getD j default) st) ∧ (l.take (j + 1)).foldlM (fun st n => visit next bar m n st) a = some (vnext next bar m (l.getD j default) st) := by
  obtain ⟨st1, h1, h2⟩ := foldlM_take _ l a r h j (by omega)
  obtain ⟨st', h3, h4⟩ := h2 hj
  rw [hst] at h1
  cases h1
  unfold vnext
  rw [h3]
  exact ⟨rfl, h4⟩
theorem flat_eB {e : Nat} (l : List Bool) : FlatOb (.row e 1 (l.map eB)) := fun r hr cl hc => by
  obtain ⟨x, _, rfl⟩ := List.mem_map.1 hr
  simp [eB] at hc
  exact ⟨_, hc⟩
theorem flat_eI {e : Nat} (l : List Int) : FlatOb (.row e 1 (l.map eI)) := fun r hr cl hc => by
  obtain ⟨x, _, rfl⟩ := List.mem_map.1 hr
  simp [eI] at hc
  exact ⟨_, hc⟩
end Lg
end Go.Proofs.Ytpfhmodjjljpjaa

namespace Go.Proofs.Ytpfhmodjjljpjaa
open Go.RowKit
namespace Lg
set_option maxRecDepth 100000
set_option linter.unusedVariables false
set_option linter.unusedSimpArgs false
theorem body133 : (Try.prog.funcs[133]?).map (fun fn => (fn.name == "runtime.NumGoroutine" || fn.body.isNone)) = some false := by kernel_rfl
theorem reach1_spec (o : List Bool) (b : Int) (h0 : 0 ≤ b) (hb : b < (o.length : Int)) : Spec Try.prog 133 [.v (.int .i64 b), .p 1 0] 3 [(1, .box 48 [.r 2]), (2, .row 4 1 (o.map eB))] (.tup []) 3 [(1, .box 48 [.r 2]), (2, .row 4 1 ((o.set b.toNat true).map eB))] := by
 refine spec_of D (fn := Try.f133) rfl rfl (Nat.le_of_ble_eq_true rfl) ?_
 refine W_seqK (b' := 67) rfl rfl ?_
 refine q0 3 3 1 rfl rfl (T_load_b D rfl rfl rfl rfl rfl rfl) rfl ?_
 refine q0 4 19 2 rfl rfl (T_move rfl rfl) rfl ?_
 first | refine q0 5 35 3 rfl rfl (T_indexAddr D rfl rfl rfl rfl rfl rfl rfl rfl (by first | assumption | omega | (simp; omega))) rfl ?_ | refine q0 5 35 3 rfl rfl (T_indexAddrZ D rfl rfl rfl rfl rfl rfl rfl rfl (by first | assumption | omega | (simp; omega)) (by first | assumption | omega | (simp; omega))) rfl ?_
 refine s1 51 4 rfl rfl (T_store_e D (z := _) rfl rfl rfl rfl (flat_v rfl) rfl rfl (by first | assumption | omega | (simp; omega)) (.v rfl (.nil)) rfl (Nat.le_of_ble_eq_true rfl) rfl) rfl ?_
 refine k_done rfl ?_
 exact .mk [] (.inl rfl) (.nil) rfl (.box (by first | rfl | simp) (.rowE rfl (.nil) (by first | rfl | simp))) rfl
theorem body136 : (Try.prog.funcs[136]?).map (fun fn => (fn.name == "runtime.NumGoroutine" || fn.body.isNone)) = some false := by kernel_rfl
theorem visit_spec (next : List (List Int)) (bar : Int) (hn : next.length ≤ 1000000) (hnl : ∀ l ∈ next, l.length ≤ 1000000) : ∀ (m : Nat) (b : Int) (s o s2 o2 : List Bool), visit next bar m b (s, o) = some (s2, o2) → s.length = next.length → o.length = next.length →  Spec Try.prog 136 [.v (.int .i64 b), .p 1 0, .p 2 0, .p 3 0, .p 4 0, .p 5 0] 10 [(1, .box 30 [.r 6]), (2, .box 48 [.r 7]), (3, .box 3 [.v (.int .i64 bar)]), (4, .box 108 [.fn 136 [.p 1 0, .p 2 0, .p 3 0, .p 4 0, .p 5 0]]), (5, .box 108 [.fn 133 [.p 8 0]]), (6, .fz 1 (next.map eIs)), (7, .row 4 1 (s.map eB)), (8, .box 48 [.r 9]), (9, .row 4 1 (o.map eB))] (.tup []) 10 [(1, .box 30 [.r 6]), (2, .box 48 [.r 7]), (3, .box 3 [.v (.int .i64 bar)]), (4, .box 108 [.fn 136 [.p 1 0, .p 2 0, .p 3 0, .p 4 0, .p 5 0]]), (5, .box 108 [.fn 133 [.p 8 0]]), (7, .row 4 1 (s2.map eB)), (8, .box 48 [.r 9]), (9, .row 4 1 (o2.map eB))] := by
 intro m
 induction m with
 | zero => intro b s o s2 o2 hv; cases hv
 | succ m ih =>
  intro b s o s2 o2 hv hs ho
  refine spec_of D (fn := Try.f136) rfl rfl (Nat.le_of_ble_eq_true rfl) ?_
  refine W_seq ?_
  refine W_seq ?_
  refine W_seqK (b' := 314) rfl rfl ?_
  refine q0 9 10 1 rfl rfl (T_move rfl rfl) rfl ?_
  refine q0 10 26 2 rfl rfl (T_cmp rfl rfl rfl rfl) rfl ?_
  refine q0 11 42 3 rfl rfl (T_move rfl rfl) rfl ?_
  refine k_split (d := 11) rfl (fun g1 => ?_) (fun g1 => ?_)
  ·have h1 := c_lss_t g1
   refine k_no (d := 12) (j' := 4) rfl rfl rfl (g_ft rfl rfl rfl g1) ?_
   refine k_no (d := 13) (j' := 5) rfl rfl rfl (g_ft rfl rfl rfl g1) ?_
   refine k_no (d := 14) (j' := 6) rfl rfl rfl (g_ft rfl rfl rfl g1) ?_
   refine k_no (d := 15) (j' := 7) rfl rfl rfl (g_ft rfl rfl rfl g1) ?_
   refine q0 16 122 8 rfl rfl (T_pick_t rfl rfl rfl g1) rfl ?_
   refine q0 17 138 9 rfl rfl (T_move rfl rfl) rfl ?_
   refine k_no (d := 18) (j' := 10) rfl rfl rfl (g_ft rfl rfl rfl rfl) ?_
   refine k_no (d := 19) (j' := 11) rfl rfl rfl (g_ft rfl rfl rfl rfl) ?_
   refine k_no (d := 20) (j' := 12) rfl rfl rfl (g_ft rfl rfl rfl rfl) ?_
   refine k_no (d := 21) (j' := 13) rfl rfl rfl (g_ft rfl rfl rfl rfl) ?_
   refine q0 22 218 14 rfl rfl (T_pick_t rfl rfl rfl rfl) rfl ?_
   refine q0 23 234 15 rfl rfl (T_move rfl rfl) rfl ?_
   refine k_no (d := 24) (j' := 16) rfl rfl rfl (g_ft rfl rfl rfl rfl) ?_
   refine k_no (d := 25) (j' := 17) rfl rfl rfl (g_ft rfl rfl rfl rfl) ?_
   refine k_no (d := 26) (j' := 18) rfl rfl rfl (g_ft rfl rfl rfl rfl) ?_
   refine q0 27 298 19 rfl rfl (T_pick_t rfl rfl rfl rfl) rfl ?_
   refine k_done rfl ?_
   refine thenK_n ?_
   refine W_cond rfl (fun g2 => ?_) (fun g2 => ?_)
   ·skip
    refine W_ret ?_
    refine thenK_r ?_
    exact .mk [] (.inr rfl) (.nil) rfl (.box (by first | rfl | (rw [visit, if_pos (by simp_all)] at hv; cases hv; rfl)) (.box (by first | rfl | (rw [visit, if_pos (by simp_all)] at hv; cases hv; rfl)) (.box (by first | rfl | (rw [visit, if_pos (by simp_all)] at hv; cases hv; rfl)) (.box (by first | rfl | (rw [visit, if_pos (by simp_all)] at hv; cases hv; rfl)) (.box (by first | rfl | (rw [visit, if_pos (by simp_all)] at hv; cases hv; rfl)) (.rowE rfl (.box (by first | rfl | (rw [visit, if_pos (by simp_all)] at hv; cases hv; rfl)) (.rowE rfl (.nil) (by first | rfl | (rw [visit, if_pos (by simp_all)] at hv; cases hv; rfl)))) (by first | rfl | (rw [visit, if_pos (by simp_all)] at hv; cases hv; rfl)))))))) rfl
   ·exact absurd (g2.symm.trans rfl) (by decide)
  ·have h1 := c_lss_f g1
   refine k_op0 (d := 12) (b := 58) (j' := 4) rfl rfl rfl rfl (g_ff rfl rfl rfl g1) (T_move rfl rfl) rfl ?_
   refine k_op0 (d := 13) (b := 74) (j' := 5) rfl rfl rfl rfl (g_ff rfl rfl rfl g1) (T_load_b D rfl rfl rfl rfl rfl rfl) rfl ?_
   refine k_op0 (d := 14) (b := 90) (j' := 6) rfl rfl rfl rfl (g_ff rfl rfl rfl g1) (T_len D rfl rfl rfl rfl rfl rfl) rfl ?_
   refine k_op0 (d := 15) (b := 106) (j' := 7) rfl rfl rfl rfl (g_ff rfl rfl rfl g1) (T_cmp rfl rfl rfl rfl) rfl ?_
   refine q0 16 122 8 rfl rfl (T_pick_f rfl rfl rfl g1) rfl ?_
   refine q0 17 138 9 rfl rfl (T_move rfl rfl) rfl ?_
   refine k_split (d := 17) rfl (fun g3 => ?_) (fun g3 => ?_)
   ·have h3 := c_geq_t g3
    refine k_no (d := 18) (j' := 10) rfl rfl rfl (g_ft rfl rfl rfl g3) ?_
    refine k_no (d := 19) (j' := 11) rfl rfl rfl (g_ft rfl rfl rfl g3) ?_
    refine k_no (d := 20) (j' := 12) rfl rfl rfl (g_ft rfl rfl rfl g3) ?_
    refine k_no (d := 21) (j' := 13) rfl rfl rfl (g_ft rfl rfl rfl g3) ?_
    refine q0 22 218 14 rfl rfl (T_pick_t rfl rfl rfl g3) rfl ?_
    refine q0 23 234 15 rfl rfl (T_move rfl rfl) rfl ?_
    refine k_no (d := 24) (j' := 16) rfl rfl rfl (g_ft rfl rfl rfl rfl) ?_
    refine k_no (d := 25) (j' := 17) rfl rfl rfl (g_ft rfl rfl rfl rfl) ?_
    refine k_no (d := 26) (j' := 18) rfl rfl rfl (g_ft rfl rfl rfl rfl) ?_
    refine q0 27 298 19 rfl rfl (T_pick_t rfl rfl rfl rfl) rfl ?_
    refine k_done rfl ?_
    refine thenK_n ?_
    refine W_cond rfl (fun g4 => ?_) (fun g4 => ?_)
    ·skip
     refine W_ret ?_
     refine thenK_r ?_
     exact .mk [] (.inr rfl) (.nil) rfl (.box (by first | rfl | (rw [visit, if_pos (by simp_all)] at hv; cases hv; rfl)) (.box (by first | rfl | (rw [visit, if_pos (by simp_all)] at hv; cases hv; rfl)) (.box (by first | rfl | (rw [visit, if_pos (by simp_all)] at hv; cases hv; rfl)) (.box (by first | rfl | (rw [visit, if_pos (by simp_all)] at hv; cases hv; rfl)) (.box (by first | rfl | (rw [visit, if_pos (by simp_all)] at hv; cases hv; rfl)) (.rowE rfl (.box (by first | rfl | (rw [visit, if_pos (by simp_all)] at hv; cases hv; rfl)) (.rowE rfl (.nil) (by first | rfl | (rw [visit, if_pos (by simp_all)] at hv; cases hv; rfl)))) (by first | rfl | (rw [visit, if_pos (by simp_all)] at hv; cases hv; rfl)))))))) rfl
    ·exact absurd (g4.symm.trans rfl) (by decide)
   ·have h3 := c_geq_f g3
    refine k_op0 (d := 18) (b := 154) (j' := 10) rfl rfl rfl rfl (g_ff rfl rfl rfl g3) (T_load_b D rfl rfl rfl rfl rfl rfl) rfl ?_
    refine k_op0 (d := 19) (b := 170) (j' := 11) rfl rfl rfl rfl (g_ff rfl rfl rfl g3) (T_move rfl rfl) rfl ?_
    first | refine k_op0 (d := 20) (b := 186) (j' := 12) rfl rfl rfl rfl (g_ff rfl rfl rfl g3) (T_indexAddr D rfl rfl rfl rfl rfl rfl rfl rfl (by first | assumption | omega | (simp; omega))) rfl ?_ | refine k_op0 (d := 20) (b := 186) (j' := 12) rfl rfl rfl rfl (g_ff rfl rfl rfl g3) (T_indexAddrZ D rfl rfl rfl rfl rfl rfl rfl rfl (by first | assumption | omega | (simp; omega)) (by first | assumption | omega | (simp; omega))) rfl ?_
    refine k_op0 (d := 21) (b := 202) (j' := 13) rfl rfl rfl rfl (g_ff rfl rfl rfl g3) (T_ldE D (lv := .v _) (nn := 0) (upd := []) rfl rfl rfl rfl rfl (by first | assumption | omega | (simp; omega)) rfl rfl rfl rfl) rfl ?_
    refine q0 22 218 14 rfl rfl (T_pick_f rfl rfl rfl g3) rfl ?_
    refine q0 23 234 15 rfl rfl (T_move rfl rfl) rfl ?_
    refine k_split (d := 23) rfl (fun g5 => ?_) (fun g5 => ?_)
    ·have h5 := g5; (try simp only [cmpB, decide_eq_true_eq, decide_eq_false_iff_not, beq_iff_eq, beq_eq_false_iff_ne, bne_iff_ne, ne_eq, bne_eq_false_iff_eq, Bool.not_eq_true', Bool.not_eq_false', Int.not_lt, Int.not_le] at h5)
     refine k_no (d := 24) (j' := 16) rfl rfl rfl (g_ft rfl rfl rfl g5) ?_
     refine k_no (d := 25) (j' := 17) rfl rfl rfl (g_ft rfl rfl rfl g5) ?_
     refine k_no (d := 26) (j' := 18) rfl rfl rfl (g_ft rfl rfl rfl g5) ?_
     refine q0 27 298 19 rfl rfl (T_pick_t rfl rfl rfl g5) rfl ?_
     refine k_done rfl ?_
     refine thenK_n ?_
     refine W_cond rfl (fun g6 => ?_) (fun g6 => ?_)
     ·skip
      refine W_ret ?_
      refine thenK_r ?_
      exact .mk [] (.inr rfl) (.nil) rfl (.box (by first | rfl | (rw [visit, if_pos (by simp_all)] at hv; cases hv; rfl)) (.box (by first | rfl | (rw [visit, if_pos (by simp_all)] at hv; cases hv; rfl)) (.box (by first | rfl | (rw [visit, if_pos (by simp_all)] at hv; cases hv; rfl)) (.box (by first | rfl | (rw [visit, if_pos (by simp_all)] at hv; cases hv; rfl)) (.box (by first | rfl | (rw [visit, if_pos (by simp_all)] at hv; cases hv; rfl)) (.rowE rfl (.box (by first | rfl | (rw [visit, if_pos (by simp_all)] at hv; cases hv; rfl)) (.rowE rfl (.nil) (by first | rfl | (rw [visit, if_pos (by simp_all)] at hv; cases hv; rfl)))) (by first | rfl | (rw [visit, if_pos (by simp_all)] at hv; cases hv; rfl)))))))) rfl
     ·exact absurd (g6.symm.trans rfl) (by decide)
    ·have h5 := g5; (try simp only [cmpB, decide_eq_true_eq, decide_eq_false_iff_not, beq_iff_eq, beq_eq_false_iff_ne, bne_iff_ne, ne_eq, bne_eq_false_iff_eq, Bool.not_eq_true', Bool.not_eq_false', Int.not_lt, Int.not_le] at h5)
     refine k_op0 (d := 24) (b := 250) (j' := 16) rfl rfl rfl rfl (g_ff rfl rfl rfl g5) (T_move rfl rfl) rfl ?_
     refine k_op0 (d := 25) (b := 266) (j' := 17) rfl rfl rfl rfl (g_ff rfl rfl rfl g5) (T_load_b D rfl rfl rfl rfl rfl rfl) rfl ?_
     refine k_op0 (d := 26) (b := 282) (j' := 18) rfl rfl rfl rfl (g_ff rfl rfl rfl g5) (T_cmp rfl rfl rfl rfl) rfl ?_
     refine q0 27 298 19 rfl rfl (T_pick_f rfl rfl rfl g5) rfl ?_
     refine k_done rfl ?_
     refine thenK_n ?_
     refine W_cond rfl (fun g7 => ?_) (fun g7 => ?_)
     ·have h7 := c_eql_t g7
      refine W_ret ?_
      refine thenK_r ?_
      exact .mk [] (.inr rfl) (.nil) rfl (.box (by first | rfl | (rw [visit, if_pos (by simp_all)] at hv; cases hv; rfl)) (.box (by first | rfl | (rw [visit, if_pos (by simp_all)] at hv; cases hv; rfl)) (.box (by first | rfl | (rw [visit, if_pos (by simp_all)] at hv; cases hv; rfl)) (.box (by first | rfl | (rw [visit, if_pos (by simp_all)] at hv; cases hv; rfl)) (.box (by first | rfl | (rw [visit, if_pos (by simp_all)] at hv; cases hv; rfl)) (.rowE rfl (.box (by first | rfl | (rw [visit, if_pos (by simp_all)] at hv; cases hv; rfl)) (.rowE rfl (.nil) (by first | rfl | (rw [visit, if_pos (by simp_all)] at hv; cases hv; rfl)))) (by first | rfl | (rw [visit, if_pos (by simp_all)] at hv; cases hv; rfl)))))))) rfl
     ·have h7 := c_eql_f g7
      refine W_skip ?_
      refine thenK_n ?_
      refine W_seq ?_
      refine W_seqK (b' := 378) rfl rfl ?_
      refine q0 28 314 1 rfl rfl (T_load_b D rfl rfl rfl rfl rfl rfl) rfl ?_
      refine q0 29 330 2 rfl rfl (T_move rfl rfl) rfl ?_
      first | refine q0 30 346 3 rfl rfl (T_indexAddr D rfl rfl rfl rfl rfl rfl rfl rfl (by first | assumption | omega | (simp; omega))) rfl ?_ | refine q0 30 346 3 rfl rfl (T_indexAddrZ D rfl rfl rfl rfl rfl rfl rfl rfl (by first | assumption | omega | (simp; omega)) (by first | assumption | omega | (simp; omega))) rfl ?_
      refine s1 362 4 rfl rfl (T_store_e D (z := _) rfl rfl rfl rfl (flat_v rfl) rfl rfl (by first | assumption | omega | (simp; omega)) (.v rfl (.nil)) rfl (Nat.le_of_ble_eq_true rfl) rfl) rfl ?_
      refine k_done rfl ?_
      refine thenK_n ?_
      refine W_seq ?_
      refine W_seq ?_
      refine W_seqK (b' := 474) rfl rfl ?_
      refine q0 31 378 1 rfl rfl (T_load_b D rfl rfl rfl rfl rfl rfl) rfl ?_
      refine q0 32 394 2 rfl rfl (T_move rfl rfl) rfl ?_
      first | refine q0 33 410 3 rfl rfl (T_indexAddr D rfl rfl rfl rfl rfl rfl rfl rfl (by first | assumption | omega | (simp; omega))) rfl ?_ | refine q0 33 410 3 rfl rfl (T_indexAddrZ D rfl rfl rfl rfl rfl rfl rfl rfl (by first | assumption | omega | (simp; omega)) (by first | assumption | omega | (simp; omega))) rfl ?_
      refine q1 34 426 4 rfl rfl (T_ldE D (lv := .r 426) (nn := 1) (upd := [(426, .fz 1 _)]) rfl rfl rfl rfl rfl (by first | assumption | omega | (simp; omega)) rfl rfl rfl rfl) rfl ?_
      refine q0 35 442 5 rfl rfl (T_len D rfl rfl rfl rfl rfl rfl) rfl ?_
      refine q0 36 458 6 rfl rfl (T_move rfl rfl) rfl ?_
      refine k_done rfl ?_
      refine thenK_n ?_
      refine W_block ?_
      have hcond : ¬ (b < 0 ∨ b ≥ (next.length : Int) ∨ s.getD b.toNat default = true ∨ b = bar) := by rintro (k | k | k | k) <;> simp_all <;> omega
      have hw : ((next.getD b.toNat default).foldlM (fun st n => visit next bar m n st) (s.set b.toNat true, o)).map (fun st => (st.1, st.2.set b.toNat true)) = some (s2, o2) := by rw [visit, if_neg hcond] at hv; exact hv
      obtain ⟨r, hr, hre⟩ := Option.map_eq_some_iff.1 hw
      have hnb := hnl (next.getD b.toNat default) (getD_mem (by omega))
      refine W_loop (ι := Nat × List Bool × List Bool) 11 (fun x => ⟨[(0, .v (.int .i64 b)), (4, .p 4 0), (5, .p 5 0), (34, .r 10), (35, .v (.int .i64 ((next.getD b.toNat default).length : Int))), (36, .v (.int .i64 (x.1 : Int)))], [(1, .box 30 [.r 6]), (2, .box 48 [.r 7]), (3, .box 3 [.v (.int .i64 bar)]), (4, .box 108 [.fn 136 [.p 1 0, .p 2 0, .p 3 0, .p 4 0, .p 5 0]]), (5, .box 108 [.fn 133 [.p 8 0]]), (6, .fz 1 (next.map eIs)), (7, .row 4 1 (x.2.1.map eB)), (8, .box 48 [.r 9]), (9, .row 4 1 (x.2.2.map eB)), (10, .fz 1 ((next.getD b.toNat default).map eI))]⟩) (fun x => x.1 ≤ (next.getD b.toNat default).length ∧ ((next.getD b.toNat default).take x.1).foldlM (fun st n => visit next bar m n st) (s.set b.toNat true, o) = some x.2 ∧ x.2.1.length = next.length ∧ x.2.2.length = next.length) (fun x => (next.getD b.toNat default).length - x.1) ((0, s.set b.toNat true, o)) (by exact ⟨Nat.zero_le _, by simp, by simpa using hs, ho⟩) ?_ (fun x hJ => ?_)
      ·exact ⟨[(10, 426)], .eq rfl (.same rfl rfl (.same rfl rfl (.same rfl rfl (.eq rfl (.eq rfl (.nil) (by first | rfl | simp)) (by first | rfl | simp))))) (by first | rfl | simp), .box (by first | rfl | simp) (.box (by first | rfl | simp) (.box (by first | rfl | simp) (.box (by first | rfl | simp) (.box (by first | rfl | simp) (.fzE rfl (.rowE rfl (.box (by first | rfl | simp) (.rowE rfl (.fzE rfl (.nil) (by first | rfl | simp)) (by first | rfl | simp))) (by first | rfl | simp)) (by first | rfl | simp)))))), rfl⟩
      have hx := fun h => vstep hr (j := x.1) h hJ.2.1
      refine W_seq ?_
      refine W_seqK (b' := 27) rfl rfl ?_
      refine q0 37 11 1 rfl rfl (T_cmp rfl rfl rfl rfl) rfl ?_
      refine k_done rfl ?_
      refine thenK_n ?_
      refine W_seq ?_
      refine W_cond rfl (fun g8 => ?_) (fun g8 => ?_)
      ·have h8 := c_lss_t g8
       refine W_skip ?_
       refine thenK_n ?_
       refine W_seq ?_
       refine W_block ?_
       refine W_seq ?_
       refine W_seqK (b' := 75) rfl rfl ?_
       first | refine q0 38 27 1 rfl rfl (T_indexAddr D rfl rfl rfl rfl rfl rfl rfl rfl (by first | assumption | omega | (simp; omega))) rfl ?_ | refine q0 38 27 1 rfl rfl (T_indexAddrZ D rfl rfl rfl rfl rfl rfl rfl rfl (by first | assumption | omega | (simp; omega)) (by first | assumption | omega | (simp; omega))) rfl ?_
       refine q0 39 43 2 rfl rfl (T_ldE D (lv := .v _) (nn := 0) (upd := []) rfl rfl rfl rfl rfl (by first | assumption | omega | (simp; omega)) rfl rfl rfl rfl) rfl ?_
       refine q0 8 59 3 rfl rfl (T_assign rfl rfl) rfl ?_
       refine k_done rfl ?_
       refine thenK_n ?_
       refine W_seqK (b' := 123) rfl rfl ?_
       refine q0 40 75 1 rfl rfl (T_load_b D rfl rfl rfl rfl rfl rfl) rfl ?_
       refine q0 41 91 2 rfl rfl (T_move rfl rfl) rfl ?_
       refine qn 42 107 3 rfl rfl (T_call (lvs := [_]) (L := [(1, 1), (2, 2), (3, 3), (4, 4), (5, 5), (6, 6), (7, 7), (8, 8), (9, 9)]) (lv := .tup []) (upd := [(1, .box 30 [.r 6]), (2, .box 48 [.r 7]), (3, .box 3 [.v _]), (4, .box 108 [.fn 136 [.p 1 0, .p 2 0, .p 3 0, .p 4 0, .p 5 0]]), (5, .box 108 [.fn 133 [.p 8 0]]), (7, .row 4 1 _), (8, .box 48 [.r 9]), (9, .row 4 1 _)]) (nn := 0) false (ih _ _ _ _ _ (hx (by omega)).1 hJ.2.2.1 hJ.2.2.2) body136 rfl rfl rfl rfl (.box rfl (.box rfl (.box rfl (.box rfl (.box rfl (.fz rfl (.row rfl (.box rfl (.row rfl (.nil)))))))))) rfl (.inl rfl) rfl rfl rfl) rfl ?_
       refine k_done rfl ?_
       refine blockK_n ?_
       refine thenK_n ?_
       refine W_seqK (b' := 155) rfl rfl ?_
       refine q0 43 123 1 rfl rfl (T_add64 rfl rfl rfl (by first | assumption | omega | (simp; omega))) rfl ?_
       refine q0 36 139 2 rfl rfl (T_move rfl rfl) rfl ?_
       refine k_done rfl ?_
       refine thenK_n ?_
       refine ⟨(x.1 + 1, vnext next bar m ((next.getD b.toNat default).getD x.1 default) x.2), by (try dsimp only); exact ⟨by (try dsimp only); omega, (hx (by omega)).2, (visit_len next bar next.length m _ _ _ (hx (by omega)).1 hJ.2.2.1 hJ.2.2.2)⟩, by (try dsimp only); omega, ?_⟩
       exact ⟨[(10, 10)], .eq rfl (.same rfl rfl (.same rfl rfl (.same rfl rfl (.eq rfl (.eq rfl (.nil) (by first | rfl | simp)) rfl)))) rfl, .box (by first | rfl | simp) (.box (by first | rfl | simp) (.box (by first | rfl | simp) (.box (by first | rfl | simp) (.box (by first | rfl | simp) (.fzE rfl (.rowE rfl (.box (by first | rfl | simp) (.rowE rfl (.fzE rfl (.nil) rfl) (by first | rfl | simp))) (by first | rfl | simp)) rfl))))), rfl⟩
      ·have h8 := c_lss_f g8
       refine W_exit ?_
       refine thenK_e ?_
       refine thenK_e ?_
       refine blockK_hit ?_
       refine thenK_n ?_
       refine W_seqK (b' := 75) rfl rfl ?_
       refine q0 44 27 1 rfl rfl (T_load_b D rfl rfl rfl rfl rfl rfl) rfl ?_
       refine q0 45 43 2 rfl rfl (T_move rfl rfl) rfl ?_
       refine qn 46 59 3 rfl rfl (T_call (lvs := [_]) (L := [(1, 8), (2, 9)]) (lv := .tup []) (upd := [(8, .box 48 [.r 9]), (9, .row 4 1 _)]) (nn := 0) false (reach1_spec _ _ (by omega) (by omega)) body133 rfl rfl rfl rfl (.box rfl (.row rfl (.nil))) rfl (.inl rfl) rfl rfl rfl) rfl ?_
       refine k_done rfl ?_
       have e1 : x.1 = (next.getD b.toNat default).length := by omega
       have e2 : r = x.2 := by have h := hJ.2.1; rw [e1, List.take_of_length_le (Nat.le_refl _), hr] at h; exact Option.some.inj h
       obtain ⟨rfl, rfl⟩ := Prod.mk.inj hre
       subst e2
       exact .mk [] (.inl rfl) (.nil) rfl (.box (by first | rfl | (rw [visit, if_pos (by simp_all)] at hv; cases hv; rfl)) (.box (by first | rfl | (rw [visit, if_pos (by simp_all)] at hv; cases hv; rfl)) (.box (by first | rfl | (rw [visit, if_pos (by simp_all)] at hv; cases hv; rfl)) (.box (by first | rfl | (rw [visit, if_pos (by simp_all)] at hv; cases hv; rfl)) (.box (by first | rfl | (rw [visit, if_pos (by simp_all)] at hv; cases hv; rfl)) (.rowE rfl (.box (by first | rfl | (rw [visit, if_pos (by simp_all)] at hv; cases hv; rfl)) (.rowE rfl (.nil) (by first | rfl | (rw [visit, if_pos (by simp_all)] at hv; cases hv; rfl)))) (by first | rfl | (rw [visit, if_pos (by simp_all)] at hv; cases hv; rfl)))))))) rfl
end Lg
end Go.Proofs.Ytpfhmodjjljpjaa

namespace Go.Proofs.Ytpfhmodjjljpjaa
open Go.RowKit
namespace Lg
set_option maxRecDepth 100000
set_option linter.unusedVariables false
set_option linter.unusedSimpArgs false
theorem body132 : (Try.prog.funcs[132]?).map (fun fn => (fn.name == "runtime.NumGoroutine" || fn.body.isNone)) = some false := by kernel_rfl
theorem deep_spec (next : List (List Int)) (bar : Int) (hn : next.length ≤ 1000000) (hnl : ∀ l ∈ next, l.length ≤ 1000000) (m : Nat) (o s2 o2 : List Bool) (hv : visit next bar m 0 (List.replicate next.length false, o) = some (s2, o2)) (ho : o.length = next.length) : Spec Try.prog 132 [.r 1, .v (.int .i64 bar), .fn 133 [.p 2 0]] 4 [(1, .fz 1 (next.map eIs)), (2, .box 48 [.r 3]), (3, .row 4 1 (o.map eB))] (.tup []) 4 [(2, .box 48 [.r 3]), (3, .row 4 1 (o2.map eB))] := by
 refine spec_of D (fn := Try.f132) rfl rfl (Nat.le_of_ble_eq_true rfl) ?_
 refine W_seq ?_
 refine W_seqK (b' := 52) rfl rfl ?_
 refine q1 3 4 1 rfl rfl (T_box rfl rfl (flat_sl rfl)) rfl ?_
 refine q1 4 20 2 rfl rfl (T_box rfl rfl (flat_v rfl)) rfl ?_
 refine q1 5 36 3 rfl rfl (T_box rfl rfl flat_fn) rfl ?_
 refine k_done rfl ?_
 refine thenK_n ?_
 refine W_seq ?_
 refine W_seqK (b' := 132) rfl rfl ?_
 refine q0 8 52 1 rfl rfl (T_load_b D rfl rfl rfl rfl rfl rfl) rfl ?_
 refine q0 9 68 2 rfl rfl (T_len D rfl rfl rfl rfl rfl rfl) rfl ?_
 refine q1 10 84 3 rfl rfl (T_make D (zx := false) (enc := eB) rfl rfl rfl rfl rfl rfl rfl (.v rfl (.nil)) rfl (by (try simp only [ty4]); first | assumption | omega | (simp; omega)) (by (try simp only [ty4]); first | assumption | omega | (simp; omega))) rfl ?_
 refine qn 6 100 4 rfl rfl (T_nilbox [(4, 1)] (T_alloc D rfl rfl rfl) rfl (.cons (.nil rfl) <| .nil) (upd' := [(100, .box 48 [.r 101]), (101, .row 4 1 (List.map eB ([] : List (Bool))))]) (nn' := 2) rfl rfl) rfl ?_
 refine s1 116 5 rfl rfl (T_stB D (cs' := [_]) rfl rfl rfl rfl (flat_sl rfl) rfl rfl (Nat.le_of_ble_eq_true rfl) rfl) rfl ?_
 refine k_done rfl ?_
 refine thenK_n ?_
 refine W_seq ?_
 refine W_seqK (b' := 148) rfl rfl ?_
 refine q1 7 132 1 rfl rfl (T_alloc D rfl rfl rfl) rfl ?_
 refine k_done rfl ?_
 refine thenK_n ?_
 refine W_seq ?_
 refine W_seqK (b' := 180) rfl rfl ?_
 refine q0 11 148 1 rfl rfl (T_makeFunc (l := [_, _, _, _, _]) rfl rfl) rfl ?_
 refine s1 164 2 rfl rfl (T_stB D (cs' := [_]) rfl rfl rfl rfl flat_fn rfl rfl (Nat.le_of_ble_eq_true rfl) rfl) rfl ?_
 refine k_done rfl ?_
 refine thenK_n ?_
 refine W_seqK (b' := 212) rfl rfl ?_
 refine q0 12 180 1 rfl rfl (T_load_b D rfl rfl rfl rfl rfl rfl) rfl ?_
 refine qn 13 196 2 rfl rfl (T_call (lvs := [_]) (L := [(1, 4), (2, 100), (3, 20), (4, 132), (5, 36), (6, 1), (7, 84), (8, 2), (9, 3)]) (lv := .tup []) (upd := [(4, .box 30 [.r 1]), (100, .box 48 [.r 84]), (20, .box 3 [.v _]), (132, .box 108 [.fn 136 [.p 4 0, .p 100 0, .p 20 0, .p 132 0, .p 36 0]]), (36, .box 108 [.fn 133 [.p 2 0]]), (84, .row 4 1 _), (2, .box 48 [.r 3]), (3, .row 4 1 _)]) (nn := 0) false (visit_spec _ _ hn hnl _ _ _ _ _ _ hv (by simp) ho) body136 rfl rfl rfl rfl (.box rfl (.box rfl (.box rfl (.box rfl (.box rfl (.fz rfl (.row rfl (.box rfl (.row rfl (.nil)))))))))) rfl (.inl rfl) rfl rfl rfl) rfl ?_
 refine k_done rfl ?_
 exact .mk [] (.inl rfl) (.nil) rfl (.box (by first | rfl | simp) (.rowE rfl (.nil) (by first | rfl | simp))) rfl
theorem body111 : (Try.prog.funcs[111]?).map (fun fn => (fn.name == "runtime.NumGoroutine" || fn.body.isNone)) = some false := by kernel_rfl
theorem reach_spec (next : List (List Int)) (hn : next.length ≤ 1000000) (hnl : ∀ l ∈ next, l.length ≤ 1000000) (m : Nat) (s2 o2 : List Bool) (hv : visit next (-1) m 0 (List.replicate next.length false, List.replicate next.length false) = some (s2, o2)) : Spec Try.prog 111 [.r 1] 2 [(1, .fz 1 (next.map eIs))] (.r 2) 3 [(2, .row 4 1 (o2.map eB))] := by
 refine spec_of D (fn := Try.f111) rfl rfl (Nat.le_of_ble_eq_true rfl) ?_
 refine W_seq ?_
 refine W_seqK (b' := 18) rfl rfl ?_
 refine q1 2 2 1 rfl rfl (T_nils [(4, 1)] (T_assign rfl rfl) rfl (.inr ⟨rfl, rfl⟩) (.cons (.nil rfl) .nil) (lv' := .r 2) (upd' := [(2, .row 4 1 (List.map eB ([] : List (Bool))))]) (nn' := 1) rfl rfl) rfl ?_
 refine k_done rfl ?_
 refine thenK_n ?_
 refine W_seq ?_
 refine W_seqK (b' := 98) rfl rfl ?_
 refine q0 4 18 1 rfl rfl (T_move rfl rfl) rfl ?_
 refine q0 5 34 2 rfl rfl (T_len D rfl rfl rfl rfl rfl rfl) rfl ?_
 refine q1 6 50 3 rfl rfl (T_make D (zx := false) (enc := eB) rfl rfl rfl rfl rfl rfl rfl (.v rfl (.nil)) rfl (by (try simp only [ty4]); first | assumption | omega | (simp; omega)) (by (try simp only [ty4]); first | assumption | omega | (simp; omega))) rfl ?_
 refine qn 3 66 4 rfl rfl (T_nilbox [(4, 1)] (T_alloc D rfl rfl rfl) rfl (.cons (.nil rfl) <| .nil) (upd' := [(66, .box 48 [.r 67]), (67, .row 4 1 (List.map eB ([] : List (Bool))))]) (nn' := 2) rfl rfl) rfl ?_
 refine s1 82 5 rfl rfl (T_stB D (cs' := [_]) rfl rfl rfl rfl (flat_sl rfl) rfl rfl (Nat.le_of_ble_eq_true rfl) rfl) rfl ?_
 refine k_done rfl ?_
 refine thenK_n ?_
 refine W_seq ?_
 refine W_seqK (b' := 146) rfl rfl ?_
 refine q0 7 98 1 rfl rfl (T_move rfl rfl) rfl ?_
 refine q0 8 114 2 rfl rfl (T_makeFunc (l := [_]) rfl rfl) rfl ?_
 refine qn 9 130 3 rfl rfl (T_call (lvs := [_, _, _]) (L := [(1, 1), (2, 66), (3, 50)]) (lv := .tup []) (upd := [(66, .box 48 [.r 50]), (50, .row 4 1 _)]) (nn := 0) false (deep_spec _ _ hn hnl _ _ _ _ hv (by simp)) body132 rfl rfl rfl rfl (.fz rfl (.box rfl (.row rfl (.nil)))) rfl (.inl rfl) rfl rfl rfl) rfl ?_
 refine k_done rfl ?_
 refine thenK_n ?_
 refine W_seq ?_
 refine W_seqK (b' := 178) rfl rfl ?_
 refine q0 10 146 1 rfl rfl (T_load_b D rfl rfl rfl rfl rfl rfl) rfl ?_
 refine q0 2 162 2 rfl rfl (T_assign rfl rfl) rfl ?_
 refine k_done rfl ?_
 refine thenK_n ?_
 refine W_ret ?_
 exact .mk [(2, 50)] (.inr rfl) (.tmp rfl (.nil)) rfl (.rowE rfl (.nil) (by first | rfl | simp)) rfl
end Lg
end Go.Proofs.Ytpfhmodjjljpjaa

namespace Go.Proofs.Ytpfhmodjjljpjaa
open Go.RowKit
namespace Lg
set_option linter.unusedSimpArgs false
set_option linter.unusedVariables false
theorem HR.retell {w0 w : World} {M : Fp} {U : Nat → Prop} {ρ : Nat → Value} {own : Nat → Option Nat} {o : List (Nat × Ob)} (hr : HR w0 M U ρ own o w) {i : Nat} {ob ob' : Ob} (hi : o.lookup i = some ob) (h : RepOb w ρ own i ob → RepOb w ρ own i ob') (hu : ob.used U ρ → ob'.used U ρ) : HR w0 M U ρ own ((i, ob') :: o) w := by
  obtain ⟨h1, h2, h3⟩ := hr.ob i ob hi
  refine hr.step (upd := [(i, ob')]) (fun _ => False) rfl rfl rfl (Nat.le_refl _) (fun _ _ _ => ⟨rfl, rfl⟩) (fun _ _ => rfl) (fun _ h => h) (fun _ h => h.elim) (fun q x hq => .inl (by rw [lookup_key hq]; exact ⟨_, hi⟩)) (fun q x hq => ?_)
  have hq' := lookup_key hq
  subst hq'
  obtain rfl : ob' = x := by simpa using hq
  exact ⟨h h1, h2, hu h3⟩
def nilC : Cell := .v (.slice none 0 0)
theorem nest_of_nils {w : World} {ρ : Nat → Value} {own : Nat → Option Nat} {i e e2 sz2 m : Nat} (hs : 0 < sz2) (h : RepOb w ρ own i (.row e 1 ((List.replicate m ()).map fun _ => [nilC]))) : RepOb w ρ own i (.nest e e2 sz2 (List.replicate m []) none) := by
  obtain ⟨h0, cells, h1, h2, h3⟩ := h
  have hlen : ((List.replicate m ()).map fun _ => [nilC]).length = m := by simp
  have hv : ∀ j v, cells[j]? = some v → v = Value.slice none 0 0 := fun j v hj => by
    have hjm : j < m := by
      have := (List.getElem?_eq_some_iff.1 hj).1
      rw [h3.len, hlen] at this; omega
    obtain ⟨u, hu, hR⟩ := (h3.each j [nilC] (by simp [List.getElem?_map, hjm])).2 0 nilC rfl
    rw [Nat.mul_one, Nat.add_zero, hj] at hu
    cases hu
    cases hR with
    | v _ _ => rfl
  refine ⟨cells, hs, by simpa [hlen] using h1, h2, (fun j b hb => by cases hb), fun j r v hj hjv _ => ?_, fun j j' v v' k hne _ _ hjv hjv' hk => ?_⟩
  · have := hv j v hjv
    subst this
    have hr : r = [] := (List.mem_replicate.1 (List.mem_of_getElem? hj)).2
    subst hr
    exact ⟨[], ⟨by simp, .inl ⟨rfl, rfl⟩⟩, ⟨by simp, (fun i r hi => by simp at hi)⟩, (fun k hk => by cases hk)⟩
  · rw [hv j v hjv] at hk; cases hk
section
variable {P : Program} {N b : Nat} {o : Oper} {st : St} (D : Tab P)
theorem T_makeN {t : Nat} {x y : Operand} {m e2 sz2 : Nat} {ty ety : TyI} (ho : o.op = .makeSlice t x y) (hx : st.ev x = some (.v (.int .i64 (m : Int)))) (hy : st.ev y = some (.v (.int .i64 (m : Int))))
    (hi : D.get t = some ty) (he0 : (ty.elem == 0) = false) (he : D.get ty.elem = some ety) (hz : ety.zero = [.slice none 0 0]) (hsz : ety.size = 1) (hs2 : (0 < sz2) = True) (hm : m * ety.bytes ≤ 281474976710656) (hm2 : m ≤ 9223372036854775807) :
    T P N o b [] st (.r b) 1 [(b, .nest ty.elem e2 sz2 (List.replicate m []) none)] := by
  have h := T_make D (enc := fun (_ : Unit) => [nilC]) (zx := ()) (N := N) (b := b) ho hx hy hi he0 he (by rw [hsz]; rfl) (by rw [hz]; exact .v rfl .nil) (by rw [hz, hsz]; rfl) hm hm2
  rw [hsz] at h
  intro w0 M U ρ own st' a w hev hp hf fr hr next Q hn
  refine h w0 M U ρ own st' a w hev hp hf fr hr next Q (fun v w' hv => hn v w' ?_)
  obtain ⟨ρ', own', h1, h2, h3, h4⟩ := hv
  refine ⟨ρ', own', h1, h2, h3, ?_⟩
  have h5 := h4.retell (i := b) (ob := .row ty.elem 1 ((List.replicate m ()).map fun _ => [nilC])) (ob' := .nest ty.elem e2 sz2 (List.replicate m []) none) (by simp) (nest_of_nils (of_eq_true hs2)) (fun _ => fun j q hq => by cases hq)
  refine h5.congr (fun i => ?_)
  simp only [List.cons_append, List.nil_append, List.lookup]
  cases hib : i == b <;> rfl
theorem nest_base {w : World} {ρ : Nat → Value} {own : Nat → Option Nat} {i e e2 sz2 : Nat} {rows : List (List (List Cell))} {hole : Option (Nat × Nat)} (h : RepOb w ρ own i (.nest e e2 sz2 rows hole)) : ∃ A c, ρ i = .slice A rows.length c ∧ (0 < rows.length → ∃ a, A = some a) := by
  obtain ⟨vs, hN⟩ := h
  rcases hN.out.2 with ⟨h4, h5⟩ | ⟨g, off, cap, cur, he, hh, r1, r2, r3, r4⟩
  · exact ⟨none, 0, by rw [h4, h5], fun hp => by omega⟩
  · exact ⟨_, cap, he, fun _ => ⟨_, rfl⟩⟩
theorem T_lenN {α : Type} {enc : α → List Cell} {xs : List (List α)} {t tt i e e2 sz2 : Nat} {hole : Option (Nat × Nat)} {x : Operand} {ty : TyI} (ho : o.op = .call { callee := .builtin .len, args := #[x], argTypes := #[t] }) (hx : st.ev x = some (.r i)) (hob : st.o.lookup i = some (.nest e e2 sz2 (xs.map (List.map enc)) hole))
    (hi : D.get t = some ty) (he0 : (ty.elem == 0) = false) (_htt : o.type = tt) : T P N o b [i] st (.v (.int .i64 (xs.length : Int))) 0 [] := by
  intro w0 M U ρ own st' a w hev hp hfr fr hr
  obtain ⟨hv, hu⟩ := fr.eval ((hev x (by simp [ho, Op.operands, Call.operands])).trans hx)
  obtain ⟨g1, g2, g3⟩ := hr.ob i _ ((hp i (by simp)).trans hob)
  obtain ⟨A, c, hA, hn⟩ := nest_base g1
  rw [List.length_map] at hA
  have hu' := (D.ok t ty hi).sl (by simpa using he0)
  have hrun : (execOp a.eval o).run P w = .ok (.value (.int .i64 (xs.length : Int))) w := by
    simp [execOp, ho, resolve, invoke, builtin, hv, LV.val, hA, Builtin.len_, run_underlying hu', goInt]
  exact does_value hrun ⟨ρ, own, rfl, fun _ _ => rfl, trivial, hr.mono (fun i hi => .inl hi)⟩
theorem T_indexAddrN {α : Type} {enc : α → List Cell} {xs : List (List α)} {t i e e2 sz2 : Nat} {hole : Option (Nat × Nat)} {x y : Operand} {k : IntKind} {j : Int} {ty ety : TyI} (ho : o.op = .indexAddr t x y) (hx : st.ev x = some (.r i)) (hob : st.o.lookup i = some (.nest e e2 sz2 (xs.map (List.map enc)) hole)) (hy : st.ev y = some (.v (.int k j)))
    (hi : D.get t = some ty) (he0 : (ty.elem == 0) = false) (he : D.get ty.elem = some ety) (hs : ety.size = 1) (h0 : 0 ≤ j) (h1 : j < (xs.length : Int)) : T P N o b [i] st (.e i 1 j.toNat 0) 0 [] := by
  intro w0 M U ρ own st' a w hev hp hfr fr hr
  obtain ⟨hv, hu⟩ := fr.eval ((hev x (by simp [ho, Op.operands])).trans hx)
  obtain ⟨hv2, _⟩ := fr.eval ((hev y (by simp [ho, Op.operands])).trans hy)
  obtain ⟨g1, g2, g3⟩ := hr.ob i _ ((hp i (by simp)).trans hob)
  obtain ⟨A, c, hA, hn⟩ := nest_base g1
  rw [List.length_map] at hA hn
  obtain ⟨ad, rfl⟩ := hn (by omega)
  have hb : base (ρ i) = some ad := by rw [hA]; rfl
  have hrun : (execOp a.eval o).run P w = .ok (.value (.pointer (some (ad.add (j.toNat * 1))))) w := by
    simp only [execOp, ho, hv, hv2, LV.val, hA]
    rw [Sem.run_bind, run_indexAddr (D.ok t ty hi) (by simpa using he0) (D.ok _ ety he) h0 h1, hs]
    rfl
  exact does_value hrun ⟨ρ, own, by simp [LV.val, ptrOf, hb], fun _ _ => rfl, ⟨.inl hu, ad, hb⟩, hr.mono (fun i hi => .inl hi)⟩
theorem owns_same {w w' : World} {e sz n : Nat} {v : Value} {cells : List Value} (h : OwnsR w e sz v n cells) (hk : ∀ k, v.ownBlock = some k → w'.heap[k]? = w.heap[k]?) : OwnsR w' e sz v n cells := by
  refine ⟨h.1, ?_⟩
  rcases h.2 with h4 | ⟨g, off, cap, cur, he, hh, r⟩
  · exact .inl h4
  · exact .inr ⟨g, off, cap, cur, he, (hk g (by rw [he]; rfl)).trans hh, r⟩
theorem T_ldN {α : Type} [Inhabited α] {enc : α → List Cell} {xs : List (List α)} {t i e e2 sz2 j : Nat} {x : Operand} {ty : TyI} (ho : o.op = .load t x) (hx : st.ev x = some (.e i 1 j 0)) (hob : st.o.lookup i = some (.nest e e2 sz2 (xs.map (List.map enc)) none)) (hi : D.get t = some ty) (ha : ty.agg = false) (hj : j < xs.length) :
    T P N o b [i] st (.r b) 1 [(b, .row e2 sz2 ((xs.getD j default).map enc)), (i, .nest e e2 sz2 (xs.map (List.map enc)) (some (j, b)))] := by
  intro w0 M U ρ own st' a w hev hp hfrs fr hr
  obtain ⟨hv, hu⟩ := fr.eval ((hev x (by simp [ho, Op.operands])).trans hx)
  obtain ⟨ad, had⟩ := hu.2
  have hob' := (hp i (by simp)).trans hob
  obtain ⟨⟨vs, hN⟩, hUi, _⟩ := hr.ob i _ hob'
  have hbU : ¬ U b := hfrs b (Nat.le_refl _) (by omega)
  have hbi : b ≠ i := fun h => hbU (h ▸ hUi)
  have hrl : (xs.map (List.map enc)).length = xs.length := by simp
  have hvl : vs.length = xs.length := by rw [hN.out.1, hrl]; simp
  have hjv : vs[j]? = some vs[j] := List.getElem?_eq_getElem (by omega)
  have hrow : (xs.map (List.map enc))[j]? = some ((xs.getD j default).map enc) := by
    rw [List.getElem?_map, List.getElem?_eq_getElem hj, List.getD_eq_getElem?_getD, List.getElem?_eq_getElem hj]; rfl
  generalize hvj : vs[j] = v at hjv
  obtain ⟨cells, g1, g2, g3⟩ := hN.inn j _ v hrow hjv (fun b hb => by cases hb)
  have hcell : w.cell? (ad.add (j * 1 + 0)) = some v := by
    rcases hN.out.2 with ⟨h4, h5⟩ | ⟨g, off, cap, cur, he, hh, r⟩
    · omega
    · have had' : ad = ⟨g, off, none⟩ := by rw [he] at had; simpa [base] using had.symm
      subst had'
      rw [Nat.mul_one, Nat.add_zero]
      exact hN.out.cells he _ _ hjv
  have hrun : (execOp a.eval o).run P w = .ok (.value v) w := by
    simp only [execOp, ho]
    rw [Sem.run_bind, run_load1 (D.ok t ty hi) ha (a := ad.add (j * 1 + 0)) (by rw [hv]; simp [LV.val, ptrOf, had]) hcell]
    rfl
  let own' : Nat → Option Nat := fun k => if own k = some i ∧ v.ownBlock = some k then some b else own k
  have hρ : ∀ q, U q → upd1 ρ b v q = ρ q := fun q hq => upd1_other _ _ (fun h => hbU (h ▸ hq))
  have hnone : ∀ k, own k = none → k < w.heap.size → own' k = none ∧ w.heap[k]? = w.heap[k]? := fun k hk _ => ⟨by simp [own', hk], rfl⟩
  have hkeep : ∀ k, v.ownBlock ≠ some k → own' k = own k := fun k hk => by simp [own', hk]
  refine does_value hrun ⟨upd1 ρ b v, own', by simp [LV.val, upd1_same], hρ, .inr ⟨Nat.le_refl _, by omega⟩, ?_⟩
  refine hr.step (fun q => q = i) rfl rfl rfl (Nat.le_refl _) (fun k hk hq => ⟨rfl, ?_⟩) hρ (fun q hq => .inl hq) (fun q hq => ⟨.nest e e2 sz2 (xs.map (List.map enc)) (some (j, b)), by subst hq; simp [List.lookup, show (q == b) = false by simpa using Ne.symm hbi]⟩) (fun q ob' hq => ?_) (fun q ob' hq => ?_)
  · have : own k ≠ some i := fun h => hq i h rfl
    simp [own', this]
  · simp only [List.lookup] at hq
    cases hqb : q == b with
    | true => exact .inr (by rw [show q = b by simpa using hqb]; exact hbU)
    | false =>
      rw [hqb] at hq
      cases hqi : q == i with
      | true => exact .inl (by rw [show q = i by simpa using hqi]; exact ⟨_, hob'⟩)
      | false => rw [hqi] at hq; cases hq
  · simp only [List.lookup] at hq
    cases hqb : q == b with
    | true =>
      rw [hqb] at hq
      obtain rfl : q = b := by simpa using hqb
      obtain rfl : Ob.row e2 sz2 ((xs.getD j default).map enc) = ob' := by injection hq
      refine ⟨⟨hN.pos, cells, by rw [upd1_same]; exact g1, fun k hk => ?_, g2.mono hnone⟩, .inr ⟨Nat.le_refl _, by omega⟩, trivial⟩
      rw [upd1_same] at hk
      simp [own', (g3 k hk).1, hk]
    | false =>
      rw [hqb] at hq
      cases hqi : q == i with
      | false => rw [hqi] at hq; cases hq
      | true =>
        rw [hqi] at hq
        obtain rfl : q = i := by simpa using hqi
        obtain rfl : Ob.nest e e2 sz2 (xs.map (List.map enc)) (some (j, b)) = ob' := by injection hq
        have hρi := hρ q hUi
        refine ⟨⟨vs, hN.pos, by rw [hρi]; exact hN.out, fun k hk => ?_, fun j' b' hb => ?_, fun j' r v' hj' hv' hh => ?_, fun j1 j2 v1 v2 k hne _ _ => hN.dis j1 j2 v1 v2 k hne (fun b hb => by cases hb) (fun b hb => by cases hb)⟩, .inl hUi, fun j' b' hb => ?_⟩
        · rw [hρi] at hk
          rw [hkeep k (fun h => (g3 k h).2 hk)]
          exact hN.blk k hk
        · cases hb
          rw [upd1_same]; exact hjv
        · have hjj : j ≠ j' := fun h => hh b (by rw [h])
          obtain ⟨cells', k1, k2, k3⟩ := hN.inn j' r v' hj' hv' (fun b hb => by cases hb)
          refine ⟨cells', k1, k2.mono hnone, fun k hk => ?_⟩
          rw [hkeep k (fun h => hN.dis j j' v v' k hjj (fun b hb => by cases hb) (fun b hb => by cases hb) hjv hv' h hk), hρi]
          exact k3 k hk
        · cases hb
          exact .inr ⟨Nat.le_refl _, by omega⟩
theorem T_stN {α : Type} {enc : α → List Cell} {xs : List (List α)} {ys : List α} {t i q e e2 sz2 j : Nat} {hole : Option (Nat × Nat)} {x y : Operand} {ty : TyI} (ho : o.op = .store t x y) (hx : st.ev x = some (.e i 1 j 0)) (hob : st.o.lookup i = some (.nest e e2 sz2 (xs.map (List.map enc)) hole)) (hy : st.ev y = some (.r q)) (hoq : st.o.lookup q = some (.row e2 sz2 (ys.map enc)))
    (hi : D.get t = some ty) (hsz : ty.size = 1) (hiq : (i == q) = false) (hj : j < xs.length) (hh : hole = none ∨ ∃ b0, hole = some (j, b0)) :
    T P N o b [i, q] st (.v undef) 0 [(i, .nest e e2 sz2 ((xs.set j ys).map (List.map enc)) none), (q, .no)] := by
  intro w0 M U ρ own st' a w hev hp hfrs fr hr
  obtain ⟨hv, hu⟩ := fr.eval ((hev x (by simp [ho, Op.operands])).trans hx)
  obtain ⟨hv2, hu2⟩ := fr.eval ((hev y (by simp [ho, Op.operands])).trans hy)
  obtain ⟨ad, had⟩ := hu.2
  have hiq' : i ≠ q := by simpa using hiq
  have hob' := (hp i (by simp)).trans hob
  have hoq' := (hp q (by simp)).trans hoq
  obtain ⟨⟨vs, hN⟩, hUi, _⟩ := hr.ob i _ hob'
  obtain ⟨hq1, hUq, _⟩ := hr.ob q _ hoq'
  obtain ⟨A, c, hA⟩ := row_slice hq1
  obtain ⟨_, cellsq, q1, q2, q3⟩ := hq1
  have hrl : (xs.map (List.map enc)).length = xs.length := by simp
  have hvl : vs.length = xs.length := by rw [hN.out.1, hrl]; simp
  have hhole : ∀ j', j' ≠ j → ∀ b, hole ≠ some (j', b) := fun j' hne b hb => by
    rcases hh with rfl | ⟨b0, rfl⟩
    · cases hb
    · cases hb; exact hne rfl
  rcases hN.out.2 with ⟨h4, h5⟩ | ⟨g, off, cap, cur, he, hheap, r1, r2, r3, r4⟩
  · omega
  have hgi : own g = some i := hN.blk g (by rw [he]; rfl)
  have hb : base (ρ i) = some ⟨g, off, none⟩ := by rw [he]; rfl
  have hfits : off + j + [ρ q].length ≤ cur.size := by simp only [List.length_singleton]; omega
  have hcur : cur.toList.length = cur.size := Array.length_toList
  have hrun : (execOp a.eval o).run P w = .ok .skip (w.setRow g (splice cur.toList (off + j) [ρ q]).toArray) := by
    simp only [execOp, ho]
    rw [Sem.run_bind, run_storeAt (D.ok t ty hi) (g := g) (n := off + j) (vs := [ρ q]) (by rw [hv]; simp [LV.val, ptrOf, hb, add_at]) (by rw [hv2]; simp [LV.val, hA, Value.cells]) (by simp [hsz]) hheap hfits (fun u hu => by simp at hu; subst hu; rw [hA]; rfl)]
    rfl
  let own' : Nat → Option Nat := fun k => if own k = some q then some i else own k
  have hkq : ∀ k, own k ≠ some q → own' k = own k := fun k hk => by simp [own', hk]
  have hoth : ∀ k, own k ≠ some i → (w.setRow g (splice cur.toList (off + j) [ρ q]).toArray).heap[k]? = w.heap[k]? := fun k hk => setRow_other w g k _ (fun h => hk (by rw [h]; exact hgi))
  have hne2 : ∀ k, (ρ i).ownBlock ≠ some k → k ≠ g := fun k hk h => hk (by rw [he, h]; rfl)
  have hnone : ∀ k, own k = none → k < w.heap.size → own' k = none ∧ (w.setRow g (splice cur.toList (off + j) [ρ q]).toArray).heap[k]? = w.heap[k]? := fun k hk _ => ⟨by simp [own', hk], hoth k (by rw [hk]; simp)⟩
  refine does_skip hrun ⟨ρ, own', rfl, fun _ _ => rfl, trivial, ?_⟩
  refine HR.mono ?_ (fun i hi => .inl hi)
  refine hr.step (fun p => p = i ∨ p = q) (by simp) (by simp) (by simp) (by simp) (fun k hk hp' => ⟨hoth k (fun h => hp' i h (.inl rfl)), hkq k (fun h => hp' q h (.inr rfl))⟩) (fun _ _ => rfl) (fun _ h => h) (fun p hp' => ?_) (fun p ob' hp' => ?_) (fun p ob' hp' => ?_)
  · rcases hp' with rfl | rfl
    · exact ⟨_, by simp; rfl⟩
    · exact ⟨.no, by simp [List.lookup, show (p == i) = false by simpa using Ne.symm hiq']⟩
  · simp only [List.lookup] at hp'
    cases hpi : p == i with
    | true => exact .inl (by rw [show p = i by simpa using hpi]; exact ⟨_, hob'⟩)
    | false =>
      rw [hpi] at hp'
      cases hpq : p == q with
      | true => exact .inl (by rw [show p = q by simpa using hpq]; exact ⟨_, hoq'⟩)
      | false => rw [hpq] at hp'; cases hp'
  · simp only [List.lookup] at hp'
    cases hpi : p == i with
    | false =>
      rw [hpi] at hp'
      cases hpq : p == q with
      | false => rw [hpq] at hp'; cases hp'
      | true =>
        rw [hpq] at hp'
        obtain rfl : p = q := by simpa using hpq
        obtain rfl : Ob.no = ob' := by injection hp'
        exact ⟨trivial, hUq, trivial⟩
    | true =>
      rw [hpi] at hp'
      obtain rfl : p = i := by simpa using hpi
      obtain rfl : Ob.nest e e2 sz2 ((xs.set j ys).map (List.map enc)) none = ob' := by injection hp'
      have hat : ∀ j' v', (splice vs j [ρ q])[j']? = some v' → (j' = j ∧ v' = ρ q) ∨ (j' ≠ j ∧ vs[j']? = some v') := fun j' v' h => by
        rw [splice_get vs j [ρ q] (by simp; omega)] at h
        simp only [List.length_singleton] at h
        by_cases h1 : j' < j
        · rw [if_pos h1] at h; exact .inr ⟨by omega, h⟩
        · rw [if_neg h1] at h
          by_cases h2 : j' < j + 1
          · rw [if_pos h2] at h
            have : j' = j := by omega
            subst this
            simp at h
            exact .inl ⟨rfl, h.symm⟩
          · rw [if_neg h2] at h; exact .inr ⟨by omega, h⟩
      refine ⟨⟨splice vs j [ρ q], hN.pos, ?_, fun k hk => ?_, (fun j' b' hb => by cases hb), fun j' r v' hj' hv' _ => ?_, fun j1 j2 v1 v2 k hne _ _ hv1 hv2' hk1 hk2 => ?_⟩, hUi, (fun j' b' hb => by cases hb)⟩
      · have hlen : ((xs.set j ys).map (List.map enc)).length = xs.length := by simp
        refine ⟨by rw [splice_length _ _ _ (by simp; omega), hvl, hlen]; simp, .inr ⟨g, off, cap, _, by rw [he, hrl, hlen], setRow_heap w g cur _ e _ hheap, by rw [hlen]; omega, r2, ?_, ?_⟩⟩
        · rw [List.size_toArray, splice_length _ _ _ (by rw [hcur]; exact hfits), Array.length_toList]; exact r3
        · rw [hlen, ← r4, hrl]
          show ((splice cur.toList (off + j) [ρ q]).drop off).take _ = _
          rw [splice_drop _ _ _ _ (by rw [hcur]; omega)]
          exact splice_take _ _ _ _ (by simp; omega) (by rw [List.length_drop, hcur]; omega)
      · rw [hkq k (by rw [hN.blk k hk]; intro h; exact hiq' (Option.some.inj h))]
        exact hN.blk k hk
      · rcases hat j' v' hv' with ⟨rfl, rfl⟩ | ⟨hne, hv''⟩
        · have hr : r = ys.map enc := by
            rw [List.getElem?_map, List.getElem?_set_self (by omega)] at hj'
            simpa using hj'.symm
          subst hr
          refine ⟨cellsq, owns_same q1 (fun k hk => hoth k (by rw [q2 k hk]; intro h; exact hiq' (Option.some.inj h).symm)), q3.mono hnone, fun k hk => ⟨by simp [own', q2 k hk], fun h => ?_⟩⟩
          have h1 := hN.blk k h
          rw [q2 k hk] at h1
          exact hiq' (Option.some.inj h1).symm
        · have hr : (xs.map (List.map enc))[j']? = some r := by
            rw [List.getElem?_map, List.getElem?_set_ne (Ne.symm hne)] at hj'
            rw [List.getElem?_map]; exact hj'
          obtain ⟨cells', k1, k2, k3⟩ := hN.inn j' r v' hr hv'' (hhole j' hne)
          refine ⟨cells', owns_same k1 (fun k hk => setRow_other w g k _ (hne2 k (k3 k hk).2)), k2.mono hnone, fun k hk => ⟨?_, (k3 k hk).2⟩⟩
          rw [hkq k (by rw [(k3 k hk).1]; intro h; exact hiq' (Option.some.inj h))]
          exact (k3 k hk).1
      · have hown : ∀ j' v', j' ≠ j → vs[j']? = some v' → ∀ k, v'.ownBlock = some k → own k = some p := fun j' v' hne hv'' k hk => by
          have hj3 : j' < xs.length := by rw [← hvl]; exact (List.getElem?_eq_some_iff.1 hv'').1
          obtain ⟨cells', k1, k2, k3⟩ := hN.inn j' _ v' (by rw [List.getElem?_map, List.getElem?_eq_getElem hj3]; rfl) hv'' (hhole j' hne)
          exact (k3 k hk).1
        rcases hat j1 v1 hv1 with ⟨rfl, rfl⟩ | ⟨hne1, hv1'⟩
        · rcases hat j2 v2 hv2' with ⟨rfl, rfl⟩ | ⟨hne2', hv2''⟩
          · exact hne rfl
          · have h1 := hown j2 v2 hne2' hv2'' k hk2
            rw [q2 k hk1] at h1
            exact hiq' (Option.some.inj h1).symm
        · rcases hat j2 v2 hv2' with ⟨rfl, rfl⟩ | ⟨hne2', hv2''⟩
          · have h1 := hown j1 v1 hne1 hv1' k hk1
            rw [q2 k hk2] at h1
            exact hiq' (Option.some.inj h1).symm
          · exact hN.dis j1 j2 v1 v2 k hne (hhole j1 hne1) (hhole j2 hne2') hv1' hv2'' hk1 hk2
end
theorem Embs.nestE {o : List (Nat × Ob)} {σ : Nat → Nat} {c e e2 sz2 : Nat} {rows rows' : List (List (List Cell))} {l : List (Nat × Ob)} (h : o.lookup (σ c) = some (.nest e e2 sz2 rows' none)) (t : Embs o σ l) (he : rows' = rows) : Embs o σ ((c, .nest e e2 sz2 rows none) :: l) := .nest (by rw [h, he]) t
theorem Embs.lendNE {o : List (Nat × Ob)} {σ : Nat → Nat} {c e e2 sz2 : Nat} {rows : List (List Cell)} {rows' : List (List (List Cell))} {l : List (Nat × Ob)} (h : o.lookup (σ c) = some (.nest e e2 sz2 rows' none)) (t : Embs o σ l) (he : nestRows sz2 rows' = rows) : Embs o σ ((c, .fz 1 rows) :: l) := by
  subst he
  exact .lendN h t
theorem nestRows_eIs (xs : List (List Int)) : nestRows 1 (xs.map (List.map eI)) = xs.map eIs := by simp [nestRows, eIs, Function.comp_def]
theorem nestRows_eBs (xs : List (List Bool)) : nestRows 1 (xs.map (List.map eB)) = xs.map eBs := by simp [nestRows, eBs, Function.comp_def]
end Lg
end Go.Proofs.Ytpfhmodjjljpjaa

namespace Go.Proofs.Ytpfhmodjjljpjaa
open Go.RowKit
namespace Lg
def addTo (fr : List (List Int)) (n i : Int) : List (List Int) := fr.set n.toNat (fr.getD n.toNat default ++ [i])
def fromStep (reached : List Bool) (i : Nat) (fr : List (List Int)) (n : Int) : List (List Int) := if reached.getD i default = true then addTo fr n i else fr
def fromRow (next : List (List Int)) (reached : List Bool) (fr : List (List Int)) (i : Nat) : List (List Int) := (next.getD i default).foldl (fromStep reached i) fr
def fromAll (next : List (List Int)) (reached : List Bool) (nb m : Nat) : List (List Int) := (List.range m).foldl (fromRow next reached) (List.replicate nb [])
def takenAt (f : GFn) (reached : List Bool) (fr : List (List Int)) (i : Nat) : Int :=
  if 0 < i ∧ reached.getD i default = true ∧ (fr.getD i default).length = 1 ∧ ¬ (fr.getD i default).getD 0 default = (i : Int) ∧ (blk f ((fr.getD i default).getD 0 default)).fin = 1 then (fr.getD i default).getD 0 default else -1
theorem addTo_length (fr : List (List Int)) (n i : Int) : (addTo fr n i).length = fr.length := by simp [addTo]
theorem fromStep_length (reached : List Bool) (i : Nat) (fr : List (List Int)) (n : Int) : (fromStep reached i fr n).length = fr.length := by
  unfold fromStep; split
  · exact addTo_length _ _ _
  · rfl
theorem foldl_length {β : Type} (g : List (List Int) → β → List (List Int)) (h : ∀ fr x, (g fr x).length = fr.length) : ∀ (l : List β) (fr : List (List Int)), (l.foldl g fr).length = fr.length
  | [], fr => rfl
  | x :: l, fr => by rw [List.foldl_cons, foldl_length g h l, h]
theorem fromRow_length (next : List (List Int)) (reached : List Bool) (fr : List (List Int)) (i : Nat) : (fromRow next reached fr i).length = fr.length := foldl_length _ (fromStep_length reached i) _ _
theorem fromAll_length (next : List (List Int)) (reached : List Bool) (nb m : Nat) : (fromAll next reached nb m).length = nb := by
  rw [fromAll, foldl_length _ (fromRow_length next reached)]; simp
theorem fromAll_succ (next : List (List Int)) (reached : List Bool) (nb m : Nat) : fromAll next reached nb (m + 1) = fromRow next reached (fromAll next reached nb m) m := by
  simp [fromAll, List.range_succ]
theorem foldl_take_succ {α β : Type} [Inhabited β] (g : α → β → α) (l : List β) (a : α) (j : Nat) (h : j < l.length) : (l.take (j + 1)).foldl g a = g ((l.take j).foldl g a) (l.getD j default) := by
  rw [take_succ_getD h]; simp
theorem step_bound {reached : List Bool} {j c : Nat} {fr : List (List Int)} {n : Int} (h : ∀ q ∈ fr, q.length ≤ c) : ∀ q ∈ fromStep reached j fr n, q.length ≤ c + 1 := fun q hq => by
  unfold fromStep at hq
  split at hq
  · unfold addTo at hq
    rcases List.mem_or_eq_of_mem_set hq with h1 | h1
    · have := h q h1; omega
    · subst h1
      rw [List.length_append, List.length_singleton]
      by_cases hn : n.toNat < fr.length
      · have := h _ (getD_mem (i := n.toNat) hn); omega
      · rw [List.getD_eq_getElem?_getD, List.getElem?_eq_none (by omega)]
        show 0 + 1 ≤ c + 1
        omega
  · have := h q hq; omega
theorem range_getD {n j : Nat} (h : j < n) : (List.range n).getD j default = j := by
  rw [List.getD_eq_getElem?_getD, List.getElem?_range h]; rfl
theorem row_step {F : Nat → Int} {n j : Nat} (h : j < n) {z : Int} (hz : z = F j) : (((List.range n).take j).map F ++ List.replicate (n - j) 0).set j z = ((List.range n).take (j + 1)).map F ++ List.replicate (n - (j + 1)) 0 :=
  fill_step F 0 (List.range n) j n (by simp) h z (by rw [range_getD h]; exact hz)
theorem fromStep_in {reached : List Bool} {j : Nat} {q : Int → Prop} {fr : List (List Int)} {n : Int} (hj : q (j : Int)) (h : ∀ l ∈ fr, ∀ x ∈ l, q x) : ∀ l ∈ fromStep reached j fr n, ∀ x ∈ l, q x := fun l hl x hx => by
  unfold fromStep at hl
  split at hl
  · unfold addTo at hl
    rcases List.mem_or_eq_of_mem_set hl with h1 | h1
    · exact h l h1 x hx
    · subst h1
      rcases List.mem_append.1 hx with h2 | h2
      · by_cases hn : n.toNat < fr.length
        · exact h _ (getD_mem (i := n.toNat) hn) x h2
        · rw [List.getD_eq_getElem?_getD, List.getElem?_eq_none (by omega)] at h2
          cases h2
      · have : x = (j : Int) := by simpa using h2
        rw [this]; exact hj
  · exact h l hl x hx
theorem fromAll_in (next : List (List Int)) (reached : List Bool) (nb : Nat) : ∀ (m : Nat), ∀ l ∈ fromAll next reached nb m, ∀ x ∈ l, 0 ≤ x ∧ x < (m : Int)
  | 0, l, hl, x, hx => by
    have : l = [] := (List.mem_replicate.1 (show l ∈ List.replicate nb [] from hl)).2
    subst this; cases hx
  | m + 1, l, hl, x, hx => by
    rw [fromAll_succ, fromRow] at hl
    have key : ∀ (k : List Int) (fr : List (List Int)), (∀ l ∈ fr, ∀ x ∈ l, 0 ≤ x ∧ x < ((m + 1 : Nat) : Int)) → ∀ l ∈ k.foldl (fromStep reached m) fr, ∀ x ∈ l, 0 ≤ x ∧ x < ((m + 1 : Nat) : Int) := by
      intro k
      induction k with
      | nil => exact fun fr h => h
      | cons n k ih => exact fun fr h => ih _ (fromStep_in (q := fun x => 0 ≤ x ∧ x < ((m + 1 : Nat) : Int)) ⟨by omega, by omega⟩ h)
    exact key _ _ (fun l hl x hx => by have := fromAll_in next reached nb m l hl x hx; omega) l hl x hx
end Lg
end Go.Proofs.Ytpfhmodjjljpjaa
