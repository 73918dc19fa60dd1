import Derived.Test.YtpfhmodjjljpjaaTidyTrue3
import Derived.Laws.Entries
import Derived.Laws.BytesArg
set_option linter.unusedVariables false
set_option linter.unusedSimpArgs false
namespace Go.Proofs.Ytpfhmodjjljpjaa
open Go.RowKit
namespace Lg
set_option maxRecDepth 100000
set_option linter.unusedVariables false
set_option linter.unusedSimpArgs false
theorem body112 : (Try.prog.funcs[112]?).map (fun fn => (fn.name == "runtime.NumGoroutine" || fn.body.isNone)) = some false := by kernel_rfl
theorem taken_spec (f : GFn) (next : List (List Int)) (reached : List Bool) (hb : f.blocks.length ≤ 1000000) (hn : next.length = f.blocks.length) (hr : reached.length = f.blocks.length) (M : Nat) (hM : M ≤ 1000000) (hnl : ∀ l ∈ next, l.length ≤ M) (hin : ∀ l ∈ next, ∀ i, i < l.length → 0 ≤ l.getD i default ∧ l.getD i default < (f.blocks.length : Int)) : Spec Try.prog 112 [.agg [.v (.int .i64 f.regs), .r 1], .r 2, .r 3] 4 [(1, .fz 5 (f.blocks.map eBlock)), (2, .fz 1 (next.map eIs)), (3, .fz 1 (reached.map eB))] (.r 4) 5 [(4, .row 3 1 (((List.range f.blocks.length).map (takenAt f reached (fromAll next reached f.blocks.length next.length))).map eI))] := by
 refine spec_of D (fn := Try.f112) rfl rfl (Nat.le_of_ble_eq_true rfl) ?_
 refine W_seq ?_
 refine W_seqK (b' := 36) rfl rfl ?_
 refine q1 3 4 1 rfl rfl (T_box rfl rfl flat_agg) rfl ?_
 refine q1 6 20 2 rfl rfl (T_nils [(3, 1)] (T_assign rfl rfl) rfl (.inr ⟨rfl, rfl⟩) (.cons (.nil rfl) .nil) (lv' := .r 20) (upd' := [(20, .row 3 1 (List.map eI ([] : List (Int))))]) (nn' := 1) rfl rfl) rfl ?_
 refine k_done rfl ?_
 refine thenK_n ?_
 refine W_seq ?_
 refine W_seqK (b' := 116) rfl rfl ?_
 refine q0 15 36 1 rfl rfl (T_fa D (m := 1) rfl rfl rfl rfl rfl rfl) rfl ?_
 refine q0 16 52 2 rfl rfl (T_load_b D rfl rfl rfl rfl rfl rfl) rfl ?_
 refine q0 17 68 3 rfl rfl (T_len D rfl rfl rfl rfl rfl rfl) rfl ?_
 refine q1 18 84 4 rfl rfl (T_makeN D (e2 := 3) (sz2 := 1) rfl rfl rfl rfl rfl rfl rfl rfl (by simp) (by (try simp only [ty52]); first | assumption | omega | (simp only [List.length_append, List.length_map, List.length_take, List.length_range, List.length_replicate, List.length_set]; omega) | (have k1 := hfi j (by omega) (by omega); first | exact k1.1 | exact k1.2 | exact (Int.toNat_lt k1.1).2 k1.2 | omega) | (have k1 := hq (by omega); omega) | (have k0 := hq (by omega); have k1 := hqb ((next.getD j default).getD i default).toNat (by omega); simp only [List.length_cons, List.length_nil]; omega)) (by (try simp only [ty52]); first | assumption | omega | (simp only [List.length_append, List.length_map, List.length_take, List.length_range, List.length_replicate, List.length_set]; omega) | (have k1 := hfi j (by omega) (by omega); first | exact k1.1 | exact k1.2 | exact (Int.toNat_lt k1.1).2 k1.2 | omega) | (have k1 := hq (by omega); omega) | (have k0 := hq (by omega); have k1 := hqb ((next.getD j default).getD i default).toNat (by omega); simp only [List.length_cons, List.length_nil]; omega))) rfl ?_
 refine q0 7 100 5 rfl rfl (T_assign rfl rfl) rfl ?_
 refine k_done rfl ?_
 refine thenK_n ?_
 refine W_seq ?_
 refine W_seq ?_
 refine W_seqK (b' := 164) rfl rfl ?_
 refine q0 19 116 1 rfl rfl (T_move rfl rfl) rfl ?_
 refine q0 20 132 2 rfl rfl (T_len D rfl rfl rfl rfl rfl rfl) rfl ?_
 refine q0 21 148 3 rfl rfl (T_move rfl rfl) rfl ?_
 refine k_done rfl ?_
 refine thenK_n ?_
 refine W_block ?_
 refine W_loop (ι := Nat) 6 (fun j => ⟨[(2, .r 3), (3, .p 4 0), (7, .r 5), (19, .r 2), (20, .v (.int .i64 (next.length : Int))), (21, .v (.int .i64 (j : Int)))], [(1, .fz 5 (f.blocks.map eBlock)), (2, .fz 1 (next.map eIs)), (3, .fz 1 (reached.map eB)), (4, .box 29 [.v (.int .i64 f.regs), .r 1]), (5, .nest 52 3 1 ((fromAll next reached f.blocks.length j).map (List.map eI)) none)]⟩) (fun j => j ≤ next.length ∧ ∀ l ∈ fromAll next reached f.blocks.length j, l.length ≤ j * M) (fun j => next.length - j) (0) (by exact ⟨Nat.zero_le _, fun l h => by simp [fromAll] at h; simp [h.2]⟩) ?_ (fun j hJ => ?_)
 ·exact ⟨[(4, 4), (5, 84)], .same rfl rfl (.same rfl rfl (.same rfl rfl (.same rfl rfl (.eq rfl (.eq rfl (.nil) (by first | rfl | simp [fromAll])) (by first | rfl | simp [fromAll]))))), .fzE rfl (.fzE rfl (.fzE rfl (.box (by first | rfl | simp [fromAll]) (.nestE rfl (.nil) (by first | rfl | simp [fromAll]))) (by first | rfl | simp [fromAll])) (by first | rfl | simp [fromAll])) (by first | rfl | simp [fromAll]), rfl⟩
 have hfl := fromAll_length next reached f.blocks.length j
 have hs := fromAll_succ next reached f.blocks.length j
 refine W_seq ?_
 refine W_seqK (b' := 22) rfl rfl ?_
 refine q0 22 6 1 rfl rfl (T_cmp rfl rfl rfl rfl) rfl ?_
 refine k_done rfl ?_
 refine thenK_n ?_
 refine W_seq ?_
 refine W_cond rfl (fun g1 => ?_) (fun g1 => ?_)
 ·have h1 := c_lss_t g1
  refine W_skip ?_
  refine thenK_n ?_
  refine W_seq ?_
  refine W_block ?_
  refine W_seq ?_
  refine W_seqK (b' := 102) rfl rfl ?_
  refine q0 23 22 1 rfl rfl (T_move rfl rfl) rfl ?_
  first | refine q0 24 38 2 rfl rfl (T_indexAddr D rfl rfl rfl rfl rfl rfl rfl rfl (by first | assumption | omega | (simp only [List.length_append, List.length_map, List.length_take, List.length_range, List.length_replicate, List.length_set]; omega) | (have k1 := hfi j (by omega) (by omega); first | exact k1.1 | exact k1.2 | exact (Int.toNat_lt k1.1).2 k1.2 | omega) | (have k1 := hq (by omega); omega) | (have k0 := hq (by omega); have k1 := hqb ((next.getD j default).getD i default).toNat (by omega); simp only [List.length_cons, List.length_nil]; omega))) rfl ?_ | refine q0 24 38 2 rfl rfl (T_indexAddrZ D rfl rfl rfl rfl rfl rfl rfl rfl (by first | assumption | omega | (simp only [List.length_append, List.length_map, List.length_take, List.length_range, List.length_replicate, List.length_set]; omega) | (have k1 := hfi j (by omega) (by omega); first | exact k1.1 | exact k1.2 | exact (Int.toNat_lt k1.1).2 k1.2 | omega) | (have k1 := hq (by omega); omega) | (have k0 := hq (by omega); have k1 := hqb ((next.getD j default).getD i default).toNat (by omega); simp only [List.length_cons, List.length_nil]; omega)) (by first | assumption | omega | (simp only [List.length_append, List.length_map, List.length_take, List.length_range, List.length_replicate, List.length_set]; omega) | (have k1 := hfi j (by omega) (by omega); first | exact k1.1 | exact k1.2 | exact (Int.toNat_lt k1.1).2 k1.2 | omega) | (have k1 := hq (by omega); omega) | (have k0 := hq (by omega); have k1 := hqb ((next.getD j default).getD i default).toNat (by omega); simp only [List.length_cons, List.length_nil]; omega))) rfl ?_
  refine q1 25 54 3 rfl rfl (T_ldE D (lv := .r 54) (nn := 1) (upd := [(54, .fz 1 _)]) rfl rfl rfl rfl rfl (by first | assumption | omega | (simp only [List.length_append, List.length_map, List.length_take, List.length_range, List.length_replicate, List.length_set]; omega) | (have k1 := hfi j (by omega) (by omega); first | exact k1.1 | exact k1.2 | exact (Int.toNat_lt k1.1).2 k1.2 | omega) | (have k1 := hq (by omega); omega) | (have k0 := hq (by omega); have k1 := hqb ((next.getD j default).getD i default).toNat (by omega); simp only [List.length_cons, List.length_nil]; omega)) rfl rfl rfl rfl) rfl ?_
  refine q0 8 70 4 rfl rfl (T_assign rfl rfl) rfl ?_
  refine q0 9 86 5 rfl rfl (T_assign rfl rfl) rfl ?_
  refine k_done rfl ?_
  refine thenK_n ?_
  refine W_seq ?_
  refine W_seqK (b' := 150) rfl rfl ?_
  refine q0 26 102 1 rfl rfl (T_move rfl rfl) rfl ?_
  refine q0 27 118 2 rfl rfl (T_len D rfl rfl rfl rfl rfl rfl) rfl ?_
  refine q0 28 134 3 rfl rfl (T_move rfl rfl) rfl ?_
  refine k_done rfl ?_
  refine thenK_n ?_
  refine W_block ?_
  have hlj := hnl (next.getD j default) (getD_mem (by omega))
  have hinj := hin (next.getD j default) (getD_mem (by omega))
  refine W_loop (ι := Nat) 7 (fun i => ⟨[(2, .r 3), (3, .p 4 0), (7, .r 5), (8, .v (.int .i64 (j : Int))), (19, .r 2), (20, .v (.int .i64 (next.length : Int))), (21, .v (.int .i64 (j : Int))), (26, .r 6), (27, .v (.int .i64 ((next.getD j default).length : Int))), (28, .v (.int .i64 (i : Int)))], [(1, .fz 5 (f.blocks.map eBlock)), (2, .fz 1 (next.map eIs)), (3, .fz 1 (reached.map eB)), (4, .box 29 [.v (.int .i64 f.regs), .r 1]), (5, .nest 52 3 1 ((((next.getD j default).take i).foldl (fromStep reached j) (fromAll next reached f.blocks.length j)).map (List.map eI)) none), (6, .fz 1 ((next.getD j default).map eI))]⟩) (fun i => i ≤ (next.getD j default).length ∧ ∀ q ∈ (((next.getD j default).take i).foldl (fromStep reached j) (fromAll next reached f.blocks.length j)), q.length ≤ j * M + i) (fun i => (next.getD j default).length - i) (0) (by exact ⟨Nat.zero_le _, fun q h => Nat.le_trans (hJ.2 q h) (Nat.le_add_right _ _)⟩) ?_ (fun i hI => ?_)
  ·exact ⟨[(4, 4), (5, 5), (6, 54)], .same rfl rfl (.same rfl rfl (.same rfl rfl (.eq rfl (.same rfl rfl (.eq rfl (.eq rfl (.same rfl rfl (.eq rfl (.eq rfl (.nil) (by first | rfl | simp)) (by first | rfl | simp))) (by first | rfl | simp)) (by first | rfl | simp))) (by first | rfl | simp)))), .fzE rfl (.fzE rfl (.fzE rfl (.box (by first | rfl | simp) (.nestE rfl (.fzE rfl (.nil) (by first | rfl | simp)) (by first | rfl | simp))) (by first | rfl | simp)) (by first | rfl | simp)) (by first | rfl | simp), rfl⟩
  have hjM : j * M ≤ 1000000 * 1000000 := Nat.mul_le_mul (by omega) hM
  have hcl : (((next.getD j default).take i).foldl (fromStep reached j) (fromAll next reached f.blocks.length j)).length = f.blocks.length := by rw [foldl_length _ (fromStep_length reached j), hfl]
  have hst := fun h => foldl_take_succ (fromStep reached j) (next.getD j default) (fromAll next reached f.blocks.length j) i h
  have hq := hinj i
  have hqb : ∀ m, m < (((next.getD j default).take i).foldl (fromStep reached j) (fromAll next reached f.blocks.length j)).length → ((((next.getD j default).take i).foldl (fromStep reached j) (fromAll next reached f.blocks.length j)).getD m default).length ≤ j * M + i := fun m hm => hI.2 _ (getD_mem hm)
  refine W_seq ?_
  refine W_seqK (b' := 23) rfl rfl ?_
  refine q0 29 7 1 rfl rfl (T_cmp rfl rfl rfl rfl) rfl ?_
  refine k_done rfl ?_
  refine thenK_n ?_
  refine W_seq ?_
  refine W_cond rfl (fun g2 => ?_) (fun g2 => ?_)
  ·have h2 := c_lss_t g2
   refine W_skip ?_
   refine thenK_n ?_
   refine W_seq ?_
   refine W_block ?_
   refine W_seq ?_
   refine W_seqK (b' := 71) rfl rfl ?_
   first | refine q0 30 23 1 rfl rfl (T_indexAddr D rfl rfl rfl rfl rfl rfl rfl rfl (by first | assumption | omega | (simp only [List.length_append, List.length_map, List.length_take, List.length_range, List.length_replicate, List.length_set]; omega) | (have k1 := hfi j (by omega) (by omega); first | exact k1.1 | exact k1.2 | exact (Int.toNat_lt k1.1).2 k1.2 | omega) | (have k1 := hq (by omega); omega) | (have k0 := hq (by omega); have k1 := hqb ((next.getD j default).getD i default).toNat (by omega); simp only [List.length_cons, List.length_nil]; omega))) rfl ?_ | refine q0 30 23 1 rfl rfl (T_indexAddrZ D rfl rfl rfl rfl rfl rfl rfl rfl (by first | assumption | omega | (simp only [List.length_append, List.length_map, List.length_take, List.length_range, List.length_replicate, List.length_set]; omega) | (have k1 := hfi j (by omega) (by omega); first | exact k1.1 | exact k1.2 | exact (Int.toNat_lt k1.1).2 k1.2 | omega) | (have k1 := hq (by omega); omega) | (have k0 := hq (by omega); have k1 := hqb ((next.getD j default).getD i default).toNat (by omega); simp only [List.length_cons, List.length_nil]; omega)) (by first | assumption | omega | (simp only [List.length_append, List.length_map, List.length_take, List.length_range, List.length_replicate, List.length_set]; omega) | (have k1 := hfi j (by omega) (by omega); first | exact k1.1 | exact k1.2 | exact (Int.toNat_lt k1.1).2 k1.2 | omega) | (have k1 := hq (by omega); omega) | (have k0 := hq (by omega); have k1 := hqb ((next.getD j default).getD i default).toNat (by omega); simp only [List.length_cons, List.length_nil]; omega))) rfl ?_
   refine q0 31 39 2 rfl rfl (T_ldE D (lv := .v _) (nn := 0) (upd := []) rfl rfl rfl rfl rfl (by first | assumption | omega | (simp only [List.length_append, List.length_map, List.length_take, List.length_range, List.length_replicate, List.length_set]; omega) | (have k1 := hfi j (by omega) (by omega); first | exact k1.1 | exact k1.2 | exact (Int.toNat_lt k1.1).2 k1.2 | omega) | (have k1 := hq (by omega); omega) | (have k0 := hq (by omega); have k1 := hqb ((next.getD j default).getD i default).toNat (by omega); simp only [List.length_cons, List.length_nil]; omega)) rfl rfl rfl rfl) rfl ?_
   refine q0 11 55 3 rfl rfl (T_assign rfl rfl) rfl ?_
   refine k_done rfl ?_
   refine thenK_n ?_
   refine W_seq ?_
   refine W_seqK (b' := 135) rfl rfl ?_
   refine q0 32 71 1 rfl rfl (T_move rfl rfl) rfl ?_
   refine q0 33 87 2 rfl rfl (T_move rfl rfl) rfl ?_
   first | refine q0 34 103 3 rfl rfl (T_indexAddr D rfl rfl rfl rfl rfl rfl rfl rfl (by first | assumption | omega | (simp only [List.length_append, List.length_map, List.length_take, List.length_range, List.length_replicate, List.length_set]; omega) | (have k1 := hfi j (by omega) (by omega); first | exact k1.1 | exact k1.2 | exact (Int.toNat_lt k1.1).2 k1.2 | omega) | (have k1 := hq (by omega); omega) | (have k0 := hq (by omega); have k1 := hqb ((next.getD j default).getD i default).toNat (by omega); simp only [List.length_cons, List.length_nil]; omega))) rfl ?_ | refine q0 34 103 3 rfl rfl (T_indexAddrZ D rfl rfl rfl rfl rfl rfl rfl rfl (by first | assumption | omega | (simp only [List.length_append, List.length_map, List.length_take, List.length_range, List.length_replicate, List.length_set]; omega) | (have k1 := hfi j (by omega) (by omega); first | exact k1.1 | exact k1.2 | exact (Int.toNat_lt k1.1).2 k1.2 | omega) | (have k1 := hq (by omega); omega) | (have k0 := hq (by omega); have k1 := hqb ((next.getD j default).getD i default).toNat (by omega); simp only [List.length_cons, List.length_nil]; omega)) (by first | assumption | omega | (simp only [List.length_append, List.length_map, List.length_take, List.length_range, List.length_replicate, List.length_set]; omega) | (have k1 := hfi j (by omega) (by omega); first | exact k1.1 | exact k1.2 | exact (Int.toNat_lt k1.1).2 k1.2 | omega) | (have k1 := hq (by omega); omega) | (have k0 := hq (by omega); have k1 := hqb ((next.getD j default).getD i default).toNat (by omega); simp only [List.length_cons, List.length_nil]; omega))) rfl ?_
   refine q0 35 119 4 rfl rfl (T_ldE D (lv := .v _) (nn := 0) (upd := []) rfl rfl rfl rfl rfl (by first | assumption | omega | (simp only [List.length_append, List.length_map, List.length_take, List.length_range, List.length_replicate, List.length_set]; omega) | (have k1 := hfi j (by omega) (by omega); first | exact k1.1 | exact k1.2 | exact (Int.toNat_lt k1.1).2 k1.2 | omega) | (have k1 := hq (by omega); omega) | (have k0 := hq (by omega); have k1 := hqb ((next.getD j default).getD i default).toNat (by omega); simp only [List.length_cons, List.length_nil]; omega)) rfl rfl rfl rfl) rfl ?_
   refine k_done rfl ?_
   refine thenK_n ?_
   refine W_cond rfl (fun g3 => ?_) (fun g3 => ?_)
   ·have h3 := g3; (try simp only [cmpB, decide_eq_true_eq, decide_eq_false_iff_not, beq_iff_eq, beq_eq_false_iff_ne, bne_iff_ne, ne_eq, bne_eq_false_iff_eq, Bool.not_eq_true', Bool.not_eq_false', Int.not_lt, Int.not_le] at h3)
    refine W_seqK (b' := 311) rfl rfl ?_
    refine q0 36 135 1 rfl rfl (T_move rfl rfl) rfl ?_
    refine q0 37 151 2 rfl rfl (T_move rfl rfl) rfl ?_
    refine q0 38 167 3 rfl rfl (T_move rfl rfl) rfl ?_
    refine q0 39 183 4 rfl rfl (T_move rfl rfl) rfl ?_
    refine q0 40 199 5 rfl rfl (T_indexAddrN D rfl rfl rfl rfl rfl rfl rfl rfl (by first | assumption | omega | (simp only [List.length_append, List.length_map, List.length_take, List.length_range, List.length_replicate, List.length_set]; omega) | (have k1 := hfi j (by omega) (by omega); first | exact k1.1 | exact k1.2 | exact (Int.toNat_lt k1.1).2 k1.2 | omega) | (have k1 := hq (by omega); omega) | (have k0 := hq (by omega); have k1 := hqb ((next.getD j default).getD i default).toNat (by omega); simp only [List.length_cons, List.length_nil]; omega)) (by first | assumption | omega | (simp only [List.length_append, List.length_map, List.length_take, List.length_range, List.length_replicate, List.length_set]; omega) | (have k1 := hfi j (by omega) (by omega); first | exact k1.1 | exact k1.2 | exact (Int.toNat_lt k1.1).2 k1.2 | omega) | (have k1 := hq (by omega); omega) | (have k0 := hq (by omega); have k1 := hqb ((next.getD j default).getD i default).toNat (by omega); simp only [List.length_cons, List.length_nil]; omega))) rfl ?_
    refine qn 41 215 6 rfl rfl (T_ldN D rfl rfl rfl rfl rfl (by first | assumption | omega | (simp only [List.length_append, List.length_map, List.length_take, List.length_range, List.length_replicate, List.length_set]; omega) | (have k1 := hfi j (by omega) (by omega); first | exact k1.1 | exact k1.2 | exact (Int.toNat_lt k1.1).2 k1.2 | omega) | (have k1 := hq (by omega); omega) | (have k0 := hq (by omega); have k1 := hqb ((next.getD j default).getD i default).toNat (by omega); simp only [List.length_cons, List.length_nil]; omega))) rfl ?_
    refine q0 42 231 7 rfl rfl (T_move rfl rfl) rfl ?_
    refine q1 43 247 8 rfl rfl (T_bs D (ys := [_]) (enc := eI) (l := [_]) rfl rfl rfl rfl rfl rfl (.cons rfl (flat_v rfl) (.nil)) rfl rfl rfl rfl (.v rfl (.nil)) rfl rfl) rfl ?_
    refine qn 44 263 9 rfl rfl (T_append D rfl rfl rfl rfl rfl rfl rfl rfl rfl rfl rfl rfl (by (try simp only [ty3]); first | assumption | omega | (simp only [List.length_append, List.length_map, List.length_take, List.length_range, List.length_replicate, List.length_set]; omega) | (have k1 := hfi j (by omega) (by omega); first | exact k1.1 | exact k1.2 | exact (Int.toNat_lt k1.1).2 k1.2 | omega) | (have k1 := hq (by omega); omega) | (have k0 := hq (by omega); have k1 := hqb ((next.getD j default).getD i default).toNat (by omega); simp only [List.length_cons, List.length_nil]; omega)) (by (try simp only [ty3]); first | assumption | omega | (simp only [List.length_append, List.length_map, List.length_take, List.length_range, List.length_replicate, List.length_set]; omega) | (have k1 := hfi j (by omega) (by omega); first | exact k1.1 | exact k1.2 | exact (Int.toNat_lt k1.1).2 k1.2 | omega) | (have k1 := hq (by omega); omega) | (have k0 := hq (by omega); have k1 := hqb ((next.getD j default).getD i default).toNat (by omega); simp only [List.length_cons, List.length_nil]; omega))) rfl ?_
    refine q0 45 279 10 rfl rfl (T_indexAddrN D rfl rfl rfl rfl rfl rfl rfl rfl (by first | assumption | omega | (simp only [List.length_append, List.length_map, List.length_take, List.length_range, List.length_replicate, List.length_set]; omega) | (have k1 := hfi j (by omega) (by omega); first | exact k1.1 | exact k1.2 | exact (Int.toNat_lt k1.1).2 k1.2 | omega) | (have k1 := hq (by omega); omega) | (have k0 := hq (by omega); have k1 := hqb ((next.getD j default).getD i default).toNat (by omega); simp only [List.length_cons, List.length_nil]; omega)) (by first | assumption | omega | (simp only [List.length_append, List.length_map, List.length_take, List.length_range, List.length_replicate, List.length_set]; omega) | (have k1 := hfi j (by omega) (by omega); first | exact k1.1 | exact k1.2 | exact (Int.toNat_lt k1.1).2 k1.2 | omega) | (have k1 := hq (by omega); omega) | (have k0 := hq (by omega); have k1 := hqb ((next.getD j default).getD i default).toNat (by omega); simp only [List.length_cons, List.length_nil]; omega))) rfl ?_
    refine sn 295 11 rfl rfl (T_stN D rfl rfl rfl rfl rfl rfl rfl rfl (by first | assumption | omega | (simp only [List.length_append, List.length_map, List.length_take, List.length_range, List.length_replicate, List.length_set]; omega) | (have k1 := hfi j (by omega) (by omega); first | exact k1.1 | exact k1.2 | exact (Int.toNat_lt k1.1).2 k1.2 | omega) | (have k1 := hq (by omega); omega) | (have k0 := hq (by omega); have k1 := hqb ((next.getD j default).getD i default).toNat (by omega); simp only [List.length_cons, List.length_nil]; omega)) (.inr ⟨_, rfl⟩)) rfl ?_
    refine k_done rfl ?_
    refine blockK_n ?_
    refine thenK_n ?_
    refine W_seqK (b' := 343) rfl rfl ?_
    refine q0 46 311 1 rfl rfl (T_add64 rfl rfl rfl (by first | assumption | omega | (simp only [List.length_append, List.length_map, List.length_take, List.length_range, List.length_replicate, List.length_set]; omega) | (have k1 := hfi j (by omega) (by omega); first | exact k1.1 | exact k1.2 | exact (Int.toNat_lt k1.1).2 k1.2 | omega) | (have k1 := hq (by omega); omega) | (have k0 := hq (by omega); have k1 := hqb ((next.getD j default).getD i default).toNat (by omega); simp only [List.length_cons, List.length_nil]; omega))) rfl ?_
    refine q0 28 327 2 rfl rfl (T_move rfl rfl) rfl ?_
    refine k_done rfl ?_
    refine thenK_n ?_
    refine ⟨i + 1, by (try dsimp only); exact ⟨by omega, fun q h => by rw [hst (by omega)] at h; have h2 := step_bound hI.2 q h; omega⟩, by (try dsimp only); omega, ?_⟩
    exact ⟨[(4, 4), (5, 5), (6, 6)], .same rfl rfl (.same rfl rfl (.same rfl rfl (.eq rfl (.same rfl rfl (.eq rfl (.eq rfl (.same rfl rfl (.eq rfl (.eq rfl (.nil) (by first | rfl | (rw [hst (by omega), fromStep, if_pos (by assumption)]; rfl) | (rw [hst (by omega), fromStep, if_neg (by intro hc; simp_all [-List.getD_eq_getElem?_getD])]))) rfl)) rfl) rfl)) rfl))), .fzE rfl (.fzE rfl (.fzE rfl (.box (by first | rfl | (rw [hst (by omega), fromStep, if_pos (by assumption)]; rfl) | (rw [hst (by omega), fromStep, if_neg (by intro hc; simp_all [-List.getD_eq_getElem?_getD])])) (.nestE rfl (.fzE rfl (.nil) rfl) (by first | rfl | (rw [hst (by omega), fromStep, if_pos (by assumption)]; rfl) | (rw [hst (by omega), fromStep, if_neg (by intro hc; simp_all [-List.getD_eq_getElem?_getD])])))) rfl) rfl) rfl, rfl⟩
   ·have h3 := g3; (try simp only [cmpB, decide_eq_true_eq, decide_eq_false_iff_not, beq_iff_eq, beq_eq_false_iff_ne, bne_iff_ne, ne_eq, bne_eq_false_iff_eq, Bool.not_eq_true', Bool.not_eq_false', Int.not_lt, Int.not_le] at h3)
    refine W_skip ?_
    refine blockK_n ?_
    refine thenK_n ?_
    refine W_seqK (b' := 167) rfl rfl ?_
    refine q0 46 135 1 rfl rfl (T_add64 rfl rfl rfl (by first | assumption | omega | (simp only [List.length_append, List.length_map, List.length_take, List.length_range, List.length_replicate, List.length_set]; omega) | (have k1 := hfi j (by omega) (by omega); first | exact k1.1 | exact k1.2 | exact (Int.toNat_lt k1.1).2 k1.2 | omega) | (have k1 := hq (by omega); omega) | (have k0 := hq (by omega); have k1 := hqb ((next.getD j default).getD i default).toNat (by omega); simp only [List.length_cons, List.length_nil]; omega))) rfl ?_
    refine q0 28 151 2 rfl rfl (T_move rfl rfl) rfl ?_
    refine k_done rfl ?_
    refine thenK_n ?_
    refine ⟨i + 1, by (try dsimp only); exact ⟨by omega, fun q h => by rw [hst (by omega)] at h; have h2 := step_bound hI.2 q h; omega⟩, by (try dsimp only); omega, ?_⟩
    exact ⟨[(4, 4), (5, 5), (6, 6)], .same rfl rfl (.same rfl rfl (.same rfl rfl (.eq rfl (.same rfl rfl (.eq rfl (.eq rfl (.same rfl rfl (.eq rfl (.eq rfl (.nil) (by first | rfl | (rw [hst (by omega), fromStep, if_pos (by assumption)]; rfl) | (rw [hst (by omega), fromStep, if_neg (by intro hc; simp_all [-List.getD_eq_getElem?_getD])]))) rfl)) rfl) rfl)) rfl))), .fzE rfl (.fzE rfl (.fzE rfl (.box (by first | rfl | (rw [hst (by omega), fromStep, if_pos (by assumption)]; rfl) | (rw [hst (by omega), fromStep, if_neg (by intro hc; simp_all [-List.getD_eq_getElem?_getD])])) (.nestE rfl (.fzE rfl (.nil) rfl) (by first | rfl | (rw [hst (by omega), fromStep, if_pos (by assumption)]; rfl) | (rw [hst (by omega), fromStep, if_neg (by intro hc; simp_all [-List.getD_eq_getElem?_getD])])))) rfl) rfl) rfl, rfl⟩
  ·have h2 := c_lss_f g2
   refine W_exit ?_
   refine thenK_e ?_
   refine thenK_e ?_
   refine blockK_hit ?_
   refine blockK_n ?_
   refine thenK_n ?_
   refine W_seqK (b' := 55) rfl rfl ?_
   refine q0 47 23 1 rfl rfl (T_add64 rfl rfl rfl (by first | assumption | omega | (simp only [List.length_append, List.length_map, List.length_take, List.length_range, List.length_replicate, List.length_set]; omega) | (have k1 := hfi j (by omega) (by omega); first | exact k1.1 | exact k1.2 | exact (Int.toNat_lt k1.1).2 k1.2 | omega) | (have k1 := hq (by omega); omega) | (have k0 := hq (by omega); have k1 := hqb ((next.getD j default).getD i default).toNat (by omega); simp only [List.length_cons, List.length_nil]; omega))) rfl ?_
   refine q0 21 39 2 rfl rfl (T_move rfl rfl) rfl ?_
   refine k_done rfl ?_
   refine thenK_n ?_
   have hil : i = (next.getD j default).length := by omega
   have hI2 := hI.2
   rw [hil, List.take_of_length_le (Nat.le_refl _)] at hI2
   refine ⟨j + 1, by (try dsimp only); exact ⟨by omega, fun l h => by rw [hs] at h; have h2 := hI2 l h; rw [Nat.succ_mul]; omega⟩, by (try dsimp only); omega, ?_⟩
   exact ⟨[(4, 4), (5, 5)], .same rfl rfl (.same rfl rfl (.same rfl rfl (.same rfl rfl (.eq rfl (.eq rfl (.nil) (by first | rfl | (rw [hil, List.take_of_length_le (Nat.le_refl _), hs]; rfl))) rfl)))), .fzE rfl (.fzE rfl (.fzE rfl (.box (by first | rfl | (rw [hil, List.take_of_length_le (Nat.le_refl _), hs]; rfl)) (.nestE rfl (.nil) (by first | rfl | (rw [hil, List.take_of_length_le (Nat.le_refl _), hs]; rfl)))) rfl) rfl) rfl, rfl⟩
 ·have h1 := c_lss_f g1
  refine W_exit ?_
  refine thenK_e ?_
  refine thenK_e ?_
  refine blockK_hit ?_
  refine thenK_n ?_
  refine W_seq ?_
  refine W_seqK (b' := 102) rfl rfl ?_
  refine q0 48 22 1 rfl rfl (T_fa D (m := 1) rfl rfl rfl rfl rfl rfl) rfl ?_
  refine q0 49 38 2 rfl rfl (T_load_b D rfl rfl rfl rfl rfl rfl) rfl ?_
  refine q0 50 54 3 rfl rfl (T_len D rfl rfl rfl rfl rfl rfl) rfl ?_
  refine q1 51 70 4 rfl rfl (T_make D (zx := (0 : Int)) (enc := eI) rfl rfl rfl rfl rfl rfl rfl (.v rfl (.nil)) rfl (by (try simp only [ty3]); first | assumption | omega | (simp only [List.length_append, List.length_map, List.length_take, List.length_range, List.length_replicate, List.length_set]; omega) | (have k1 := hfi j (by omega) (by omega); first | exact k1.1 | exact k1.2 | exact (Int.toNat_lt k1.1).2 k1.2 | omega) | (have k1 := hq (by omega); omega) | (have k0 := hq (by omega); have k1 := hqb ((next.getD j default).getD i default).toNat (by omega); simp only [List.length_cons, List.length_nil]; omega)) (by (try simp only [ty3]); first | assumption | omega | (simp only [List.length_append, List.length_map, List.length_take, List.length_range, List.length_replicate, List.length_set]; omega) | (have k1 := hfi j (by omega) (by omega); first | exact k1.1 | exact k1.2 | exact (Int.toNat_lt k1.1).2 k1.2 | omega) | (have k1 := hq (by omega); omega) | (have k0 := hq (by omega); have k1 := hqb ((next.getD j default).getD i default).toNat (by omega); simp only [List.length_cons, List.length_nil]; omega))) rfl ?_
  refine q0 12 86 5 rfl rfl (T_assign rfl rfl) rfl ?_
  refine k_done rfl ?_
  refine thenK_n ?_
  refine W_seq ?_
  refine W_seq ?_
  refine W_seqK (b' := 150) rfl rfl ?_
  refine q0 52 102 1 rfl rfl (T_move rfl rfl) rfl ?_
  refine q0 53 118 2 rfl rfl (T_lenN D rfl rfl rfl rfl rfl rfl) rfl ?_
  refine q0 54 134 3 rfl rfl (T_move rfl rfl) rfl ?_
  refine k_done rfl ?_
  refine thenK_n ?_
  refine W_block ?_
  have hjn : j = next.length := by omega
  refine W_loop (ι := Nat) 7 (fun j => ⟨[(2, .r 3), (3, .p 4 0), (12, .r 5), (52, .r 6), (53, .v (.int .i64 (f.blocks.length : Int))), (54, .v (.int .i64 (j : Int)))], [(1, .fz 5 (f.blocks.map eBlock)), (2, .fz 1 (next.map eIs)), (3, .fz 1 (reached.map eB)), (4, .box 29 [.v (.int .i64 f.regs), .r 1]), (5, .row 3 1 ((((List.range f.blocks.length).take j).map (takenAt f reached (fromAll next reached f.blocks.length next.length)) ++ List.replicate (f.blocks.length - j) 0).map eI)), (6, .fz 1 ((fromAll next reached f.blocks.length next.length).map eIs))]⟩) (fun j => j ≤ f.blocks.length) (fun j => f.blocks.length - j) (0) (by exact Nat.zero_le _) ?_ (fun j hJ => ?_)
  ·exact ⟨[(4, 4), (5, 70), (6, 5)], .same rfl rfl (.same rfl rfl (.same rfl rfl (.same rfl rfl (.eq rfl (.eq rfl (.nil) (by first | rfl | (congr 1; omega) | (subst hjn; exact nestRows_eIs _) | (simp; done))) (by first | rfl | (congr 1; omega) | (subst hjn; exact nestRows_eIs _) | (simp; done)))))), .fzE rfl (.fzE rfl (.fzE rfl (.box (by first | rfl | (congr 1; omega) | (subst hjn; exact nestRows_eIs _) | (simp; done)) (.rowE rfl (.lendNE rfl (.nil) (by first | rfl | (congr 1; omega) | (subst hjn; exact nestRows_eIs _) | (simp; done))) (by first | rfl | (congr 1; omega) | (subst hjn; exact nestRows_eIs _) | (simp; done)))) (by first | rfl | (congr 1; omega) | (subst hjn; exact nestRows_eIs _) | (simp; done))) (by first | rfl | (congr 1; omega) | (subst hjn; exact nestRows_eIs _) | (simp; done))) (by first | rfl | (congr 1; omega) | (subst hjn; exact nestRows_eIs _) | (simp; done)), rfl⟩
  have hfn := fromAll_length next reached f.blocks.length next.length
  have hfi : ∀ m, m < f.blocks.length → 0 < ((fromAll next reached f.blocks.length next.length).getD m default).length → 0 ≤ ((fromAll next reached f.blocks.length next.length).getD m default).getD 0 default ∧ ((fromAll next reached f.blocks.length next.length).getD m default).getD 0 default < (f.blocks.length : Int) := fun m hm h0 => by have k1 := fromAll_in next reached f.blocks.length next.length _ (getD_mem (i := m) (by omega)) _ (getD_mem h0); exact ⟨k1.1, Int.lt_of_lt_of_le k1.2 (by omega)⟩
  refine W_seq ?_
  refine W_seqK (b' := 23) rfl rfl ?_
  refine q0 55 7 1 rfl rfl (T_cmp rfl rfl rfl rfl) rfl ?_
  refine k_done rfl ?_
  refine thenK_n ?_
  refine W_seq ?_
  refine W_cond rfl (fun g4 => ?_) (fun g4 => ?_)
  ·have h4 := c_lss_t g4
   refine W_skip ?_
   refine thenK_n ?_
   refine W_seq ?_
   refine W_block ?_
   refine W_seq ?_
   refine W_seqK (b' := 103) rfl rfl ?_
   refine q0 56 23 1 rfl rfl (T_move rfl rfl) rfl ?_
   first | refine q0 57 39 2 rfl rfl (T_indexAddr D rfl rfl rfl rfl rfl rfl rfl rfl (by first | assumption | omega | (simp only [List.length_append, List.length_map, List.length_take, List.length_range, List.length_replicate, List.length_set]; omega) | (have k1 := hfi j (by omega) (by omega); first | exact k1.1 | exact k1.2 | exact (Int.toNat_lt k1.1).2 k1.2 | omega) | (have k1 := hq (by omega); omega) | (have k0 := hq (by omega); have k1 := hqb ((next.getD j default).getD i default).toNat (by omega); simp only [List.length_cons, List.length_nil]; omega))) rfl ?_ | refine q0 57 39 2 rfl rfl (T_indexAddrZ D rfl rfl rfl rfl rfl rfl rfl rfl (by first | assumption | omega | (simp only [List.length_append, List.length_map, List.length_take, List.length_range, List.length_replicate, List.length_set]; omega) | (have k1 := hfi j (by omega) (by omega); first | exact k1.1 | exact k1.2 | exact (Int.toNat_lt k1.1).2 k1.2 | omega) | (have k1 := hq (by omega); omega) | (have k0 := hq (by omega); have k1 := hqb ((next.getD j default).getD i default).toNat (by omega); simp only [List.length_cons, List.length_nil]; omega)) (by first | assumption | omega | (simp only [List.length_append, List.length_map, List.length_take, List.length_range, List.length_replicate, List.length_set]; omega) | (have k1 := hfi j (by omega) (by omega); first | exact k1.1 | exact k1.2 | exact (Int.toNat_lt k1.1).2 k1.2 | omega) | (have k1 := hq (by omega); omega) | (have k0 := hq (by omega); have k1 := hqb ((next.getD j default).getD i default).toNat (by omega); simp only [List.length_cons, List.length_nil]; omega))) rfl ?_
   refine q1 58 55 3 rfl rfl (T_ldE D (lv := .r 55) (nn := 1) (upd := [(55, .fz 1 _)]) rfl rfl rfl rfl rfl (by first | assumption | omega | (simp only [List.length_append, List.length_map, List.length_take, List.length_range, List.length_replicate, List.length_set]; omega) | (have k1 := hfi j (by omega) (by omega); first | exact k1.1 | exact k1.2 | exact (Int.toNat_lt k1.1).2 k1.2 | omega) | (have k1 := hq (by omega); omega) | (have k0 := hq (by omega); have k1 := hqb ((next.getD j default).getD i default).toNat (by omega); simp only [List.length_cons, List.length_nil]; omega)) rfl rfl rfl rfl) rfl ?_
   refine q0 13 71 4 rfl rfl (T_assign rfl rfl) rfl ?_
   refine q0 14 87 5 rfl rfl (T_assign rfl rfl) rfl ?_
   refine k_done rfl ?_
   refine thenK_n ?_
   refine W_seq ?_
   refine W_seqK (b' := 167) rfl rfl ?_
   refine q0 59 103 1 rfl rfl (T_move rfl rfl) rfl ?_
   refine q0 60 119 2 rfl rfl (T_move rfl rfl) rfl ?_
   first | refine q0 61 135 3 rfl rfl (T_indexAddr D rfl rfl rfl rfl rfl rfl rfl rfl (by first | assumption | omega | (simp only [List.length_append, List.length_map, List.length_take, List.length_range, List.length_replicate, List.length_set]; omega) | (have k1 := hfi j (by omega) (by omega); first | exact k1.1 | exact k1.2 | exact (Int.toNat_lt k1.1).2 k1.2 | omega) | (have k1 := hq (by omega); omega) | (have k0 := hq (by omega); have k1 := hqb ((next.getD j default).getD i default).toNat (by omega); simp only [List.length_cons, List.length_nil]; omega))) rfl ?_ | refine q0 61 135 3 rfl rfl (T_indexAddrZ D rfl rfl rfl rfl rfl rfl rfl rfl (by first | assumption | omega | (simp only [List.length_append, List.length_map, List.length_take, List.length_range, List.length_replicate, List.length_set]; omega) | (have k1 := hfi j (by omega) (by omega); first | exact k1.1 | exact k1.2 | exact (Int.toNat_lt k1.1).2 k1.2 | omega) | (have k1 := hq (by omega); omega) | (have k0 := hq (by omega); have k1 := hqb ((next.getD j default).getD i default).toNat (by omega); simp only [List.length_cons, List.length_nil]; omega)) (by first | assumption | omega | (simp only [List.length_append, List.length_map, List.length_take, List.length_range, List.length_replicate, List.length_set]; omega) | (have k1 := hfi j (by omega) (by omega); first | exact k1.1 | exact k1.2 | exact (Int.toNat_lt k1.1).2 k1.2 | omega) | (have k1 := hq (by omega); omega) | (have k0 := hq (by omega); have k1 := hqb ((next.getD j default).getD i default).toNat (by omega); simp only [List.length_cons, List.length_nil]; omega))) rfl ?_
   refine s1 151 4 rfl rfl (T_store_e D (z := _) rfl rfl rfl rfl (flat_v rfl) rfl rfl (by first | assumption | omega | (simp only [List.length_append, List.length_map, List.length_take, List.length_range, List.length_replicate, List.length_set]; omega) | (have k1 := hfi j (by omega) (by omega); first | exact k1.1 | exact k1.2 | exact (Int.toNat_lt k1.1).2 k1.2 | omega) | (have k1 := hq (by omega); omega) | (have k0 := hq (by omega); have k1 := hqb ((next.getD j default).getD i default).toNat (by omega); simp only [List.length_cons, List.length_nil]; omega)) (.v rfl (.nil)) rfl (Nat.le_of_ble_eq_true rfl) rfl) rfl ?_
   refine k_done rfl ?_
   refine thenK_n ?_
   refine W_seq ?_
   refine W_anyK (b' := 663) rfl rfl rfl ?_
   refine q0 62 167 1 rfl rfl (T_move rfl rfl) rfl ?_
   refine q0 63 183 2 rfl rfl (T_cmp rfl rfl rfl rfl) rfl ?_
   refine q0 64 199 3 rfl rfl (T_move rfl rfl) rfl ?_
   refine k_split (d := 64) rfl (fun g5 => ?_) (fun g5 => ?_)
   ·have h5 := c_gtr_t g5
    refine k_op0 (d := 65) (b := 215) (j' := 4) rfl rfl rfl rfl (g_tt rfl rfl rfl g5) (T_move rfl rfl) rfl ?_
    refine k_op0 (d := 66) (b := 231) (j' := 5) rfl rfl rfl rfl (g_tt rfl rfl rfl g5) (T_move rfl rfl) rfl ?_
    first | refine k_op0 (d := 67) (b := 247) (j' := 6) rfl rfl rfl rfl (g_tt rfl rfl rfl g5) (T_indexAddr D rfl rfl rfl rfl rfl rfl rfl rfl (by first | assumption | omega | (simp only [List.length_append, List.length_map, List.length_take, List.length_range, List.length_replicate, List.length_set]; omega) | (have k1 := hfi j (by omega) (by omega); first | exact k1.1 | exact k1.2 | exact (Int.toNat_lt k1.1).2 k1.2 | omega) | (have k1 := hq (by omega); omega) | (have k0 := hq (by omega); have k1 := hqb ((next.getD j default).getD i default).toNat (by omega); simp only [List.length_cons, List.length_nil]; omega))) rfl ?_ | refine k_op0 (d := 67) (b := 247) (j' := 6) rfl rfl rfl rfl (g_tt rfl rfl rfl g5) (T_indexAddrZ D rfl rfl rfl rfl rfl rfl rfl rfl (by first | assumption | omega | (simp only [List.length_append, List.length_map, List.length_take, List.length_range, List.length_replicate, List.length_set]; omega) | (have k1 := hfi j (by omega) (by omega); first | exact k1.1 | exact k1.2 | exact (Int.toNat_lt k1.1).2 k1.2 | omega) | (have k1 := hq (by omega); omega) | (have k0 := hq (by omega); have k1 := hqb ((next.getD j default).getD i default).toNat (by omega); simp only [List.length_cons, List.length_nil]; omega)) (by first | assumption | omega | (simp only [List.length_append, List.length_map, List.length_take, List.length_range, List.length_replicate, List.length_set]; omega) | (have k1 := hfi j (by omega) (by omega); first | exact k1.1 | exact k1.2 | exact (Int.toNat_lt k1.1).2 k1.2 | omega) | (have k1 := hq (by omega); omega) | (have k0 := hq (by omega); have k1 := hqb ((next.getD j default).getD i default).toNat (by omega); simp only [List.length_cons, List.length_nil]; omega))) rfl ?_
    refine k_op0 (d := 68) (b := 263) (j' := 7) rfl rfl rfl rfl (g_tt rfl rfl rfl g5) (T_ldE D (lv := .v _) (nn := 0) (upd := []) rfl rfl rfl rfl rfl (by first | assumption | omega | (simp only [List.length_append, List.length_map, List.length_take, List.length_range, List.length_replicate, List.length_set]; omega) | (have k1 := hfi j (by omega) (by omega); first | exact k1.1 | exact k1.2 | exact (Int.toNat_lt k1.1).2 k1.2 | omega) | (have k1 := hq (by omega); omega) | (have k0 := hq (by omega); have k1 := hqb ((next.getD j default).getD i default).toNat (by omega); simp only [List.length_cons, List.length_nil]; omega)) rfl rfl rfl rfl) rfl ?_
    refine q0 69 279 8 rfl rfl (T_pick_t rfl rfl rfl g5) rfl ?_
    refine q0 70 295 9 rfl rfl (T_move rfl rfl) rfl ?_
    refine k_split (d := 70) rfl (fun g6 => ?_) (fun g6 => ?_)
    ·have h6 := g6; (try simp only [cmpB, decide_eq_true_eq, decide_eq_false_iff_not, beq_iff_eq, beq_eq_false_iff_ne, bne_iff_ne, ne_eq, bne_eq_false_iff_eq, Bool.not_eq_true', Bool.not_eq_false', Int.not_lt, Int.not_le] at h6)
     refine k_op0 (d := 71) (b := 311) (j' := 10) rfl rfl rfl rfl (g_tt rfl rfl rfl g6) (T_move rfl rfl) rfl ?_
     refine k_op0 (d := 72) (b := 327) (j' := 11) rfl rfl rfl rfl (g_tt rfl rfl rfl g6) (T_len D rfl rfl rfl rfl rfl rfl) rfl ?_
     refine k_op0 (d := 73) (b := 343) (j' := 12) rfl rfl rfl rfl (g_tt rfl rfl rfl g6) (T_cmp rfl rfl rfl rfl) rfl ?_
     refine q0 74 359 13 rfl rfl (T_pick_t rfl rfl rfl g6) rfl ?_
     refine q0 75 375 14 rfl rfl (T_move rfl rfl) rfl ?_
     refine k_split (d := 75) rfl (fun g7 => ?_) (fun g7 => ?_)
     ·have h7 := c_eql_t g7
      refine k_op0 (d := 76) (b := 391) (j' := 15) rfl rfl rfl rfl (g_tt rfl rfl rfl g7) (T_move rfl rfl) rfl ?_
      first | refine k_op0 (d := 77) (b := 407) (j' := 16) rfl rfl rfl rfl (g_tt rfl rfl rfl g7) (T_indexAddr D rfl rfl rfl rfl rfl rfl rfl rfl (by first | assumption | omega | (simp only [List.length_append, List.length_map, List.length_take, List.length_range, List.length_replicate, List.length_set]; omega) | (have k1 := hfi j (by omega) (by omega); first | exact k1.1 | exact k1.2 | exact (Int.toNat_lt k1.1).2 k1.2 | omega) | (have k1 := hq (by omega); omega) | (have k0 := hq (by omega); have k1 := hqb ((next.getD j default).getD i default).toNat (by omega); simp only [List.length_cons, List.length_nil]; omega))) rfl ?_ | refine k_op0 (d := 77) (b := 407) (j' := 16) rfl rfl rfl rfl (g_tt rfl rfl rfl g7) (T_indexAddrZ D rfl rfl rfl rfl rfl rfl rfl rfl (by first | assumption | omega | (simp only [List.length_append, List.length_map, List.length_take, List.length_range, List.length_replicate, List.length_set]; omega) | (have k1 := hfi j (by omega) (by omega); first | exact k1.1 | exact k1.2 | exact (Int.toNat_lt k1.1).2 k1.2 | omega) | (have k1 := hq (by omega); omega) | (have k0 := hq (by omega); have k1 := hqb ((next.getD j default).getD i default).toNat (by omega); simp only [List.length_cons, List.length_nil]; omega)) (by first | assumption | omega | (simp only [List.length_append, List.length_map, List.length_take, List.length_range, List.length_replicate, List.length_set]; omega) | (have k1 := hfi j (by omega) (by omega); first | exact k1.1 | exact k1.2 | exact (Int.toNat_lt k1.1).2 k1.2 | omega) | (have k1 := hq (by omega); omega) | (have k0 := hq (by omega); have k1 := hqb ((next.getD j default).getD i default).toNat (by omega); simp only [List.length_cons, List.length_nil]; omega))) rfl ?_
      refine k_op0 (d := 78) (b := 423) (j' := 17) rfl rfl rfl rfl (g_tt rfl rfl rfl g7) (T_ldE D (lv := .v _) (nn := 0) (upd := []) rfl rfl rfl rfl rfl (by first | assumption | omega | (simp only [List.length_append, List.length_map, List.length_take, List.length_range, List.length_replicate, List.length_set]; omega) | (have k1 := hfi j (by omega) (by omega); first | exact k1.1 | exact k1.2 | exact (Int.toNat_lt k1.1).2 k1.2 | omega) | (have k1 := hq (by omega); omega) | (have k0 := hq (by omega); have k1 := hqb ((next.getD j default).getD i default).toNat (by omega); simp only [List.length_cons, List.length_nil]; omega)) rfl rfl rfl rfl) rfl ?_
      refine k_op0 (d := 79) (b := 439) (j' := 18) rfl rfl rfl rfl (g_tt rfl rfl rfl g7) (T_move rfl rfl) rfl ?_
      refine k_op0 (d := 80) (b := 455) (j' := 19) rfl rfl rfl rfl (g_tt rfl rfl rfl g7) (T_cmp rfl rfl rfl rfl) rfl ?_
      refine q0 81 471 20 rfl rfl (T_pick_t rfl rfl rfl g7) rfl ?_
      refine q0 82 487 21 rfl rfl (T_move rfl rfl) rfl ?_
      refine k_split (d := 82) rfl (fun g8 => ?_) (fun g8 => ?_)
      ·have h8 := c_neq_t g8
       refine k_op0 (d := 83) (b := 503) (j' := 22) rfl rfl rfl rfl (g_tt rfl rfl rfl g8) (T_fa D (m := 1) rfl rfl rfl rfl rfl rfl) rfl ?_
       refine k_op0 (d := 84) (b := 519) (j' := 23) rfl rfl rfl rfl (g_tt rfl rfl rfl g8) (T_load_b D rfl rfl rfl rfl rfl rfl) rfl ?_
       refine k_op0 (d := 85) (b := 535) (j' := 24) rfl rfl rfl rfl (g_tt rfl rfl rfl g8) (T_move rfl rfl) rfl ?_
       first | refine k_op0 (d := 86) (b := 551) (j' := 25) rfl rfl rfl rfl (g_tt rfl rfl rfl g8) (T_indexAddr D rfl rfl rfl rfl rfl rfl rfl rfl (by first | assumption | omega | (simp only [List.length_append, List.length_map, List.length_take, List.length_range, List.length_replicate, List.length_set]; omega) | (have k1 := hfi j (by omega) (by omega); first | exact k1.1 | exact k1.2 | exact (Int.toNat_lt k1.1).2 k1.2 | omega) | (have k1 := hq (by omega); omega) | (have k0 := hq (by omega); have k1 := hqb ((next.getD j default).getD i default).toNat (by omega); simp only [List.length_cons, List.length_nil]; omega))) rfl ?_ | refine k_op0 (d := 86) (b := 551) (j' := 25) rfl rfl rfl rfl (g_tt rfl rfl rfl g8) (T_indexAddrZ D rfl rfl rfl rfl rfl rfl rfl rfl (by first | assumption | omega | (simp only [List.length_append, List.length_map, List.length_take, List.length_range, List.length_replicate, List.length_set]; omega) | (have k1 := hfi j (by omega) (by omega); first | exact k1.1 | exact k1.2 | exact (Int.toNat_lt k1.1).2 k1.2 | omega) | (have k1 := hq (by omega); omega) | (have k0 := hq (by omega); have k1 := hqb ((next.getD j default).getD i default).toNat (by omega); simp only [List.length_cons, List.length_nil]; omega)) (by first | assumption | omega | (simp only [List.length_append, List.length_map, List.length_take, List.length_range, List.length_replicate, List.length_set]; omega) | (have k1 := hfi j (by omega) (by omega); first | exact k1.1 | exact k1.2 | exact (Int.toNat_lt k1.1).2 k1.2 | omega) | (have k1 := hq (by omega); omega) | (have k0 := hq (by omega); have k1 := hqb ((next.getD j default).getD i default).toNat (by omega); simp only [List.length_cons, List.length_nil]; omega))) rfl ?_
       refine k_op0 (d := 87) (b := 567) (j' := 26) rfl rfl rfl rfl (g_tt rfl rfl rfl g8) (T_ldE D (lv := .v _) (nn := 0) (upd := []) rfl rfl rfl rfl rfl (by first | assumption | omega | (simp only [List.length_append, List.length_map, List.length_take, List.length_range, List.length_replicate, List.length_set]; omega) | (have k1 := hfi j (by omega) (by omega); first | exact k1.1 | exact k1.2 | exact (Int.toNat_lt k1.1).2 k1.2 | omega) | (have k1 := hq (by omega); omega) | (have k0 := hq (by omega); have k1 := hqb ((next.getD j default).getD i default).toNat (by omega); simp only [List.length_cons, List.length_nil]; omega)) rfl rfl rfl rfl) rfl ?_
       first | refine k_op0 (d := 88) (b := 583) (j' := 27) rfl rfl rfl rfl (g_tt rfl rfl rfl g8) (T_indexAddr D rfl rfl rfl rfl rfl rfl rfl rfl (by first | assumption | omega | (simp only [List.length_append, List.length_map, List.length_take, List.length_range, List.length_replicate, List.length_set]; omega) | (have k1 := hfi j (by omega) (by omega); first | exact k1.1 | exact k1.2 | exact (Int.toNat_lt k1.1).2 k1.2 | omega) | (have k1 := hq (by omega); omega) | (have k0 := hq (by omega); have k1 := hqb ((next.getD j default).getD i default).toNat (by omega); simp only [List.length_cons, List.length_nil]; omega))) rfl ?_ | refine k_op0 (d := 88) (b := 583) (j' := 27) rfl rfl rfl rfl (g_tt rfl rfl rfl g8) (T_indexAddrZ D rfl rfl rfl rfl rfl rfl rfl rfl (by first | assumption | omega | (simp only [List.length_append, List.length_map, List.length_take, List.length_range, List.length_replicate, List.length_set]; omega) | (have k1 := hfi j (by omega) (by omega); first | exact k1.1 | exact k1.2 | exact (Int.toNat_lt k1.1).2 k1.2 | omega) | (have k1 := hq (by omega); omega) | (have k0 := hq (by omega); have k1 := hqb ((next.getD j default).getD i default).toNat (by omega); simp only [List.length_cons, List.length_nil]; omega)) (by first | assumption | omega | (simp only [List.length_append, List.length_map, List.length_take, List.length_range, List.length_replicate, List.length_set]; omega) | (have k1 := hfi j (by omega) (by omega); first | exact k1.1 | exact k1.2 | exact (Int.toNat_lt k1.1).2 k1.2 | omega) | (have k1 := hq (by omega); omega) | (have k0 := hq (by omega); have k1 := hqb ((next.getD j default).getD i default).toNat (by omega); simp only [List.length_cons, List.length_nil]; omega))) rfl ?_
       refine k_op0 (d := 89) (b := 599) (j' := 28) rfl rfl rfl rfl (g_tt rfl rfl rfl g8) (T_fae D (m := 1) rfl rfl rfl rfl rfl rfl) rfl ?_
       refine k_op0 (d := 90) (b := 615) (j' := 29) rfl rfl rfl rfl (g_tt rfl rfl rfl g8) (T_ldE D (lv := .v _) (nn := 0) (upd := []) rfl rfl rfl rfl rfl (by first | assumption | omega | (simp only [List.length_append, List.length_map, List.length_take, List.length_range, List.length_replicate, List.length_set]; omega) | (have k1 := hfi j (by omega) (by omega); first | exact k1.1 | exact k1.2 | exact (Int.toNat_lt k1.1).2 k1.2 | omega) | (have k1 := hq (by omega); omega) | (have k0 := hq (by omega); have k1 := hqb ((next.getD j default).getD i default).toNat (by omega); simp only [List.length_cons, List.length_nil]; omega)) rfl rfl rfl rfl) rfl ?_
       refine k_op0 (d := 91) (b := 631) (j' := 30) rfl rfl rfl rfl (g_tt rfl rfl rfl g8) (T_cmp rfl rfl rfl rfl) rfl ?_
       refine q0 92 647 31 rfl rfl (T_pick_t rfl rfl rfl g8) rfl ?_
       refine k_done rfl ?_
       refine ⟨rfl, ?_⟩
       refine thenK_n ?_
       refine W_cond rfl (fun g9 => ?_) (fun g9 => ?_)
       ·have h9 := c_eql_t g9
        refine W_seqK (b' := 775) rfl rfl ?_
        refine q0 93 663 1 rfl rfl (T_move rfl rfl) rfl ?_
        refine q0 94 679 2 rfl rfl (T_move rfl rfl) rfl ?_
        refine q0 95 695 3 rfl rfl (T_move rfl rfl) rfl ?_
        first | refine q0 96 711 4 rfl rfl (T_indexAddr D rfl rfl rfl rfl rfl rfl rfl rfl (by first | assumption | omega | (simp only [List.length_append, List.length_map, List.length_take, List.length_range, List.length_replicate, List.length_set]; omega) | (have k1 := hfi j (by omega) (by omega); first | exact k1.1 | exact k1.2 | exact (Int.toNat_lt k1.1).2 k1.2 | omega) | (have k1 := hq (by omega); omega) | (have k0 := hq (by omega); have k1 := hqb ((next.getD j default).getD i default).toNat (by omega); simp only [List.length_cons, List.length_nil]; omega))) rfl ?_ | refine q0 96 711 4 rfl rfl (T_indexAddrZ D rfl rfl rfl rfl rfl rfl rfl rfl (by first | assumption | omega | (simp only [List.length_append, List.length_map, List.length_take, List.length_range, List.length_replicate, List.length_set]; omega) | (have k1 := hfi j (by omega) (by omega); first | exact k1.1 | exact k1.2 | exact (Int.toNat_lt k1.1).2 k1.2 | omega) | (have k1 := hq (by omega); omega) | (have k0 := hq (by omega); have k1 := hqb ((next.getD j default).getD i default).toNat (by omega); simp only [List.length_cons, List.length_nil]; omega)) (by first | assumption | omega | (simp only [List.length_append, List.length_map, List.length_take, List.length_range, List.length_replicate, List.length_set]; omega) | (have k1 := hfi j (by omega) (by omega); first | exact k1.1 | exact k1.2 | exact (Int.toNat_lt k1.1).2 k1.2 | omega) | (have k1 := hq (by omega); omega) | (have k0 := hq (by omega); have k1 := hqb ((next.getD j default).getD i default).toNat (by omega); simp only [List.length_cons, List.length_nil]; omega))) rfl ?_
        refine q0 97 727 5 rfl rfl (T_ldE D (lv := .v _) (nn := 0) (upd := []) rfl rfl rfl rfl rfl (by first | assumption | omega | (simp only [List.length_append, List.length_map, List.length_take, List.length_range, List.length_replicate, List.length_set]; omega) | (have k1 := hfi j (by omega) (by omega); first | exact k1.1 | exact k1.2 | exact (Int.toNat_lt k1.1).2 k1.2 | omega) | (have k1 := hq (by omega); omega) | (have k0 := hq (by omega); have k1 := hqb ((next.getD j default).getD i default).toNat (by omega); simp only [List.length_cons, List.length_nil]; omega)) rfl rfl rfl rfl) rfl ?_
        first | refine q0 98 743 6 rfl rfl (T_indexAddr D rfl rfl rfl rfl rfl rfl rfl rfl (by first | assumption | omega | (simp only [List.length_append, List.length_map, List.length_take, List.length_range, List.length_replicate, List.length_set]; omega) | (have k1 := hfi j (by omega) (by omega); first | exact k1.1 | exact k1.2 | exact (Int.toNat_lt k1.1).2 k1.2 | omega) | (have k1 := hq (by omega); omega) | (have k0 := hq (by omega); have k1 := hqb ((next.getD j default).getD i default).toNat (by omega); simp only [List.length_cons, List.length_nil]; omega))) rfl ?_ | refine q0 98 743 6 rfl rfl (T_indexAddrZ D rfl rfl rfl rfl rfl rfl rfl rfl (by first | assumption | omega | (simp only [List.length_append, List.length_map, List.length_take, List.length_range, List.length_replicate, List.length_set]; omega) | (have k1 := hfi j (by omega) (by omega); first | exact k1.1 | exact k1.2 | exact (Int.toNat_lt k1.1).2 k1.2 | omega) | (have k1 := hq (by omega); omega) | (have k0 := hq (by omega); have k1 := hqb ((next.getD j default).getD i default).toNat (by omega); simp only [List.length_cons, List.length_nil]; omega)) (by first | assumption | omega | (simp only [List.length_append, List.length_map, List.length_take, List.length_range, List.length_replicate, List.length_set]; omega) | (have k1 := hfi j (by omega) (by omega); first | exact k1.1 | exact k1.2 | exact (Int.toNat_lt k1.1).2 k1.2 | omega) | (have k1 := hq (by omega); omega) | (have k0 := hq (by omega); have k1 := hqb ((next.getD j default).getD i default).toNat (by omega); simp only [List.length_cons, List.length_nil]; omega))) rfl ?_
        refine s1 759 7 rfl rfl (T_store_e D (z := _) rfl rfl rfl rfl (flat_v rfl) rfl rfl (by first | assumption | omega | (simp only [List.length_append, List.length_map, List.length_take, List.length_range, List.length_replicate, List.length_set]; omega) | (have k1 := hfi j (by omega) (by omega); first | exact k1.1 | exact k1.2 | exact (Int.toNat_lt k1.1).2 k1.2 | omega) | (have k1 := hq (by omega); omega) | (have k0 := hq (by omega); have k1 := hqb ((next.getD j default).getD i default).toNat (by omega); simp only [List.length_cons, List.length_nil]; omega)) (.v rfl (.nil)) rfl (Nat.le_of_ble_eq_true rfl) rfl) rfl ?_
        refine k_done rfl ?_
        refine blockK_n ?_
        refine thenK_n ?_
        refine W_seqK (b' := 807) rfl rfl ?_
        refine q0 99 775 1 rfl rfl (T_add64 rfl rfl rfl (by first | assumption | omega | (simp only [List.length_append, List.length_map, List.length_take, List.length_range, List.length_replicate, List.length_set]; omega) | (have k1 := hfi j (by omega) (by omega); first | exact k1.1 | exact k1.2 | exact (Int.toNat_lt k1.1).2 k1.2 | omega) | (have k1 := hq (by omega); omega) | (have k0 := hq (by omega); have k1 := hqb ((next.getD j default).getD i default).toNat (by omega); simp only [List.length_cons, List.length_nil]; omega))) rfl ?_
        refine q0 54 791 2 rfl rfl (T_move rfl rfl) rfl ?_
        refine k_done rfl ?_
        refine thenK_n ?_
        refine ⟨j + 1, by (try dsimp only); omega, by (try dsimp only); omega, ?_⟩
        exact ⟨[(4, 4), (5, 5), (6, 6)], .same rfl rfl (.same rfl rfl (.same rfl rfl (.same rfl rfl (.eq rfl (.eq rfl (.nil) (by first | rfl | (rw [List.set_set]; exact congrArg _ (row_step (by omega) (by unfold takenAt; first | exact (if_pos ⟨by omega, by assumption, by omega, by assumption, by assumption⟩).symm | rw [if_neg (by rintro ⟨a1, a2, a3, a4, a5⟩; first | omega | contradiction | exact absurd a5 (by assumption) | (rw [a2] at h6; cases h6))]))) | exact congrArg _ (row_step (by omega) (by unfold takenAt; first | exact (if_pos ⟨by omega, by assumption, by omega, by assumption, by assumption⟩).symm | rw [if_neg (by rintro ⟨a1, a2, a3, a4, a5⟩; first | omega | contradiction | exact absurd a5 (by assumption) | (rw [a2] at h6; cases h6))])))) rfl)))), .fzE rfl (.fzE rfl (.fzE rfl (.box (by first | rfl | (rw [List.set_set]; exact congrArg _ (row_step (by omega) (by unfold takenAt; first | exact (if_pos ⟨by omega, by assumption, by omega, by assumption, by assumption⟩).symm | rw [if_neg (by rintro ⟨a1, a2, a3, a4, a5⟩; first | omega | contradiction | exact absurd a5 (by assumption) | (rw [a2] at h6; cases h6))]))) | exact congrArg _ (row_step (by omega) (by unfold takenAt; first | exact (if_pos ⟨by omega, by assumption, by omega, by assumption, by assumption⟩).symm | rw [if_neg (by rintro ⟨a1, a2, a3, a4, a5⟩; first | omega | contradiction | exact absurd a5 (by assumption) | (rw [a2] at h6; cases h6))]))) (.rowE rfl (.fzE rfl (.nil) rfl) (by first | rfl | (rw [List.set_set]; exact congrArg _ (row_step (by omega) (by unfold takenAt; first | exact (if_pos ⟨by omega, by assumption, by omega, by assumption, by assumption⟩).symm | rw [if_neg (by rintro ⟨a1, a2, a3, a4, a5⟩; first | omega | contradiction | exact absurd a5 (by assumption) | (rw [a2] at h6; cases h6))]))) | exact congrArg _ (row_step (by omega) (by unfold takenAt; first | exact (if_pos ⟨by omega, by assumption, by omega, by assumption, by assumption⟩).symm | rw [if_neg (by rintro ⟨a1, a2, a3, a4, a5⟩; first | omega | contradiction | exact absurd a5 (by assumption) | (rw [a2] at h6; cases h6))]))))) rfl) rfl) rfl, rfl⟩
       ·have h9 := c_eql_f g9
        refine W_skip ?_
        refine blockK_n ?_
        refine thenK_n ?_
        refine W_seqK (b' := 695) rfl rfl ?_
        refine q0 99 663 1 rfl rfl (T_add64 rfl rfl rfl (by first | assumption | omega | (simp only [List.length_append, List.length_map, List.length_take, List.length_range, List.length_replicate, List.length_set]; omega) | (have k1 := hfi j (by omega) (by omega); first | exact k1.1 | exact k1.2 | exact (Int.toNat_lt k1.1).2 k1.2 | omega) | (have k1 := hq (by omega); omega) | (have k0 := hq (by omega); have k1 := hqb ((next.getD j default).getD i default).toNat (by omega); simp only [List.length_cons, List.length_nil]; omega))) rfl ?_
        refine q0 54 679 2 rfl rfl (T_move rfl rfl) rfl ?_
        refine k_done rfl ?_
        refine thenK_n ?_
        refine ⟨j + 1, by (try dsimp only); omega, by (try dsimp only); omega, ?_⟩
        exact ⟨[(4, 4), (5, 5), (6, 6)], .same rfl rfl (.same rfl rfl (.same rfl rfl (.same rfl rfl (.eq rfl (.eq rfl (.nil) (by first | rfl | (rw [List.set_set]; exact congrArg _ (row_step (by omega) (by unfold takenAt; first | exact (if_pos ⟨by omega, by assumption, by omega, by assumption, by assumption⟩).symm | rw [if_neg (by rintro ⟨a1, a2, a3, a4, a5⟩; first | omega | contradiction | exact absurd a5 (by assumption) | (rw [a2] at h6; cases h6))]))) | exact congrArg _ (row_step (by omega) (by unfold takenAt; first | exact (if_pos ⟨by omega, by assumption, by omega, by assumption, by assumption⟩).symm | rw [if_neg (by rintro ⟨a1, a2, a3, a4, a5⟩; first | omega | contradiction | exact absurd a5 (by assumption) | (rw [a2] at h6; cases h6))])))) rfl)))), .fzE rfl (.fzE rfl (.fzE rfl (.box (by first | rfl | (rw [List.set_set]; exact congrArg _ (row_step (by omega) (by unfold takenAt; first | exact (if_pos ⟨by omega, by assumption, by omega, by assumption, by assumption⟩).symm | rw [if_neg (by rintro ⟨a1, a2, a3, a4, a5⟩; first | omega | contradiction | exact absurd a5 (by assumption) | (rw [a2] at h6; cases h6))]))) | exact congrArg _ (row_step (by omega) (by unfold takenAt; first | exact (if_pos ⟨by omega, by assumption, by omega, by assumption, by assumption⟩).symm | rw [if_neg (by rintro ⟨a1, a2, a3, a4, a5⟩; first | omega | contradiction | exact absurd a5 (by assumption) | (rw [a2] at h6; cases h6))]))) (.rowE rfl (.fzE rfl (.nil) rfl) (by first | rfl | (rw [List.set_set]; exact congrArg _ (row_step (by omega) (by unfold takenAt; first | exact (if_pos ⟨by omega, by assumption, by omega, by assumption, by assumption⟩).symm | rw [if_neg (by rintro ⟨a1, a2, a3, a4, a5⟩; first | omega | contradiction | exact absurd a5 (by assumption) | (rw [a2] at h6; cases h6))]))) | exact congrArg _ (row_step (by omega) (by unfold takenAt; first | exact (if_pos ⟨by omega, by assumption, by omega, by assumption, by assumption⟩).symm | rw [if_neg (by rintro ⟨a1, a2, a3, a4, a5⟩; first | omega | contradiction | exact absurd a5 (by assumption) | (rw [a2] at h6; cases h6))]))))) rfl) rfl) rfl, rfl⟩
      ·have h8 := c_neq_f g8
       refine k_no (d := 83) (j' := 22) rfl rfl rfl (g_tf rfl rfl rfl g8) ?_
       refine k_no (d := 84) (j' := 23) rfl rfl rfl (g_tf rfl rfl rfl g8) ?_
       refine k_no (d := 85) (j' := 24) rfl rfl rfl (g_tf rfl rfl rfl g8) ?_
       refine k_no (d := 86) (j' := 25) rfl rfl rfl (g_tf rfl rfl rfl g8) ?_
       refine k_no (d := 87) (j' := 26) rfl rfl rfl (g_tf rfl rfl rfl g8) ?_
       refine k_no (d := 88) (j' := 27) rfl rfl rfl (g_tf rfl rfl rfl g8) ?_
       refine k_no (d := 89) (j' := 28) rfl rfl rfl (g_tf rfl rfl rfl g8) ?_
       refine k_no (d := 90) (j' := 29) rfl rfl rfl (g_tf rfl rfl rfl g8) ?_
       refine k_no (d := 91) (j' := 30) rfl rfl rfl (g_tf rfl rfl rfl g8) ?_
       refine q0 92 647 31 rfl rfl (T_pick_f rfl rfl rfl g8) rfl ?_
       refine k_done rfl ?_
       refine ⟨rfl, ?_⟩
       refine thenK_n ?_
       refine W_cond rfl (fun g10 => ?_) (fun g10 => ?_)
       ·exact absurd (g10.symm.trans rfl) (by decide)
       ·skip
        refine W_skip ?_
        refine blockK_n ?_
        refine thenK_n ?_
        refine W_seqK (b' := 695) rfl rfl ?_
        refine q0 99 663 1 rfl rfl (T_add64 rfl rfl rfl (by first | assumption | omega | (simp only [List.length_append, List.length_map, List.length_take, List.length_range, List.length_replicate, List.length_set]; omega) | (have k1 := hfi j (by omega) (by omega); first | exact k1.1 | exact k1.2 | exact (Int.toNat_lt k1.1).2 k1.2 | omega) | (have k1 := hq (by omega); omega) | (have k0 := hq (by omega); have k1 := hqb ((next.getD j default).getD i default).toNat (by omega); simp only [List.length_cons, List.length_nil]; omega))) rfl ?_
        refine q0 54 679 2 rfl rfl (T_move rfl rfl) rfl ?_
        refine k_done rfl ?_
        refine thenK_n ?_
        refine ⟨j + 1, by (try dsimp only); omega, by (try dsimp only); omega, ?_⟩
        exact ⟨[(4, 4), (5, 5), (6, 6)], .same rfl rfl (.same rfl rfl (.same rfl rfl (.same rfl rfl (.eq rfl (.eq rfl (.nil) (by first | rfl | (rw [List.set_set]; exact congrArg _ (row_step (by omega) (by unfold takenAt; first | exact (if_pos ⟨by omega, by assumption, by omega, by assumption, by assumption⟩).symm | rw [if_neg (by rintro ⟨a1, a2, a3, a4, a5⟩; first | omega | contradiction | exact absurd a5 (by assumption) | (rw [a2] at h6; cases h6))]))) | exact congrArg _ (row_step (by omega) (by unfold takenAt; first | exact (if_pos ⟨by omega, by assumption, by omega, by assumption, by assumption⟩).symm | rw [if_neg (by rintro ⟨a1, a2, a3, a4, a5⟩; first | omega | contradiction | exact absurd a5 (by assumption) | (rw [a2] at h6; cases h6))])))) rfl)))), .fzE rfl (.fzE rfl (.fzE rfl (.box (by first | rfl | (rw [List.set_set]; exact congrArg _ (row_step (by omega) (by unfold takenAt; first | exact (if_pos ⟨by omega, by assumption, by omega, by assumption, by assumption⟩).symm | rw [if_neg (by rintro ⟨a1, a2, a3, a4, a5⟩; first | omega | contradiction | exact absurd a5 (by assumption) | (rw [a2] at h6; cases h6))]))) | exact congrArg _ (row_step (by omega) (by unfold takenAt; first | exact (if_pos ⟨by omega, by assumption, by omega, by assumption, by assumption⟩).symm | rw [if_neg (by rintro ⟨a1, a2, a3, a4, a5⟩; first | omega | contradiction | exact absurd a5 (by assumption) | (rw [a2] at h6; cases h6))]))) (.rowE rfl (.fzE rfl (.nil) rfl) (by first | rfl | (rw [List.set_set]; exact congrArg _ (row_step (by omega) (by unfold takenAt; first | exact (if_pos ⟨by omega, by assumption, by omega, by assumption, by assumption⟩).symm | rw [if_neg (by rintro ⟨a1, a2, a3, a4, a5⟩; first | omega | contradiction | exact absurd a5 (by assumption) | (rw [a2] at h6; cases h6))]))) | exact congrArg _ (row_step (by omega) (by unfold takenAt; first | exact (if_pos ⟨by omega, by assumption, by omega, by assumption, by assumption⟩).symm | rw [if_neg (by rintro ⟨a1, a2, a3, a4, a5⟩; first | omega | contradiction | exact absurd a5 (by assumption) | (rw [a2] at h6; cases h6))]))))) rfl) rfl) rfl, rfl⟩
     ·have h7 := c_eql_f g7
      refine k_no (d := 76) (j' := 15) rfl rfl rfl (g_tf rfl rfl rfl g7) ?_
      refine k_no (d := 77) (j' := 16) rfl rfl rfl (g_tf rfl rfl rfl g7) ?_
      refine k_no (d := 78) (j' := 17) rfl rfl rfl (g_tf rfl rfl rfl g7) ?_
      refine k_no (d := 79) (j' := 18) rfl rfl rfl (g_tf rfl rfl rfl g7) ?_
      refine k_no (d := 80) (j' := 19) rfl rfl rfl (g_tf rfl rfl rfl g7) ?_
      refine q0 81 471 20 rfl rfl (T_pick_f rfl rfl rfl g7) rfl ?_
      refine q0 82 487 21 rfl rfl (T_move rfl rfl) rfl ?_
      refine k_no (d := 83) (j' := 22) rfl rfl rfl (g_tf rfl rfl rfl rfl) ?_
      refine k_no (d := 84) (j' := 23) rfl rfl rfl (g_tf rfl rfl rfl rfl) ?_
      refine k_no (d := 85) (j' := 24) rfl rfl rfl (g_tf rfl rfl rfl rfl) ?_
      refine k_no (d := 86) (j' := 25) rfl rfl rfl (g_tf rfl rfl rfl rfl) ?_
      refine k_no (d := 87) (j' := 26) rfl rfl rfl (g_tf rfl rfl rfl rfl) ?_
      refine k_no (d := 88) (j' := 27) rfl rfl rfl (g_tf rfl rfl rfl rfl) ?_
      refine k_no (d := 89) (j' := 28) rfl rfl rfl (g_tf rfl rfl rfl rfl) ?_
      refine k_no (d := 90) (j' := 29) rfl rfl rfl (g_tf rfl rfl rfl rfl) ?_
      refine k_no (d := 91) (j' := 30) rfl rfl rfl (g_tf rfl rfl rfl rfl) ?_
      refine q0 92 647 31 rfl rfl (T_pick_f rfl rfl rfl rfl) rfl ?_
      refine k_done rfl ?_
      refine ⟨rfl, ?_⟩
      refine thenK_n ?_
      refine W_cond rfl (fun g11 => ?_) (fun g11 => ?_)
      ·exact absurd (g11.symm.trans rfl) (by decide)
      ·skip
       refine W_skip ?_
       refine blockK_n ?_
       refine thenK_n ?_
       refine W_seqK (b' := 695) rfl rfl ?_
       refine q0 99 663 1 rfl rfl (T_add64 rfl rfl rfl (by first | assumption | omega | (simp only [List.length_append, List.length_map, List.length_take, List.length_range, List.length_replicate, List.length_set]; omega) | (have k1 := hfi j (by omega) (by omega); first | exact k1.1 | exact k1.2 | exact (Int.toNat_lt k1.1).2 k1.2 | omega) | (have k1 := hq (by omega); omega) | (have k0 := hq (by omega); have k1 := hqb ((next.getD j default).getD i default).toNat (by omega); simp only [List.length_cons, List.length_nil]; omega))) rfl ?_
       refine q0 54 679 2 rfl rfl (T_move rfl rfl) rfl ?_
       refine k_done rfl ?_
       refine thenK_n ?_
       refine ⟨j + 1, by (try dsimp only); omega, by (try dsimp only); omega, ?_⟩
       exact ⟨[(4, 4), (5, 5), (6, 6)], .same rfl rfl (.same rfl rfl (.same rfl rfl (.same rfl rfl (.eq rfl (.eq rfl (.nil) (by first | rfl | (rw [List.set_set]; exact congrArg _ (row_step (by omega) (by unfold takenAt; first | exact (if_pos ⟨by omega, by assumption, by omega, by assumption, by assumption⟩).symm | rw [if_neg (by rintro ⟨a1, a2, a3, a4, a5⟩; first | omega | contradiction | exact absurd a5 (by assumption) | (rw [a2] at h6; cases h6))]))) | exact congrArg _ (row_step (by omega) (by unfold takenAt; first | exact (if_pos ⟨by omega, by assumption, by omega, by assumption, by assumption⟩).symm | rw [if_neg (by rintro ⟨a1, a2, a3, a4, a5⟩; first | omega | contradiction | exact absurd a5 (by assumption) | (rw [a2] at h6; cases h6))])))) rfl)))), .fzE rfl (.fzE rfl (.fzE rfl (.box (by first | rfl | (rw [List.set_set]; exact congrArg _ (row_step (by omega) (by unfold takenAt; first | exact (if_pos ⟨by omega, by assumption, by omega, by assumption, by assumption⟩).symm | rw [if_neg (by rintro ⟨a1, a2, a3, a4, a5⟩; first | omega | contradiction | exact absurd a5 (by assumption) | (rw [a2] at h6; cases h6))]))) | exact congrArg _ (row_step (by omega) (by unfold takenAt; first | exact (if_pos ⟨by omega, by assumption, by omega, by assumption, by assumption⟩).symm | rw [if_neg (by rintro ⟨a1, a2, a3, a4, a5⟩; first | omega | contradiction | exact absurd a5 (by assumption) | (rw [a2] at h6; cases h6))]))) (.rowE rfl (.fzE rfl (.nil) rfl) (by first | rfl | (rw [List.set_set]; exact congrArg _ (row_step (by omega) (by unfold takenAt; first | exact (if_pos ⟨by omega, by assumption, by omega, by assumption, by assumption⟩).symm | rw [if_neg (by rintro ⟨a1, a2, a3, a4, a5⟩; first | omega | contradiction | exact absurd a5 (by assumption) | (rw [a2] at h6; cases h6))]))) | exact congrArg _ (row_step (by omega) (by unfold takenAt; first | exact (if_pos ⟨by omega, by assumption, by omega, by assumption, by assumption⟩).symm | rw [if_neg (by rintro ⟨a1, a2, a3, a4, a5⟩; first | omega | contradiction | exact absurd a5 (by assumption) | (rw [a2] at h6; cases h6))]))))) rfl) rfl) rfl, rfl⟩
    ·have h6 := g6; (try simp only [cmpB, decide_eq_true_eq, decide_eq_false_iff_not, beq_iff_eq, beq_eq_false_iff_ne, bne_iff_ne, ne_eq, bne_eq_false_iff_eq, Bool.not_eq_true', Bool.not_eq_false', Int.not_lt, Int.not_le] at h6)
     refine k_no (d := 71) (j' := 10) rfl rfl rfl (g_tf rfl rfl rfl g6) ?_
     refine k_no (d := 72) (j' := 11) rfl rfl rfl (g_tf rfl rfl rfl g6) ?_
     refine k_no (d := 73) (j' := 12) rfl rfl rfl (g_tf rfl rfl rfl g6) ?_
     refine q0 74 359 13 rfl rfl (T_pick_f rfl rfl rfl g6) rfl ?_
     refine q0 75 375 14 rfl rfl (T_move rfl rfl) rfl ?_
     refine k_no (d := 76) (j' := 15) rfl rfl rfl (g_tf rfl rfl rfl rfl) ?_
     refine k_no (d := 77) (j' := 16) rfl rfl rfl (g_tf rfl rfl rfl rfl) ?_
     refine k_no (d := 78) (j' := 17) rfl rfl rfl (g_tf rfl rfl rfl rfl) ?_
     refine k_no (d := 79) (j' := 18) rfl rfl rfl (g_tf rfl rfl rfl rfl) ?_
     refine k_no (d := 80) (j' := 19) rfl rfl rfl (g_tf rfl rfl rfl rfl) ?_
     refine q0 81 471 20 rfl rfl (T_pick_f rfl rfl rfl rfl) rfl ?_
     refine q0 82 487 21 rfl rfl (T_move rfl rfl) rfl ?_
     refine k_no (d := 83) (j' := 22) rfl rfl rfl (g_tf rfl rfl rfl rfl) ?_
     refine k_no (d := 84) (j' := 23) rfl rfl rfl (g_tf rfl rfl rfl rfl) ?_
     refine k_no (d := 85) (j' := 24) rfl rfl rfl (g_tf rfl rfl rfl rfl) ?_
     refine k_no (d := 86) (j' := 25) rfl rfl rfl (g_tf rfl rfl rfl rfl) ?_
     refine k_no (d := 87) (j' := 26) rfl rfl rfl (g_tf rfl rfl rfl rfl) ?_
     refine k_no (d := 88) (j' := 27) rfl rfl rfl (g_tf rfl rfl rfl rfl) ?_
     refine k_no (d := 89) (j' := 28) rfl rfl rfl (g_tf rfl rfl rfl rfl) ?_
     refine k_no (d := 90) (j' := 29) rfl rfl rfl (g_tf rfl rfl rfl rfl) ?_
     refine k_no (d := 91) (j' := 30) rfl rfl rfl (g_tf rfl rfl rfl rfl) ?_
     refine q0 92 647 31 rfl rfl (T_pick_f rfl rfl rfl rfl) rfl ?_
     refine k_done rfl ?_
     refine ⟨rfl, ?_⟩
     refine thenK_n ?_
     refine W_cond rfl (fun g12 => ?_) (fun g12 => ?_)
     ·exact absurd (g12.symm.trans rfl) (by decide)
     ·skip
      refine W_skip ?_
      refine blockK_n ?_
      refine thenK_n ?_
      refine W_seqK (b' := 695) rfl rfl ?_
      refine q0 99 663 1 rfl rfl (T_add64 rfl rfl rfl (by first | assumption | omega | (simp only [List.length_append, List.length_map, List.length_take, List.length_range, List.length_replicate, List.length_set]; omega) | (have k1 := hfi j (by omega) (by omega); first | exact k1.1 | exact k1.2 | exact (Int.toNat_lt k1.1).2 k1.2 | omega) | (have k1 := hq (by omega); omega) | (have k0 := hq (by omega); have k1 := hqb ((next.getD j default).getD i default).toNat (by omega); simp only [List.length_cons, List.length_nil]; omega))) rfl ?_
      refine q0 54 679 2 rfl rfl (T_move rfl rfl) rfl ?_
      refine k_done rfl ?_
      refine thenK_n ?_
      refine ⟨j + 1, by (try dsimp only); omega, by (try dsimp only); omega, ?_⟩
      exact ⟨[(4, 4), (5, 5), (6, 6)], .same rfl rfl (.same rfl rfl (.same rfl rfl (.same rfl rfl (.eq rfl (.eq rfl (.nil) (by first | rfl | (rw [List.set_set]; exact congrArg _ (row_step (by omega) (by unfold takenAt; first | exact (if_pos ⟨by omega, by assumption, by omega, by assumption, by assumption⟩).symm | rw [if_neg (by rintro ⟨a1, a2, a3, a4, a5⟩; first | omega | contradiction | exact absurd a5 (by assumption) | (rw [a2] at h6; cases h6))]))) | exact congrArg _ (row_step (by omega) (by unfold takenAt; first | exact (if_pos ⟨by omega, by assumption, by omega, by assumption, by assumption⟩).symm | rw [if_neg (by rintro ⟨a1, a2, a3, a4, a5⟩; first | omega | contradiction | exact absurd a5 (by assumption) | (rw [a2] at h6; cases h6))])))) rfl)))), .fzE rfl (.fzE rfl (.fzE rfl (.box (by first | rfl | (rw [List.set_set]; exact congrArg _ (row_step (by omega) (by unfold takenAt; first | exact (if_pos ⟨by omega, by assumption, by omega, by assumption, by assumption⟩).symm | rw [if_neg (by rintro ⟨a1, a2, a3, a4, a5⟩; first | omega | contradiction | exact absurd a5 (by assumption) | (rw [a2] at h6; cases h6))]))) | exact congrArg _ (row_step (by omega) (by unfold takenAt; first | exact (if_pos ⟨by omega, by assumption, by omega, by assumption, by assumption⟩).symm | rw [if_neg (by rintro ⟨a1, a2, a3, a4, a5⟩; first | omega | contradiction | exact absurd a5 (by assumption) | (rw [a2] at h6; cases h6))]))) (.rowE rfl (.fzE rfl (.nil) rfl) (by first | rfl | (rw [List.set_set]; exact congrArg _ (row_step (by omega) (by unfold takenAt; first | exact (if_pos ⟨by omega, by assumption, by omega, by assumption, by assumption⟩).symm | rw [if_neg (by rintro ⟨a1, a2, a3, a4, a5⟩; first | omega | contradiction | exact absurd a5 (by assumption) | (rw [a2] at h6; cases h6))]))) | exact congrArg _ (row_step (by omega) (by unfold takenAt; first | exact (if_pos ⟨by omega, by assumption, by omega, by assumption, by assumption⟩).symm | rw [if_neg (by rintro ⟨a1, a2, a3, a4, a5⟩; first | omega | contradiction | exact absurd a5 (by assumption) | (rw [a2] at h6; cases h6))]))))) rfl) rfl) rfl, rfl⟩
   ·have h5 := c_gtr_f g5
    refine k_no (d := 65) (j' := 4) rfl rfl rfl (g_tf rfl rfl rfl g5) ?_
    refine k_no (d := 66) (j' := 5) rfl rfl rfl (g_tf rfl rfl rfl g5) ?_
    refine k_no (d := 67) (j' := 6) rfl rfl rfl (g_tf rfl rfl rfl g5) ?_
    refine k_no (d := 68) (j' := 7) rfl rfl rfl (g_tf rfl rfl rfl g5) ?_
    refine q0 69 279 8 rfl rfl (T_pick_f rfl rfl rfl g5) rfl ?_
    refine q0 70 295 9 rfl rfl (T_move rfl rfl) rfl ?_
    refine k_no (d := 71) (j' := 10) rfl rfl rfl (g_tf rfl rfl rfl rfl) ?_
    refine k_no (d := 72) (j' := 11) rfl rfl rfl (g_tf rfl rfl rfl rfl) ?_
    refine k_no (d := 73) (j' := 12) rfl rfl rfl (g_tf rfl rfl rfl rfl) ?_
    refine q0 74 359 13 rfl rfl (T_pick_f rfl rfl rfl rfl) rfl ?_
    refine q0 75 375 14 rfl rfl (T_move rfl rfl) rfl ?_
    refine k_no (d := 76) (j' := 15) rfl rfl rfl (g_tf rfl rfl rfl rfl) ?_
    refine k_no (d := 77) (j' := 16) rfl rfl rfl (g_tf rfl rfl rfl rfl) ?_
    refine k_no (d := 78) (j' := 17) rfl rfl rfl (g_tf rfl rfl rfl rfl) ?_
    refine k_no (d := 79) (j' := 18) rfl rfl rfl (g_tf rfl rfl rfl rfl) ?_
    refine k_no (d := 80) (j' := 19) rfl rfl rfl (g_tf rfl rfl rfl rfl) ?_
    refine q0 81 471 20 rfl rfl (T_pick_f rfl rfl rfl rfl) rfl ?_
    refine q0 82 487 21 rfl rfl (T_move rfl rfl) rfl ?_
    refine k_no (d := 83) (j' := 22) rfl rfl rfl (g_tf rfl rfl rfl rfl) ?_
    refine k_no (d := 84) (j' := 23) rfl rfl rfl (g_tf rfl rfl rfl rfl) ?_
    refine k_no (d := 85) (j' := 24) rfl rfl rfl (g_tf rfl rfl rfl rfl) ?_
    refine k_no (d := 86) (j' := 25) rfl rfl rfl (g_tf rfl rfl rfl rfl) ?_
    refine k_no (d := 87) (j' := 26) rfl rfl rfl (g_tf rfl rfl rfl rfl) ?_
    refine k_no (d := 88) (j' := 27) rfl rfl rfl (g_tf rfl rfl rfl rfl) ?_
    refine k_no (d := 89) (j' := 28) rfl rfl rfl (g_tf rfl rfl rfl rfl) ?_
    refine k_no (d := 90) (j' := 29) rfl rfl rfl (g_tf rfl rfl rfl rfl) ?_
    refine k_no (d := 91) (j' := 30) rfl rfl rfl (g_tf rfl rfl rfl rfl) ?_
    refine q0 92 647 31 rfl rfl (T_pick_f rfl rfl rfl rfl) rfl ?_
    refine k_done rfl ?_
    refine ⟨rfl, ?_⟩
    refine thenK_n ?_
    refine W_cond rfl (fun g13 => ?_) (fun g13 => ?_)
    ·exact absurd (g13.symm.trans rfl) (by decide)
    ·skip
     refine W_skip ?_
     refine blockK_n ?_
     refine thenK_n ?_
     refine W_seqK (b' := 695) rfl rfl ?_
     refine q0 99 663 1 rfl rfl (T_add64 rfl rfl rfl (by first | assumption | omega | (simp only [List.length_append, List.length_map, List.length_take, List.length_range, List.length_replicate, List.length_set]; omega) | (have k1 := hfi j (by omega) (by omega); first | exact k1.1 | exact k1.2 | exact (Int.toNat_lt k1.1).2 k1.2 | omega) | (have k1 := hq (by omega); omega) | (have k0 := hq (by omega); have k1 := hqb ((next.getD j default).getD i default).toNat (by omega); simp only [List.length_cons, List.length_nil]; omega))) rfl ?_
     refine q0 54 679 2 rfl rfl (T_move rfl rfl) rfl ?_
     refine k_done rfl ?_
     refine thenK_n ?_
     refine ⟨j + 1, by (try dsimp only); omega, by (try dsimp only); omega, ?_⟩
     exact ⟨[(4, 4), (5, 5), (6, 6)], .same rfl rfl (.same rfl rfl (.same rfl rfl (.same rfl rfl (.eq rfl (.eq rfl (.nil) (by first | rfl | (rw [List.set_set]; exact congrArg _ (row_step (by omega) (by unfold takenAt; first | exact (if_pos ⟨by omega, by assumption, by omega, by assumption, by assumption⟩).symm | rw [if_neg (by rintro ⟨a1, a2, a3, a4, a5⟩; first | omega | contradiction | exact absurd a5 (by assumption) | (rw [a2] at h6; cases h6))]))) | exact congrArg _ (row_step (by omega) (by unfold takenAt; first | exact (if_pos ⟨by omega, by assumption, by omega, by assumption, by assumption⟩).symm | rw [if_neg (by rintro ⟨a1, a2, a3, a4, a5⟩; first | omega | contradiction | exact absurd a5 (by assumption) | (rw [a2] at h6; cases h6))])))) rfl)))), .fzE rfl (.fzE rfl (.fzE rfl (.box (by first | rfl | (rw [List.set_set]; exact congrArg _ (row_step (by omega) (by unfold takenAt; first | exact (if_pos ⟨by omega, by assumption, by omega, by assumption, by assumption⟩).symm | rw [if_neg (by rintro ⟨a1, a2, a3, a4, a5⟩; first | omega | contradiction | exact absurd a5 (by assumption) | (rw [a2] at h6; cases h6))]))) | exact congrArg _ (row_step (by omega) (by unfold takenAt; first | exact (if_pos ⟨by omega, by assumption, by omega, by assumption, by assumption⟩).symm | rw [if_neg (by rintro ⟨a1, a2, a3, a4, a5⟩; first | omega | contradiction | exact absurd a5 (by assumption) | (rw [a2] at h6; cases h6))]))) (.rowE rfl (.fzE rfl (.nil) rfl) (by first | rfl | (rw [List.set_set]; exact congrArg _ (row_step (by omega) (by unfold takenAt; first | exact (if_pos ⟨by omega, by assumption, by omega, by assumption, by assumption⟩).symm | rw [if_neg (by rintro ⟨a1, a2, a3, a4, a5⟩; first | omega | contradiction | exact absurd a5 (by assumption) | (rw [a2] at h6; cases h6))]))) | exact congrArg _ (row_step (by omega) (by unfold takenAt; first | exact (if_pos ⟨by omega, by assumption, by omega, by assumption, by assumption⟩).symm | rw [if_neg (by rintro ⟨a1, a2, a3, a4, a5⟩; first | omega | contradiction | exact absurd a5 (by assumption) | (rw [a2] at h6; cases h6))]))))) rfl) rfl) rfl, rfl⟩
  ·have h4 := c_lss_f g4
   refine W_exit ?_
   refine thenK_e ?_
   refine thenK_e ?_
   refine blockK_hit ?_
   refine thenK_n ?_
   refine W_seq ?_
   refine W_seqK (b' := 55) rfl rfl ?_
   refine q0 100 23 1 rfl rfl (T_move rfl rfl) rfl ?_
   refine q0 6 39 2 rfl rfl (T_assign rfl rfl) rfl ?_
   refine k_done rfl ?_
   refine thenK_n ?_
   refine W_ret ?_
   exact .mk [(4, 5)] (.inr rfl) (.tmp rfl (.nil)) rfl (.rowE rfl (.nil) (by first | rfl | (have e : j = f.blocks.length := (by omega); rw [e, List.take_of_length_le (by simp)]; simp))) rfl
end Lg
end Go.Proofs.Ytpfhmodjjljpjaa

namespace Go.Proofs.Ytpfhmodjjljpjaa
open Go.RowKit
namespace Lg
inductive RF (next : List (List Int)) (bar : Int) (b : Int) : Nat → Prop
  | refl (h0 : 0 ≤ b) (h1 : b < (next.length : Int)) (h2 : b ≠ bar) : RF next bar b b.toNat
  | step {x : Nat} {y : Int} (h : RF next bar b x) (hy : y ∈ next.getD x default) (h0 : 0 ≤ y) (h1 : y < (next.length : Int)) (h2 : y ≠ bar) : RF next bar b y.toNat
theorem RF.lt {next : List (List Int)} {bar b : Int} {x : Nat} (h : RF next bar b x) : x < next.length := by
  cases h <;> omega
theorem RF.head {next : List (List Int)} {bar b y : Int} {x : Nat} (h0 : 0 ≤ b) (h1 : b < (next.length : Int)) (h2 : b ≠ bar) (hy : y ∈ next.getD b.toNat default) (h : RF next bar y x) : RF next bar b x := by
  induction h with
  | refl g0 g1 g2 => exact .step (.refl h0 h1 h2) hy g0 g1 g2
  | step _ hy g0 g1 g2 ih => exact .step ih hy g0 g1 g2
theorem getD_set_true {s : List Bool} {i x : Nat} (h : i < s.length) : (s.set i true).getD x default = if x = i then true else s.getD x default := by
  rw [List.getD_eq_getElem?_getD, List.getElem?_set]
  by_cases hx : i = x
  · subst hx; simp [h]
  · simp [hx, Ne.symm hx, List.getD_eq_getElem?_getD]
theorem count_mono : ∀ {s s' : List Bool}, s'.length = s.length → (∀ x, s.getD x default = true → s'.getD x default = true) → s'.count false ≤ s.count false
  | [], [], _, _ => Nat.le_refl _
  | a :: s, b :: s', hl, h => by
    have h0 := h 0
    have ih := count_mono (s := s) (s' := s') (by simpa using hl) (fun x hx => by have := h (x + 1); simp only [List.getD_cons_succ] at this; exact this hx)
    simp only [List.getD_cons_zero] at h0
    cases a <;> cases b <;> simp_all <;> omega
theorem count_set_lt {s : List Bool} {i : Nat} (h : i < s.length) (hf : s.getD i default = false) : (s.set i true).count false + 1 = s.count false := by
  have hg : s[i] = false := by
    rw [List.getD_eq_getElem?_getD, List.getElem?_eq_getElem h] at hf
    exact hf
  have hpos : 0 < s.count false := List.count_pos_iff.2 (hg ▸ List.getElem_mem h)
  rw [List.count_set h]
  simp [hg]
  omega
structure VOK (next : List (List Int)) (bar b : Int) (s o s' o' : List Bool) : Prop where
  ls : s'.length = next.length
  lo : o'.length = next.length
  mono : ∀ x, s.getD x default = true → s'.getD x default = true
  outs : ∀ x, o'.getD x default = true ↔ o.getD x default = true ∨ (s'.getD x default = true ∧ s.getD x default = false)
  fr : ∀ x, s'.getD x default = true → s.getD x default = true ∨ RF next bar b x
  clos : ∀ x, s'.getD x default = true → s.getD x default = false → ∀ y ∈ next.getD x default, 0 ≤ y → y < (next.length : Int) → y ≠ bar → s'.getD y.toNat default = true
  self : 0 ≤ b → b < (next.length : Int) → b ≠ bar → s'.getD b.toNat default = true
structure FOK (next : List (List Int)) (bar : Int) (l : List Int) (s o s' o' : List Bool) : Prop where
  ls : s'.length = next.length
  lo : o'.length = next.length
  mono : ∀ x, s.getD x default = true → s'.getD x default = true
  outs : ∀ x, o'.getD x default = true ↔ o.getD x default = true ∨ (s'.getD x default = true ∧ s.getD x default = false)
  fr : ∀ x, s'.getD x default = true → s.getD x default = true ∨ ∃ y ∈ l, RF next bar y x
  clos : ∀ x, s'.getD x default = true → s.getD x default = false → ∀ y ∈ next.getD x default, 0 ≤ y → y < (next.length : Int) → y ≠ bar → s'.getD y.toNat default = true
  all : ∀ y ∈ l, 0 ≤ y → y < (next.length : Int) → y ≠ bar → s'.getD y.toNat default = true
theorem bool_cases (b : Bool) : b = true ∨ b = false := by cases b <;> simp
theorem visit_ok (next : List (List Int)) (bar : Int) : ∀ (m : Nat) (b : Int) (s o : List Bool), s.length = next.length → o.length = next.length → s.count false + 1 ≤ m → ∃ s' o', visit next bar m b (s, o) = some (s', o') ∧ VOK next bar b s o s' o'
  | 0, _, _, _, _, _, h => by omega
  | m + 1, b, s, o, hs, ho, hm => by
    rw [visit]
    by_cases hc : b < 0 ∨ b ≥ (next.length : Int) ∨ (s, o).1.getD b.toNat default = true ∨ b = bar
    · rw [if_pos hc]
      refine ⟨s, o, rfl, hs, ho, fun _ h => h, fun x => ⟨fun h => .inl h, fun h => ?_⟩, fun x h => .inl h, fun x h1 h2 => ?_, fun h0 h1 h2 => ?_⟩
      · rcases h with h | ⟨h1, h2⟩
        · exact h
        · rw [h1] at h2; cases h2
      · rw [h1] at h2; cases h2
      · rcases hc with h | h | h | h
        · omega
        · omega
        · exact h
        · exact absurd h h2
    · rw [if_neg hc]
      simp only [not_or] at hc
      obtain ⟨c0, c1, c2, c3⟩ := hc
      have hbl : b.toNat < s.length := by omega
      have hsf : s.getD b.toNat default = false := (bool_cases _).resolve_left c2
      have hcnt := count_set_lt hbl hsf
      have hfold : ∀ (l : List Int) (s1 o1 : List Bool), s1.length = next.length → o1.length = next.length → s1.count false + 1 ≤ m → ∃ s' o', l.foldlM (fun st n => visit next bar m n st) (s1, o1) = some (s', o') ∧ FOK next bar l s1 o1 s' o' := by
        intro l
        induction l with
        | nil =>
          intro s1 o1 h1 h2 _
          refine ⟨s1, o1, rfl, h1, h2, fun _ h => h, fun x => ⟨fun h => .inl h, fun h => ?_⟩, fun x h => .inl h, fun x h1 h2 => ?_, fun y hy => by cases hy⟩
          · rcases h with h | ⟨h1, h2⟩
            · exact h
            · rw [h1] at h2; cases h2
          · rw [h1] at h2; cases h2
        | cons y l ih =>
          intro s1 o1 h1 h2 h3
          obtain ⟨s2, o2, e1, k1⟩ := visit_ok next bar m y s1 o1 h1 h2 h3
          have hle := count_mono (s := s1) (s' := s2) (by rw [k1.ls, h1]) k1.mono
          obtain ⟨s3, o3, e2, k2⟩ := ih s2 o2 k1.ls k1.lo (by omega)
          refine ⟨s3, o3, by rw [List.foldlM_cons, e1]; exact e2, k2.ls, k2.lo, fun x h => k2.mono x (k1.mono x h), fun x => ?_, fun x h => ?_, fun x g1 g2 => ?_, fun z hz => ?_⟩
          · rw [k2.outs, k1.outs]
            constructor
            · rintro ((h | ⟨h, h'⟩) | ⟨h, h'⟩)
              · exact .inl h
              · exact .inr ⟨k2.mono x h, h'⟩
              · refine .inr ⟨h, ?_⟩
                rcases bool_cases (s1.getD x default) with h4 | h4
                · rw [k1.mono x h4] at h'; cases h'
                · exact h4
            · rintro (h | ⟨h, h'⟩)
              · exact .inl (.inl h)
              · rcases bool_cases (s2.getD x default) with h4 | h4
                · exact .inl (.inr ⟨h4, h'⟩)
                · exact .inr ⟨h, h4⟩
          · rcases k2.fr x h with h | ⟨z, hz, h⟩
            · rcases k1.fr x h with h | h
              · exact .inl h
              · exact .inr ⟨y, by simp, h⟩
            · exact .inr ⟨z, List.mem_cons_of_mem _ hz, h⟩
          · rcases bool_cases (s2.getD x default) with h4 | h4
            · exact fun y hy a1 a2 a3 => k2.mono _ (k1.clos x h4 g2 y hy a1 a2 a3)
            · exact k2.clos x g1 h4
          · rcases List.mem_cons.1 hz with rfl | hz
            · exact fun a1 a2 a3 => k2.mono _ (k1.self a1 a2 a3)
            · exact k2.all z hz
      obtain ⟨s2, o2, e1, k⟩ := hfold (next.getD b.toNat default) (s.set b.toNat true) o (by simpa using hs) ho (by omega)
      have hb2 : s2.getD b.toNat default = true := k.mono _ (by rw [getD_set_true hbl, if_pos rfl])
      have hset : ∀ x, (s.set b.toNat true).getD x default = false ↔ s.getD x default = false ∧ x ≠ b.toNat := fun x => by
        rw [getD_set_true hbl]
        split
        · rename_i h; simp [h]
        · rename_i h; simp [h]
      have hset2 : ∀ x, (s.set b.toNat true).getD x default = true ↔ s.getD x default = true ∨ x = b.toNat := fun x => by
        rw [getD_set_true hbl]
        split
        · rename_i h; simp [h]
        · rename_i h; simp [h]
      refine ⟨s2, o2.set b.toNat true, by simp only at e1 ⊢; rw [e1]; rfl, k.ls, by simpa using k.lo, fun x h => k.mono x ((hset2 x).2 (.inl h)), fun x => ?_, fun x h => ?_, fun x h1 h2 y hy a1 a2 a3 => ?_, fun _ _ _ => hb2⟩
      · rw [getD_set_true (by rw [k.lo]; omega)]
        by_cases hx : x = b.toNat
        · rw [if_pos hx, hx]
          exact ⟨fun _ => .inr ⟨hb2, hsf⟩, fun _ => rfl⟩
        · rw [if_neg hx, k.outs]
          constructor
          · rintro (h | ⟨h, h'⟩)
            · exact .inl h
            · exact .inr ⟨h, ((hset x).1 h').1⟩
          · rintro (h | ⟨h, h'⟩)
            · exact .inl h
            · exact .inr ⟨h, (hset x).2 ⟨h', hx⟩⟩
      · rcases k.fr x h with h | ⟨y, hy, h⟩
        · rcases (hset2 x).1 h with h | h
          · exact .inl h
          · rw [h]; exact .inr (.refl (by omega) (by omega) c3)
        · exact .inr (RF.head (by omega) (by omega) c3 hy h)
      · by_cases hx : x = b.toNat
        · rw [hx] at hy
          exact k.all y hy a1 a2 a3
        · exact k.clos x h1 ((hset x).2 ⟨h2, hx⟩) y hy a1 a2 a3
theorem visit_all (next : List (List Int)) : ∃ s2 o2, visit next (-1) (next.length + 1) 0 (List.replicate next.length false, List.replicate next.length false) = some (s2, o2) ∧ o2.length = next.length ∧ ∀ x, o2.getD x default = true ↔ RF next (-1) 0 x := by
  have hf : ∀ x, (List.replicate next.length false).getD x default = false := fun x => by
    rw [List.getD_eq_getElem?_getD, List.getElem?_replicate]
    split <;> rfl
  obtain ⟨s2, o2, h1, h2⟩ := visit_ok next (-1) (next.length + 1) 0 (List.replicate next.length false) (List.replicate next.length false) (by simp) (by simp) (by simp)
  refine ⟨s2, o2, h1, h2.lo, fun x => ?_⟩
  rw [h2.outs]
  have hs : s2.getD x default = true ↔ RF next (-1) 0 x := by
    constructor
    · intro h
      rcases h2.fr x h with h | h
      · rw [hf] at h; cases h
      · exact h
    · intro h
      induction h with
      | refl a0 a1 a2 => exact h2.self a0 a1 a2
      | step _ hy a0 a1 a2 ih => exact h2.clos _ ih (hf _) _ hy a0 a1 a2
  constructor
  · rintro (h | ⟨h, _⟩)
    · rw [hf] at h; cases h
    · exact hs.1 h
  · exact fun h => .inr ⟨hs.2 h, hf x⟩
end Lg
end Go.Proofs.Ytpfhmodjjljpjaa

namespace Go.Proofs.Ytpfhmodjjljpjaa
open Go.RowKit
namespace Lg
def linkAB (f : GFn) (a b : Int) : Prop := (blk f a).fin = 1 ∧ (blk f a).to = b
def chn (f : GFn) : List Int → Prop
  | [] => True
  | [_] => True
  | a :: b :: l => linkAB f a b ∧ chn f (b :: l)
def headOf (p : List Int) : Int := p.getD 0 default
theorem chn_iff (f : GFn) : ∀ p : List Int, chn f p ↔ ∀ i, i + 1 < p.length → linkAB f (p.getD i default) (p.getD (i + 1) default)
  | [] => ⟨fun _ i h => by simp at h, fun _ => trivial⟩
  | [_] => ⟨fun _ i h => by simp at h, fun _ => trivial⟩
  | a :: b :: l => by
    rw [chn, chn_iff f (b :: l)]
    constructor
    · rintro ⟨h1, h2⟩ i hi
      cases i with
      | zero => exact h1
      | succ i => exact h2 i (by simpa using hi)
    · intro h
      exact ⟨h 0 (by simp), fun i hi => h (i + 1) (by simpa using hi)⟩
theorem chainB_iff (f : GFn) (p : List Int) : chainB f p = true ↔ chn f p := by
  rw [chn_iff, chainB, List.all_eq_true]
  simp only [List.mem_range, link, Bool.and_eq_true, beq_iff_eq, linkAB]
  exact ⟨fun h i hi => h i (by omega), fun h i hi => h i (by omega)⟩
theorem lastOf_one (k : Int) : lastOf [k] = k := rfl
theorem lastOf_cons (a b : Int) (l : List Int) : lastOf (a :: b :: l) = lastOf (b :: l) := by
  have : (((a :: b :: l).length : Nat) : Int) - 1 = (((b :: l).length : Nat) : Int) - 1 + 1 := by simp
  unfold lastOf
  rw [this, show ((((b :: l).length : Nat) : Int) - 1 + 1).toNat = ((((b :: l).length : Nat) : Int) - 1).toNat + 1 by simp]
  rfl
theorem lastOf_append : ∀ (p q : List Int), q ≠ [] → lastOf (p ++ q) = lastOf q
  | [], q, _ => rfl
  | [a], q, h => by
    cases q with
    | nil => exact absurd rfl h
    | cons b q => exact lastOf_cons a b q
  | a :: b :: p, q, h => by
    show lastOf (a :: b :: (p ++ q)) = _
    rw [lastOf_cons]
    exact lastOf_append (b :: p) q h
theorem headOf_append (p q : List Int) (h : p ≠ []) : headOf (p ++ q) = headOf p := by
  cases p with
  | nil => exact absurd rfl h
  | cons a p => rfl
theorem chn_append (f : GFn) : ∀ (p q : List Int), p ≠ [] → q ≠ [] → (chn f (p ++ q) ↔ chn f p ∧ linkAB f (lastOf p) (headOf q) ∧ chn f q)
  | [], q, h, _ => absurd rfl h
  | [a], q, _, h => by
    cases q with
    | nil => exact absurd rfl h
    | cons b q => exact ⟨fun h => ⟨trivial, h.1, h.2⟩, fun h => ⟨h.2.1, h.2.2⟩⟩
  | a :: b :: p, q, _, h => by
    show linkAB f a b ∧ chn f (b :: p ++ q) ↔ _
    rw [chn_append f (b :: p) q (by simp) h, lastOf_cons]
    exact ⟨fun h => ⟨⟨h.1, h.2.1⟩, h.2.2⟩, fun h => ⟨h.1.1, h.1.2, h.2⟩⟩
theorem lastOf_mem {p : List Int} (h : p ≠ []) : lastOf p ∈ p := by
  have : 0 < p.length := List.length_pos_iff.2 h
  exact getD_mem (by omega)
theorem headOf_mem {p : List Int} (h : p ≠ []) : headOf p ∈ p := getD_mem (List.length_pos_iff.2 h)
def endOk (f : GFn) (b : GBlock) (p : List Int) (ps : List (List Int)) : Prop :=
  b.fin = (blk f (lastOf p)).fin ∧ b.v = (blk f (lastOf p)).v ∧
  (if (blk f (lastOf p)).fin = 1 then leads ps b.to (blk f (lastOf p)).to = true ∧ b.els = (blk f (lastOf p)).els
   else if (blk f (lastOf p)).fin = 2 then leads ps b.to (blk f (lastOf p)).to = true ∧ leads ps b.els (blk f (lastOf p)).els = true
   else b.to = (blk f (lastOf p)).to ∧ b.els = (blk f (lastOf p)).els)
theorem made_iff (f : GFn) (b : GBlock) (p : List Int) (ps : List (List Int)) : made f b p ps = true ↔ chn f p ∧ b.ins = instrs f p ∧ endOk f b p ps := by
  rw [← chainB_iff]
  unfold made endOk
  split
  · simp only [Bool.and_eq_true, beq_iff_eq, decide_eq_true_eq, and_assoc]
  · split <;> simp only [Bool.and_eq_true, beq_iff_eq, decide_eq_true_eq, and_assoc]
theorem leads_iff (ps : List (List Int)) (n old : Int) : leads ps n old = true ↔ 0 ≤ n ∧ n < ps.length ∧ headOf (ps.getD n.toNat default) = old := by
  simp only [leads, Bool.and_eq_true, beq_iff_eq, decide_eq_true_eq, headOf, and_assoc]
def pathIn (f : GFn) (p : List Int) : Prop := p ≠ [] ∧ ∀ k ∈ p, 0 ≤ k ∧ k < (f.blocks.length : Int)
theorem okPath_iff (f : GFn) (p : List Int) : okPath f p = true ↔ pathIn f p := by
  simp only [okPath, pathIn, outside, Bool.and_eq_true, Bool.not_eq_true', List.any_eq_false, Bool.or_eq_true, decide_eq_true_eq, not_or, decide_eq_false_iff_not, List.length_eq_zero_iff]
  exact ⟨fun h => ⟨h.1, fun k hk => by have := h.2 k hk; omega⟩, fun h => ⟨h.1, fun k hk => by have := h.2 k hk; omega⟩⟩
structure Holds (old new : GFn) (ps : List (List Int)) : Prop where
  len : ps.length = new.blocks.length
  pos : ps.length ≠ 0
  regs : old.regs = new.regs
  inn : ∀ p ∈ ps, pathIn old p
  first : headOf (ps.getD 0 default) = 0
  each : ∀ i, i < ps.length → chn old (ps.getD i default) ∧ (new.blocks.getD i default).ins = instrs old (ps.getD i default) ∧ endOk old (new.blocks.getD i default) (ps.getD i default) ps
theorem tcheck_iff (old new : GFn) (ps : List (List Int)) : tcheck old new ps = true ↔ Holds old new ps := by
  unfold tcheck
  constructor
  · intro h
    split at h
    · cases h
    · rename_i h1
      split at h
      · cases h
      · rename_i h2
        split at h
        · cases h
        · rename_i h3
          rw [List.all_eq_true] at h
          refine ⟨by omega, by omega, by omega, fun p hp => ?_, ?_, fun i hi => (made_iff _ _ _ _).1 (h i (by simpa using hi))⟩
          · simp only [Bool.not_eq_false, List.all_eq_true] at h2
            exact (okPath_iff _ _).1 (h2 p hp)
          · unfold headOf; omega
  · intro h
    have h1 := h.len
    have h2 := h.pos
    have h3 := h.regs
    have h4 := h.first
    unfold headOf at h4
    rw [if_neg (by omega), if_neg (by simp only [Bool.not_eq_false, List.all_eq_true]; exact fun p hp => (okPath_iff _ _).2 (h.inn p hp)), if_neg (by omega), List.all_eq_true]
    exact fun i hi => (made_iff _ _ _ _).2 (h.each i (by simpa using hi))
def joinP (P : List (List Int)) (q : List Int) : List Int := (q.map fun k => P.getD k.toNat default).flatten
theorem blk_getD (f : GFn) (k : Int) : blk f k = f.blocks.getD k.toNat default := rfl
theorem instrs_append (f : GFn) (p q : List Int) : instrs f (p ++ q) = instrs f p ++ instrs f q := by simp [instrs]
theorem join_ok {A B : GFn} {P : List (List Int)} (h : Holds A B P) : ∀ (q : List Int), q ≠ [] → (∀ k ∈ q, 0 ≤ k ∧ k < (P.length : Int)) → chn B q →
    joinP P q ≠ [] ∧ (∀ x ∈ joinP P q, 0 ≤ x ∧ x < (A.blocks.length : Int)) ∧ chn A (joinP P q) ∧ headOf (joinP P q) = headOf (P.getD (headOf q).toNat default) ∧ lastOf (joinP P q) = lastOf (P.getD (lastOf q).toNat default) ∧ instrs A (joinP P q) = instrs B q
  | [], h, _, _ => absurd rfl h
  | [k], _, hk, _ => by
    have hk0 := hk k (by simp)
    have hlt : k.toNat < P.length := by omega
    have e : joinP P [k] = P.getD k.toNat default := by simp [joinP]
    have hp := h.inn _ (getD_mem hlt)
    have he := h.each _ hlt
    rw [e]
    refine ⟨hp.1, hp.2, he.1, rfl, rfl, ?_⟩
    rw [← he.2.1]
    simp [instrs]
  | k :: k2 :: l, _, hk, hc => by
    have hk0 := hk k (by simp)
    have hlt : k.toNat < P.length := by omega
    have e : joinP P (k :: k2 :: l) = P.getD k.toNat default ++ joinP P (k2 :: l) := by simp [joinP]
    have hp := h.inn _ (getD_mem hlt)
    have he := h.each _ hlt
    obtain ⟨g1, g2, g3, g4, g5, g6⟩ := join_ok h (k2 :: l) (by simp) (fun x hx => hk x (List.mem_cons_of_mem _ hx)) hc.2
    have hl : linkAB A (lastOf (P.getD k.toNat default)) (headOf (joinP P (k2 :: l))) := by
      have h1 := he.2.2
      unfold endOk at h1
      have h2 := hc.1
      unfold linkAB at h2
      rw [blk_getD] at h2
      have h3 : (blk A (lastOf (P.getD k.toNat default))).fin = 1 := by rw [← h1.1]; exact h2.1
      rw [if_pos h3, h2.2] at h1
      refine ⟨h3, ?_⟩
      rw [g4]
      have := (leads_iff _ _ _).1 h1.2.2.1
      rw [← this.2.2]
      rfl
    rw [e]
    refine ⟨fun e => hp.1 (List.append_eq_nil_iff.1 e).1, fun x hx => ?_, (chn_append A _ _ hp.1 g1).2 ⟨he.1, hl, g3⟩, ?_, ?_, ?_⟩
    · rcases List.mem_append.1 hx with hx | hx
      · exact hp.2 x hx
      · exact g2 x hx
    · rw [headOf_append _ _ hp.1]; rfl
    · rw [lastOf_append _ _ g1, g5, lastOf_cons]
    · rw [instrs_append, g6, ← he.2.1]
      simp [instrs]
theorem getD_map {α β : Type} [Inhabited α] [Inhabited β] (g : α → β) (l : List α) {i : Nat} (h : i < l.length) : (l.map g).getD i default = g (l.getD i default) := by
  simp [List.getD_eq_getElem?_getD, h]
theorem joined_holds {A B C : GFn} {P Q : List (List Int)} (h : Holds A B P) (k : Holds B C Q) : Holds A C (Q.map (joinP P)) := by
  have hPB := h.len
  have hin : ∀ q ∈ Q, ∀ x ∈ q, 0 ≤ x ∧ x < (P.length : Int) := fun q hq x hx => by
    have := (k.inn q hq).2 x hx
    omega
  have hj : ∀ i, i < Q.length → _ := fun i hi => join_ok h (Q.getD i default) (k.inn _ (getD_mem hi)).1 (hin _ (getD_mem hi)) (k.each i hi).1
  have hlead : ∀ n x, leads Q n x = true → 0 ≤ x → x < (P.length : Int) → ∀ y, leads P x y = true → leads (Q.map (joinP P)) n y = true := fun n x h1 hx0 hx1 y h2 => by
    rw [leads_iff] at h1 h2 ⊢
    obtain ⟨a1, a2, a3⟩ := h1
    refine ⟨a1, by simpa using a2, ?_⟩
    have hn : n.toNat < Q.length := by omega
    rw [getD_map _ _ hn, (hj _ hn).2.2.2.1, a3]
    exact h2.2.2
  refine ⟨by simpa using k.len, by simpa using k.pos, h.regs.trans k.regs, fun p hp => ?_, ?_, fun i hi => ?_⟩
  · obtain ⟨q, hq, rfl⟩ := List.mem_map.1 hp
    obtain ⟨i, hi, he⟩ := List.mem_iff_getElem.1 hq
    have e : q = Q.getD i default := by rw [List.getD_eq_getElem?_getD, List.getElem?_eq_getElem hi, ← he]; rfl
    rw [e]
    exact ⟨(hj i hi).1, (hj i hi).2.1⟩
  · have h0 : 0 < Q.length := by have := k.pos; omega
    rw [getD_map _ _ h0, (hj 0 h0).2.2.2.1, k.first]
    exact h.first
  · have hi' : i < Q.length := by simpa using hi
    obtain ⟨g1, g2, g3, g4, g5, g6⟩ := hj i hi'
    obtain ⟨e1, e2, e3⟩ := k.each i hi'
    rw [getD_map _ _ hi']
    refine ⟨g3, e2.trans g6.symm, ?_⟩
    have hq := k.inn _ (getD_mem hi')
    have hlq := hin _ (getD_mem hi') _ (lastOf_mem hq.1)
    have hltq : (lastOf (Q.getD i default)).toNat < P.length := by omega
    obtain ⟨m1, m2, m3⟩ := h.each _ hltq
    unfold endOk at e3 m3 ⊢
    rw [blk_getD B] at e3
    rw [g5]
    obtain ⟨a1, a2, a3⟩ := e3
    obtain ⟨b1, b2, b3⟩ := m3
    refine ⟨a1.trans b1, a2.trans b2, ?_⟩
    have hB : ∀ x, leads Q x (B.blocks.getD (lastOf (Q.getD i default)).toNat default).to = true → True := fun _ _ => trivial
    rw [b1] at a3
    split
    · rename_i hf
      rw [if_pos hf] at a3 b3
      have hb := (leads_iff _ _ _).1 b3.1
      exact ⟨hlead _ _ a3.1 hb.1 hb.2.1 _ b3.1, a3.2.trans b3.2⟩
    · rename_i hf
      rw [if_neg hf] at a3 b3
      split
      · rename_i hf2
        rw [if_pos hf2] at a3 b3
        have hb := (leads_iff _ _ _).1 b3.1
        have hb2 := (leads_iff _ _ _).1 b3.2
        exact ⟨hlead _ _ a3.1 hb.1 hb.2.1 _ b3.1, hlead _ _ a3.2 hb2.1 hb2.2.1 _ b3.2⟩
      · rename_i hf2
        rw [if_neg hf2] at a3 b3
        exact ⟨a3.1.trans b3.1, a3.2.trans b3.2⟩
end Lg
end Go.Proofs.Ytpfhmodjjljpjaa

namespace Go.Proofs.Ytpfhmodjjljpjaa
open Go.RowKit
namespace Lg
def nextL (f : GFn) : List (List Int) := f.blocks.map follows
def reachL (f : GFn) : List Bool := ((visit (nextL f) (-1) ((nextL f).length + 1) 0 (List.replicate (nextL f).length false, List.replicate (nextL f).length false)).getD ([], [])).2
def fromL (f : GFn) : List (List Int) := fromAll (nextL f) (reachL f) f.blocks.length (nextL f).length
def byL (f : GFn) : List Int := (List.range f.blocks.length).map (takenAt f (reachL f) (fromL f))
def pathAt (f : GFn) (i : Nat) : List Int := (follow (byL f) (f.blocks.length + 1) [(i : Int)]).getD [(i : Int)]
def isHead (f : GFn) (i : Nat) : Bool := (reachL f).getD i default && decide ((byL f).getD i default < 0)
def pathsTo (f : GFn) (j : Nat) : List (List Int) := ((List.range j).filter (isHead f)).map (pathAt f)
def pathsL (f : GFn) : List (List Int) := pathsTo f f.blocks.length
def InN (f : GFn) : Prop := ∀ l ∈ nextL f, ∀ x ∈ l, 0 ≤ x ∧ x < (f.blocks.length : Int)
theorem nextL_length (f : GFn) : (nextL f).length = f.blocks.length := by simp [nextL]
theorem nextL_getD (f : GFn) (i : Nat) : (nextL f).getD i default = follows (f.blocks.getD i default) := by
  unfold nextL
  rw [List.getD_eq_getElem?_getD, List.getElem?_map, List.getD_eq_getElem?_getD]
  cases f.blocks[i]? with
  | none => rfl
  | some b => rfl
theorem reachL_some (f : GFn) : ∃ s2, visit (nextL f) (-1) ((nextL f).length + 1) 0 (List.replicate (nextL f).length false, List.replicate (nextL f).length false) = some (s2, reachL f) := by
  obtain ⟨s2, o2, h1, _⟩ := visit_all (nextL f)
  exact ⟨s2, by unfold reachL; rw [h1]; rfl⟩
theorem reachL_length (f : GFn) : (reachL f).length = f.blocks.length := by
  obtain ⟨s2, o2, h1, h2, h3⟩ := visit_all (nextL f)
  unfold reachL; rw [h1, ← nextL_length]; exact h2
theorem reachL_iff (f : GFn) (x : Nat) : (reachL f).getD x default = true ↔ RF (nextL f) (-1) 0 x := by
  obtain ⟨s2, o2, h1, h2, h3⟩ := visit_all (nextL f)
  unfold reachL; rw [h1]; exact h3 x
theorem byL_length (f : GFn) : (byL f).length = f.blocks.length := by simp [byL]
theorem byL_getD (f : GFn) {i : Nat} (h : i < f.blocks.length) : (byL f).getD i default = takenAt f (reachL f) (fromL f) i := by
  unfold byL
  rw [getD_map _ _ (by simpa using h), range_getD h]
theorem addTo_getD (fr : List (List Int)) (n i : Int) (k : Nat) : (addTo fr n i).getD k default = if k = n.toNat ∧ k < fr.length then fr.getD k default ++ [i] else fr.getD k default := by
  unfold addTo
  rw [List.getD_eq_getElem?_getD, List.getElem?_set]
  by_cases hk : n.toNat = k
  · subst hk
    by_cases hl : n.toNat < fr.length
    · simp [hl]
    · simp [hl]
  · rw [if_neg hk, if_neg (fun h => hk h.1.symm), List.getD_eq_getElem?_getD]
theorem fromFold_getD (reached : List Bool) (i k : Nat) : ∀ (l : List Int) (fr : List (List Int)), k < fr.length → (∀ x ∈ l, 0 ≤ x) →
    (l.foldl (fromStep reached i) fr).getD k default = fr.getD k default ++ (if reached.getD i default = true then List.replicate (l.count (k : Int)) (i : Int) else [])
  | [], fr, _, _ => by simp
  | x :: l, fr, hk, hx => by
    rw [List.foldl_cons, fromFold_getD reached i k l _ (by rw [fromStep_length]; exact hk) (fun y hy => hx y (List.mem_cons_of_mem _ hy))]
    unfold fromStep
    have hx0 := hx x (by simp)
    split
    · rw [addTo_getD]
      by_cases hxk : k = x.toNat
      · have e : x = (k : Int) := by omega
        rw [if_pos ⟨hxk, hk⟩, e, List.count_cons_self, List.append_assoc]
        rfl
      · have e : x ≠ (k : Int) := by omega
        rw [if_neg (fun h => hxk h.1), List.count_cons_of_ne e]
    · rfl
theorem fromAll_getD (next : List (List Int)) (reached : List Bool) (nb k : Nat) (hk : k < nb) (hn : ∀ l ∈ next, ∀ x ∈ l, 0 ≤ x) : ∀ (m : Nat), m ≤ next.length →
    (fromAll next reached nb m).getD k default = (List.range m).flatMap (fun i => if reached.getD i default = true then List.replicate ((next.getD i default).count (k : Int)) (i : Int) else [])
  | 0, _ => by
    show (List.replicate nb ([] : List Int)).getD k default = []
    rw [List.getD_eq_getElem?_getD, List.getElem?_replicate]
    split <;> rfl
  | m + 1, hm => by
    rw [fromAll_succ, fromRow, fromFold_getD reached m k _ _ (by rw [fromAll_length]; exact hk) (hn _ (getD_mem (by omega))), fromAll_getD next reached nb k hk hn m (by omega), List.range_succ, List.flatMap_append]
    simp
theorem fromL_getD {f : GFn} (hi : InN f) {k : Nat} (hk : k < f.blocks.length) :
    (fromL f).getD k default = (List.range f.blocks.length).flatMap (fun i => if (reachL f).getD i default = true then List.replicate (((nextL f).getD i default).count (k : Int)) (i : Int) else []) := by
  unfold fromL
  rw [fromAll_getD _ _ _ _ hk (fun l hl x hx => (hi l hl x hx).1) _ (Nat.le_refl _), nextL_length]
theorem mem_fromL {f : GFn} (hi : InN f) {k : Nat} (hk : k < f.blocks.length) {x : Int} : x ∈ (fromL f).getD k default ↔ ∃ i : Nat, i < f.blocks.length ∧ x = (i : Int) ∧ (reachL f).getD i default = true ∧ (k : Int) ∈ (nextL f).getD i default := by
  rw [fromL_getD hi hk, List.mem_flatMap]
  constructor
  · rintro ⟨i, h1, h2⟩
    split at h2
    · rename_i h3
      obtain ⟨h4, h5⟩ := List.mem_replicate.1 h2
      exact ⟨i, by simpa using h1, h5, h3, List.count_pos_iff.1 (by omega)⟩
    · cases h2
  · rintro ⟨i, h1, h2, h3, h4⟩
    refine ⟨i, by simpa using h1, ?_⟩
    rw [if_pos h3]
    exact List.mem_replicate.2 ⟨by have := List.count_pos_iff.2 h4; omega, h2⟩
structure Takes (f : GFn) (j k : Nat) : Prop where
  k0 : 0 < k
  jn : j < f.blocks.length
  kn : k < f.blocks.length
  rj : (reachL f).getD j default = true
  rk : (reachL f).getD k default = true
  one : (fromL f).getD k default = [(j : Int)]
  ne : j ≠ k
  fin : (f.blocks.getD j default).fin = 1
  to : (f.blocks.getD j default).to = (k : Int)
theorem takes_iff {f : GFn} (hi : InN f) {k : Nat} (hk : k < f.blocks.length) (x : Int) (hx : 0 ≤ x) : (byL f).getD k default = x ↔ Takes f x.toNat k := by
  rw [byL_getD f hk]
  constructor
  · intro h
    unfold takenAt at h
    split at h
    · rename_i hc
      obtain ⟨c1, c2, c3, c4, c5⟩ := hc
      obtain ⟨y, hy⟩ := List.length_eq_one_iff.1 c3
      rw [hy] at h c4 c5
      have hyx : y = x := by simpa using h
      subst hyx
      have hm : y ∈ (fromL f).getD k default := by rw [hy]; simp
      obtain ⟨i, h1, h2, h3, h4⟩ := (mem_fromL hi hk).1 hm
      subst h2
      have e : ((i : Int)).toNat = i := by omega
      have c5' : (f.blocks.getD i default).fin = 1 := c5
      rw [nextL_getD, follows, if_pos c5', List.mem_singleton] at h4
      refine ⟨c1, by omega, hk, by rw [e]; exact h3, c2, by rw [e]; exact hy, ?_, by rw [e]; exact c5', by rw [e]; exact h4.symm⟩
      rw [e]
      have : ¬ ((i : Int) = (k : Int)) := by simpa using c4
      omega
    · omega
  · intro h
    unfold takenAt
    have e : ((x.toNat : Nat) : Int) = x := by omega
    have h1 := h.one
    rw [e] at h1
    have hne : ¬ x = (k : Int) := by have := h.ne; omega
    rw [h1]
    exact if_pos ⟨h.k0, h.rk, rfl, hne, h.fin⟩
theorem byL_neg {f : GFn} {k : Nat} (hk : k < f.blocks.length) (h : (byL f).getD k default < 0) (hi : InN f) (j : Nat) : ¬ Takes f j k := fun ht => by
  have h2 := (takes_iff hi hk (j : Int) (by omega)).2 (by simpa using ht)
  omega
theorem takes_of {f : GFn} (hi : InN f) {k : Nat} (hk : k < f.blocks.length) (h : ¬ (byL f).getD k default < 0) : Takes f ((byL f).getD k default).toNat k := (takes_iff hi hk _ (by omega)).1 rfl
theorem Takes.uniq {f : GFn} {j k k' : Nat} (h : Takes f j k) (h' : Takes f j k') : k = k' := by
  have := h.to; have := h'.to; omega
theorem Takes.uniq' {f : GFn} {j j' k : Nat} (h : Takes f j k) (h' : Takes f j' k) : j = j' := by
  have h1 := h.one
  rw [h'.one] at h1
  simp at h1
  omega
theorem nodup_length : ∀ (n : Nat) (l : List Nat), l.Nodup → (∀ x ∈ l, x < n) → l.length ≤ n
  | 0, l, _, h => by
    cases l with
    | nil => exact Nat.le_refl _
    | cons x l => exact absurd (h x (by simp)) (by omega)
  | n + 1, l, hd, h => by
    have h1 := nodup_length n (l.erase n) (hd.erase n) (fun x hx => by
      have := h x (List.mem_of_mem_erase hx)
      have hne : x ≠ n := fun e => by subst e; exact (List.Nodup.not_mem_erase hd) hx
      omega)
    by_cases hm : n ∈ l
    · have := List.length_erase_of_mem hm; omega
    · rw [List.erase_of_not_mem hm] at h1; omega
structure Grown (f : GFn) (p : List Nat) : Prop where
  ne : p ≠ []
  lt : ∀ x ∈ p, x < f.blocks.length
  rch : ∀ x ∈ p, (reachL f).getD x default = true
  nd : p.Nodup
  link : ∀ i, i + 1 < p.length → Takes f (p.getD i default) (p.getD (i + 1) default)
  hd : (byL f).getD (p.getD 0 default) default < 0
def ints (p : List Nat) : List Int := List.map (fun x : Nat => (x : Int)) p
theorem ints_length (p : List Nat) : (ints p).length = p.length := by simp [ints]
theorem ints_getD (p : List Nat) (i : Nat) : (ints p).getD i default = ((p.getD i default : Nat) : Int) := by
  unfold ints
  rw [List.getD_eq_getElem?_getD, List.getElem?_map, List.getD_eq_getElem?_getD]
  cases p[i]? <;> rfl
def lastN (p : List Nat) : Nat := p.getD (p.length - 1) default
theorem lastOf_ints {p : List Nat} (h : p ≠ []) : lastOf (ints p) = ((lastN p : Nat) : Int) := by
  have : 0 < p.length := List.length_pos_iff.2 h
  unfold lastOf lastN
  rw [ints_length, ints_getD, show ((p.length : Int) - 1).toNat = p.length - 1 by omega]
theorem getD_append_left {α : Type} [Inhabited α] {p q : List α} {i : Nat} (h : i < p.length) : (p ++ q).getD i default = p.getD i default := by
  rw [List.getD_eq_getElem?_getD, List.getElem?_append_left h, List.getD_eq_getElem?_getD]
theorem getD_append_one {α : Type} [Inhabited α] {p : List α} {x : α} : (p ++ [x]).getD p.length default = x := by
  rw [List.getD_eq_getElem?_getD, List.getElem?_append_right (Nat.le_refl _)]; simp
theorem nodup_getD {p : List Nat} (h : p.Nodup) {i j : Nat} (hi : i < p.length) (hj : j < p.length) (e : p.getD i default = p.getD j default) : i = j := by
  rw [List.getD_eq_getElem?_getD, List.getD_eq_getElem?_getD, List.getElem?_eq_getElem hi, List.getElem?_eq_getElem hj] at e
  exact (List.getElem_inj h).1 e
theorem mem_getD {α : Type} [Inhabited α] {p : List α} {x : α} (h : x ∈ p) : ∃ i, i < p.length ∧ p.getD i default = x := by
  obtain ⟨i, hi, e⟩ := List.mem_iff_getElem.1 h
  exact ⟨i, hi, by rw [List.getD_eq_getElem?_getD, List.getElem?_eq_getElem hi, e]; rfl⟩
theorem Grown.snoc {f : GFn} {p : List Nat} (h : Grown f p) {k : Nat} (hi : InN f) (ht : Takes f (lastN p) k) : Grown f (p ++ [k]) := by
  have hl : 0 < p.length := List.length_pos_iff.2 h.ne
  refine ⟨by simp, fun x hx => ?_, fun x hx => ?_, ?_, fun i hi' => ?_, ?_⟩
  · rcases List.mem_append.1 hx with hx | hx
    · exact h.lt x hx
    · simp at hx; subst hx; exact ht.kn
  · rcases List.mem_append.1 hx with hx | hx
    · exact h.rch x hx
    · simp at hx; subst hx; exact ht.rk
  · rw [List.nodup_append]
    refine ⟨h.nd, by simp, fun x hx y hy e => ?_⟩
    simp at hy
    subst hy
    subst e
    obtain ⟨i, hi', e⟩ := mem_getD hx
    cases i with
    | zero =>
      have h1 := h.hd
      rw [e] at h1
      exact byL_neg ht.kn h1 hi _ ht
    | succ i =>
      have h1 := h.link i hi'
      rw [e] at h1
      have h2 := h1.uniq' ht
      have h3 := nodup_getD h.nd (i := i) (j := p.length - 1) (by omega) (by omega) h2
      omega
  · simp at hi'
    by_cases he : i + 1 < p.length
    · rw [getD_append_left (by omega), getD_append_left he]; exact h.link i he
    · have e : i + 1 = p.length := by omega
      rw [getD_append_left (by omega), e, getD_append_one]
      have : lastN p = p.getD i default := by unfold lastN; rw [← e]; rfl
      rw [← this]; exact ht
  · rw [getD_append_left hl]; exact h.hd
theorem fst_takes {f : GFn} (hi : InN f) (j : Nat) : (fstIdx (fun y => y == (j : Int)) (byL f) ≥ 0 → Takes f j (fstIdx (fun y => y == (j : Int)) (byL f)).toNat) ∧ (¬ fstIdx (fun y => y == (j : Int)) (byL f) ≥ 0 → ∀ k, ¬ Takes f j k) := by
  unfold fstIdx
  cases hf : (byL f).findIdx? (fun y => y == (j : Int)) with
  | none =>
    refine ⟨fun h => absurd h (by simp), fun _ k ht => ?_⟩
    rw [List.findIdx?_eq_none_iff] at hf
    have h1 := (takes_iff hi ht.kn (j : Int) (by omega)).2 (by simpa using ht)
    have := hf _ (getD_mem (i := k) (by rw [byL_length]; exact ht.kn))
    rw [h1] at this
    simp at this
  | some k =>
    refine ⟨fun _ => ?_, fun h => absurd (show (k : Int) ≥ 0 by omega) h⟩
    obtain ⟨h1, h2, _⟩ := List.findIdx?_eq_some_iff_getElem.1 hf
    rw [byL_length] at h1
    have h3 : (byL f).getD k default = (j : Int) := by
      rw [List.getD_eq_getElem?_getD, List.getElem?_eq_getElem (by rw [byL_length]; exact h1)]
      simpa using h2
    have := (takes_iff hi h1 (j : Int) (by omega)).1 h3
    simpa using this
theorem follow_grown {f : GFn} (hi : InN f) : ∀ (m : Nat) (p : List Nat), Grown f p → f.blocks.length < m + p.length → ∃ q, follow (byL f) m (ints p) = some (ints (p ++ q)) ∧ Grown f (p ++ q) ∧ ∀ k, ¬ Takes f (lastN (p ++ q)) k
  | 0, p, h, hm => by
    have := nodup_length _ p h.nd h.lt
    omega
  | m + 1, p, h, hm => by
    rw [follow, lastOf_ints h.ne]
    split
    · rename_i hk
      have ht := (fst_takes hi (lastN p)).1 hk
      obtain ⟨q, h1, h2, h3⟩ := follow_grown hi m _ (h.snoc hi ht) (by simp; omega)
      refine ⟨(fstIdx (fun y => y == ((lastN p : Nat) : Int)) (byL f)).toNat :: q, ?_, by simpa using h2, by simpa using h3⟩
      rw [show ints p ++ [fstIdx (fun y => y == ((lastN p : Nat) : Int)) (byL f)] = ints (p ++ [(fstIdx (fun y => y == ((lastN p : Nat) : Int)) (byL f)).toNat]) by simp [ints]; omega, h1]
      simp
    · rename_i hk
      exact ⟨[], by simp, by simpa using h, by simpa using (fst_takes hi (lastN p)).2 hk⟩
theorem grown_one {f : GFn} {i : Nat} (hi : i < f.blocks.length) (h : isHead f i = true) : Grown f [i] := by
  simp only [isHead, Bool.and_eq_true, decide_eq_true_eq] at h
  exact ⟨by simp, fun x hx => by simp at hx; omega, fun x hx => by simp at hx; subst hx; exact h.1, by simp, fun i hi => by simp at hi, h.2⟩
structure PathOf (f : GFn) (i : Nat) (p : List Nat) : Prop where
  e : pathAt f i = ints p
  g : Grown f p
  h : p.getD 0 default = i
  last : ∀ k, ¬ Takes f (lastN p) k
theorem path_of {f : GFn} (hi : InN f) {i : Nat} (hl : i < f.blocks.length) (h : isHead f i = true) : follow (byL f) (f.blocks.length + 1) [(i : Int)] = some (pathAt f i) ∧ ∃ p, PathOf f i p := by
  obtain ⟨q, h1, h2, h3⟩ := follow_grown hi (f.blocks.length + 1) [i] (grown_one hl h) (by simp; omega)
  have e : pathAt f i = ints ([i] ++ q) := by
    unfold pathAt
    rw [show [(i : Int)] = ints [i] from rfl, h1]
    rfl
  exact ⟨by rw [e]; exact h1, [i] ++ q, e, h2, rfl, h3⟩
theorem follows_le (f : GFn) : ∀ l ∈ nextL f, l.length ≤ 2 := fun l hl => by
  obtain ⟨b, _, rfl⟩ := List.mem_map.1 hl
  unfold follows
  split
  · simp
  · split <;> simp
theorem isHead_of {f : GFn} {i : Nat} (h1 : (reachL f).getD i default = true) (h2 : (byL f).getD i default < 0) : isHead f i = true := by
  unfold isHead; rw [h1, decide_eq_true h2]; rfl
theorem pathsTo_le (f : GFn) (j : Nat) : (pathsTo f j).length ≤ j := by
  unfold pathsTo
  rw [List.length_map]
  exact Nat.le_trans (List.length_filter_le _ _) (by simp)
theorem pathsTo_t {f : GFn} {j : Nat} (h : isHead f j = true) : pathsTo f (j + 1) = pathsTo f j ++ [pathAt f j] := by
  simp [pathsTo, List.range_succ, List.filter_append, h]
theorem pathsTo_f {f : GFn} {j : Nat} (h : isHead f j = false) : pathsTo f (j + 1) = pathsTo f j := by
  simp [pathsTo, List.range_succ, List.filter_append, h]
end Lg
end Go.Proofs.Ytpfhmodjjljpjaa

namespace Go.Proofs.Ytpfhmodjjljpjaa
open Go.RowKit
namespace Lg
set_option maxRecDepth 100000
set_option linter.unusedVariables false
set_option linter.unusedSimpArgs false
theorem body66 : (Try.prog.funcs[66]?).map (fun fn => (fn.name == "runtime.NumGoroutine" || fn.body.isNone)) = some false := by kernel_rfl
theorem paths_spec (f : GFn) (hb : f.blocks.length ≤ 900000) (hi : InN f) : Spec Try.prog 66 [.agg [.v (.int .i64 f.regs), .r 1]] 2 [(1, .fz 5 (f.blocks.map eBlock))] (.r 2) 3 [(2, .row 52 1 ((pathsL f).map eIs))] := by
 have hfl : ∀ l ∈ nextL f, l.length ≤ 2 := follows_le f
 obtain ⟨s2, hv⟩ := reachL_some f
 have hnl := nextL_length f
 have hrl := reachL_length f
 have hbl := byL_length f
 refine spec_of D (fn := Try.f66) rfl rfl (Nat.le_of_ble_eq_true rfl) ?_
 refine W_seq ?_
 refine W_seqK (b' := 34) rfl rfl ?_
 refine q1 1 2 1 rfl rfl (T_box rfl rfl flat_agg) rfl ?_
 refine q1 2 18 2 rfl rfl (T_nils [(52, 1)] (T_assign rfl rfl) rfl (.inr ⟨rfl, rfl⟩) (.cons (.nil rfl) .nil) (lv' := .r 18) (upd' := [(18, .row 52 1 (List.map eIs ([] : List (List Int))))]) (nn' := 1) rfl rfl) rfl ?_
 refine k_done rfl ?_
 refine thenK_n ?_
 refine W_seq ?_
 refine W_seqK (b' := 82) rfl rfl ?_
 refine q0 9 34 1 rfl rfl (T_load_bA D (l := [_, _]) rfl rfl rfl rfl rfl rfl rfl) rfl ?_
 refine q1 10 50 2 rfl rfl (T_callR (lvs := [_]) (L := [(1, 1)]) (keep := false) (next_spec _ (by omega)) body90 rfl rfl rfl rfl (.fz rfl (.nil)) rfl (.inl rfl) rfl) rfl ?_
 refine q0 3 66 3 rfl rfl (T_assign rfl rfl) rfl ?_
 refine k_done rfl ?_
 refine thenK_n ?_
 refine W_seq ?_
 refine W_seqK (b' := 130) rfl rfl ?_
 refine q0 11 82 1 rfl rfl (T_move rfl rfl) rfl ?_
 refine q1 12 98 2 rfl rfl (T_callR (lvs := [_]) (L := [(1, 50)]) (keep := true) (reach_spec (nextL f) (by omega) (fun l h => by have := hfl l h; omega) _ _ _ hv) body111 rfl rfl rfl rfl (.lend rfl (.nil)) rfl (.inr (flat_eB _)) rfl) rfl ?_
 refine q0 4 114 3 rfl rfl (T_assign rfl rfl) rfl ?_
 refine k_done rfl ?_
 refine thenK_n ?_
 refine W_seq ?_
 refine W_seqK (b' := 226) rfl rfl ?_
 refine q0 13 130 1 rfl rfl (T_load_bA D (l := [_, _]) rfl rfl rfl rfl rfl rfl rfl) rfl ?_
 refine q0 14 146 2 rfl rfl (T_move rfl rfl) rfl ?_
 refine q0 15 162 3 rfl rfl (T_move rfl rfl) rfl ?_
 refine q1 16 178 4 rfl rfl (T_callR (lvs := [_, _, _]) (L := [(1, 1), (2, 50), (3, 98)]) (keep := true) (taken_spec f (nextL f) (reachL f) (by omega) (nextL_length f) (reachL_length f) 2 (by omega) hfl (fun l h i k => hi l h _ (getD_mem k))) body112 rfl rfl rfl rfl (.fz rfl (.lend rfl (.lend rfl (.nil)))) rfl (.inr (flat_eI _)) rfl) rfl ?_
 refine qn 5 194 5 rfl rfl (T_nilbox [(3, 1)] (T_alloc D rfl rfl rfl) rfl (.cons (.nil rfl) <| .nil) (upd' := [(194, .box 52 [.r 195]), (195, .row 3 1 (List.map eI ([] : List (Int))))]) (nn' := 2) rfl rfl) rfl ?_
 refine s1 210 6 rfl rfl (T_stB D (cs' := [_]) rfl rfl rfl rfl (flat_sl rfl) rfl rfl (Nat.le_of_ble_eq_true rfl) rfl) rfl ?_
 refine k_done rfl ?_
 refine thenK_n ?_
 refine W_seq ?_
 refine W_seqK (b' := 242) rfl rfl ?_
 refine q1 6 226 1 rfl rfl (T_alloc D rfl rfl rfl) rfl ?_
 refine k_done rfl ?_
 refine thenK_n ?_
 refine W_seq ?_
 refine W_seqK (b' := 274) rfl rfl ?_
 refine q0 17 242 1 rfl rfl (T_makeFunc (l := [_, _]) rfl rfl) rfl ?_
 refine s1 258 2 rfl rfl (T_stB D (cs' := [_]) rfl rfl rfl rfl flat_fn rfl rfl (Nat.le_of_ble_eq_true rfl) rfl) rfl ?_
 refine k_done rfl ?_
 refine thenK_n ?_
 refine W_seq ?_
 refine W_seqK (b' := 290) rfl rfl ?_
 refine q1 7 274 1 rfl rfl (T_nils [(52, 1)] (T_assign rfl rfl) rfl (.inr ⟨rfl, rfl⟩) (.cons (.nil rfl) .nil) (lv' := .r 274) (upd' := [(274, .row 52 1 (List.map eIs ([] : List (List Int))))]) (nn' := 1) rfl rfl) rfl ?_
 refine k_done rfl ?_
 refine thenK_n ?_
 refine W_seq ?_
 refine W_seq ?_
 refine W_seqK (b' := 354) rfl rfl ?_
 refine q0 18 290 1 rfl rfl (T_fa D (m := 1) rfl rfl rfl rfl rfl rfl) rfl ?_
 refine q0 19 306 2 rfl rfl (T_load_b D rfl rfl rfl rfl rfl rfl) rfl ?_
 refine q0 20 322 3 rfl rfl (T_len D rfl rfl rfl rfl rfl rfl) rfl ?_
 refine q0 21 338 4 rfl rfl (T_move rfl rfl) rfl ?_
 refine k_done rfl ?_
 refine thenK_n ?_
 refine W_block ?_
 refine W_loop (ι := Nat) 7 (fun j => ⟨[(4, .r 2), (5, .p 3 0), (6, .p 5 0), (7, .r 6), (20, .v (.int .i64 (f.blocks.length : Int))), (21, .v (.int .i64 (j : Int)))], [(1, .fz 5 (f.blocks.map eBlock)), (2, .fz 1 ((reachL f).map eB)), (3, .box 52 [.r 4]), (4, .fz 1 ((byL f).map eI)), (5, .box 144 [.fn 113 [.p 3 0, .p 5 0]]), (6, .row 52 1 ((pathsTo f j).map eIs))]⟩) (fun j => j ≤ f.blocks.length) (fun j => f.blocks.length - j) (0) (by exact Nat.zero_le _) ?_ (fun j hJ => ?_)
 ·exact ⟨[(2, 98), (3, 194), (4, 178), (5, 226), (6, 274)], .same rfl rfl (.same rfl rfl (.same rfl rfl (.same rfl rfl (.eq rfl (.eq rfl (.nil) (by first | rfl | simp)) (by first | rfl | simp))))), .fzE rfl (.lendE rfl (.box (by first | rfl | simp) (.lendE rfl (.box (by first | rfl | simp) (.rowE rfl (.nil) (by first | rfl | simp))) (by first | rfl | simp))) (by first | rfl | simp)) (by first | rfl | simp), rfl⟩
 have hpl := pathsTo_le f j
 refine W_seq ?_
 refine W_seqK (b' := 23) rfl rfl ?_
 refine q0 22 7 1 rfl rfl (T_cmp rfl rfl rfl rfl) rfl ?_
 refine k_done rfl ?_
 refine thenK_n ?_
 refine W_seq ?_
 refine W_cond rfl (fun g1 => ?_) (fun g1 => ?_)
 ·have h1 := c_lss_t g1
  refine W_skip ?_
  refine thenK_n ?_
  refine W_seq ?_
  refine W_block ?_
  refine W_seq ?_
  refine W_seqK (b' := 55) rfl rfl ?_
  refine q0 23 23 1 rfl rfl (T_move rfl rfl) rfl ?_
  refine q0 8 39 2 rfl rfl (T_assign rfl rfl) rfl ?_
  refine k_done rfl ?_
  refine thenK_n ?_
  refine W_seq ?_
  refine W_seqK (b' := 231) rfl rfl ?_
  refine q0 24 55 1 rfl rfl (T_move rfl rfl) rfl ?_
  refine q0 25 71 2 rfl rfl (T_move rfl rfl) rfl ?_
  first | refine q0 26 87 3 rfl rfl (T_indexAddr D rfl rfl rfl rfl rfl rfl rfl rfl (by first | assumption | omega | (simp; omega))) rfl ?_ | refine q0 26 87 3 rfl rfl (T_indexAddrZ D rfl rfl rfl rfl rfl rfl rfl rfl (by first | assumption | omega | (simp; omega)) (by first | assumption | omega | (simp; omega))) rfl ?_
  refine q0 27 103 4 rfl rfl (T_ldE D (lv := .v _) (nn := 0) (upd := []) rfl rfl rfl rfl rfl (by first | assumption | omega | (simp; omega)) rfl rfl rfl rfl) rfl ?_
  refine q0 28 119 5 rfl rfl (T_move rfl rfl) rfl ?_
  refine k_split (d := 28) rfl (fun g2 => ?_) (fun g2 => ?_)
  ·have h2 := g2; (try simp only [cmpB, decide_eq_true_eq, decide_eq_false_iff_not, beq_iff_eq, beq_eq_false_iff_ne, bne_iff_ne, ne_eq, bne_eq_false_iff_eq, Bool.not_eq_true', Bool.not_eq_false', Int.not_lt, Int.not_le] at h2)
   refine k_op0 (d := 29) (b := 135) (j' := 6) rfl rfl rfl rfl (g_tt rfl rfl rfl g2) (T_load_b D rfl rfl rfl rfl rfl rfl) rfl ?_
   refine k_op0 (d := 30) (b := 151) (j' := 7) rfl rfl rfl rfl (g_tt rfl rfl rfl g2) (T_move rfl rfl) rfl ?_
   first | refine k_op0 (d := 31) (b := 167) (j' := 8) rfl rfl rfl rfl (g_tt rfl rfl rfl g2) (T_indexAddr D rfl rfl rfl rfl rfl rfl rfl rfl (by first | assumption | omega | (simp; omega))) rfl ?_ | refine k_op0 (d := 31) (b := 167) (j' := 8) rfl rfl rfl rfl (g_tt rfl rfl rfl g2) (T_indexAddrZ D rfl rfl rfl rfl rfl rfl rfl rfl (by first | assumption | omega | (simp; omega)) (by first | assumption | omega | (simp; omega))) rfl ?_
   refine k_op0 (d := 32) (b := 183) (j' := 9) rfl rfl rfl rfl (g_tt rfl rfl rfl g2) (T_ldE D (lv := .v _) (nn := 0) (upd := []) rfl rfl rfl rfl rfl (by first | assumption | omega | (simp; omega)) rfl rfl rfl rfl) rfl ?_
   refine k_op0 (d := 33) (b := 199) (j' := 10) rfl rfl rfl rfl (g_tt rfl rfl rfl g2) (T_cmp rfl rfl rfl rfl) rfl ?_
   refine q0 34 215 11 rfl rfl (T_pick_t rfl rfl rfl g2) rfl ?_
   refine k_done rfl ?_
   refine thenK_n ?_
   refine W_cond rfl (fun g3 => ?_) (fun g3 => ?_)
   ·have h3 := c_lss_t g3
    refine W_seqK (b' := 359) rfl rfl ?_
    refine q0 35 231 1 rfl rfl (T_move rfl rfl) rfl ?_
    refine q0 36 247 2 rfl rfl (T_load_b D rfl rfl rfl rfl rfl rfl) rfl ?_
    refine q0 37 263 3 rfl rfl (T_move rfl rfl) rfl ?_
    refine q1 38 279 4 rfl rfl (T_bs D (ys := [_]) (enc := eI) (l := [_]) rfl rfl rfl rfl rfl rfl (.cons rfl (flat_v rfl) (.nil)) rfl rfl rfl rfl (.v rfl (.nil)) rfl rfl) rfl ?_
    refine qn 39 295 5 rfl rfl (T_call (lvs := [_]) (L := [(1, 279), (2, 3), (3, 5), (4, 4)]) (lv := .r 295) (upd := [(279, .no), (3, .box 52 [.r 4]), (5, .box 144 [.fn 113 [.p 3 0, .p 5 0]]), (295, .row 3 1 _)]) (nn := 1) false (follow_spec (byL f) (by omega) _ _ _ (by simp) (path_of hi (by omega) (isHead_of (by assumption) (by assumption))).1 (by simp; omega)) body113 rfl rfl rfl rfl (.row rfl (.box rfl (.box rfl (.fz rfl (.nil))))) rfl (.inl rfl) rfl rfl rfl) rfl ?_
    refine qn 40 311 6 rfl rfl (T_bs D (ys := [_]) (enc := eIs) (l := [_]) rfl rfl rfl rfl rfl rfl (.cons rfl (flat_sl rfl) (.nil)) rfl rfl rfl rfl (.row rfl (.nil) rfl) rfl rfl) rfl ?_
    refine qn 41 327 7 rfl rfl (T_append D rfl rfl rfl rfl rfl rfl rfl rfl rfl rfl rfl rfl (by (try simp only [ty52]); first | assumption | omega | (simp; omega)) (by (try simp only [ty52]); first | assumption | omega | (simp; omega))) rfl ?_
    refine q0 7 343 8 rfl rfl (T_assign rfl rfl) rfl ?_
    refine k_done rfl ?_
    refine blockK_n ?_
    refine thenK_n ?_
    refine W_seqK (b' := 391) rfl rfl ?_
    refine q0 42 359 1 rfl rfl (T_add64 rfl rfl rfl (by first | assumption | omega | (simp; omega))) rfl ?_
    refine q0 21 375 2 rfl rfl (T_move rfl rfl) rfl ?_
    refine k_done rfl ?_
    refine thenK_n ?_
    refine ⟨j + 1, by (try dsimp only); omega, by (try dsimp only); omega, ?_⟩
    exact ⟨[(2, 2), (3, 3), (4, 4), (5, 5), (6, 327)], .same rfl rfl (.same rfl rfl (.same rfl rfl (.same rfl rfl (.eq rfl (.eq rfl (.nil) (by first | rfl | (rw [pathsTo_t (isHead_of (by assumption) (by assumption))]; done) | (rw [pathsTo_f (by unfold isHead; simp_all [-List.getD_eq_getElem?_getD, -Int.default_eq_zero])]))) rfl)))), .fzE rfl (.fzE rfl (.box (by first | rfl | (rw [pathsTo_t (isHead_of (by assumption) (by assumption))]; done) | (rw [pathsTo_f (by unfold isHead; simp_all [-List.getD_eq_getElem?_getD, -Int.default_eq_zero])])) (.fzE rfl (.box (by first | rfl | (rw [pathsTo_t (isHead_of (by assumption) (by assumption))]; done) | (rw [pathsTo_f (by unfold isHead; simp_all [-List.getD_eq_getElem?_getD, -Int.default_eq_zero])])) (.rowE rfl (.nil) (by first | rfl | (rw [pathsTo_t (isHead_of (by assumption) (by assumption))]; done) | (rw [pathsTo_f (by unfold isHead; simp_all [-List.getD_eq_getElem?_getD, -Int.default_eq_zero])])))) rfl)) rfl) rfl, rfl⟩
   ·have h3 := c_lss_f g3
    refine W_skip ?_
    refine blockK_n ?_
    refine thenK_n ?_
    refine W_seqK (b' := 263) rfl rfl ?_
    refine q0 42 231 1 rfl rfl (T_add64 rfl rfl rfl (by first | assumption | omega | (simp; omega))) rfl ?_
    refine q0 21 247 2 rfl rfl (T_move rfl rfl) rfl ?_
    refine k_done rfl ?_
    refine thenK_n ?_
    refine ⟨j + 1, by (try dsimp only); omega, by (try dsimp only); omega, ?_⟩
    exact ⟨[(2, 2), (3, 3), (4, 4), (5, 5), (6, 6)], .same rfl rfl (.same rfl rfl (.same rfl rfl (.same rfl rfl (.eq rfl (.eq rfl (.nil) (by first | rfl | (rw [pathsTo_t (isHead_of (by assumption) (by assumption))]; done) | (rw [pathsTo_f (by unfold isHead; simp_all [-List.getD_eq_getElem?_getD, -Int.default_eq_zero])]))) rfl)))), .fzE rfl (.fzE rfl (.box (by first | rfl | (rw [pathsTo_t (isHead_of (by assumption) (by assumption))]; done) | (rw [pathsTo_f (by unfold isHead; simp_all [-List.getD_eq_getElem?_getD, -Int.default_eq_zero])])) (.fzE rfl (.box (by first | rfl | (rw [pathsTo_t (isHead_of (by assumption) (by assumption))]; done) | (rw [pathsTo_f (by unfold isHead; simp_all [-List.getD_eq_getElem?_getD, -Int.default_eq_zero])])) (.rowE rfl (.nil) (by first | rfl | (rw [pathsTo_t (isHead_of (by assumption) (by assumption))]; done) | (rw [pathsTo_f (by unfold isHead; simp_all [-List.getD_eq_getElem?_getD, -Int.default_eq_zero])])))) rfl)) rfl) rfl, rfl⟩
  ·have h2 := g2; (try simp only [cmpB, decide_eq_true_eq, decide_eq_false_iff_not, beq_iff_eq, beq_eq_false_iff_ne, bne_iff_ne, ne_eq, bne_eq_false_iff_eq, Bool.not_eq_true', Bool.not_eq_false', Int.not_lt, Int.not_le] at h2)
   refine k_no (d := 29) (j' := 6) rfl rfl rfl (g_tf rfl rfl rfl g2) ?_
   refine k_no (d := 30) (j' := 7) rfl rfl rfl (g_tf rfl rfl rfl g2) ?_
   refine k_no (d := 31) (j' := 8) rfl rfl rfl (g_tf rfl rfl rfl g2) ?_
   refine k_no (d := 32) (j' := 9) rfl rfl rfl (g_tf rfl rfl rfl g2) ?_
   refine k_no (d := 33) (j' := 10) rfl rfl rfl (g_tf rfl rfl rfl g2) ?_
   refine q0 34 215 11 rfl rfl (T_pick_f rfl rfl rfl g2) rfl ?_
   refine k_done rfl ?_
   refine thenK_n ?_
   refine W_cond rfl (fun g4 => ?_) (fun g4 => ?_)
   ·exact absurd (g4.symm.trans rfl) (by decide)
   ·skip
    refine W_skip ?_
    refine blockK_n ?_
    refine thenK_n ?_
    refine W_seqK (b' := 263) rfl rfl ?_
    refine q0 42 231 1 rfl rfl (T_add64 rfl rfl rfl (by first | assumption | omega | (simp; omega))) rfl ?_
    refine q0 21 247 2 rfl rfl (T_move rfl rfl) rfl ?_
    refine k_done rfl ?_
    refine thenK_n ?_
    refine ⟨j + 1, by (try dsimp only); omega, by (try dsimp only); omega, ?_⟩
    exact ⟨[(2, 2), (3, 3), (4, 4), (5, 5), (6, 6)], .same rfl rfl (.same rfl rfl (.same rfl rfl (.same rfl rfl (.eq rfl (.eq rfl (.nil) (by first | rfl | (rw [pathsTo_t (isHead_of (by assumption) (by assumption))]; done) | (rw [pathsTo_f (by unfold isHead; simp_all [-List.getD_eq_getElem?_getD, -Int.default_eq_zero])]))) rfl)))), .fzE rfl (.fzE rfl (.box (by first | rfl | (rw [pathsTo_t (isHead_of (by assumption) (by assumption))]; done) | (rw [pathsTo_f (by unfold isHead; simp_all [-List.getD_eq_getElem?_getD, -Int.default_eq_zero])])) (.fzE rfl (.box (by first | rfl | (rw [pathsTo_t (isHead_of (by assumption) (by assumption))]; done) | (rw [pathsTo_f (by unfold isHead; simp_all [-List.getD_eq_getElem?_getD, -Int.default_eq_zero])])) (.rowE rfl (.nil) (by first | rfl | (rw [pathsTo_t (isHead_of (by assumption) (by assumption))]; done) | (rw [pathsTo_f (by unfold isHead; simp_all [-List.getD_eq_getElem?_getD, -Int.default_eq_zero])])))) rfl)) rfl) rfl, rfl⟩
 ·have h1 := c_lss_f g1
  refine W_exit ?_
  refine thenK_e ?_
  refine thenK_e ?_
  refine blockK_hit ?_
  refine thenK_n ?_
  refine W_seq ?_
  refine W_seqK (b' := 55) rfl rfl ?_
  refine q0 43 23 1 rfl rfl (T_move rfl rfl) rfl ?_
  refine q0 2 39 2 rfl rfl (T_assign rfl rfl) rfl ?_
  refine k_done rfl ?_
  refine thenK_n ?_
  refine W_ret ?_
  exact .mk [(2, 6)] (.inr rfl) (.tmp rfl (.nil)) rfl (.rowE rfl (.nil) (by first | rfl | (have e : j = f.blocks.length := (by omega); rw [e]; rfl))) rfl
end Lg
end Go.Proofs.Ytpfhmodjjljpjaa

namespace Go.Proofs.Ytpfhmodjjljpjaa
open Go.RowKit
namespace Lg
def begins (ps : List (List Int)) (old : Int) : Int := fstIdx (fun p : List Int => p.getD 0 default == old) ps
def newBlock (f : GFn) (ps : List (List Int)) (p : List Int) : GBlock :=
  ⟨instrs f p, (blk f (lastOf p)).fin, (blk f (lastOf p)).v, if (blk f (lastOf p)).fin = 3 then 0 else begins ps (blk f (lastOf p)).to, if (blk f (lastOf p)).fin = 2 then begins ps (blk f (lastOf p)).els else 0⟩
def tidyG (f : GFn) : GFn := ⟨f.regs, (pathsL f).map (newBlock f (pathsL f))⟩
theorem mem_pathsL {f : GFn} (hi : InN f) {p : List Int} (h : p ∈ pathsL f) : ∃ i q, i < f.blocks.length ∧ isHead f i = true ∧ PathOf f i q ∧ p = ints q := by
  unfold pathsL pathsTo at h
  obtain ⟨i, h1, h2⟩ := List.mem_map.1 h
  obtain ⟨h3, h4⟩ := List.mem_filter.1 h1
  obtain ⟨q, hq⟩ := (path_of hi (by simpa using h3) h4).2
  exact ⟨i, q, by simpa using h3, h4, hq, by rw [← h2, hq.e]⟩
theorem path_in {f : GFn} (hi : InN f) {p : List Int} (h : p ∈ pathsL f) : 1 ≤ p.length ∧ p.length ≤ f.blocks.length ∧ ∀ x ∈ p, 0 ≤ x ∧ x < (f.blocks.length : Int) := by
  obtain ⟨i, q, h1, h2, h3, rfl⟩ := mem_pathsL hi h
  refine ⟨by rw [ints_length]; exact List.length_pos_iff.2 h3.g.ne, by rw [ints_length]; exact nodup_length _ _ h3.g.nd h3.g.lt, fun x hx => ?_⟩
  obtain ⟨y, hy, rfl⟩ := List.mem_map.1 hx
  have := h3.g.lt y hy
  omega
theorem instrs_le {f : GFn} {c : Nat} (hc : ∀ b ∈ f.blocks, b.ins.length ≤ c) : ∀ (p : List Int), (instrs f p).length ≤ p.length * c
  | [] => by simp [instrs]
  | k :: p => by
    have h1 := instrs_le hc p
    have h2 : (f.blocks.getD k.toNat default).ins.length ≤ c := by
      by_cases h : k.toNat < f.blocks.length
      · exact hc _ (getD_mem h)
      · rw [List.getD_eq_getElem?_getD, List.getElem?_eq_none (by omega)]
        exact Nat.zero_le _
    have h3 : (instrs f (k :: p)).length = (f.blocks.getD k.toNat default).ins.length + (instrs f p).length := by simp [instrs]
    rw [h3, List.length_cons, Nat.succ_mul]
    omega
theorem instrs_small {f : GFn} (hb : f.blocks.length ≤ 900000) (hc : ∀ b ∈ f.blocks, b.ins.length ≤ 1000) {p : List Int} (hp : p.length ≤ f.blocks.length) (j : Nat) : (instrs f (p.take j)).length ≤ 1000000000 := by
  have h1 := instrs_le hc (p.take j)
  have h2 : (p.take j).length ≤ 900000 := by rw [List.length_take]; omega
  have h3 := Nat.mul_le_mul_right 1000 h2
  omega
theorem last_in {f : GFn} {p : List Int} (h1 : 1 ≤ p.length) (h : ∀ x ∈ p, 0 ≤ x ∧ x < (f.blocks.length : Int)) : 0 ≤ lastOf p ∧ lastOf p < (f.blocks.length : Int) := h _ (lastOf_mem (List.length_pos_iff.1 h1))
theorem tidy_step {N : List Int → GBlock} {P : List (List Int)} {j : Nat} {b : GBlock} (h : j < P.length) (hb : b = N (P.getD j default)) : (((P.take j).map N) ++ [b]).map eBlock = ((P.take (j + 1)).map N).map eBlock := by
  rw [take_succ_getD h, hb]
  simp
theorem newBlock_eq {f : GFn} {ps : List (List Int)} {p : List Int} {a : List GTac} {b c d e : Int} (ha : a = instrs f p) (hb : b = (blk f (lastOf p)).fin) (hc : c = (blk f (lastOf p)).v) (hd : d = if (blk f (lastOf p)).fin = 3 then 0 else begins ps (blk f (lastOf p)).to) (he : e = if (blk f (lastOf p)).fin = 2 then begins ps (blk f (lastOf p)).els else 0) : (⟨a, b, c, d, e⟩ : GBlock) = newBlock f ps p := by
  subst ha hb hc hd he
  rfl
end Lg
end Go.Proofs.Ytpfhmodjjljpjaa

namespace Go.Proofs.Ytpfhmodjjljpjaa
open Go.RowKit
namespace Lg
set_option maxRecDepth 100000
set_option linter.unusedVariables false
set_option linter.unusedSimpArgs false
theorem body26 : (Try.prog.funcs[26]?).map (fun fn => (fn.name == "runtime.NumGoroutine" || fn.body.isNone)) = some false := by kernel_rfl
theorem tidy_spec (f : GFn) (hb : f.blocks.length ≤ 900000) (hi : InN f) (hc : ∀ b ∈ f.blocks, b.ins.length ≤ 1000) : Spec Try.prog 26 [.agg [.v (.int .i64 f.regs), .r 1]] 2 [(1, .fz 5 (f.blocks.map eBlock))] (.tup [.agg [.v (.int .i64 f.regs), .r 2], .r 3]) 4 [(2, .row 72 5 ((tidyG f).blocks.map eBlock)), (3, .fz 1 ((pathsL f).map eIs))] := by
 have hpi : ∀ p ∈ pathsL f, 1 ≤ p.length ∧ p.length ≤ f.blocks.length ∧ ∀ x ∈ p, 0 ≤ x ∧ x < (f.blocks.length : Int) := fun p h => path_in hi h
 have hpl : (pathsL f).length ≤ f.blocks.length := pathsTo_le f _
 refine spec_of D (fn := Try.f26) rfl rfl (Nat.le_of_ble_eq_true rfl) ?_
 refine W_seq ?_
 refine W_seqK (b' := 50) rfl rfl ?_
 refine q1 1 2 1 rfl rfl (T_box rfl rfl flat_agg) rfl ?_
 refine qn 2 18 2 rfl rfl (T_nilbox [(72, 5)] (T_alloc D rfl rfl rfl) rfl (.cons (.same _) <| .cons (.nil rfl) <| .nil) (upd' := [(18, .box 29 [.v (.int .i64 0), .r 19]), (19, .row 72 5 (List.map eBlock ([] : List (GBlock))))]) (nn' := 2) rfl rfl) rfl ?_
 refine q1 3 34 3 rfl rfl (T_nils [(52, 1)] (T_assign rfl rfl) rfl (.inr ⟨rfl, rfl⟩) (.cons (.nil rfl) .nil) (lv' := .r 34) (upd' := [(34, .row 52 1 (List.map eIs ([] : List (List Int))))]) (nn' := 1) rfl rfl) rfl ?_
 refine k_done rfl ?_
 refine thenK_n ?_
 refine W_seq ?_
 refine W_seqK (b' := 114) rfl rfl ?_
 refine q0 11 50 1 rfl rfl (T_load_bA D (l := [_, _]) rfl rfl rfl rfl rfl rfl rfl) rfl ?_
 refine q1 12 66 2 rfl rfl (T_callR (lvs := [_]) (L := [(1, 1)]) (keep := false) (paths_spec _ hb hi) body66 rfl rfl rfl rfl (.fz rfl (.nil)) rfl (.inl rfl) rfl) rfl ?_
 refine qn 4 82 3 rfl rfl (T_nilbox [(52, 1)] (T_alloc D rfl rfl rfl) rfl (.cons (.nil rfl) <| .nil) (upd' := [(82, .box 30 [.r 83]), (83, .row 52 1 (List.map eIs ([] : List (List Int))))]) (nn' := 2) rfl rfl) rfl ?_
 refine s1 98 4 rfl rfl (T_stB D (cs' := [_]) rfl rfl rfl rfl (flat_sl rfl) rfl rfl (Nat.le_of_ble_eq_true rfl) rfl) rfl ?_
 refine k_done rfl ?_
 refine thenK_n ?_
 refine W_seq ?_
 refine W_seqK (b' := 146) rfl rfl ?_
 refine q0 13 114 1 rfl rfl (T_makeFunc (l := [_]) rfl rfl) rfl ?_
 refine q0 5 130 2 rfl rfl (T_assign rfl rfl) rfl ?_
 refine k_done rfl ?_
 refine thenK_n ?_
 refine W_seq ?_
 refine W_seqK (b' := 226) rfl rfl ?_
 refine q0 14 146 1 rfl rfl (T_fa D (m := 0) rfl rfl rfl rfl rfl rfl) rfl ?_
 refine q0 15 162 2 rfl rfl (T_load_b D rfl rfl rfl rfl rfl rfl) rfl ?_
 refine q1 16 178 3 rfl rfl (T_nils [(72, 5)] (T_build D (l := [_, _]) rfl rfl rfl rfl (.cons rfl (flat_v rfl) (.nil)) rfl rfl) rfl (.inl ⟨rfl, rfl⟩) (.cons (.same _) <| .cons (.nil rfl) <| .nil) (lv' := .agg [_, .r 178]) (upd' := [(178, .row 72 5 (List.map eBlock ([] : List (GBlock))))]) (nn' := 1) rfl rfl) rfl ?_
 refine qn 6 194 4 rfl rfl (T_nilbox [(72, 5)] (T_alloc D rfl rfl rfl) rfl (.cons (.same _) <| .cons (.nil rfl) <| .nil) (upd' := [(194, .box 29 [.v (.int .i64 0), .r 195]), (195, .row 72 5 (List.map eBlock ([] : List (GBlock))))]) (nn' := 2) rfl rfl) rfl ?_
 refine s1 210 5 rfl rfl (T_stB D (cs' := [_, _]) rfl rfl rfl rfl flat_agg rfl rfl (Nat.le_of_ble_eq_true rfl) rfl) rfl ?_
 refine k_done rfl ?_
 refine thenK_n ?_
 refine W_seq ?_
 refine W_seq ?_
 refine W_seqK (b' := 274) rfl rfl ?_
 refine q0 17 226 1 rfl rfl (T_load_b D rfl rfl rfl rfl rfl rfl) rfl ?_
 refine q0 18 242 2 rfl rfl (T_len D rfl rfl rfl rfl rfl rfl) rfl ?_
 refine q0 19 258 3 rfl rfl (T_move rfl rfl) rfl ?_
 refine k_done rfl ?_
 refine thenK_n ?_
 refine W_block ?_
 refine W_loop (ι := Nat) 9 (fun j => ⟨[(1, .p 2 0), (2, .p 3 0), (4, .p 5 0), (5, .fn 67 [.p 5 0]), (6, .p 7 0), (17, .r 6), (18, .v (.int .i64 ((pathsL f).length : Int))), (19, .v (.int .i64 (j : Int)))], [(1, .fz 5 (f.blocks.map eBlock)), (2, .box 29 [.v (.int .i64 f.regs), .r 1]), (3, .box 29 [.v (.int .i64 0), .r 4]), (4, .row 72 5 (([] : List GBlock).map eBlock)), (5, .box 30 [.r 6]), (6, .fz 1 ((pathsL f).map eIs)), (7, .box 29 [.v (.int .i64 f.regs), .r 8]), (8, .row 72 5 ((((pathsL f).take j).map (newBlock f (pathsL f))).map eBlock))]⟩) (fun j => j ≤ (pathsL f).length) (fun j => (pathsL f).length - j) (0) (by exact Nat.zero_le _) ?_ (fun j hJ => ?_)
 ·exact ⟨[(2, 2), (3, 18), (4, 19), (5, 82), (6, 66), (7, 194), (8, 178)], .same rfl rfl (.same rfl rfl (.same rfl rfl (.same rfl rfl (.same rfl rfl (.same rfl rfl (.eq rfl (.eq rfl (.nil) (by first | rfl | simp)) (by first | rfl | simp))))))), .fzE rfl (.box (by first | rfl | simp) (.box (by first | rfl | simp) (.rowE rfl (.box (by first | rfl | simp) (.lendE rfl (.box (by first | rfl | simp) (.rowE rfl (.nil) (by first | rfl | simp))) (by first | rfl | simp))) (by first | rfl | simp)))) (by first | rfl | simp), rfl⟩
 have hj := fun h => hpi ((pathsL f).getD j default) (getD_mem h)
 have hlj := fun h => last_in (hj h).1 (hj h).2.2
 simp only [lastOf] at hlj
 refine W_seq ?_
 refine W_seqK (b' := 25) rfl rfl ?_
 refine q0 20 9 1 rfl rfl (T_cmp rfl rfl rfl rfl) rfl ?_
 refine k_done rfl ?_
 refine thenK_n ?_
 refine W_seq ?_
 refine W_cond rfl (fun g1 => ?_) (fun g1 => ?_)
 ·have h1 := c_lss_t g1
  refine W_skip ?_
  refine thenK_n ?_
  refine W_seq ?_
  refine W_block ?_
  refine W_seq ?_
  refine W_seqK (b' := 73) rfl rfl ?_
  first | refine q0 21 25 1 rfl rfl (T_indexAddr D rfl rfl rfl rfl rfl rfl rfl rfl (by first | assumption | omega | (simp; omega) | (have k := hj (by omega); omega) | (have k := hlj (by omega); omega))) rfl ?_ | refine q0 21 25 1 rfl rfl (T_indexAddrZ D rfl rfl rfl rfl rfl rfl rfl rfl (by first | assumption | omega | (simp; omega) | (have k := hj (by omega); omega) | (have k := hlj (by omega); omega)) (by first | assumption | omega | (simp; omega) | (have k := hj (by omega); omega) | (have k := hlj (by omega); omega))) rfl ?_
  refine q1 22 41 2 rfl rfl (T_ldE D (lv := .r 41) (nn := 1) (upd := [(41, .fz 1 _)]) rfl rfl rfl rfl rfl (by first | assumption | omega | (simp; omega) | (have k := hj (by omega); omega) | (have k := hlj (by omega); omega)) rfl rfl rfl rfl) rfl ?_
  refine q0 8 57 3 rfl rfl (T_assign rfl rfl) rfl ?_
  refine k_done rfl ?_
  refine thenK_n ?_
  refine W_seq ?_
  refine W_anyK (b' := 265) rfl rfl rfl ?_
  refine q0 23 73 1 rfl rfl (T_fa D (m := 1) rfl rfl rfl rfl rfl rfl) rfl ?_
  refine q0 24 89 2 rfl rfl (T_load_b D rfl rfl rfl rfl rfl rfl) rfl ?_
  refine q0 25 105 3 rfl rfl (T_move rfl rfl) rfl ?_
  refine q0 26 121 4 rfl rfl (T_move rfl rfl) rfl ?_
  refine q0 27 137 5 rfl rfl (T_len D rfl rfl rfl rfl rfl rfl) rfl ?_
  refine q0 28 153 6 rfl rfl (T_sub64 rfl rfl rfl (by first | assumption | omega | (simp; omega) | (have k := hj (by omega); omega) | (have k := hlj (by omega); omega))) rfl ?_
  first | refine q0 29 169 7 rfl rfl (T_indexAddr D rfl rfl rfl rfl rfl rfl rfl rfl (by first | assumption | omega | (simp; omega) | (have k := hj (by omega); omega) | (have k := hlj (by omega); omega))) rfl ?_ | refine q0 29 169 7 rfl rfl (T_indexAddrZ D rfl rfl rfl rfl rfl rfl rfl rfl (by first | assumption | omega | (simp; omega) | (have k := hj (by omega); omega) | (have k := hlj (by omega); omega)) (by first | assumption | omega | (simp; omega) | (have k := hj (by omega); omega) | (have k := hlj (by omega); omega))) rfl ?_
  refine q0 30 185 8 rfl rfl (T_ldE D (lv := .v _) (nn := 0) (upd := []) rfl rfl rfl rfl rfl (by first | assumption | omega | (simp; omega) | (have k := hj (by omega); omega) | (have k := hlj (by omega); omega)) rfl rfl rfl rfl) rfl ?_
  first | refine q0 31 201 9 rfl rfl (T_indexAddr D rfl rfl rfl rfl rfl rfl rfl rfl (by first | assumption | omega | (simp; omega) | (have k := hj (by omega); omega) | (have k := hlj (by omega); omega))) rfl ?_ | refine q0 31 201 9 rfl rfl (T_indexAddrZ D rfl rfl rfl rfl rfl rfl rfl rfl (by first | assumption | omega | (simp; omega) | (have k := hj (by omega); omega) | (have k := hlj (by omega); omega)) (by first | assumption | omega | (simp; omega) | (have k := hj (by omega); omega) | (have k := hlj (by omega); omega))) rfl ?_
  refine q1 32 217 10 rfl rfl (T_ldEA D (l := [.r 217, .v _, .v _, .v _, .v _]) (nn := 1) (upd := [(217, .fz 8 _)]) rfl rfl rfl rfl rfl (by first | assumption | omega | (simp; omega) | (have k := hj (by omega); omega) | (have k := hlj (by omega); omega)) rfl rfl rfl rfl rfl) rfl ?_
  refine qn 9 233 11 rfl rfl (T_nilbox [(70, 8)] (T_alloc D rfl rfl rfl) rfl (.cons (.nil rfl) <| .cons (.same _) <| .cons (.same _) <| .cons (.same _) <| .cons (.same _) <| .nil) (upd' := [(233, .box 72 [.r 234, .v (.int .i64 0), .v (.int .i64 0), .v (.int .i64 0), .v (.int .i64 0)]), (234, .row 70 8 (List.map eTac ([] : List (GTac))))]) (nn' := 2) rfl rfl) rfl ?_
  refine s1 249 12 rfl rfl (T_stB D (cs' := [_, _, _, _, _]) rfl rfl rfl rfl flat_agg rfl rfl (Nat.le_of_ble_eq_true rfl) rfl) rfl ?_
  refine k_done rfl ?_
  refine ⟨rfl, ?_⟩
  refine thenK_n ?_
  refine W_seq ?_
  refine W_anyK (b' := 425) rfl rfl rfl ?_
  refine q0 33 265 1 rfl rfl (T_load_bA D (l := [_, _]) rfl rfl rfl rfl rfl rfl rfl) rfl ?_
  refine q0 34 281 2 rfl rfl (T_move rfl rfl) rfl ?_
  refine q1 35 297 3 rfl rfl (T_call (lvs := [_, _]) (L := [(1, 1), (2, 41)]) (lv := .r 297) (upd := [(297, .fz 8 _)]) (nn := 1) false (instrs_spec _ _ ⟨by have := hj (by omega); omega, fun i h => (hj (by omega)).2.2 _ (getD_mem h)⟩ (instrs_small hb hc (hj (by omega)).2.1)) body70 rfl rfl rfl rfl (.fz rfl (.fz rfl (.nil))) rfl (.inl rfl) rfl rfl rfl) rfl ?_
  refine q0 36 313 4 rfl rfl (T_fa D (m := 1) rfl rfl rfl rfl rfl rfl) rfl ?_
  refine q0 37 329 5 rfl rfl (T_load_b D rfl rfl rfl rfl rfl rfl) rfl ?_
  refine q0 38 345 6 rfl rfl (T_fa D (m := 2) rfl rfl rfl rfl rfl rfl) rfl ?_
  refine q0 39 361 7 rfl rfl (T_load_b D rfl rfl rfl rfl rfl rfl) rfl ?_
  refine q0 40 377 8 rfl rfl (T_build D (l := [_, _, _, _, _]) rfl rfl rfl rfl (.cons rfl (flat_sl rfl) (.cons rfl (flat_v rfl) (.cons rfl (flat_v rfl) (.nil)))) rfl rfl) rfl ?_
  refine qn 10 393 9 rfl rfl (T_nilbox [(70, 8)] (T_alloc D rfl rfl rfl) rfl (.cons (.nil rfl) <| .cons (.same _) <| .cons (.same _) <| .cons (.same _) <| .cons (.same _) <| .nil) (upd' := [(393, .box 72 [.r 394, .v (.int .i64 0), .v (.int .i64 0), .v (.int .i64 0), .v (.int .i64 0)]), (394, .row 70 8 (List.map eTac ([] : List (GTac))))]) (nn' := 2) rfl rfl) rfl ?_
  refine s1 409 10 rfl rfl (T_stB D (cs' := [_, _, _, _, _]) rfl rfl rfl rfl flat_agg rfl rfl (Nat.le_of_ble_eq_true rfl) rfl) rfl ?_
  refine k_done rfl ?_
  refine ⟨rfl, ?_⟩
  refine thenK_n ?_
  refine W_seq ?_
  refine W_seq ?_
  refine W_seqK (b' := 473) rfl rfl ?_
  refine q0 41 425 1 rfl rfl (T_fa D (m := 1) rfl rfl rfl rfl rfl rfl) rfl ?_
  refine q0 42 441 2 rfl rfl (T_load_b D rfl rfl rfl rfl rfl rfl) rfl ?_
  refine q0 43 457 3 rfl rfl (T_cmp rfl rfl rfl rfl) rfl ?_
  refine k_done rfl ?_
  refine thenK_n ?_
  refine W_cond rfl (fun g2 => ?_) (fun g2 => ?_)
  ·have h2 := c_neq_t g2
   refine W_seqK (b' := 569) rfl rfl ?_
   refine q0 44 473 1 rfl rfl (T_move rfl rfl) rfl ?_
   refine q0 45 489 2 rfl rfl (T_fa D (m := 3) rfl rfl rfl rfl rfl rfl) rfl ?_
   refine q0 46 505 3 rfl rfl (T_load_b D rfl rfl rfl rfl rfl rfl) rfl ?_
   refine q1 47 521 4 rfl rfl (T_call (lvs := [_]) (L := [(1, 5), (2, 6)]) (lv := .v _) (upd := [(5, .box 30 [.r 6])]) (nn := 0) false (of1_spec (pathsL f) _ (by omega) (fun p h => (hpi p h).1)) body67 rfl rfl rfl rfl (.box rfl (.fz rfl (.nil))) rfl (.inl rfl) rfl rfl rfl) rfl ?_
   refine q0 48 537 5 rfl rfl (T_fa D (m := 3) rfl rfl rfl rfl rfl rfl) rfl ?_
   refine s1 553 6 rfl rfl (T_stB D (cs' := [_, _, _, _, _]) rfl rfl rfl rfl (flat_v rfl) rfl rfl (Nat.le_of_ble_eq_true rfl) rfl) rfl ?_
   refine k_done rfl ?_
   refine thenK_n ?_
   refine W_seq ?_
   refine W_seq ?_
   refine W_seqK (b' := 617) rfl rfl ?_
   refine q0 49 569 1 rfl rfl (T_fa D (m := 1) rfl rfl rfl rfl rfl rfl) rfl ?_
   refine q0 50 585 2 rfl rfl (T_load_b D rfl rfl rfl rfl rfl rfl) rfl ?_
   refine q0 51 601 3 rfl rfl (T_cmp rfl rfl rfl rfl) rfl ?_
   refine k_done rfl ?_
   refine thenK_n ?_
   refine W_cond rfl (fun g3 => ?_) (fun g3 => ?_)
   ·have h3 := c_eql_t g3
    refine W_seqK (b' := 713) rfl rfl ?_
    refine q0 52 617 1 rfl rfl (T_move rfl rfl) rfl ?_
    refine q0 53 633 2 rfl rfl (T_fa D (m := 4) rfl rfl rfl rfl rfl rfl) rfl ?_
    refine q0 54 649 3 rfl rfl (T_load_b D rfl rfl rfl rfl rfl rfl) rfl ?_
    refine q1 55 665 4 rfl rfl (T_call (lvs := [_]) (L := [(1, 5), (2, 6)]) (lv := .v _) (upd := [(5, .box 30 [.r 6])]) (nn := 0) false (of1_spec (pathsL f) _ (by omega) (fun p h => (hpi p h).1)) body67 rfl rfl rfl rfl (.box rfl (.fz rfl (.nil))) rfl (.inl rfl) rfl rfl rfl) rfl ?_
    refine q0 56 681 5 rfl rfl (T_fa D (m := 4) rfl rfl rfl rfl rfl rfl) rfl ?_
    refine s1 697 6 rfl rfl (T_stB D (cs' := [_, _, _, _, _]) rfl rfl rfl rfl (flat_v rfl) rfl rfl (Nat.le_of_ble_eq_true rfl) rfl) rfl ?_
    refine k_done rfl ?_
    refine thenK_n ?_
    refine W_seqK (b' := 825) rfl rfl ?_
    refine q0 57 713 1 rfl rfl (T_fa D (m := 1) rfl rfl rfl rfl rfl rfl) rfl ?_
    refine q0 58 729 2 rfl rfl (T_load_b D rfl rfl rfl rfl rfl rfl) rfl ?_
    refine q0 59 745 3 rfl rfl (T_load_bA D (l := [_, _, _, _, _]) rfl rfl rfl rfl rfl rfl rfl) rfl ?_
    refine q1 60 761 4 rfl rfl (T_bs D (ys := [⟨_, _, _, _, _⟩]) (enc := eBlock) (l := [_, _, _, _, _]) rfl rfl rfl rfl rfl rfl (.cons rfl flat_agg (.nil)) rfl rfl rfl rfl (.fz rfl (.v rfl (.v rfl (.v rfl (.v rfl (.nil)))))) rfl rfl) rfl ?_
    refine qn 61 777 5 rfl rfl (T_append D rfl rfl rfl rfl rfl rfl rfl rfl rfl rfl rfl rfl (by (try simp only [ty72]); first | assumption | omega | (simp; omega) | (have k := hj (by omega); omega) | (have k := hlj (by omega); omega)) (by (try simp only [ty72]); first | assumption | omega | (simp; omega) | (have k := hj (by omega); omega) | (have k := hlj (by omega); omega))) rfl ?_
    refine q0 62 793 6 rfl rfl (T_fa D (m := 1) rfl rfl rfl rfl rfl rfl) rfl ?_
    refine s1 809 7 rfl rfl (T_stB D (cs' := [_, _]) rfl rfl rfl rfl (flat_sl rfl) rfl rfl (Nat.le_of_ble_eq_true rfl) rfl) rfl ?_
    refine k_done rfl ?_
    refine blockK_n ?_
    refine thenK_n ?_
    refine W_seqK (b' := 857) rfl rfl ?_
    refine q0 63 825 1 rfl rfl (T_add64 rfl rfl rfl (by first | assumption | omega | (simp; omega) | (have k := hj (by omega); omega) | (have k := hlj (by omega); omega))) rfl ?_
    refine q0 19 841 2 rfl rfl (T_move rfl rfl) rfl ?_
    refine k_done rfl ?_
    refine thenK_n ?_
    refine ⟨j + 1, by (try dsimp only); omega, by (try dsimp only); omega, ?_⟩
    exact ⟨[(2, 2), (3, 3), (4, 4), (5, 5), (6, 6), (7, 7), (8, 777)], .same rfl rfl (.same rfl rfl (.same rfl rfl (.same rfl rfl (.same rfl rfl (.same rfl rfl (.eq rfl (.eq rfl (.nil) (by first | rfl | (exfalso; omega) | (refine tidy_step (by omega) (newBlock_eq rfl rfl rfl ?_ ?_) <;> first | exact (if_pos (by assumption)).symm | exact (if_neg (by assumption)).symm))) rfl)))))), .fzE rfl (.box (by first | rfl | (exfalso; omega) | (refine tidy_step (by omega) (newBlock_eq rfl rfl rfl ?_ ?_) <;> first | exact (if_pos (by assumption)).symm | exact (if_neg (by assumption)).symm)) (.box (by first | rfl | (exfalso; omega) | (refine tidy_step (by omega) (newBlock_eq rfl rfl rfl ?_ ?_) <;> first | exact (if_pos (by assumption)).symm | exact (if_neg (by assumption)).symm)) (.rowE rfl (.box (by first | rfl | (exfalso; omega) | (refine tidy_step (by omega) (newBlock_eq rfl rfl rfl ?_ ?_) <;> first | exact (if_pos (by assumption)).symm | exact (if_neg (by assumption)).symm)) (.fzE rfl (.box (by first | rfl | (exfalso; omega) | (refine tidy_step (by omega) (newBlock_eq rfl rfl rfl ?_ ?_) <;> first | exact (if_pos (by assumption)).symm | exact (if_neg (by assumption)).symm)) (.rowE rfl (.nil) (by first | rfl | (exfalso; omega) | (refine tidy_step (by omega) (newBlock_eq rfl rfl rfl ?_ ?_) <;> first | exact (if_pos (by assumption)).symm | exact (if_neg (by assumption)).symm)))) rfl)) (by first | rfl | (exfalso; omega) | (refine tidy_step (by omega) (newBlock_eq rfl rfl rfl ?_ ?_) <;> first | exact (if_pos (by assumption)).symm | exact (if_neg (by assumption)).symm))))) rfl, rfl⟩
   ·have h3 := c_eql_f g3
    refine W_skip ?_
    refine thenK_n ?_
    refine W_seqK (b' := 729) rfl rfl ?_
    refine q0 57 617 1 rfl rfl (T_fa D (m := 1) rfl rfl rfl rfl rfl rfl) rfl ?_
    refine q0 58 633 2 rfl rfl (T_load_b D rfl rfl rfl rfl rfl rfl) rfl ?_
    refine q0 59 649 3 rfl rfl (T_load_bA D (l := [_, _, _, _, _]) rfl rfl rfl rfl rfl rfl rfl) rfl ?_
    refine q1 60 665 4 rfl rfl (T_bs D (ys := [⟨_, _, _, _, _⟩]) (enc := eBlock) (l := [_, _, _, _, _]) rfl rfl rfl rfl rfl rfl (.cons rfl flat_agg (.nil)) rfl rfl rfl rfl (.fz rfl (.v rfl (.v rfl (.v rfl (.v rfl (.nil)))))) rfl rfl) rfl ?_
    refine qn 61 681 5 rfl rfl (T_append D rfl rfl rfl rfl rfl rfl rfl rfl rfl rfl rfl rfl (by (try simp only [ty72]); first | assumption | omega | (simp; omega) | (have k := hj (by omega); omega) | (have k := hlj (by omega); omega)) (by (try simp only [ty72]); first | assumption | omega | (simp; omega) | (have k := hj (by omega); omega) | (have k := hlj (by omega); omega))) rfl ?_
    refine q0 62 697 6 rfl rfl (T_fa D (m := 1) rfl rfl rfl rfl rfl rfl) rfl ?_
    refine s1 713 7 rfl rfl (T_stB D (cs' := [_, _]) rfl rfl rfl rfl (flat_sl rfl) rfl rfl (Nat.le_of_ble_eq_true rfl) rfl) rfl ?_
    refine k_done rfl ?_
    refine blockK_n ?_
    refine thenK_n ?_
    refine W_seqK (b' := 761) rfl rfl ?_
    refine q0 63 729 1 rfl rfl (T_add64 rfl rfl rfl (by first | assumption | omega | (simp; omega) | (have k := hj (by omega); omega) | (have k := hlj (by omega); omega))) rfl ?_
    refine q0 19 745 2 rfl rfl (T_move rfl rfl) rfl ?_
    refine k_done rfl ?_
    refine thenK_n ?_
    refine ⟨j + 1, by (try dsimp only); omega, by (try dsimp only); omega, ?_⟩
    exact ⟨[(2, 2), (3, 3), (4, 4), (5, 5), (6, 6), (7, 7), (8, 681)], .same rfl rfl (.same rfl rfl (.same rfl rfl (.same rfl rfl (.same rfl rfl (.same rfl rfl (.eq rfl (.eq rfl (.nil) (by first | rfl | (exfalso; omega) | (refine tidy_step (by omega) (newBlock_eq rfl rfl rfl ?_ ?_) <;> first | exact (if_pos (by assumption)).symm | exact (if_neg (by assumption)).symm))) rfl)))))), .fzE rfl (.box (by first | rfl | (exfalso; omega) | (refine tidy_step (by omega) (newBlock_eq rfl rfl rfl ?_ ?_) <;> first | exact (if_pos (by assumption)).symm | exact (if_neg (by assumption)).symm)) (.box (by first | rfl | (exfalso; omega) | (refine tidy_step (by omega) (newBlock_eq rfl rfl rfl ?_ ?_) <;> first | exact (if_pos (by assumption)).symm | exact (if_neg (by assumption)).symm)) (.rowE rfl (.box (by first | rfl | (exfalso; omega) | (refine tidy_step (by omega) (newBlock_eq rfl rfl rfl ?_ ?_) <;> first | exact (if_pos (by assumption)).symm | exact (if_neg (by assumption)).symm)) (.fzE rfl (.box (by first | rfl | (exfalso; omega) | (refine tidy_step (by omega) (newBlock_eq rfl rfl rfl ?_ ?_) <;> first | exact (if_pos (by assumption)).symm | exact (if_neg (by assumption)).symm)) (.rowE rfl (.nil) (by first | rfl | (exfalso; omega) | (refine tidy_step (by omega) (newBlock_eq rfl rfl rfl ?_ ?_) <;> first | exact (if_pos (by assumption)).symm | exact (if_neg (by assumption)).symm)))) rfl)) (by first | rfl | (exfalso; omega) | (refine tidy_step (by omega) (newBlock_eq rfl rfl rfl ?_ ?_) <;> first | exact (if_pos (by assumption)).symm | exact (if_neg (by assumption)).symm))))) rfl, rfl⟩
  ·have h2 := c_neq_f g2
   refine W_skip ?_
   refine thenK_n ?_
   refine W_seq ?_
   refine W_seq ?_
   refine W_seqK (b' := 521) rfl rfl ?_
   refine q0 49 473 1 rfl rfl (T_fa D (m := 1) rfl rfl rfl rfl rfl rfl) rfl ?_
   refine q0 50 489 2 rfl rfl (T_load_b D rfl rfl rfl rfl rfl rfl) rfl ?_
   refine q0 51 505 3 rfl rfl (T_cmp rfl rfl rfl rfl) rfl ?_
   refine k_done rfl ?_
   refine thenK_n ?_
   refine W_cond rfl (fun g4 => ?_) (fun g4 => ?_)
   ·have h4 := c_eql_t g4
    refine W_seqK (b' := 617) rfl rfl ?_
    refine q0 52 521 1 rfl rfl (T_move rfl rfl) rfl ?_
    refine q0 53 537 2 rfl rfl (T_fa D (m := 4) rfl rfl rfl rfl rfl rfl) rfl ?_
    refine q0 54 553 3 rfl rfl (T_load_b D rfl rfl rfl rfl rfl rfl) rfl ?_
    refine q1 55 569 4 rfl rfl (T_call (lvs := [_]) (L := [(1, 5), (2, 6)]) (lv := .v _) (upd := [(5, .box 30 [.r 6])]) (nn := 0) false (of1_spec (pathsL f) _ (by omega) (fun p h => (hpi p h).1)) body67 rfl rfl rfl rfl (.box rfl (.fz rfl (.nil))) rfl (.inl rfl) rfl rfl rfl) rfl ?_
    refine q0 56 585 5 rfl rfl (T_fa D (m := 4) rfl rfl rfl rfl rfl rfl) rfl ?_
    refine s1 601 6 rfl rfl (T_stB D (cs' := [_, _, _, _, _]) rfl rfl rfl rfl (flat_v rfl) rfl rfl (Nat.le_of_ble_eq_true rfl) rfl) rfl ?_
    refine k_done rfl ?_
    refine thenK_n ?_
    refine W_seqK (b' := 729) rfl rfl ?_
    refine q0 57 617 1 rfl rfl (T_fa D (m := 1) rfl rfl rfl rfl rfl rfl) rfl ?_
    refine q0 58 633 2 rfl rfl (T_load_b D rfl rfl rfl rfl rfl rfl) rfl ?_
    refine q0 59 649 3 rfl rfl (T_load_bA D (l := [_, _, _, _, _]) rfl rfl rfl rfl rfl rfl rfl) rfl ?_
    refine q1 60 665 4 rfl rfl (T_bs D (ys := [⟨_, _, _, _, _⟩]) (enc := eBlock) (l := [_, _, _, _, _]) rfl rfl rfl rfl rfl rfl (.cons rfl flat_agg (.nil)) rfl rfl rfl rfl (.fz rfl (.v rfl (.v rfl (.v rfl (.v rfl (.nil)))))) rfl rfl) rfl ?_
    refine qn 61 681 5 rfl rfl (T_append D rfl rfl rfl rfl rfl rfl rfl rfl rfl rfl rfl rfl (by (try simp only [ty72]); first | assumption | omega | (simp; omega) | (have k := hj (by omega); omega) | (have k := hlj (by omega); omega)) (by (try simp only [ty72]); first | assumption | omega | (simp; omega) | (have k := hj (by omega); omega) | (have k := hlj (by omega); omega))) rfl ?_
    refine q0 62 697 6 rfl rfl (T_fa D (m := 1) rfl rfl rfl rfl rfl rfl) rfl ?_
    refine s1 713 7 rfl rfl (T_stB D (cs' := [_, _]) rfl rfl rfl rfl (flat_sl rfl) rfl rfl (Nat.le_of_ble_eq_true rfl) rfl) rfl ?_
    refine k_done rfl ?_
    refine blockK_n ?_
    refine thenK_n ?_
    refine W_seqK (b' := 761) rfl rfl ?_
    refine q0 63 729 1 rfl rfl (T_add64 rfl rfl rfl (by first | assumption | omega | (simp; omega) | (have k := hj (by omega); omega) | (have k := hlj (by omega); omega))) rfl ?_
    refine q0 19 745 2 rfl rfl (T_move rfl rfl) rfl ?_
    refine k_done rfl ?_
    refine thenK_n ?_
    refine ⟨j + 1, by (try dsimp only); omega, by (try dsimp only); omega, ?_⟩
    exact ⟨[(2, 2), (3, 3), (4, 4), (5, 5), (6, 6), (7, 7), (8, 681)], .same rfl rfl (.same rfl rfl (.same rfl rfl (.same rfl rfl (.same rfl rfl (.same rfl rfl (.eq rfl (.eq rfl (.nil) (by first | rfl | (exfalso; omega) | (refine tidy_step (by omega) (newBlock_eq rfl rfl rfl ?_ ?_) <;> first | exact (if_pos (by assumption)).symm | exact (if_neg (by assumption)).symm))) rfl)))))), .fzE rfl (.box (by first | rfl | (exfalso; omega) | (refine tidy_step (by omega) (newBlock_eq rfl rfl rfl ?_ ?_) <;> first | exact (if_pos (by assumption)).symm | exact (if_neg (by assumption)).symm)) (.box (by first | rfl | (exfalso; omega) | (refine tidy_step (by omega) (newBlock_eq rfl rfl rfl ?_ ?_) <;> first | exact (if_pos (by assumption)).symm | exact (if_neg (by assumption)).symm)) (.rowE rfl (.box (by first | rfl | (exfalso; omega) | (refine tidy_step (by omega) (newBlock_eq rfl rfl rfl ?_ ?_) <;> first | exact (if_pos (by assumption)).symm | exact (if_neg (by assumption)).symm)) (.fzE rfl (.box (by first | rfl | (exfalso; omega) | (refine tidy_step (by omega) (newBlock_eq rfl rfl rfl ?_ ?_) <;> first | exact (if_pos (by assumption)).symm | exact (if_neg (by assumption)).symm)) (.rowE rfl (.nil) (by first | rfl | (exfalso; omega) | (refine tidy_step (by omega) (newBlock_eq rfl rfl rfl ?_ ?_) <;> first | exact (if_pos (by assumption)).symm | exact (if_neg (by assumption)).symm)))) rfl)) (by first | rfl | (exfalso; omega) | (refine tidy_step (by omega) (newBlock_eq rfl rfl rfl ?_ ?_) <;> first | exact (if_pos (by assumption)).symm | exact (if_neg (by assumption)).symm))))) rfl, rfl⟩
   ·have h4 := c_eql_f g4
    refine W_skip ?_
    refine thenK_n ?_
    refine W_seqK (b' := 633) rfl rfl ?_
    refine q0 57 521 1 rfl rfl (T_fa D (m := 1) rfl rfl rfl rfl rfl rfl) rfl ?_
    refine q0 58 537 2 rfl rfl (T_load_b D rfl rfl rfl rfl rfl rfl) rfl ?_
    refine q0 59 553 3 rfl rfl (T_load_bA D (l := [_, _, _, _, _]) rfl rfl rfl rfl rfl rfl rfl) rfl ?_
    refine q1 60 569 4 rfl rfl (T_bs D (ys := [⟨_, _, _, _, _⟩]) (enc := eBlock) (l := [_, _, _, _, _]) rfl rfl rfl rfl rfl rfl (.cons rfl flat_agg (.nil)) rfl rfl rfl rfl (.fz rfl (.v rfl (.v rfl (.v rfl (.v rfl (.nil)))))) rfl rfl) rfl ?_
    refine qn 61 585 5 rfl rfl (T_append D rfl rfl rfl rfl rfl rfl rfl rfl rfl rfl rfl rfl (by (try simp only [ty72]); first | assumption | omega | (simp; omega) | (have k := hj (by omega); omega) | (have k := hlj (by omega); omega)) (by (try simp only [ty72]); first | assumption | omega | (simp; omega) | (have k := hj (by omega); omega) | (have k := hlj (by omega); omega))) rfl ?_
    refine q0 62 601 6 rfl rfl (T_fa D (m := 1) rfl rfl rfl rfl rfl rfl) rfl ?_
    refine s1 617 7 rfl rfl (T_stB D (cs' := [_, _]) rfl rfl rfl rfl (flat_sl rfl) rfl rfl (Nat.le_of_ble_eq_true rfl) rfl) rfl ?_
    refine k_done rfl ?_
    refine blockK_n ?_
    refine thenK_n ?_
    refine W_seqK (b' := 665) rfl rfl ?_
    refine q0 63 633 1 rfl rfl (T_add64 rfl rfl rfl (by first | assumption | omega | (simp; omega) | (have k := hj (by omega); omega) | (have k := hlj (by omega); omega))) rfl ?_
    refine q0 19 649 2 rfl rfl (T_move rfl rfl) rfl ?_
    refine k_done rfl ?_
    refine thenK_n ?_
    refine ⟨j + 1, by (try dsimp only); omega, by (try dsimp only); omega, ?_⟩
    exact ⟨[(2, 2), (3, 3), (4, 4), (5, 5), (6, 6), (7, 7), (8, 585)], .same rfl rfl (.same rfl rfl (.same rfl rfl (.same rfl rfl (.same rfl rfl (.same rfl rfl (.eq rfl (.eq rfl (.nil) (by first | rfl | (exfalso; omega) | (refine tidy_step (by omega) (newBlock_eq rfl rfl rfl ?_ ?_) <;> first | exact (if_pos (by assumption)).symm | exact (if_neg (by assumption)).symm))) rfl)))))), .fzE rfl (.box (by first | rfl | (exfalso; omega) | (refine tidy_step (by omega) (newBlock_eq rfl rfl rfl ?_ ?_) <;> first | exact (if_pos (by assumption)).symm | exact (if_neg (by assumption)).symm)) (.box (by first | rfl | (exfalso; omega) | (refine tidy_step (by omega) (newBlock_eq rfl rfl rfl ?_ ?_) <;> first | exact (if_pos (by assumption)).symm | exact (if_neg (by assumption)).symm)) (.rowE rfl (.box (by first | rfl | (exfalso; omega) | (refine tidy_step (by omega) (newBlock_eq rfl rfl rfl ?_ ?_) <;> first | exact (if_pos (by assumption)).symm | exact (if_neg (by assumption)).symm)) (.fzE rfl (.box (by first | rfl | (exfalso; omega) | (refine tidy_step (by omega) (newBlock_eq rfl rfl rfl ?_ ?_) <;> first | exact (if_pos (by assumption)).symm | exact (if_neg (by assumption)).symm)) (.rowE rfl (.nil) (by first | rfl | (exfalso; omega) | (refine tidy_step (by omega) (newBlock_eq rfl rfl rfl ?_ ?_) <;> first | exact (if_pos (by assumption)).symm | exact (if_neg (by assumption)).symm)))) rfl)) (by first | rfl | (exfalso; omega) | (refine tidy_step (by omega) (newBlock_eq rfl rfl rfl ?_ ?_) <;> first | exact (if_pos (by assumption)).symm | exact (if_neg (by assumption)).symm))))) rfl, rfl⟩
 ·have h1 := c_lss_f g1
  refine W_exit ?_
  refine thenK_e ?_
  refine thenK_e ?_
  refine blockK_hit ?_
  refine thenK_n ?_
  refine W_seq ?_
  refine W_anyK (b' := 89) rfl rfl rfl ?_
  refine q0 64 25 1 rfl rfl (T_load_bA D (l := [_, _]) rfl rfl rfl rfl rfl rfl rfl) rfl ?_
  refine q0 65 41 2 rfl rfl (T_load_b D rfl rfl rfl rfl rfl rfl) rfl ?_
  refine s1 57 3 rfl rfl (T_stB D (cs' := [_, _]) rfl rfl rfl rfl flat_agg rfl rfl (Nat.le_of_ble_eq_true rfl) rfl) rfl ?_
  refine q0 3 73 4 rfl rfl (T_assign rfl rfl) rfl ?_
  refine k_done rfl ?_
  refine ⟨rfl, ?_⟩
  refine thenK_n ?_
  refine W_ret ?_
  exact .mk [(2, 8), (3, 6)] (.inr rfl) (.cellA rfl rfl rfl rfl rfl (.tmp rfl (.nil))) (by first | rfl | (have e : j = (pathsL f).length := (by omega); rw [e, List.take_of_length_le (Nat.le_refl _)]; rfl)) (.rowE rfl (.fzE rfl (.nil) (by first | rfl | (have e : j = (pathsL f).length := (by omega); rw [e, List.take_of_length_le (Nat.le_refl _)]; rfl))) (by first | rfl | (have e : j = (pathsL f).length := (by omega); rw [e, List.take_of_length_le (Nat.le_refl _)]; rfl))) rfl
end Lg
end Go.Proofs.Ytpfhmodjjljpjaa

namespace Go.Proofs.Ytpfhmodjjljpjaa
open Go.RowKit
namespace Lg
theorem HR.lk {w0 w : World} {M : Fp} {U : Nat → Prop} {ρ : Nat → Value} {own : Nat → Option Nat} {o o' : List (Nat × Ob)} (h : HR w0 M U ρ own o w) (hl : ∀ i, o'.lookup i = o.lookup i) : HR w0 M U ρ own o' w :=
  ⟨fun i b hi => h.ob i b (by rw [← hl]; exact hi), h.gr, h.fr, by rw [hl]; exact h.z, h.z0, h.ag⟩
theorem spec_nil {P : Program} {f : Nat} {pre : List LV} {b0 sz : Nat} {oc : List (Nat × Ob)} {r : Value} (hs : Spec P f (pre ++ [.r b0]) (b0 + 1) (oc ++ [(b0, .fz sz [])]) (.v r) (b0 + 1) []) (hoc : oc.lookup b0 = none) :
    Spec P f (pre ++ [.v (.slice none 0 0)]) b0 oc (.v r) b0 [] := by
  intro w0 M ρ own w hM hr hu
  have hnil : Rd w (fun k => own k = none) (.sl sz []) (.slice none 0 0) := .sl sz [] none 0 (fun _ _ => undef) (Nat.le_refl _) (Nat.zero_le _) (by simp) (by simp) (by simp) (by simp)
  have hr1 := hr.addFz b0 (Nat.lt_irrefl _) hnil
  have hρ : ∀ i, i < b0 → upd1 ρ b0 (.slice none 0 0) i = ρ i := fun i hi => upd1_other _ _ (by omega)
  have hr2 := (hr1.mono (U' := fun c => c < b0 + 1) (fun i hi => by rcases hi with hi | hi <;> omega)).lk (o' := oc ++ [(b0, .fz sz [])]) (fun i => by
    simp only [lookup_append, List.lookup]
    by_cases hi : i = b0
    · subst hi
      rw [hoc]
      simp
    · have : (i == b0) = false := by simpa using hi
      rw [this]
      cases oc.lookup i <;> rfl)
  have hr3 : HR w0 ⟨M.mt, M.ok, b0 + 1, upd1 ρ b0 (.slice none 0 0), []⟩ (fun c => c < b0 + 1) (upd1 ρ b0 (.slice none 0 0)) own (oc ++ [(b0, .fz sz [])]) w :=
    ⟨hr2.ob, hr2.gr, hr2.fr, hr2.z, hr2.z0, fun i hi => ⟨hi, rfl⟩⟩
  have hup : LV.useds (fun c => c < b0) ρ pre := useds_iff.2 (fun x hx => useds_iff.1 hu x (List.mem_append_left _ hx))
  have hup2 : LV.useds (fun c => c < b0 + 1) (upd1 ρ b0 (.slice none 0 0)) pre := useds_mono hρ (fun i hi => by omega) pre hup
  have hu2 : LV.useds (fun c => c < b0 + 1) (upd1 ρ b0 (.slice none 0 0)) (pre ++ [.r b0]) := useds_iff.2 (fun x hx => by
    rcases List.mem_append.1 hx with hx | hx
    · exact useds_iff.1 hup2 x hx
    · simp at hx; subst hx; exact Nat.lt_succ_self _)
  have hv : LV.vals (upd1 ρ b0 (.slice none 0 0)) (pre ++ [.r b0]) = LV.vals ρ (pre ++ [.v (.slice none 0 0)]) := by
    rw [vals_append, vals_append, useds_congr hρ pre hup]
    simp [LV.vals, LV.val, upd1_same]
  have hcall := hs w0 ⟨M.mt, M.ok, b0 + 1, upd1 ρ b0 (.slice none 0 0), []⟩ _ own w rfl hr3 hu2
  rw [hv] at hcall
  refine Calls.mono hcall (fun e w' h => ?_)
  obtain ⟨ρ', own', h1, _, h3⟩ := h
  refine ⟨ρ', own', h1, trivial, ⟨fun i b hi => by simp at hi, h3.gr, h3.fr, rfl, by have := hr.z0; exact this, fun i hi => ?_⟩⟩
  have h4 := h3.ag i (show i < b0 + 1 by omega)
  have h5 := hr.ag i hi
  refine ⟨h5.1, h4.2.trans ?_⟩
  show upd1 ρ b0 _ i = _
  rw [hρ i (by omega)]
  exact h5.2
end Lg
end Go.Proofs.Ytpfhmodjjljpjaa

namespace Go.Proofs.Ytpfhmodjjljpjaa
open Go.RowKit
namespace Lg
set_option linter.unusedSimpArgs false
set_option linter.unusedVariables false
def aF : GFn := ⟨1, [⟨[⟨8, 0, 0, 0, 0, 0, 0, 0⟩], 1, 0, 2, 0⟩, ⟨[], 3, 0, 0, 0⟩, ⟨[⟨9, 0, 0, 0, 0, 0, 0, 0⟩], 3, 0, 0, 0⟩]⟩
def aG : GFn := ⟨1, [⟨[⟨8, 0, 0, 0, 0, 0, 0, 0⟩, ⟨9, 0, 0, 0, 0, 0, 0, 0⟩], 3, 0, 0, 0⟩]⟩
theorem aF_in : InN aF := by unfold InN; decide +kernel
theorem aF_g : tidyG aF = aG := by decide +kernel
theorem aF_p : pathsL aF = [[0, 2]] := by decide +kernel
theorem take_len {f : GFn} {p : List Int} {c : Nat} (h : ∀ b ∈ f.blocks, b.ins.length ≤ 1000) (hp : p.length ≤ 1000000) (j : Nat) : (instrs f (p.take j)).length ≤ 1000000000 := by
  have h1 := instrs_le h (p.take j)
  have h2 : (p.take j).length ≤ 1000000 := by rw [List.length_take]; omega
  have h3 := Nat.mul_le_mul_right 1000 h2
  omega
theorem aI (ps : List (List Int)) (h : ∀ p ∈ ps, p.length ≤ 1000000) : ∀ p ∈ ps, ∀ j, (instrs aF (p.take j)).length ≤ 1000000000 := fun p hp j => take_len (c := 0) (by decide) (h p hp) j
theorem aI1 : ∀ p ∈ pathsL aF, ∀ j, (instrs aF (p.take j)).length ≤ 1000000000 := aI _ (by decide +kernel)
theorem aI2 : ∀ p ∈ [[(0 : Int)]], ∀ j, (instrs aF (p.take j)).length ≤ 1000000000 := aI _ (by decide)
theorem aI3 : ∀ p ∈ ([] : List (List Int)), ∀ j, (instrs aF (p.take j)).length ≤ 1000000000 := aI _ (by decide)
end Lg
end Go.Proofs.Ytpfhmodjjljpjaa

namespace Go.Proofs.Ytpfhmodjjljpjaa
open Go.RowKit
namespace Lg
set_option maxRecDepth 100000
set_option linter.unusedVariables false
set_option linter.unusedSimpArgs false
theorem body24 : (Try.prog.funcs[24]?).map (fun fn => (fn.name == "runtime.NumGoroutine" || fn.body.isNone)) = some false := by kernel_rfl
theorem awake_spec  : Spec Try.prog 24 [] 1 [] (.v (.bool true)) 1 [] := by
 refine spec_of D (fn := Try.f24) rfl rfl (Nat.le_of_ble_eq_true rfl) ?_
 refine W_seq ?_
 refine W_seqK (b' := 17) rfl rfl ?_
 refine q0 0 1 1 rfl rfl (T_assign rfl rfl) rfl ?_
 refine k_done rfl ?_
 refine thenK_n ?_
 refine W_seq ?_
 refine W_seqK (b' := 193) rfl rfl ?_
 refine q0 5 17 1 rfl rfl (T_build D (l := [_, _, _, _, _, _, _, _]) rfl rfl rfl rfl (.cons rfl (flat_v rfl) (.nil)) rfl rfl) rfl ?_
 refine q1 6 33 2 rfl rfl (T_bs D (ys := [⟨_, _, _, _, _, _, _, _⟩]) (enc := eTac) (l := [_, _, _, _, _, _, _, _]) rfl rfl rfl rfl rfl rfl (.cons rfl flat_agg (.nil)) rfl rfl rfl rfl (.v rfl (.v rfl (.v rfl (.v rfl (.v rfl (.v rfl (.v rfl (.v rfl (.nil))))))))) rfl rfl) rfl ?_
 refine q0 7 49 3 rfl rfl (T_build D (l := [_, _, _, _, _]) rfl rfl rfl rfl (.cons rfl (flat_sl rfl) (.cons rfl (flat_v rfl) (.cons rfl (flat_v rfl) (.nil)))) rfl rfl) rfl ?_
 refine q1 8 65 4 rfl rfl (T_nils [(70, 8)] (T_build D (l := [_, _, _, _, _]) rfl rfl rfl rfl (.cons rfl (flat_v rfl) (.nil)) rfl rfl) rfl (.inl ⟨rfl, rfl⟩) (.cons (.nil rfl) <| .cons (.same _) <| .cons (.same _) <| .cons (.same _) <| .cons (.same _) <| .nil) (lv' := .agg [.r 65, _, _, _, _]) (upd' := [(65, .row 70 8 (List.map eTac ([] : List (GTac))))]) (nn' := 1) rfl rfl) rfl ?_
 refine q0 9 81 5 rfl rfl (T_build D (l := [_, _, _, _, _, _, _, _]) rfl rfl rfl rfl (.cons rfl (flat_v rfl) (.nil)) rfl rfl) rfl ?_
 refine q1 10 97 6 rfl rfl (T_bs D (ys := [⟨_, _, _, _, _, _, _, _⟩]) (enc := eTac) (l := [_, _, _, _, _, _, _, _]) rfl rfl rfl rfl rfl rfl (.cons rfl flat_agg (.nil)) rfl rfl rfl rfl (.v rfl (.v rfl (.v rfl (.v rfl (.v rfl (.v rfl (.v rfl (.v rfl (.nil))))))))) rfl rfl) rfl ?_
 refine q0 11 113 7 rfl rfl (T_build D (l := [_, _, _, _, _]) rfl rfl rfl rfl (.cons rfl (flat_sl rfl) (.cons rfl (flat_v rfl) (.nil))) rfl rfl) rfl ?_
 refine qn 12 129 8 rfl rfl (T_bs D (ys := [⟨_, _, _, _, _⟩, ⟨_, _, _, _, _⟩, ⟨_, _, _, _, _⟩]) (enc := eBlock) (l := [_, _, _, _, _, _, _, _, _, _, _, _, _, _, _]) rfl rfl rfl rfl rfl rfl (.cons rfl flat_agg (.cons rfl flat_agg (.cons rfl flat_agg (.nil)))) rfl rfl rfl rfl (.row rfl (.v rfl (.v rfl (.v rfl (.v rfl (.row rfl (.v rfl (.v rfl (.v rfl (.v rfl (.row rfl (.v rfl (.v rfl (.v rfl (.v rfl (.nil))))) rfl))))) rfl))))) rfl) rfl rfl) rfl ?_
 refine q0 13 145 9 rfl rfl (T_build D (l := [_, _]) rfl rfl rfl rfl (.cons rfl (flat_v rfl) (.cons rfl (flat_sl rfl) (.nil))) rfl rfl) rfl ?_
 refine qn 1 161 10 rfl rfl (T_nilbox [(72, 5)] (T_alloc D rfl rfl rfl) rfl (.cons (.same _) <| .cons (.nil rfl) <| .nil) (upd' := [(161, .box 29 [.v (.int .i64 0), .r 162]), (162, .row 72 5 (List.map eBlock ([] : List (GBlock))))]) (nn' := 2) rfl rfl) rfl ?_
 refine s1 177 11 rfl rfl (T_stB D (cs' := [_, _]) rfl rfl rfl rfl flat_agg rfl rfl (Nat.le_of_ble_eq_true rfl) rfl) rfl ?_
 refine k_done rfl ?_
 refine thenK_n ?_
 refine W_seq ?_
 refine W_seqK (b' := 321) rfl rfl ?_
 refine q0 14 193 1 rfl rfl (T_build D (l := [_, _, _, _, _, _, _, _]) rfl rfl rfl rfl (.cons rfl (flat_v rfl) (.nil)) rfl rfl) rfl ?_
 refine q0 15 209 2 rfl rfl (T_build D (l := [_, _, _, _, _, _, _, _]) rfl rfl rfl rfl (.cons rfl (flat_v rfl) (.nil)) rfl rfl) rfl ?_
 refine q1 16 225 3 rfl rfl (T_bs D (ys := [⟨_, _, _, _, _, _, _, _⟩, ⟨_, _, _, _, _, _, _, _⟩]) (enc := eTac) (l := [_, _, _, _, _, _, _, _, _, _, _, _, _, _, _, _]) rfl rfl rfl rfl rfl rfl (.cons rfl flat_agg (.cons rfl flat_agg (.nil))) rfl rfl rfl rfl (.v rfl (.v rfl (.v rfl (.v rfl (.v rfl (.v rfl (.v rfl (.v rfl (.v rfl (.v rfl (.v rfl (.v rfl (.v rfl (.v rfl (.v rfl (.v rfl (.nil))))))))))))))))) rfl rfl) rfl ?_
 refine q0 17 241 4 rfl rfl (T_build D (l := [_, _, _, _, _]) rfl rfl rfl rfl (.cons rfl (flat_sl rfl) (.cons rfl (flat_v rfl) (.nil))) rfl rfl) rfl ?_
 refine qn 18 257 5 rfl rfl (T_bs D (ys := [⟨_, _, _, _, _⟩]) (enc := eBlock) (l := [_, _, _, _, _]) rfl rfl rfl rfl rfl rfl (.cons rfl flat_agg (.nil)) rfl rfl rfl rfl (.row rfl (.v rfl (.v rfl (.v rfl (.v rfl (.nil))))) rfl) rfl rfl) rfl ?_
 refine q0 19 273 6 rfl rfl (T_build D (l := [_, _]) rfl rfl rfl rfl (.cons rfl (flat_v rfl) (.cons rfl (flat_sl rfl) (.nil))) rfl rfl) rfl ?_
 refine qn 2 289 7 rfl rfl (T_nilbox [(72, 5)] (T_alloc D rfl rfl rfl) rfl (.cons (.same _) <| .cons (.nil rfl) <| .nil) (upd' := [(289, .box 29 [.v (.int .i64 0), .r 290]), (290, .row 72 5 (List.map eBlock ([] : List (GBlock))))]) (nn' := 2) rfl rfl) rfl ?_
 refine s1 305 8 rfl rfl (T_stB D (cs' := [_, _]) rfl rfl rfl rfl flat_agg rfl rfl (Nat.le_of_ble_eq_true rfl) rfl) rfl ?_
 refine k_done rfl ?_
 refine thenK_n ?_
 refine W_seq ?_
 refine W_seqK (b' := 449) rfl rfl ?_
 refine q0 21 321 1 rfl rfl (T_load_bA D (l := [_, _]) rfl rfl rfl rfl rfl rfl rfl) rfl ?_
 refine qn 22 337 2 rfl rfl (T_call (lvs := [_]) (L := [(1, 129)]) (lv := .tup [.agg [.v _, .r 337], .r 338]) (upd := [(337, .row 72 5 _), (338, .fz 1 _), (129, .fz 5 _)]) (nn := 2) false (tidy_spec aF (by decide) aF_in (by decide)) body26 rfl rfl rfl rfl (.lend rfl (.nil)) rfl (.inl rfl) rfl rfl rfl) rfl ?_
 refine q0 20 353 3 rfl rfl (T_move rfl rfl) rfl ?_
 refine q0 23 369 4 rfl rfl (T_extract rfl rfl rfl) rfl ?_
 refine q0 24 385 5 rfl rfl (T_extract rfl rfl rfl) rfl ?_
 refine qn 3 401 6 rfl rfl (T_nilbox [(72, 5)] (T_alloc D rfl rfl rfl) rfl (.cons (.same _) <| .cons (.nil rfl) <| .nil) (upd' := [(401, .box 29 [.v (.int .i64 0), .r 402]), (402, .row 72 5 (List.map eBlock ([] : List (GBlock))))]) (nn' := 2) rfl rfl) rfl ?_
 refine s1 417 7 rfl rfl (T_stB D (cs' := [_, _]) rfl rfl rfl rfl flat_agg rfl rfl (Nat.le_of_ble_eq_true rfl) rfl) rfl ?_
 refine q0 4 433 8 rfl rfl (T_assign rfl rfl) rfl ?_
 refine k_done rfl ?_
 refine thenK_n ?_
 refine W_seq ?_
 refine W_seqK (b' := 1025) rfl rfl ?_
 refine q0 25 449 1 rfl rfl (T_load_bA D (l := [_, _]) rfl rfl rfl rfl rfl rfl rfl) rfl ?_
 refine q0 26 465 2 rfl rfl (T_load_bA D (l := [_, _]) rfl rfl rfl rfl rfl rfl rfl) rfl ?_
 refine q0 27 481 3 rfl rfl (T_callV (lvs := [_, _]) (L := [(1, 337), (2, 257)]) (same_spec (tidyG aF) aG (by decide +kernel) (by decide +kernel)) body28 rfl rfl rfl rfl (.lend rfl (.lend rfl (.nil))) rfl) rfl ?_
 refine q0 28 497 4 rfl rfl (T_move rfl rfl) rfl ?_
 refine k_split (d := 28) rfl (fun g1 => ?_) (fun g1 => ?_)
 ·have h1 := g1; (try simp only [cmpB, decide_eq_true_eq, decide_eq_false_iff_not, beq_iff_eq, beq_eq_false_iff_ne, bne_iff_ne, ne_eq, bne_eq_false_iff_eq, Bool.not_eq_true', Bool.not_eq_false', Int.not_lt, Int.not_le] at h1)
  refine k_op0 (d := 29) (b := 513) (j' := 5) rfl rfl rfl rfl (g_tt rfl rfl rfl g1) (T_move rfl rfl) rfl ?_
  refine k_op0 (d := 30) (b := 529) (j' := 6) rfl rfl rfl rfl (g_tt rfl rfl rfl g1) (T_len D rfl rfl rfl rfl rfl rfl) rfl ?_
  refine k_op0 (d := 31) (b := 545) (j' := 7) rfl rfl rfl rfl (g_tt rfl rfl rfl g1) (T_cmp rfl rfl rfl rfl) rfl ?_
  refine q0 32 561 8 rfl rfl (T_pick_t rfl rfl rfl g1) rfl ?_
  refine q0 33 577 9 rfl rfl (T_move rfl rfl) rfl ?_
  refine k_split (d := 33) rfl (fun g2 => ?_) (fun g2 => ?_)
  ·have h2 := c_eql_t g2
   refine k_op0 (d := 34) (b := 593) (j' := 10) rfl rfl rfl rfl (g_tt rfl rfl rfl g2) (T_move rfl rfl) rfl ?_
   first | refine k_op0 (d := 35) (b := 609) (j' := 11) rfl rfl rfl rfl (g_tt rfl rfl rfl g2) (T_indexAddr D rfl rfl rfl rfl rfl rfl rfl rfl (by first | assumption | decide +kernel)) rfl ?_ | refine k_op0 (d := 35) (b := 609) (j' := 11) rfl rfl rfl rfl (g_tt rfl rfl rfl g2) (T_indexAddrZ D rfl rfl rfl rfl rfl rfl rfl rfl (by first | assumption | decide +kernel) (by first | assumption | decide +kernel)) rfl ?_
   refine k_op1 (d := 36) (b := 625) (j' := 12) rfl rfl rfl rfl (g_tt rfl rfl rfl g2) (T_ldE D (lv := .r 625) (nn := 1) (upd := [(625, .fz 1 _)]) rfl rfl rfl rfl rfl (by first | assumption | decide +kernel) rfl rfl rfl rfl) rfl ?_
   refine k_op1 (d := 37) (b := 641) (j' := 13) rfl rfl rfl rfl (g_tt rfl rfl rfl g2) (T_bs D (ys := [_, _]) (enc := eI) (l := [_, _]) rfl rfl rfl rfl rfl rfl (.cons rfl (flat_v rfl) (.cons rfl (flat_v rfl) (.nil))) rfl rfl rfl rfl (.v rfl (.v rfl (.nil))) rfl rfl) rfl ?_
   refine k_op0 (d := 38) (b := 657) (j' := 14) rfl rfl rfl rfl (g_tt rfl rfl rfl g2) (T_callV (lvs := [_, _]) (L := [(1, 625), (2, 641)]) (list_spec ((pathsL aF).getD 0 default) [0, 2] (by decide +kernel)) body39 rfl rfl rfl rfl (.fz rfl (.lend rfl (.nil))) rfl) rfl ?_
   refine q0 39 673 15 rfl rfl (T_pick_t rfl rfl rfl g2) rfl ?_
   refine q0 40 689 16 rfl rfl (T_move rfl rfl) rfl ?_
   refine k_split (d := 40) rfl (fun g3 => ?_) (fun g3 => ?_)
   ·have h3 := g3; (try simp only [cmpB, decide_eq_true_eq, decide_eq_false_iff_not, beq_iff_eq, beq_eq_false_iff_ne, bne_iff_ne, ne_eq, bne_eq_false_iff_eq, Bool.not_eq_true', Bool.not_eq_false', Int.not_lt, Int.not_le] at h3)
    refine k_op0 (d := 41) (b := 705) (j' := 17) rfl rfl rfl rfl (g_tt rfl rfl rfl g3) (T_load_bA D (l := [_, _]) rfl rfl rfl rfl rfl rfl rfl) rfl ?_
    refine k_op0 (d := 42) (b := 721) (j' := 18) rfl rfl rfl rfl (g_tt rfl rfl rfl g3) (T_load_bA D (l := [_, _]) rfl rfl rfl rfl rfl rfl rfl) rfl ?_
    refine k_op0 (d := 43) (b := 737) (j' := 19) rfl rfl rfl rfl (g_tt rfl rfl rfl g3) (T_move rfl rfl) rfl ?_
    refine k_op0 (d := 44) (b := 753) (j' := 20) rfl rfl rfl rfl (g_tt rfl rfl rfl g3) (T_callV (lvs := [_, _, _]) (L := [(1, 129), (2, 337), (3, 338)]) (tcheck_spec aF (tidyG aF) (pathsL aF) (by decide +kernel) (by decide +kernel) (by decide +kernel) aI1) body30 rfl rfl rfl rfl (.fz rfl (.lend rfl (.fz rfl (.nil)))) rfl) rfl ?_
    refine q0 45 769 21 rfl rfl (T_pick_t rfl rfl rfl g3) rfl ?_
    refine q0 46 785 22 rfl rfl (T_move rfl rfl) rfl ?_
    refine k_split (d := 46) rfl (fun g4 => ?_) (fun g4 => ?_)
    ·have h4 := g4; (try simp only [cmpB, decide_eq_true_eq, decide_eq_false_iff_not, beq_iff_eq, beq_eq_false_iff_ne, bne_iff_ne, ne_eq, bne_eq_false_iff_eq, Bool.not_eq_true', Bool.not_eq_false', Int.not_lt, Int.not_le] at h4)
     refine k_op0 (d := 47) (b := 801) (j' := 23) rfl rfl rfl rfl (g_tt rfl rfl rfl g4) (T_load_bA D (l := [_, _]) rfl rfl rfl rfl rfl rfl rfl) rfl ?_
     refine k_op0 (d := 48) (b := 817) (j' := 24) rfl rfl rfl rfl (g_tt rfl rfl rfl g4) (T_load_bA D (l := [_, _]) rfl rfl rfl rfl rfl rfl rfl) rfl ?_
     refine k_op1 (d := 49) (b := 833) (j' := 25) rfl rfl rfl rfl (g_tt rfl rfl rfl g4) (T_bs D (ys := [_]) (enc := eI) (l := [_]) rfl rfl rfl rfl rfl rfl (.cons rfl (flat_v rfl) (.nil)) rfl rfl rfl rfl (.v rfl (.nil)) rfl rfl) rfl ?_
     refine k_opn (d := 50) (b := 849) (j' := 26) rfl rfl rfl rfl (g_tt rfl rfl rfl g4) (T_bs D (ys := [_]) (enc := eIs) (l := [_]) rfl rfl rfl rfl rfl rfl (.cons rfl (flat_sl rfl) (.nil)) rfl rfl rfl rfl (.row rfl (.nil) rfl) rfl rfl) rfl ?_
     refine k_op0 (d := 51) (b := 865) (j' := 27) rfl rfl rfl rfl (g_tt rfl rfl rfl g4) (T_callV (lvs := [_, _, _]) (L := [(1, 129), (2, 337), (3, 849)]) (tcheck_spec aF (tidyG aF) [[0]] (by decide +kernel) (by decide +kernel) (by decide +kernel) aI2) body30 rfl rfl rfl rfl (.fz rfl (.lend rfl (.lend rfl (.nil)))) rfl) rfl ?_
     refine k_op0 (d := 52) (b := 881) (j' := 28) rfl rfl rfl rfl (g_tt rfl rfl rfl g4) (T_not rfl rfl) rfl ?_
     refine q0 53 897 29 rfl rfl (T_pick_t rfl rfl rfl g4) rfl ?_
     refine q0 54 913 30 rfl rfl (T_move rfl rfl) rfl ?_
     refine k_split (d := 54) rfl (fun g5 => ?_) (fun g5 => ?_)
     ·have h5 := g5; (try simp only [cmpB, decide_eq_true_eq, decide_eq_false_iff_not, beq_iff_eq, beq_eq_false_iff_ne, bne_iff_ne, ne_eq, bne_eq_false_iff_eq, Bool.not_eq_true', Bool.not_eq_false', Int.not_lt, Int.not_le] at h5)
      refine k_op0 (d := 55) (b := 929) (j' := 31) rfl rfl rfl rfl (g_tt rfl rfl rfl g5) (T_load_bA D (l := [_, _]) rfl rfl rfl rfl rfl rfl rfl) rfl ?_
      refine k_op0 (d := 56) (b := 945) (j' := 32) rfl rfl rfl rfl (g_tt rfl rfl rfl g5) (T_load_bA D (l := [_, _]) rfl rfl rfl rfl rfl rfl rfl) rfl ?_
      refine k_op0 (d := 57) (b := 961) (j' := 33) rfl rfl rfl rfl (g_tt rfl rfl rfl g5) (T_callV (lvs := [_, _, _]) (L := [(1, 129), (2, 337)]) (spec_nil (sz := 1) (b0 := 3) (pre := [_, _]) (tcheck_spec aF (tidyG aF) [] (by decide +kernel) (by decide +kernel) (by decide +kernel) aI3) rfl) body30 rfl rfl rfl rfl (.fz rfl (.lend rfl (.nil))) rfl) rfl ?_
      refine k_op0 (d := 58) (b := 977) (j' := 34) rfl rfl rfl rfl (g_tt rfl rfl rfl g5) (T_not rfl rfl) rfl ?_
      refine q0 59 993 35 rfl rfl (T_pick_t rfl rfl rfl g5) rfl ?_
      refine q0 0 1009 36 rfl rfl (T_assign rfl rfl) rfl ?_
      refine k_done rfl ?_
      refine thenK_n ?_
      refine W_ret ?_
      exact .mk [] (.inr rfl) (.tmp rfl (.nil)) (by first | rfl | exact absurd g1 (by decide +kernel) | exact absurd g2 (by decide +kernel) | exact absurd g3 (by decide +kernel) | exact absurd g4 (by decide +kernel) | exact absurd g5 (by decide +kernel) | exact absurd g6 (by decide +kernel) | exact absurd g7 (by decide +kernel) | decide +kernel) (.nil) rfl
     ·have h5 := g5; (try simp only [cmpB, decide_eq_true_eq, decide_eq_false_iff_not, beq_iff_eq, beq_eq_false_iff_ne, bne_iff_ne, ne_eq, bne_eq_false_iff_eq, Bool.not_eq_true', Bool.not_eq_false', Int.not_lt, Int.not_le] at h5)
      refine k_no (d := 55) (j' := 31) rfl rfl rfl (g_tf rfl rfl rfl g5) ?_
      refine k_no (d := 56) (j' := 32) rfl rfl rfl (g_tf rfl rfl rfl g5) ?_
      refine k_no (d := 57) (j' := 33) rfl rfl rfl (g_tf rfl rfl rfl g5) ?_
      refine k_no (d := 58) (j' := 34) rfl rfl rfl (g_tf rfl rfl rfl g5) ?_
      refine q0 59 993 35 rfl rfl (T_pick_f rfl rfl rfl g5) rfl ?_
      refine q0 0 1009 36 rfl rfl (T_assign rfl rfl) rfl ?_
      refine k_done rfl ?_
      refine thenK_n ?_
      refine W_ret ?_
      exact .mk [] (.inr rfl) (.tmp rfl (.nil)) (by first | rfl | exact absurd g1 (by decide +kernel) | exact absurd g2 (by decide +kernel) | exact absurd g3 (by decide +kernel) | exact absurd g4 (by decide +kernel) | exact absurd g5 (by decide +kernel) | exact absurd g6 (by decide +kernel) | exact absurd g7 (by decide +kernel) | decide +kernel) (.nil) rfl
    ·have h4 := g4; (try simp only [cmpB, decide_eq_true_eq, decide_eq_false_iff_not, beq_iff_eq, beq_eq_false_iff_ne, bne_iff_ne, ne_eq, bne_eq_false_iff_eq, Bool.not_eq_true', Bool.not_eq_false', Int.not_lt, Int.not_le] at h4)
     refine k_no (d := 47) (j' := 23) rfl rfl rfl (g_tf rfl rfl rfl g4) ?_
     refine k_no (d := 48) (j' := 24) rfl rfl rfl (g_tf rfl rfl rfl g4) ?_
     refine k_no (d := 49) (j' := 25) rfl rfl rfl (g_tf rfl rfl rfl g4) ?_
     refine k_no (d := 50) (j' := 26) rfl rfl rfl (g_tf rfl rfl rfl g4) ?_
     refine k_no (d := 51) (j' := 27) rfl rfl rfl (g_tf rfl rfl rfl g4) ?_
     refine k_no (d := 52) (j' := 28) rfl rfl rfl (g_tf rfl rfl rfl g4) ?_
     refine q0 53 897 29 rfl rfl (T_pick_f rfl rfl rfl g4) rfl ?_
     refine q0 54 913 30 rfl rfl (T_move rfl rfl) rfl ?_
     refine k_no (d := 55) (j' := 31) rfl rfl rfl (g_tf rfl rfl rfl rfl) ?_
     refine k_no (d := 56) (j' := 32) rfl rfl rfl (g_tf rfl rfl rfl rfl) ?_
     refine k_no (d := 57) (j' := 33) rfl rfl rfl (g_tf rfl rfl rfl rfl) ?_
     refine k_no (d := 58) (j' := 34) rfl rfl rfl (g_tf rfl rfl rfl rfl) ?_
     refine q0 59 993 35 rfl rfl (T_pick_f rfl rfl rfl rfl) rfl ?_
     refine q0 0 1009 36 rfl rfl (T_assign rfl rfl) rfl ?_
     refine k_done rfl ?_
     refine thenK_n ?_
     refine W_ret ?_
     exact .mk [] (.inr rfl) (.tmp rfl (.nil)) (by first | rfl | exact absurd g1 (by decide +kernel) | exact absurd g2 (by decide +kernel) | exact absurd g3 (by decide +kernel) | exact absurd g4 (by decide +kernel) | exact absurd g5 (by decide +kernel) | exact absurd g6 (by decide +kernel) | exact absurd g7 (by decide +kernel) | decide +kernel) (.nil) rfl
   ·have h3 := g3; (try simp only [cmpB, decide_eq_true_eq, decide_eq_false_iff_not, beq_iff_eq, beq_eq_false_iff_ne, bne_iff_ne, ne_eq, bne_eq_false_iff_eq, Bool.not_eq_true', Bool.not_eq_false', Int.not_lt, Int.not_le] at h3)
    refine k_no (d := 41) (j' := 17) rfl rfl rfl (g_tf rfl rfl rfl g3) ?_
    refine k_no (d := 42) (j' := 18) rfl rfl rfl (g_tf rfl rfl rfl g3) ?_
    refine k_no (d := 43) (j' := 19) rfl rfl rfl (g_tf rfl rfl rfl g3) ?_
    refine k_no (d := 44) (j' := 20) rfl rfl rfl (g_tf rfl rfl rfl g3) ?_
    refine q0 45 769 21 rfl rfl (T_pick_f rfl rfl rfl g3) rfl ?_
    refine q0 46 785 22 rfl rfl (T_move rfl rfl) rfl ?_
    refine k_no (d := 47) (j' := 23) rfl rfl rfl (g_tf rfl rfl rfl rfl) ?_
    refine k_no (d := 48) (j' := 24) rfl rfl rfl (g_tf rfl rfl rfl rfl) ?_
    refine k_no (d := 49) (j' := 25) rfl rfl rfl (g_tf rfl rfl rfl rfl) ?_
    refine k_no (d := 50) (j' := 26) rfl rfl rfl (g_tf rfl rfl rfl rfl) ?_
    refine k_no (d := 51) (j' := 27) rfl rfl rfl (g_tf rfl rfl rfl rfl) ?_
    refine k_no (d := 52) (j' := 28) rfl rfl rfl (g_tf rfl rfl rfl rfl) ?_
    refine q0 53 897 29 rfl rfl (T_pick_f rfl rfl rfl rfl) rfl ?_
    refine q0 54 913 30 rfl rfl (T_move rfl rfl) rfl ?_
    refine k_no (d := 55) (j' := 31) rfl rfl rfl (g_tf rfl rfl rfl rfl) ?_
    refine k_no (d := 56) (j' := 32) rfl rfl rfl (g_tf rfl rfl rfl rfl) ?_
    refine k_no (d := 57) (j' := 33) rfl rfl rfl (g_tf rfl rfl rfl rfl) ?_
    refine k_no (d := 58) (j' := 34) rfl rfl rfl (g_tf rfl rfl rfl rfl) ?_
    refine q0 59 993 35 rfl rfl (T_pick_f rfl rfl rfl rfl) rfl ?_
    refine q0 0 1009 36 rfl rfl (T_assign rfl rfl) rfl ?_
    refine k_done rfl ?_
    refine thenK_n ?_
    refine W_ret ?_
    exact .mk [] (.inr rfl) (.tmp rfl (.nil)) (by first | rfl | exact absurd g1 (by decide +kernel) | exact absurd g2 (by decide +kernel) | exact absurd g3 (by decide +kernel) | exact absurd g4 (by decide +kernel) | exact absurd g5 (by decide +kernel) | exact absurd g6 (by decide +kernel) | exact absurd g7 (by decide +kernel) | decide +kernel) (.nil) rfl
  ·have h2 := c_eql_f g2
   refine k_no (d := 34) (j' := 10) rfl rfl rfl (g_tf rfl rfl rfl g2) ?_
   refine k_no (d := 35) (j' := 11) rfl rfl rfl (g_tf rfl rfl rfl g2) ?_
   refine k_no (d := 36) (j' := 12) rfl rfl rfl (g_tf rfl rfl rfl g2) ?_
   refine k_no (d := 37) (j' := 13) rfl rfl rfl (g_tf rfl rfl rfl g2) ?_
   refine k_no (d := 38) (j' := 14) rfl rfl rfl (g_tf rfl rfl rfl g2) ?_
   refine q0 39 673 15 rfl rfl (T_pick_f rfl rfl rfl g2) rfl ?_
   refine q0 40 689 16 rfl rfl (T_move rfl rfl) rfl ?_
   refine k_no (d := 41) (j' := 17) rfl rfl rfl (g_tf rfl rfl rfl rfl) ?_
   refine k_no (d := 42) (j' := 18) rfl rfl rfl (g_tf rfl rfl rfl rfl) ?_
   refine k_no (d := 43) (j' := 19) rfl rfl rfl (g_tf rfl rfl rfl rfl) ?_
   refine k_no (d := 44) (j' := 20) rfl rfl rfl (g_tf rfl rfl rfl rfl) ?_
   refine q0 45 769 21 rfl rfl (T_pick_f rfl rfl rfl rfl) rfl ?_
   refine q0 46 785 22 rfl rfl (T_move rfl rfl) rfl ?_
   refine k_no (d := 47) (j' := 23) rfl rfl rfl (g_tf rfl rfl rfl rfl) ?_
   refine k_no (d := 48) (j' := 24) rfl rfl rfl (g_tf rfl rfl rfl rfl) ?_
   refine k_no (d := 49) (j' := 25) rfl rfl rfl (g_tf rfl rfl rfl rfl) ?_
   refine k_no (d := 50) (j' := 26) rfl rfl rfl (g_tf rfl rfl rfl rfl) ?_
   refine k_no (d := 51) (j' := 27) rfl rfl rfl (g_tf rfl rfl rfl rfl) ?_
   refine k_no (d := 52) (j' := 28) rfl rfl rfl (g_tf rfl rfl rfl rfl) ?_
   refine q0 53 897 29 rfl rfl (T_pick_f rfl rfl rfl rfl) rfl ?_
   refine q0 54 913 30 rfl rfl (T_move rfl rfl) rfl ?_
   refine k_no (d := 55) (j' := 31) rfl rfl rfl (g_tf rfl rfl rfl rfl) ?_
   refine k_no (d := 56) (j' := 32) rfl rfl rfl (g_tf rfl rfl rfl rfl) ?_
   refine k_no (d := 57) (j' := 33) rfl rfl rfl (g_tf rfl rfl rfl rfl) ?_
   refine k_no (d := 58) (j' := 34) rfl rfl rfl (g_tf rfl rfl rfl rfl) ?_
   refine q0 59 993 35 rfl rfl (T_pick_f rfl rfl rfl rfl) rfl ?_
   refine q0 0 1009 36 rfl rfl (T_assign rfl rfl) rfl ?_
   refine k_done rfl ?_
   refine thenK_n ?_
   refine W_ret ?_
   exact .mk [] (.inr rfl) (.tmp rfl (.nil)) (by first | rfl | exact absurd g1 (by decide +kernel) | exact absurd g2 (by decide +kernel) | exact absurd g3 (by decide +kernel) | exact absurd g4 (by decide +kernel) | exact absurd g5 (by decide +kernel) | exact absurd g6 (by decide +kernel) | exact absurd g7 (by decide +kernel) | decide +kernel) (.nil) rfl
 ·have h1 := g1; (try simp only [cmpB, decide_eq_true_eq, decide_eq_false_iff_not, beq_iff_eq, beq_eq_false_iff_ne, bne_iff_ne, ne_eq, bne_eq_false_iff_eq, Bool.not_eq_true', Bool.not_eq_false', Int.not_lt, Int.not_le] at h1)
  refine k_no (d := 29) (j' := 5) rfl rfl rfl (g_tf rfl rfl rfl g1) ?_
  refine k_no (d := 30) (j' := 6) rfl rfl rfl (g_tf rfl rfl rfl g1) ?_
  refine k_no (d := 31) (j' := 7) rfl rfl rfl (g_tf rfl rfl rfl g1) ?_
  refine q0 32 561 8 rfl rfl (T_pick_f rfl rfl rfl g1) rfl ?_
  refine q0 33 577 9 rfl rfl (T_move rfl rfl) rfl ?_
  refine k_no (d := 34) (j' := 10) rfl rfl rfl (g_tf rfl rfl rfl rfl) ?_
  refine k_no (d := 35) (j' := 11) rfl rfl rfl (g_tf rfl rfl rfl rfl) ?_
  refine k_no (d := 36) (j' := 12) rfl rfl rfl (g_tf rfl rfl rfl rfl) ?_
  refine k_no (d := 37) (j' := 13) rfl rfl rfl (g_tf rfl rfl rfl rfl) ?_
  refine k_no (d := 38) (j' := 14) rfl rfl rfl (g_tf rfl rfl rfl rfl) ?_
  refine q0 39 673 15 rfl rfl (T_pick_f rfl rfl rfl rfl) rfl ?_
  refine q0 40 689 16 rfl rfl (T_move rfl rfl) rfl ?_
  refine k_no (d := 41) (j' := 17) rfl rfl rfl (g_tf rfl rfl rfl rfl) ?_
  refine k_no (d := 42) (j' := 18) rfl rfl rfl (g_tf rfl rfl rfl rfl) ?_
  refine k_no (d := 43) (j' := 19) rfl rfl rfl (g_tf rfl rfl rfl rfl) ?_
  refine k_no (d := 44) (j' := 20) rfl rfl rfl (g_tf rfl rfl rfl rfl) ?_
  refine q0 45 769 21 rfl rfl (T_pick_f rfl rfl rfl rfl) rfl ?_
  refine q0 46 785 22 rfl rfl (T_move rfl rfl) rfl ?_
  refine k_no (d := 47) (j' := 23) rfl rfl rfl (g_tf rfl rfl rfl rfl) ?_
  refine k_no (d := 48) (j' := 24) rfl rfl rfl (g_tf rfl rfl rfl rfl) ?_
  refine k_no (d := 49) (j' := 25) rfl rfl rfl (g_tf rfl rfl rfl rfl) ?_
  refine k_no (d := 50) (j' := 26) rfl rfl rfl (g_tf rfl rfl rfl rfl) ?_
  refine k_no (d := 51) (j' := 27) rfl rfl rfl (g_tf rfl rfl rfl rfl) ?_
  refine k_no (d := 52) (j' := 28) rfl rfl rfl (g_tf rfl rfl rfl rfl) ?_
  refine q0 53 897 29 rfl rfl (T_pick_f rfl rfl rfl rfl) rfl ?_
  refine q0 54 913 30 rfl rfl (T_move rfl rfl) rfl ?_
  refine k_no (d := 55) (j' := 31) rfl rfl rfl (g_tf rfl rfl rfl rfl) ?_
  refine k_no (d := 56) (j' := 32) rfl rfl rfl (g_tf rfl rfl rfl rfl) ?_
  refine k_no (d := 57) (j' := 33) rfl rfl rfl (g_tf rfl rfl rfl rfl) ?_
  refine k_no (d := 58) (j' := 34) rfl rfl rfl (g_tf rfl rfl rfl rfl) ?_
  refine q0 59 993 35 rfl rfl (T_pick_f rfl rfl rfl rfl) rfl ?_
  refine q0 0 1009 36 rfl rfl (T_assign rfl rfl) rfl ?_
  refine k_done rfl ?_
  refine thenK_n ?_
  refine W_ret ?_
  exact .mk [] (.inr rfl) (.tmp rfl (.nil)) (by first | rfl | exact absurd g1 (by decide +kernel) | exact absurd g2 (by decide +kernel) | exact absurd g3 (by decide +kernel) | exact absurd g4 (by decide +kernel) | exact absurd g5 (by decide +kernel) | exact absurd g6 (by decide +kernel) | exact absurd g7 (by decide +kernel) | decide +kernel) (.nil) rfl
end Lg
end Go.Proofs.Ytpfhmodjjljpjaa

namespace Go.Proofs.Ytpfhmodjjljpjaa
open Go.RowKit
namespace Lg
def FnOk (f : GFn) : Prop := f.blocks.length ≤ 140737488351232 ∧ ∀ b ∈ f.blocks, b.ins.length ≤ 140737488351232
def PsOk (ps : List (List Int)) : Prop := ps.length ≤ 140737488351232 ∧ ∀ p ∈ ps, p.length ≤ 140737488351232
theorem sumLen_le {α : Type} {c : Nat} : ∀ (l : List (List α)), (∀ x ∈ l, x.length ≤ c) → sumLen l ≤ l.length * c
  | [], _ => by simp [sumLen]
  | x :: l, h => by
    have h1 := sumLen_le l (fun y hy => h y (List.mem_cons_of_mem _ hy))
    have h2 := h x (by simp)
    have h3 : sumLen (x :: l) = x.length + sumLen l := by simp [sumLen]
    rw [h3, List.length_cons, Nat.succ_mul]
    omega
theorem le_sumLen {α : Type} : ∀ (l : List (List α)) (x : List α), x ∈ l → x.length ≤ sumLen l
  | y :: l, x, h => by
    have h3 : sumLen (y :: l) = y.length + sumLen l := by simp [sumLen]
    rcases List.mem_cons.1 h with rfl | h
    · omega
    · have := le_sumLen l x h; omega
theorem few_sum {f : GFn} (hf : FnOk f) {n : Nat} (hn : f.blocks.length ≤ n) (h1000 : n ≤ 1000) (j : Nat) : sumLen ((insOf f).take j) ≤ 4000000000000000000 := by
  have h1 := sumLen_take_le (insOf f) j
  have h2 := sumLen_le (c := 140737488351232) (insOf f) (fun x hx => by
    obtain ⟨b, hb, rfl⟩ := List.mem_map.1 hx
    exact hf.2 b hb)
  have h3 : (insOf f).length = f.blocks.length := by simp [insOf]
  have h4 := Nat.mul_le_mul_right 140737488351232 (show (insOf f).length ≤ 1000 by omega)
  omega
theorem few_iff {f : GFn} {x y : Int} (h : few f x y = true) : (f.blocks.length : Int) ≤ x ∧ (sumLen (insOf f) : Int) ≤ y := by
  simpa [few] using h
theorem few_ins {f : GFn} {x y : Int} (h : few f x y = true) : ∀ b ∈ f.blocks, (b.ins.length : Int) ≤ y := fun b hb => by
  have h1 := le_sumLen (insOf f) b.ins (List.mem_map_of_mem (f := fun b : GBlock => b.ins) hb)
  have h2 := (few_iff h).2
  omega
def smallP (ps : List (List Int)) (x y : Int) : Bool := decide ((ps.length : Int) ≤ x) && decide ((sumLen ps : Int) ≤ y)
theorem smallP_iff {ps : List (List Int)} {x y : Int} (h : smallP ps x y = true) : (ps.length : Int) ≤ x ∧ ∀ p ∈ ps, (p.length : Int) ≤ y := by
  simp only [smallP, Bool.and_eq_true, decide_eq_true_eq] at h
  exact ⟨h.1, fun p hp => by have := le_sumLen ps p hp; omega⟩
structure ChkOk (f g : GFn) (ps : List (List Int)) : Prop where
  hl : ps.length ≤ 1000000000
  hpl : ∀ p ∈ ps, p.length ≤ 1000000000
  hgi : ∀ b ∈ g.blocks, b.ins.length ≤ 1000000
  hI : ∀ p ∈ ps, ∀ j, (instrs f (p.take j)).length ≤ 1000000000
theorem chkOk {f g : GFn} {ps : List (List Int)} {a b c d e q : Int} (h1 : few f a b = true) (h2 : few g c d = true) (h3 : smallP ps e q = true) (hb : b ≤ 1000) (hd : d ≤ 1000) (he : e ≤ 1000) (hq : q ≤ 1000) : ChkOk f g ps := by
  have h4 := smallP_iff h3
  refine ⟨by omega, fun p hp => by have := h4.2 p hp; omega, fun x hx => by have := few_ins h2 x hx; omega, fun p hp j => ?_⟩
  exact take_len (c := 0) (fun x hx => by have := few_ins h1 x hx; omega) (by have := h4.2 p hp; omega) j
theorem tcheck_ok {f g : GFn} {ps : List (List Int)} (hc : ChkOk f g ps) : Spec Try.prog 30 [.agg [.v (.int .i64 f.regs), .r 1], .agg [.v (.int .i64 g.regs), .r 2], .r 3] 4 [(1, .fz 5 (f.blocks.map eBlock)), (2, .fz 5 (g.blocks.map eBlock)), (3, .fz 1 (ps.map eIs))] (.v (.bool (tcheck f g ps))) 4 [] := tcheck_spec f g ps hc.hl hc.hpl hc.hgi hc.hI
theorem rcheck_ok {f g : GFn} {ps : List (List Int)} (hc : ChkOk f g ps) : Spec Try.prog 33 [.agg [.v (.int .i64 f.regs), .r 1], .agg [.v (.int .i64 g.regs), .r 2], .r 3] 4 [(1, .fz 5 (f.blocks.map eBlock)), (2, .fz 5 (g.blocks.map eBlock)), (3, .fz 1 (ps.map eIs))] (.v (.bool (tcheck f g ps))) 4 [] := rcheck_spec f g ps hc.hl hc.hpl hc.hgi hc.hI
end Lg
end Go.Proofs.Ytpfhmodjjljpjaa

namespace Go.Proofs.Ytpfhmodjjljpjaa
open Go.RowKit
namespace Lg
theorem fnOk {f : GFn} (h : WFn f) : FnOk f := ⟨by have := h.len; omega, fun b hb => by have := (h.each b hb).len; omega⟩
theorem psOk {l : List (List Int)} (h : WIss l) : PsOk l := ⟨by have := h.len; omega, fun p hp => by have := (h.each p hp).len; omega⟩
end Lg
end Go.Proofs.Ytpfhmodjjljpjaa

namespace Go.Proofs.Ytpfhmodjjljpjaa
open Go.ChangeShapes Go.WideShapes Go.ChangeAt Go.RowKit
namespace Lg
set_option maxRecDepth 100000
theorem one_int (k : IntKind) (x : Int) : (Value.int k x).oneCell' = true := rfl
structure GTwo where
  a : GFn
  b : GFn
  c : GFn
  p : List (List Int)
  q : List (List Int)
structure WTwo (x : GTwo) : Prop where
  a : WFn x.a
  b : WFn x.b
  c : WFn x.c
  p : WIss x.p
  q : WIss x.q
def eTwo (x : GTwo) : List Cell := eFn x.a ++ (eFn x.b ++ (eFn x.c ++ ([.sl 1 (x.p.map eIs)] ++ ([.sl 1 (x.q.map eIs)] ++ []))))
section
variable {H : Type} {enc : TypeId × Value → H} {w : World}
theorem o_two : Opens enc Try.prog w 78 eTwo WTwo :=
  (opens_struct (n := 8) Try.underlying78 (by kernel_rfl) (opensF_cons (k := 2) rfl (by kernel_rfl) o_fn <| opensF_cons (k := 2) rfl (by kernel_rfl) o_fn <| opensF_cons (k := 2) rfl (by kernel_rfl) o_fn <| opensF_cons (k := 1) rfl (by kernel_rfl) o_iss <|
    opensF_cons (k := 1) rfl (by kernel_rfl) o_iss <| opensF_nil rfl)).map
  (fun x h => ⟨⟨x.1, x.2.1, x.2.2.1, x.2.2.2.1, x.2.2.2.2.1⟩, rfl, ⟨h.1, h.2.1, h.2.2.1, h.2.2.2.1, h.2.2.2.2.1⟩⟩)
theorem rd_v {x v : Value} {ok : Nat → Prop} (h : Rd w ok (.v x) v) : v = x := by cases h; rfl
theorem arg_two {r : Reach} {b : Nat} {v : Value} {d : DataW H} {p : List MemPlace} (hv : Value.okWide Try.prog w r b 78 v) (hd : DataW.Trod enc Try.prog w 0 (fun _ => true) true 78 v d p) (hw : (d.weights Try.prog 78).all (· ≤ reachBytes) = true) :
    ∃ (x : GTwo) (s1 s2 s3 s4 s5 : Value), v = .agg #[.int .i64 x.a.regs, s1, .int .i64 x.b.regs, s2, .int .i64 x.c.regs, s3, s4, s5] ∧ Rd w (fun _ => True) (.sl 5 (x.a.blocks.map eBlock)) s1 ∧ Rd w (fun _ => True) (.sl 5 (x.b.blocks.map eBlock)) s2 ∧ Rd w (fun _ => True) (.sl 5 (x.c.blocks.map eBlock)) s3 ∧ Rd w (fun _ => True) (.sl 1 (x.p.map eIs)) s4 ∧ Rd w (fun _ => True) (.sl 1 (x.q.map eIs)) s5 ∧ WTwo x := by
  obtain ⟨x, cs, rfl, h1, h2⟩ := arg_agg o_two (by rw [Try.underlying78]) hv hd hw
  obtain ⟨l⟩ := cs
  match l, h1 with
  | [v1, s1, v2, s2, v3, s3, s4, s5], h1 =>
    obtain ⟨a1, a2, a3, a4, a5, a6, a7, a8, _⟩ := h1
    exact ⟨x, s1, s2, s3, s4, s5, by rw [rd_v a1, rd_v a3, rd_v a5], a2, a4, a6, a7, a8, h2⟩
theorem arg_prog {r : Reach} {b : Nat} {v : Value} {d : DataW H} {p : List MemPlace} (hv : Value.okWide Try.prog w r b 24 v) (hd : DataW.Trod enc Try.prog w 0 (fun _ => true) true 24 v d p) (hw : (d.weights Try.prog 24).all (· ≤ reachBytes) = true) :
    ∃ (x : GProg) (s : Value), v = .agg #[.int .i64 x.words, s] ∧ Rd w (fun _ => True) (.sl 2 (x.funcs.map eFn)) s ∧ WProg x := by
  obtain ⟨x, cs, rfl, h1, h2⟩ := arg_agg o_prog (by rw [Try.underlying24]) hv hd hw
  obtain ⟨l⟩ := cs
  match l, h1 with
  | [v1, s1], h1 =>
    obtain ⟨a1, a2, _⟩ := h1
    exact ⟨x, s1, by rw [rd_v a1], a2, h2⟩
theorem arg_u8 {r : Reach} {b : Nat} {v : Value} {d : DataW H} {p : List MemPlace} (hv : Value.okWide Try.prog w r b 5 v) (hd : DataW.Trod enc Try.prog w 0 (fun _ => true) true 5 v d p) (hw : (d.weights Try.prog 5).all (· ≤ reachBytes) = true) :
    ∃ x : Int, v = .int .u8 x ∧ 0 ≤ x ∧ x < 256 := by
  obtain ⟨n, rfl⟩ := okWide_int Try.underlying5 hv
  obtain ⟨fuel, hf⟩ := hd
  obtain ⟨x, h1, h2⟩ := o_u8 fuel _ d p hf hw
  have h3 := rd_v h1.1
  cases h3
  exact ⟨_, rfl, h2⟩
end
end Lg
end Go.Proofs.Ytpfhmodjjljpjaa

namespace Go.Proofs.Ytpfhmodjjljpjaa
open Go.RowKit
namespace Lg
set_option linter.unusedSimpArgs false
set_option linter.unusedVariables false
theorem T_conv {N : Nat} {o : Oper} {b : Nat} {st : St} {src dst : TypeId} {x : Operand} {q k : IntKind} {n r : Int} (ho : o.op = .convert src dst x) (hx : st.ev x = some (.v (.int q n))) (hs : (Try.prog.underlying src).isSome = true) (hd : Try.prog.underlying dst = some (.int k)) (hr : k.wrap n = r) : T Try.prog N o b [] st (.v (.int k r)) 0 [] :=
  T_pure (fun ρ ev w hev => by
    have h1 := hev x _ (by simp [ho, Op.operands]) hx
    obtain ⟨d, hd'⟩ := Option.isSome_iff_exists.mp hs
    simp only [execOp, ho, h1, LV.val]
    have h2 : (convert src dst (.int q n)).run Try.prog w = .ok (.int k r) w := by
      simp [convert, run_underlying hd', run_underlying hd, Conv.intToInt, hr]
    rw [Sem.run_bind, h2]
    rfl) (fun U ρ hU => trivial)
theorem T_conv64 {N : Nat} {o : Oper} {b : Nat} {st : St} {src : TypeId} {x : Operand} {q : IntKind} {n : Int} (ho : o.op = .convert src 3 x) (hx : st.ev x = some (.v (.int q n))) (hs : (Try.prog.underlying src).isSome = true) (h : -9223372036854775808 ≤ n ∧ n ≤ 9223372036854775807) : T Try.prog N o b [] st (.v (.int .i64 n)) 0 [] :=
  T_conv ho hx hs Try.underlying3 (wrap_i64 h)
end Lg
end Go.Proofs.Ytpfhmodjjljpjaa

namespace Go.Proofs.Ytpfhmodjjljpjaa
open Go.RowKit
namespace Lg
set_option linter.unusedSimpArgs false
set_option linter.unusedVariables false
section
variable {P : Program} {N : Nat} {o : Oper} {b : Nat} {st : St}
theorem T_nilCheck {x : Operand} {i n : Nat} (ho : o.op = .nilCheck x) (hx : st.ev x = some (.p i n)) : T P N o b [] st (.p i n) 0 [] := by
  intro w0 M U ρ own st' a w hev hp hfr fr hr
  obtain ⟨hv, hu⟩ := fr.eval ((hev x (by simp [ho, Op.operands])).trans hx)
  obtain ⟨ad, had⟩ := hu.2
  have h1 : a.eval x = .pointer (some (ad.add n)) := by rw [hv]; simp [LV.val, ptrOf, had]
  have hrun : (execOp a.eval o).run P w = .ok (.value ((LV.p i n).val ρ)) w := by
    rw [← hv, h1]; simp [execOp, ho, h1]
  exact does_value hrun ⟨ρ, own, rfl, fun _ _ => rfl, ⟨.inl hu.1, ad, had⟩, hr.mono (fun i hi => .inl hi)⟩
theorem T_lenS {x : Operand} {t : Nat} {s : ByteArray} (hu : P.underlying t = some .string) (ho : o.op = .call { callee := .builtin .len, args := #[x], argTypes := #[t] }) (hx : st.ev x = some (.v (.string s))) : T P N o b [] st (.v (.int .i64 (s.size : Int))) 0 [] :=
  T_pure (fun ρ ev w hev => by
    have h1 := hev x _ (by simp [ho, Op.operands, Call.operands]) hx
    simp [execOp, ho, resolve, invoke, builtin, h1, LV.val, Builtin.len_, run_underlying hu, goInt]) (fun _ _ _ => trivial)
def byteAt (s : ByteArray) (j : Int) : Int := match s[j.toNat]? with | some b => (b.toNat : Int) | none => 0
theorem T_ixS {x y : Operand} {t : Nat} {s : ByteArray} {j : Int} (hu : P.underlying t = some .string) (ho : o.op = .index t x y) (hx : st.ev x = some (.v (.string s))) (hy : st.ev y = some (.v (.int .i64 j))) (h : 0 ≤ j ∧ j < (s.size : Int)) : T P N o b [] st (.v (.int .u8 (byteAt s j))) 0 [] :=
  T_pure (fun ρ ev w hev => by
    have h1 := hev x _ (by simp [ho, Op.operands]) hx
    have h2 := hev y _ (by simp [ho, Op.operands]) hy
    have h3 : j.toNat < s.size := by omega
    have h4 : s[j.toNat]? = some s[j.toNat] := by simp [h3]
    simp [execOp, ho, h1, h2, LV.val, Instr.index, asIntOf, run_underlying hu, byteAt, h.1, h4, h3]) (fun _ _ _ => trivial)
theorem wrapU {k : IntKind} {n : Int} (hk : k.signed = false) (h : 0 ≤ n ∧ n < (2 ^ k.bits : Int)) : k.wrap n = n := by
  simp only [IntKind.wrap, hk, Bool.false_and]
  exact Int.emod_eq_of_lt h.1 h.2
theorem wrap_mod {k : IntKind} {n : Int} (hk : k.signed = false) : k.wrap n = n % (2 ^ k.bits : Int) := by simp [IntKind.wrap, hk]
theorem T_addU {t t' : TypeId} {x y : Operand} {k : IntKind} {m n : Int} (ho : o.op = .binOp .add t x y t') (hx : st.ev x = some (.v (.int k m))) (hy : st.ev y = some (.v (.int k n))) (hk : k.signed = false) {top : Int} (ht : (2 ^ k.bits : Int) = top)
    (h : 0 ≤ m + n ∧ m + n < top) : T P N o b [] st (.v (.int k (m + n))) 0 [] := T_arith ho hx hy (.inl ⟨rfl, wrapU hk (ht ▸ h)⟩)
theorem T_subU {t t' : TypeId} {x y : Operand} {k : IntKind} {m n : Int} (ho : o.op = .binOp .sub t x y t') (hx : st.ev x = some (.v (.int k m))) (hy : st.ev y = some (.v (.int k n))) (hk : k.signed = false) {top : Int} (ht : (2 ^ k.bits : Int) = top)
    (h : 0 ≤ m - n ∧ m - n < top) : T P N o b [] st (.v (.int k (m - n))) 0 [] := T_arith ho hx hy (.inr (.inl ⟨rfl, wrapU hk (ht ▸ h)⟩))
theorem T_mulU {t t' : TypeId} {x y : Operand} {k : IntKind} {m n : Int} (ho : o.op = .binOp .mul t x y t') (hx : st.ev x = some (.v (.int k m))) (hy : st.ev y = some (.v (.int k n))) (hk : k.signed = false) {top : Int} (ht : (2 ^ k.bits : Int) = top)
    (h : 0 ≤ m * n ∧ m * n < top) : T P N o b [] st (.v (.int k (m * n))) 0 [] := T_arith ho hx hy (.inr (.inr ⟨rfl, wrapU hk (ht ▸ h)⟩))
theorem T_remU {t t' : TypeId} {x y : Operand} {k : IntKind} {m n : Int} (ho : o.op = .binOp .rem t x y t') (hx : st.ev x = some (.v (.int k m))) (hy : st.ev y = some (.v (.int k n))) 
    (h : 0 ≤ m ∧ 0 < n) : T P N o b [] st (.v (.int k (m % n))) 0 [] := T_bin ho hx hy (fun w => by
      have h0 : ¬ n = 0 := by omega
      simp [eqGuard, binOp, Op.intDiv, h0, Int.tmod_eq_emod_of_nonneg h.1])
theorem T_quoU {t t' : TypeId} {x y : Operand} {k : IntKind} {m n : Int} (ho : o.op = .binOp .quo t x y t') (hx : st.ev x = some (.v (.int k m))) (hy : st.ev y = some (.v (.int k n))) (hk : k.signed = false) {top : Int} (ht : (2 ^ k.bits : Int) = top)
    (h : (0 ≤ m ∧ 0 < n) ∧ m < top) : T P N o b [] st (.v (.int k (m / n))) 0 [] := T_bin ho hx hy (fun w => by
      have h0 : ¬ n = 0 := by omega
      have h1 : k.wrap (m / n) = m / n := wrapU hk ⟨Int.ediv_nonneg h.1.1 (by omega), Int.lt_of_le_of_lt (Int.ediv_le_self _ h.1.1) (ht ▸ h.2)⟩
      simp [eqGuard, binOp, Op.intDiv, h0, Int.tdiv_eq_ediv_of_nonneg h.1.1, h1])
theorem T_convU {o : Oper} {src dst : TypeId} {x : Operand} {q k : IntKind} {n : Int} (ho : o.op = .convert src dst x) (hx : st.ev x = some (.v (.int q n))) (hs : (Try.prog.underlying src).isSome = true) (hd : Try.prog.underlying dst = some (.int k)) (hk : k.signed = false) {top : Int} (ht : (2 ^ k.bits : Int) = top) (h : 0 ≤ n ∧ n < top) : T Try.prog N o b [] st (.v (.int k n)) 0 [] :=
  T_conv ho hx hs hd (wrapU hk (ht ▸ h))
theorem T_convM {o : Oper} {src dst : TypeId} {x : Operand} {q k : IntKind} {n : Int} (ho : o.op = .convert src dst x) (hx : st.ev x = some (.v (.int q n))) (hs : (Try.prog.underlying src).isSome = true) (hd : Try.prog.underlying dst = some (.int k)) (hk : k.signed = false) {top : Int} (ht : (2 ^ k.bits : Int) = top) : T Try.prog N o b [] st (.v (.int k (n % top))) 0 [] :=
  T_conv ho hx hs hd (ht ▸ wrap_mod hk)
theorem T_convS {i : Nat} {xs : List Int} {src dst e : TypeId} {x : Operand} (hs : P.underlying src = some (.slice e)) (he : P.underlying e = some (.int .u8)) (hd : P.underlying dst = some .string) (ho : o.op = .convert src dst x) (hx : st.ev x = some (.r i)) (hob : (st.o.lookup i).bind Ob.rows? = some (1, xs.map eU8)) : T P N o b [i] st (.v (.string (strOfNums xs))) 0 [] := by
  intro w0 M U ρ own st' a w hev hp hfr fr hr
  obtain ⟨hv, hu⟩ := fr.eval ((hev x (by simp [ho, Op.operands])).trans hx)
  obtain ⟨ob, hob1, hob2⟩ := Option.bind_eq_some_iff.1 hob
  obtain ⟨g1, g2, g3⟩ := hr.ob i _ ((hp i (by simp)).trans hob1)
  obtain ⟨A, c, cells, hA, hR, hC, hn⟩ := rows_cells g1 hob2 (by omega)
  rw [List.length_map] at hA
  have hcell : ∀ (q : Nat) (n : Int), xs[q]? = some n → cells[q]? = some (.int .u8 n) := fun q n hq => by
    obtain ⟨_, h2⟩ := hR.each q (eU8 n) (by simp [hq])
    obtain ⟨u, h3, h4⟩ := h2 0 (.v (.int .u8 n)) rfl
    cases h4
    simpa using h3
  have hrun : (convert src dst (ρ i)).run P w = .ok (.string (strOfNums xs)) w := by
    rw [hA]
    cases A with
    | none =>
      have : xs = [] := by simpa using hn rfl
      subst this
      exact run_convert_bytes_nil w src e hs he _ _ dst hd
    | some ad =>
      have hl : (loadCells ad xs.length).run P w = .ok (xs.map (Value.int .u8)).toArray w := by
        have := run_loadCells_list (P := P) w ad (xs.map (Value.int .u8)) (fun j v hj => by
          rw [List.getElem?_map] at hj
          obtain ⟨n, h5, rfl⟩ := Option.map_eq_some_iff.1 hj
          exact hC ad rfl j _ (hcell j n h5))
        simpa using this
      rw [run_convert_bytes_string w src dst e _ _ c hs he hd, run_bytesToString w _ _ c xs hl, foldl_push_bytes]
      simp [strOfNums, ByteArray.empty, ByteArray.emptyWithCapacity]
      rfl
  have hrun2 : (execOp a.eval o).run P w = .ok (.value (.string (strOfNums xs))) w := by
    simp only [execOp, ho, hv, LV.val]
    rw [Sem.run_bind, hrun]
    rfl
  exact does_value hrun2 ⟨ρ, own, rfl, fun _ _ => rfl, trivial, hr.mono (fun i hi => .inl hi)⟩
theorem T_makeZ {x y : Operand} {z : Int} {m : Nat} (hz : z = (m : Int)) (hx : st.ev x = some (.v (.int .i64 z))) (hy : st.ev y = some (.v (.int .i64 z)))
    {lv : LV} {nn : Nat} {upd : List (Nat × Ob)} (h : st.ev x = some (.v (.int .i64 (m : Int))) → st.ev y = some (.v (.int .i64 (m : Int))) → T P N o b [] st lv nn upd) : T P N o b [] st lv nn upd := by
  subst hz
  exact h hx hy
end
end Lg
end Go.Proofs.Ytpfhmodjjljpjaa

namespace Go.Proofs.Ytpfhmodjjljpjaa
open Go.RowKit
namespace Lg
set_option linter.unusedSimpArgs false
set_option linter.unusedVariables false
def isW (x : Int) : Prop := 0 ≤ x ∧ x < 4294967296
def flagU (c : Bool) : Int := if c then 1 else 0
def bitsR : Nat → Int → List Int
  | 0, _ => []
  | n + 1, a => (a % 2) :: bitsR n (a / 2)
def ofR : List Int → Int
  | [] => 0
  | b :: l => 2 * ofR l + b
def bothBit (op x y : Int) : Int := if (x + y = 2 ∧ op ≠ 11) ∨ (x + y = 1 ∧ op ≠ 9) then 1 else 0
def bothL (op : Int) (x y : List Int) : List Int := List.zipWith (bothBit op) x y
def bothU (op a b : Int) : Int := ofR (bothL op (bitsR 32 a) (bitsR 32 b)) % 4294967296
def shiftN (op : Int) : Nat → Int → Int
  | 0, n => n
  | k + 1, n => shiftN op k (if op = 12 then 2 * n % 4294967296 else n / 2)
def shiftU (op a b : Int) : Int := if b ≥ 32 then 0 else shiftN op b.toNat a
def appV (op a b : Int) : Int :=
  if op = 4 then (a + b) % 4294967296 else if op = 5 then (a + 4294967296 - b) % 4294967296 else if op = 6 then (a * b) % 4294967296
  else if op = 7 then (if b = 0 then 0 else a / b) else if op = 8 then (if b = 0 then 0 else a % b)
  else if op = 9 ∨ op = 10 ∨ op = 11 then bothU op a b else if op = 12 ∨ op = 13 then shiftU op a b
  else if op = 14 then flagU (decide (a < b)) else if op = 15 then flagU (decide (a = b)) else 0
def appE (op b : Int) : Int := if (op = 7 ∨ op = 8) ∧ b = 0 then 14 else if 4 ≤ op ∧ op ≤ 15 then 0 else 1
theorem bitsR_len : ∀ (n : Nat) (a : Int), (bitsR n a).length = n
  | 0, _ => rfl
  | n + 1, a => by simp [bitsR, bitsR_len n]
theorem bitsR_bit : ∀ (n : Nat) (a : Int), ∀ x ∈ bitsR n a, x = 0 ∨ x = 1
  | 0, _, x, h => by cases h
  | n + 1, a, x, h => by
    rcases List.mem_cons.1 h with rfl | h
    · omega
    · exact bitsR_bit n _ x h
theorem bothBit_bit (op x y : Int) : bothBit op x y = 0 ∨ bothBit op x y = 1 := by
  unfold bothBit; split <;> simp
theorem bothL_bit {op : Int} {x y : List Int} : ∀ z ∈ bothL op x y, z = 0 ∨ z = 1 := fun z hz => by
  unfold bothL at hz
  obtain ⟨i, hi, rfl⟩ := List.getElem_of_mem hz
  simp only [List.getElem_zipWith]
  exact bothBit_bit _ _ _
theorem ofR_bd : ∀ (l : List Int), (∀ x ∈ l, x = 0 ∨ x = 1) → 0 ≤ ofR l ∧ ofR l < 2 ^ l.length
  | [], _ => by simp [ofR]
  | b :: l, h => by
    obtain ⟨h1, h2⟩ := ofR_bd l (fun x hx => h x (List.mem_cons_of_mem _ hx))
    have h3 := h b (by simp)
    simp only [ofR, List.length_cons, Int.pow_succ]
    omega
theorem ofR_drop {l : List Int} {j : Nat} (h : j < l.length) : ofR (l.drop j) = 2 * ofR (l.drop (j + 1)) + l.getD j default := by
  rw [List.drop_eq_getElem_cons h]
  simp [ofR, List.getD, h]
theorem ofR_bd32 {l : List Int} (hb : ∀ x ∈ l, x = 0 ∨ x = 1) (hl : l.length ≤ 32) (j : Nat) : 0 ≤ ofR (l.drop j) ∧ ofR (l.drop j) < 4294967296 := by
  obtain ⟨h1, h2⟩ := ofR_bd (l.drop j) (fun x hx => hb x (List.mem_of_mem_drop hx))
  refine ⟨h1, Int.lt_of_lt_of_le h2 ?_⟩
  have h3 : (l.drop j).length ≤ 32 := by simp; omega
  have h4 : (2 : Int) ^ (l.drop j).length ≤ 2 ^ 32 := by exact_mod_cast Nat.pow_le_pow_right (by omega) h3
  simpa using h4
theorem mul_bd {a b : Int} (ha : isW a) (hb : isW b) : 0 ≤ a * b ∧ a * b < 18446744073709551616 := by
  obtain ⟨a1, a2⟩ := ha
  obtain ⟨b1, b2⟩ := hb
  refine ⟨Int.mul_nonneg a1 b1, ?_⟩
  have h : a * b ≤ 4294967295 * 4294967295 := Int.mul_le_mul (by omega) (by omega) b1 (by omega)
  omega
theorem div_bd {a b : Int} (ha : isW a) (hb : isW b) : 0 ≤ a / b ∧ a / b < 4294967296 :=
  ⟨Int.ediv_nonneg ha.1 hb.1, Int.lt_of_le_of_lt (Int.ediv_le_self _ ha.1) ha.2⟩
theorem mod_bd {a b : Int} (ha : isW a) (hb : isW b) (h : b ≠ 0) : 0 ≤ a % b ∧ a % b < 4294967296 :=
  ⟨Int.emod_nonneg _ h, by have := Int.emod_lt_of_pos a (show 0 < b by have := hb.1; omega); have := hb.2; omega⟩
theorem shiftN_isW {op : Int} : ∀ (k : Nat) (n : Int), isW n → isW (shiftN op k n)
  | 0, n, h => h
  | k + 1, n, h => by
    refine shiftN_isW k _ ?_
    obtain ⟨h1, h2⟩ := h
    split <;> constructor <;> omega
theorem appV_isW {op a b : Int} (ha : isW a) (hb : isW b) : isW (appV op a b) := by
  have hz : isW 0 := ⟨by omega, by omega⟩
  have hf : ∀ c, isW (flagU c) := fun c => by cases c <;> constructor <;> decide
  have hm : ∀ x : Int, isW (x % 4294967296) := fun x => ⟨by omega, by omega⟩
  unfold appV
  by_cases h4 : op = 4
  · rw [if_pos h4]; exact hm _
  rw [if_neg h4]
  by_cases h5 : op = 5
  · rw [if_pos h5]; exact hm _
  rw [if_neg h5]
  by_cases h6 : op = 6
  · rw [if_pos h6]; exact hm _
  rw [if_neg h6]
  by_cases h7 : op = 7
  · rw [if_pos h7]; by_cases hb0 : b = 0
    · rw [if_pos hb0]; exact hz
    · rw [if_neg hb0]; exact div_bd ha hb
  rw [if_neg h7]
  by_cases h8 : op = 8
  · rw [if_pos h8]; by_cases hb0 : b = 0
    · rw [if_pos hb0]; exact hz
    · rw [if_neg hb0]; exact mod_bd ha hb hb0
  rw [if_neg h8]
  by_cases h9 : op = 9 ∨ op = 10 ∨ op = 11
  · rw [if_pos h9]; exact hm _
  rw [if_neg h9]
  by_cases h12 : op = 12 ∨ op = 13
  · rw [if_pos h12]; unfold shiftU
    by_cases h32 : b ≥ 32
    · rw [if_pos h32]; exact hz
    · rw [if_neg h32]; exact shiftN_isW _ _ ha
  rw [if_neg h12]
  by_cases h14 : op = 14
  · rw [if_pos h14]; exact hf _
  rw [if_neg h14]
  by_cases h15 : op = 15
  · rw [if_pos h15]; exact hf _
  rw [if_neg h15]
  exact hz
theorem bits_fin {n : Nat} {acc L : List Int} {y : Int} (h0 : n ≤ 32) (h1 : 32 ≤ (n : Int)) (h : acc ++ bitsR (32 - n) y = L) : L = acc := by
  have e : n = 32 := by omega
  subst e
  rw [← h]
  exact List.append_nil _
def mixB (op : Int) (x y : List Int) (j : Nat) : List Int := (bothL op x y).take j ++ x.drop j
section
variable {op : Int} {x y : List Int} {j : Nat}
theorem bothL_len (hx : x.length = 32) (hy : y.length = 32) : (bothL op x y).length = 32 := by simp [bothL, hx, hy]
theorem mixB_len (hx : x.length = 32) (hy : y.length = 32) (hj : j ≤ 32) : (mixB op x y j).length = 32 := by
  have := bothL_len (op := op) hx hy
  simp [mixB, hx, this]; omega
theorem mixB_get (hx : x.length = 32) (hy : y.length = 32) (hj : j < 32) : (mixB op x y j).getD j default = x.getD j default := by
  have := bothL_len (op := op) hx hy
  have h1 : ((bothL op x y).take j).length = j := by simp [this]; omega
  simp only [mixB, List.getD]
  rw [List.getElem?_append_right (by omega), h1]
  simp
theorem mixB_set (hx : x.length = 32) (hy : y.length = 32) (hj : j < 32) {v : Int} (hv : v = bothBit op (x.getD j default) (y.getD j default)) : (mixB op x y j).set j v = mixB op x y (j + 1) := by
  have hl := bothL_len (op := op) hx hy
  apply List.ext_getElem?
  intro i
  rw [List.getElem?_set]
  have hm := mixB_len (op := op) (j := j) hx hy (by omega)
  by_cases hi : j = i
  · subst hi
    rw [if_pos rfl, if_pos (by omega)]
    simp only [mixB]
    rw [List.getElem?_append_left (by simp [hl]; omega), List.getElem?_take, if_pos (by omega), hv]
    simp [bothL, List.getElem?_zipWith, List.getD, show j < x.length by omega, show j < y.length by omega]
  · rw [if_neg hi]
    simp only [mixB]
    by_cases h2 : i < j
    · rw [List.getElem?_append_left (by simp [hl]; omega), List.getElem?_append_left (by simp [hl]; omega), List.getElem?_take, List.getElem?_take, if_pos h2, if_pos (by omega)]
    · rw [List.getElem?_append_right (by simp [hl]; omega), List.getElem?_append_right (by simp [hl]; omega)]
      simp only [List.getElem?_drop, List.length_take, hl]
      congr 1
      omega
theorem mixB_end (hx : x.length = 32) (hy : y.length = 32) (hj : j = 32) : mixB op x y j = bothL op x y := by
  subst hj
  rw [mixB, List.take_of_length_le (by rw [bothL_len hx hy]; omega), List.drop_of_length_le (by omega), List.append_nil]
theorem bb_one {op a b : Int} (h : (a + b = 2 ∧ op ≠ 11) ∨ (a + b = 1 ∧ op ≠ 9)) : 1 = bothBit op a b := by unfold bothBit; rw [if_pos h]
theorem bb_zero {op a b : Int} (h : ¬ ((a + b = 2 ∧ op ≠ 11) ∨ (a + b = 1 ∧ op ≠ 9))) : 0 = bothBit op a b := by unfold bothBit; rw [if_neg h]
theorem mix_one (hx : x.length = 32) (hy : y.length = 32) (hj : j < 32) (h : ((mixB op x y j).getD j default + y.getD j default = 2 ∧ op ≠ 11) ∨ ((mixB op x y j).getD j default + y.getD j default = 1 ∧ op ≠ 9)) : ((mixB op x y j).set j 0).set j 1 = mixB op x y (j + 1) := by
  rw [List.set_set]
  rw [mixB_get hx hy hj] at h
  exact mixB_set hx hy hj (bb_one h)
theorem mix_zero (hx : x.length = 32) (hy : y.length = 32) (hj : j < 32) (h : ¬ (((mixB op x y j).getD j default + y.getD j default = 2 ∧ op ≠ 11) ∨ ((mixB op x y j).getD j default + y.getD j default = 1 ∧ op ≠ 9))) : (mixB op x y j).set j 0 = mixB op x y (j + 1) := by
  rw [mixB_get hx hy hj] at h
  exact mixB_set hx hy hj (bb_zero h)
theorem mix_bd (hx : x.length = 32) (hy : y.length = 32) (hj : j < 32) (hbx : ∀ z ∈ x, z = 0 ∨ z = 1) (hby : ∀ z ∈ y, z = 0 ∨ z = 1) : (0 ≤ (mixB op x y j).getD j default ∧ (mixB op x y j).getD j default ≤ 1) ∧ 0 ≤ y.getD j default ∧ y.getD j default ≤ 1 := by
  rw [mixB_get hx hy hj]
  have h1 := hbx (x.getD j default) (getD_mem (by omega))
  have h2 := hby (y.getD j default) (getD_mem (by omega))
  omega
end
theorem shift_hi {op a b : Int} (h : b ≥ 32) : shiftU op a b = 0 := by unfold shiftU; rw [if_pos h]
theorem shift_lo {op a b y : Int} {n : Nat} (h : b < 32) (hn : (n : Int) ≤ b) (hn2 : b ≤ (n : Int)) (he : shiftN op (b.toNat - n) y = shiftN op b.toNat a) : shiftU op a b = y := by
  unfold shiftU
  rw [if_neg (by omega), ← he, show b.toNat - n = 0 by omega]
  rfl
theorem app_end {σ : Nat → Nat} {op a b x e : Int} (h1 : appV op a b = x) (h2 : appE op b = e) : resLV [.v (.int .u32 x), .v (.int .i64 e)] = LV.ren σ (.tup [.v (.int .u32 (appV op a b)), .v (.int .i64 (appE op b))]) := by subst h1 h2; rfl
end Lg
end Go.Proofs.Ytpfhmodjjljpjaa

namespace Go.Proofs.Ytpfhmodjjljpjaa
open Go.ChangeShapes Go.WideShapes Go.ChangeAt Go.RowKit
namespace Lg
set_option linter.unusedSimpArgs false
set_option linter.unusedVariables false
set_option maxRecDepth 100000
section
variable {w : World} {H : Type} {enc : TypeId × Value → H}
theorem arg_str {r : Reach} {b : Nat} {v : Value} {d : DataW H} {p : List MemPlace} (hv : Value.okWide Try.prog w r b 9 v) (hd : DataW.Trod enc Try.prog w 0 (fun _ => true) true 9 v d p) (hw : (d.weights Try.prog 9).all (· ≤ reachBytes) = true) :
    ∃ s : ByteArray, v = .string s := by
  obtain ⟨s, rfl⟩ := okWide_string Try.underlying9 hv
  exact ⟨s, rfl⟩
end
theorem wprog_n {p : GProg} (h : WProg p) : ∀ f ∈ p.funcs, ∀ b ∈ f.blocks, ∀ t ∈ b.ins, isW t.n := fun f hf b hb t ht => (((h.each f hf).each b hb).ins t ht).n
end Lg
end Go.Proofs.Ytpfhmodjjljpjaa

namespace Go.Proofs.Ytpfhmodjjljpjaa
open Go.ChangeShapes Go.WideShapes Go.ChangeAt Go.RowKit
namespace Lg
set_option maxRecDepth 100000
structure GClaim where
  b : GProg
  new : GFn
  paths : List (List Int)
structure WClaim (x : GClaim) : Prop where
  b : WProg x.b
  new : WFn x.new
  paths : WIss x.paths
def eClaim (x : GClaim) : List Cell := eProg x.b ++ (eFn x.new ++ ([.sl 1 (x.paths.map eIs)] ++ []))
section
variable {H : Type} {enc : TypeId × Value → H} {w : World}
theorem o_claim : Opens enc Try.prog w 46 eClaim WClaim :=
  (opens_struct (n := 5) Try.underlying46 (by kernel_rfl) (opensF_cons (k := 2) rfl (by kernel_rfl) o_prog <| opensF_cons (k := 2) rfl (by kernel_rfl) o_fn <| opensF_cons (k := 1) rfl (by kernel_rfl) o_iss <| opensF_nil rfl)).map
  (fun x h => ⟨⟨x.1, x.2.1, x.2.2.1⟩, rfl, ⟨h.1, h.2.1, h.2.2.1⟩⟩)
theorem arg_claim {r : Reach} {b : Nat} {v : Value} {d : DataW H} {p : List MemPlace} (hv : Value.okWide Try.prog w r b 46 v) (hd : DataW.Trod enc Try.prog w 0 (fun _ => true) true 46 v d p) (hw : (d.weights Try.prog 46).all (· ≤ reachBytes) = true) :
    ∃ (x : GClaim) (s1 s2 s3 : Value), v = .agg #[.int .i64 x.b.words, s1, .int .i64 x.new.regs, s2, s3] ∧ Rd w (fun _ => True) (.sl 2 (x.b.funcs.map eFn)) s1 ∧ Rd w (fun _ => True) (.sl 5 (x.new.blocks.map eBlock)) s2 ∧ Rd w (fun _ => True) (.sl 1 (x.paths.map eIs)) s3 ∧ WClaim x := by
  obtain ⟨x, cs, rfl, h1, h2⟩ := arg_agg o_claim (by rw [Try.underlying46]) hv hd hw
  obtain ⟨l⟩ := cs
  match l, h1 with
  | [v1, s1, v2, s2, s3], h1 =>
    obtain ⟨a1, a2, a3, a4, a5, _⟩ := h1
    exact ⟨x, s1, s2, s3, by rw [rd_v a1, rd_v a3], a2, a4, a5, h2⟩
end
end Lg
end Go.Proofs.Ytpfhmodjjljpjaa

namespace Go.Proofs.Ytpfhmodjjljpjaa
open Go.RowKit
namespace Lg
theorem T_eqTac8 {N : Nat} {o : Oper} {b : Nat} {st : St} {x y : Operand} (u : GTac) {v1 v2 v3 v4 v5 v6 v7 v8 : Int} {t' : TypeId} (ho : o.op = .binOp .eql 70 x y t') (hx : st.ev x = some (lvTac u))
    (hy : st.ev y = some (.agg [.v (.int .i64 v1), .v (.int .i64 v2), .v (.int .i64 v3), .v (.int .i64 v4), .v (.int .i64 v5), .v (.int .i64 v6), .v (.int .i64 v7), .v (.int .u32 v8)])) : T Try.prog N o b [] st (.v (.bool (decide (u = ⟨v1, v2, v3, v4, v5, v6, v7, v8⟩)))) 0 [] :=
  T_eqTac u ⟨v1, v2, v3, v4, v5, v6, v7, v8⟩ ho hx hy
def withinB (i n : Int) : Bool := decide (0 ≤ i) && decide (i < n)
def setsOp (op : Int) : Bool := decide (op = 1 ∨ op = 2 ∨ op = 3 ∨ op = 4 ∨ op = 6 ∨ op = 8)
def setsT (t : GTac) : Int := if setsOp t.op = true then t.d else -1
def usesT (t : GTac) : List Int := if t.op = 2 ∨ t.op = 5 ∨ t.op = 6 ∨ t.op = 9 then [t.a] else if t.op = 3 ∨ t.op = 7 then [t.a, t.b] else []
def wantT (t : GTac) : GTac :=
  ⟨t.op, if setsOp t.op = true then t.d else 0, if 0 < (usesT t).length then t.a else 0, if 1 < (usesT t).length then t.b else 0, if t.op = 3 then t.k else 0, if t.op = 4 ∨ t.op = 5 ∨ t.op = 6 ∨ t.op = 7 ∨ t.op = 10 then t.base else 0, if t.op = 6 ∨ t.op = 7 then t.size else 0, if t.op = 1 then t.n else 0⟩
def FitsP (t : GTac) (f regs words : Int) : Prop :=
  (1 ≤ t.op ∧ t.op ≤ 10) ∧ (setsOp t.op = true → withinB t.d regs = true) ∧ (∀ u ∈ usesT t, withinB u regs = true) ∧ (t.op = 3 → 4 ≤ t.k ∧ t.k ≤ 15) ∧ (t.op = 4 ∨ t.op = 5 → withinB t.base words = true) ∧
  (t.op = 6 ∨ t.op = 7 → 1 ≤ t.size ∧ t.size ≤ 4096 ∧ 0 ≤ t.base ∧ t.base ≤ words - t.size) ∧ (t.op = 10 → withinB t.base f = true) ∧ t = wantT t
instance (t : GTac) (f regs words : Int) : Decidable (FitsP t f regs words) := by unfold FitsP; infer_instance
def fitsB (t : GTac) (f regs words : Int) : Bool := decide (FitsP t f regs words)
def endsB (b : GBlock) (blocks regs : Int) : Bool :=
  if b.fin = 1 then withinB b.to blocks && (b.v == 0) && (b.els == 0)
  else if b.fin = 2 then withinB b.to blocks && withinB b.els blocks && withinB b.v regs
  else (b.fin == 3) && (b.v == 0) && (b.to == 0) && (b.els == 0)
def blockB (b : GBlock) (blocks number regs words : Int) : Bool := endsB b blocks regs && b.ins.all (fun t => fitsB t number regs words)
def oneB (f : GFn) (number words : Int) : Bool := decide (0 ≤ f.regs ∧ f.regs ≤ 4000 ∧ f.blocks ≠ []) && f.blocks.all (fun b => blockB b f.blocks.length number f.regs words)
def rightB (p : GProg) : Bool := decide (0 ≤ p.words ∧ p.words ≤ 1048576 ∧ p.funcs ≠ []) && (List.range p.funcs.length).all (fun i => oneB (p.funcs.getD i default) (i : Int) p.words)
theorem setsOp_t {op : Int} (h : op = 1 ∨ op = 2 ∨ op = 3 ∨ op = 4 ∨ op = 6 ∨ op = 8) : setsOp op = true := decide_eq_true h
theorem setsOp_f {op : Int} (h : ¬ (op = 1 ∨ op = 2 ∨ op = 3 ∨ op = 4 ∨ op = 6 ∨ op = 8)) : setsOp op = false := decide_eq_false h
theorem setsT_ge {t : GTac} (h : setsT t ≥ 0) : setsOp t.op = true := by
  unfold setsT at h
  split at h
  · assumption
  · omega
theorem fits_fin {t : GTac} {f regs words k base size n : Int} (h : (1 ≤ t.op ∧ t.op ≤ 10) ∧ (setsOp t.op = true → withinB t.d regs = true) ∧ (∀ u ∈ usesT t, withinB u regs = true)) (h3 : t.op = 3 → 4 ≤ t.k ∧ t.k ≤ 15) (h4 : t.op = 4 ∨ t.op = 5 → withinB t.base words = true)
    (h6 : t.op = 6 ∨ t.op = 7 → 1 ≤ t.size ∧ t.size ≤ 4096 ∧ 0 ≤ t.base ∧ t.base ≤ words - t.size) (h10 : t.op = 10 → withinB t.base f = true)
    (hk : k = if t.op = 3 then t.k else 0) (hb : base = if t.op = 4 ∨ t.op = 5 ∨ t.op = 6 ∨ t.op = 7 ∨ t.op = 10 then t.base else 0) (hs : size = if t.op = 6 ∨ t.op = 7 then t.size else 0) (hn : n = if t.op = 1 then t.n else 0) :
    decide (t = ⟨t.op, if setsOp t.op = true then t.d else 0, if 0 < (usesT t).length then t.a else 0, if 1 < (usesT t).length then t.b else 0, k, base, size, n⟩) = fitsB t f regs words := by
  subst hk hb hs hn
  show decide (t = wantT t) = _
  unfold fitsB
  by_cases hw : t = wantT t
  · rw [decide_eq_true hw, decide_eq_true]
    exact ⟨h.1, h.2.1, h.2.2, h3, h4, h6, h10, hw⟩
  · rw [decide_eq_false hw, decide_eq_false]
    exact fun hF => hw hF.2.2.2.2.2.2.2
theorem fits_no {t : GTac} {f regs words : Int} (h : ¬ FitsP t f regs words) : false = fitsB t f regs words := (decide_eq_false h).symm
theorem usesT_le (t : GTac) : (usesT t).length ≤ 2 := by
  unfold usesT
  split
  · simp
  · split <;> simp
theorem blockB_t {b : GBlock} {n number regs words : Int} (h : endsB b n regs = true) (h2 : ∀ m, m < b.ins.length → fitsB (b.ins.getD m default) number regs words = true) : blockB b n number regs words = true := by
  unfold blockB
  rw [h, all_iff_getD.2 h2]
  rfl
theorem one_no1 {f : GFn} {number words : Int} (h : ¬ (0 ≤ f.regs ∧ f.regs ≤ 4000 ∧ ¬ (f.blocks.length : Int) = 0)) : false = oneB f number words := by
  unfold oneB
  rw [decide_eq_false (fun hk => h ⟨hk.1, hk.2.1, fun e => hk.2.2 (List.eq_nil_of_length_eq_zero (by omega))⟩)]
  rfl
theorem one_no2 {f : GFn} {number words : Int} {j : Nat} (hj : j < f.blocks.length) (h : endsB (f.blocks.getD j default) f.blocks.length f.regs = false) : false = oneB f number words := by
  unfold oneB
  rw [all_false_at hj (by unfold blockB; rw [h]; rfl), Bool.and_false]
theorem one_no3 {f : GFn} {number words : Int} {j i : Nat} (hj : j < f.blocks.length) (hi : i < (f.blocks.getD j default).ins.length) (h : fitsB ((f.blocks.getD j default).ins.getD i default) number f.regs words = false) : false = oneB f number words := by
  unfold oneB
  rw [all_false_at hj (by unfold blockB; rw [all_false_at hi h, Bool.and_false]), Bool.and_false]
theorem one_yes {f : GFn} {number words : Int} (h : 0 ≤ f.regs ∧ f.regs ≤ 4000) (h0 : ¬ (f.blocks.length : Int) = 0) (hb : ∀ i, i < f.blocks.length → blockB (f.blocks.getD i default) f.blocks.length number f.regs words = true) : true = oneB f number words := by
  unfold oneB
  rw [decide_eq_true ⟨h.1, h.2, fun e => h0 (by rw [e]; rfl)⟩, all_iff_getD.2 hb]
  rfl
end Lg
end Go.Proofs.Ytpfhmodjjljpjaa
