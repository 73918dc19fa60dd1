import Derived.Test.YtpfhmodjjljpjaaTidyOf3
set_option linter.unusedVariables false
set_option linter.unusedSimpArgs false
namespace Go.Proofs.Ytpfhmodjjljpjaa
open Go.RowKit
namespace Lg
set_option maxRecDepth 100000
set_option linter.unusedVariables false
set_option linter.unusedSimpArgs false



theorem body112 : (Try.prog.funcs[112]?).map (fun fn => (fn.name == "runtime.NumGoroutine" || fn.body.isNone)) = some false := by kernel_rfl
theorem taken_spec (f : GFn) (next : List (List Int)) (reached : List Bool) (hb : f.blocks.length ≤ 1000000) (hn : next.length = f.blocks.length) (hr : reached.length = f.blocks.length) (M : Nat) (hM : M ≤ 1000000) (hnl : ∀ l ∈ next, l.length ≤ M) (hin : ∀ l ∈ next, ∀ i, i < l.length → 0 ≤ l.getD i default ∧ l.getD i default < (f.blocks.length : Int)) : Spec Try.prog 112 [.agg [.v (.int .i64 f.regs), .r 1], .r 2, .r 3] 4 [(1, .fz 5 (f.blocks.map eBlock)), (2, .fz 1 (next.map eIs)), (3, .fz 1 (reached.map eB))] (.r 4) 5 [(4, .row 3 1 (((List.range f.blocks.length).map (takenAt f reached (fromAll next reached f.blocks.length next.length))).map eI))] := by
  refine spec_of D (fn := Try.f112) rfl rfl (Nat.le_of_ble_eq_true rfl) ?_
  refine W_seq ?_
  refine W_seqK (b' := 36) rfl rfl ?_
  refine q1 3 4 1 rfl rfl (T_box rfl rfl flat_agg) rfl ?_
  refine q1 6 20 2 rfl rfl (T_nils [(3, 1)] (T_assign rfl rfl) rfl (.inr ⟨rfl, rfl⟩) (.cons (.nil rfl) .nil) (lv' := .r 20) (upd' := [(20, .row 3 1 (List.map eI ([] : List (Int))))]) (nn' := 1) rfl rfl) rfl ?_
  refine k_done rfl ?_
  refine thenK_n ?_
  refine W_seq ?_
  refine W_seqK (b' := 116) rfl rfl ?_
  refine q0 15 36 1 rfl rfl (T_fa D (m := 1) rfl rfl rfl rfl rfl rfl) rfl ?_
  refine q0 16 52 2 rfl rfl (T_load_b D rfl rfl rfl rfl rfl rfl) rfl ?_
  refine q0 17 68 3 rfl rfl (T_len D rfl rfl rfl rfl rfl rfl) rfl ?_
  refine q1 18 84 4 rfl rfl (T_makeN D (e2 := 3) (sz2 := 1) rfl rfl rfl rfl rfl rfl rfl rfl (by simp) (by (try simp only [ty52]); first | assumption | omega | (simp only [List.length_append, List.length_map, List.length_take, List.length_range, List.length_replicate, List.length_set]; omega) | (have k1 := hfi j (by omega) (by omega); first | exact k1.1 | exact k1.2 | exact (Int.toNat_lt k1.1).2 k1.2 | omega) | (have k1 := hq (by omega); omega) | (have k0 := hq (by omega); have k1 := hqb ((next.getD j default).getD i default).toNat (by omega); simp only [List.length_cons, List.length_nil]; omega)) (by (try simp only [ty52]); first | assumption | omega | (simp only [List.length_append, List.length_map, List.length_take, List.length_range, List.length_replicate, List.length_set]; omega) | (have k1 := hfi j (by omega) (by omega); first | exact k1.1 | exact k1.2 | exact (Int.toNat_lt k1.1).2 k1.2 | omega) | (have k1 := hq (by omega); omega) | (have k0 := hq (by omega); have k1 := hqb ((next.getD j default).getD i default).toNat (by omega); simp only [List.length_cons, List.length_nil]; omega))) rfl ?_
  refine q0 7 100 5 rfl rfl (T_assign rfl rfl) rfl ?_
  refine k_done rfl ?_
  refine thenK_n ?_
  refine W_seq ?_
  refine W_seq ?_
  refine W_seqK (b' := 164) rfl rfl ?_
  refine q0 19 116 1 rfl rfl (T_move rfl rfl) rfl ?_
  refine q0 20 132 2 rfl rfl (T_len D rfl rfl rfl rfl rfl rfl) rfl ?_
  refine q0 21 148 3 rfl rfl (T_move rfl rfl) rfl ?_
  refine k_done rfl ?_
  refine thenK_n ?_
  refine W_block ?_
  refine W_loop (ι := Nat) 6 (fun j => ⟨[(2, .r 3), (3, .p 4 0), (7, .r 5), (19, .r 2), (20, .v (.int .i64 (next.length : Int))), (21, .v (.int .i64 (j : Int)))], [(1, .fz 5 (f.blocks.map eBlock)), (2, .fz 1 (next.map eIs)), (3, .fz 1 (reached.map eB)), (4, .box 29 [.v (.int .i64 f.regs), .r 1]), (5, .nest 52 3 1 ((fromAll next reached f.blocks.length j).map (List.map eI)) none)]⟩) (fun j => j ≤ next.length ∧ ∀ l ∈ fromAll next reached f.blocks.length j, l.length ≤ j * M) (fun j => next.length - j) (0) (by exact ⟨Nat.zero_le _, fun l h => by simp [fromAll] at h; simp [h.2]⟩) ?_ (fun j hJ => ?_)
  · exact ⟨[(4, 4), (5, 84)], .same rfl rfl (.same rfl rfl (.same rfl rfl (.same rfl rfl (.eq rfl (.eq rfl (.nil) (by first | rfl | simp [fromAll])) (by first | rfl | simp [fromAll]))))), .fzE rfl (.fzE rfl (.fzE rfl (.box (by first | rfl | simp [fromAll]) (.nestE rfl (.nil) (by first | rfl | simp [fromAll]))) (by first | rfl | simp [fromAll])) (by first | rfl | simp [fromAll])) (by first | rfl | simp [fromAll]), rfl⟩
  have hfl := fromAll_length next reached f.blocks.length j
  have hs := fromAll_succ next reached f.blocks.length j
  refine W_seq ?_
  refine W_seqK (b' := 22) rfl rfl ?_
  refine q0 22 6 1 rfl rfl (T_cmp rfl rfl rfl rfl) rfl ?_
  refine k_done rfl ?_
  refine thenK_n ?_
  refine W_seq ?_
  refine W_cond rfl (fun g1 => ?_) (fun g1 => ?_)
  · have h1 := c_lss_t g1
    refine W_skip ?_
    refine thenK_n ?_
    refine W_seq ?_
    refine W_block ?_
    refine W_seq ?_
    refine W_seqK (b' := 102) rfl rfl ?_
    refine q0 23 22 1 rfl rfl (T_move rfl rfl) rfl ?_
    first | refine q0 24 38 2 rfl rfl (T_indexAddr D rfl rfl rfl rfl rfl rfl rfl rfl (by first | assumption | omega | (simp only [List.length_append, List.length_map, List.length_take, List.length_range, List.length_replicate, List.length_set]; omega) | (have k1 := hfi j (by omega) (by omega); first | exact k1.1 | exact k1.2 | exact (Int.toNat_lt k1.1).2 k1.2 | omega) | (have k1 := hq (by omega); omega) | (have k0 := hq (by omega); have k1 := hqb ((next.getD j default).getD i default).toNat (by omega); simp only [List.length_cons, List.length_nil]; omega))) rfl ?_ | refine q0 24 38 2 rfl rfl (T_indexAddrZ D rfl rfl rfl rfl rfl rfl rfl rfl (by first | assumption | omega | (simp only [List.length_append, List.length_map, List.length_take, List.length_range, List.length_replicate, List.length_set]; omega) | (have k1 := hfi j (by omega) (by omega); first | exact k1.1 | exact k1.2 | exact (Int.toNat_lt k1.1).2 k1.2 | omega) | (have k1 := hq (by omega); omega) | (have k0 := hq (by omega); have k1 := hqb ((next.getD j default).getD i default).toNat (by omega); simp only [List.length_cons, List.length_nil]; omega)) (by first | assumption | omega | (simp only [List.length_append, List.length_map, List.length_take, List.length_range, List.length_replicate, List.length_set]; omega) | (have k1 := hfi j (by omega) (by omega); first | exact k1.1 | exact k1.2 | exact (Int.toNat_lt k1.1).2 k1.2 | omega) | (have k1 := hq (by omega); omega) | (have k0 := hq (by omega); have k1 := hqb ((next.getD j default).getD i default).toNat (by omega); simp only [List.length_cons, List.length_nil]; omega))) rfl ?_
    refine q1 25 54 3 rfl rfl (T_ldE D (lv := .r 54) (nn := 1) (upd := [(54, .fz 1 _)]) rfl rfl rfl rfl rfl (by first | assumption | omega | (simp only [List.length_append, List.length_map, List.length_take, List.length_range, List.length_replicate, List.length_set]; omega) | (have k1 := hfi j (by omega) (by omega); first | exact k1.1 | exact k1.2 | exact (Int.toNat_lt k1.1).2 k1.2 | omega) | (have k1 := hq (by omega); omega) | (have k0 := hq (by omega); have k1 := hqb ((next.getD j default).getD i default).toNat (by omega); simp only [List.length_cons, List.length_nil]; omega)) rfl rfl rfl rfl) rfl ?_
    refine q0 8 70 4 rfl rfl (T_assign rfl rfl) rfl ?_
    refine q0 9 86 5 rfl rfl (T_assign rfl rfl) rfl ?_
    refine k_done rfl ?_
    refine thenK_n ?_
    refine W_seq ?_
    refine W_seqK (b' := 150) rfl rfl ?_
    refine q0 26 102 1 rfl rfl (T_move rfl rfl) rfl ?_
    refine q0 27 118 2 rfl rfl (T_len D rfl rfl rfl rfl rfl rfl) rfl ?_
    refine q0 28 134 3 rfl rfl (T_move rfl rfl) rfl ?_
    refine k_done rfl ?_
    refine thenK_n ?_
    refine W_block ?_
    have hlj := hnl (next.getD j default) (getD_mem (by omega))
    have hinj := hin (next.getD j default) (getD_mem (by omega))
    refine W_loop (ι := Nat) 7 (fun i => ⟨[(2, .r 3), (3, .p 4 0), (7, .r 5), (8, .v (.int .i64 (j : Int))), (19, .r 2), (20, .v (.int .i64 (next.length : Int))), (21, .v (.int .i64 (j : Int))), (26, .r 6), (27, .v (.int .i64 ((next.getD j default).length : Int))), (28, .v (.int .i64 (i : Int)))], [(1, .fz 5 (f.blocks.map eBlock)), (2, .fz 1 (next.map eIs)), (3, .fz 1 (reached.map eB)), (4, .box 29 [.v (.int .i64 f.regs), .r 1]), (5, .nest 52 3 1 ((((next.getD j default).take i).foldl (fromStep reached j) (fromAll next reached f.blocks.length j)).map (List.map eI)) none), (6, .fz 1 ((next.getD j default).map eI))]⟩) (fun i => i ≤ (next.getD j default).length ∧ ∀ q ∈ (((next.getD j default).take i).foldl (fromStep reached j) (fromAll next reached f.blocks.length j)), q.length ≤ j * M + i) (fun i => (next.getD j default).length - i) (0) (by exact ⟨Nat.zero_le _, fun q h => Nat.le_trans (hJ.2 q h) (Nat.le_add_right _ _)⟩) ?_ (fun i hI => ?_)
    · exact ⟨[(4, 4), (5, 5), (6, 54)], .same rfl rfl (.same rfl rfl (.same rfl rfl (.eq rfl (.same rfl rfl (.eq rfl (.eq rfl (.same rfl rfl (.eq rfl (.eq rfl (.nil) (by first | rfl | simp)) (by first | rfl | simp))) (by first | rfl | simp)) (by first | rfl | simp))) (by first | rfl | simp)))), .fzE rfl (.fzE rfl (.fzE rfl (.box (by first | rfl | simp) (.nestE rfl (.fzE rfl (.nil) (by first | rfl | simp)) (by first | rfl | simp))) (by first | rfl | simp)) (by first | rfl | simp)) (by first | rfl | simp), rfl⟩
    have hjM : j * M ≤ 1000000 * 1000000 := Nat.mul_le_mul (by omega) hM
    have hcl : (((next.getD j default).take i).foldl (fromStep reached j) (fromAll next reached f.blocks.length j)).length = f.blocks.length := by rw [foldl_length _ (fromStep_length reached j), hfl]
    have hst := fun h => foldl_take_succ (fromStep reached j) (next.getD j default) (fromAll next reached f.blocks.length j) i h
    have hq := hinj i
    have hqb : ∀ m, m < (((next.getD j default).take i).foldl (fromStep reached j) (fromAll next reached f.blocks.length j)).length → ((((next.getD j default).take i).foldl (fromStep reached j) (fromAll next reached f.blocks.length j)).getD m default).length ≤ j * M + i := fun m hm => hI.2 _ (getD_mem hm)
    refine W_seq ?_
    refine W_seqK (b' := 23) rfl rfl ?_
    refine q0 29 7 1 rfl rfl (T_cmp rfl rfl rfl rfl) rfl ?_
    refine k_done rfl ?_
    refine thenK_n ?_
    refine W_seq ?_
    refine W_cond rfl (fun g2 => ?_) (fun g2 => ?_)
    · have h2 := c_lss_t g2
      refine W_skip ?_
      refine thenK_n ?_
      refine W_seq ?_
      refine W_block ?_
      refine W_seq ?_
      refine W_seqK (b' := 71) rfl rfl ?_
      first | refine q0 30 23 1 rfl rfl (T_indexAddr D rfl rfl rfl rfl rfl rfl rfl rfl (by first | assumption | omega | (simp only [List.length_append, List.length_map, List.length_take, List.length_range, List.length_replicate, List.length_set]; omega) | (have k1 := hfi j (by omega) (by omega); first | exact k1.1 | exact k1.2 | exact (Int.toNat_lt k1.1).2 k1.2 | omega) | (have k1 := hq (by omega); omega) | (have k0 := hq (by omega); have k1 := hqb ((next.getD j default).getD i default).toNat (by omega); simp only [List.length_cons, List.length_nil]; omega))) rfl ?_ | refine q0 30 23 1 rfl rfl (T_indexAddrZ D rfl rfl rfl rfl rfl rfl rfl rfl (by first | assumption | omega | (simp only [List.length_append, List.length_map, List.length_take, List.length_range, List.length_replicate, List.length_set]; omega) | (have k1 := hfi j (by omega) (by omega); first | exact k1.1 | exact k1.2 | exact (Int.toNat_lt k1.1).2 k1.2 | omega) | (have k1 := hq (by omega); omega) | (have k0 := hq (by omega); have k1 := hqb ((next.getD j default).getD i default).toNat (by omega); simp only [List.length_cons, List.length_nil]; omega)) (by first | assumption | omega | (simp only [List.length_append, List.length_map, List.length_take, List.length_range, List.length_replicate, List.length_set]; omega) | (have k1 := hfi j (by omega) (by omega); first | exact k1.1 | exact k1.2 | exact (Int.toNat_lt k1.1).2 k1.2 | omega) | (have k1 := hq (by omega); omega) | (have k0 := hq (by omega); have k1 := hqb ((next.getD j default).getD i default).toNat (by omega); simp only [List.length_cons, List.length_nil]; omega))) rfl ?_
      refine q0 31 39 2 rfl rfl (T_ldE D (lv := .v _) (nn := 0) (upd := []) rfl rfl rfl rfl rfl (by first | assumption | omega | (simp only [List.length_append, List.length_map, List.length_take, List.length_range, List.length_replicate, List.length_set]; omega) | (have k1 := hfi j (by omega) (by omega); first | exact k1.1 | exact k1.2 | exact (Int.toNat_lt k1.1).2 k1.2 | omega) | (have k1 := hq (by omega); omega) | (have k0 := hq (by omega); have k1 := hqb ((next.getD j default).getD i default).toNat (by omega); simp only [List.length_cons, List.length_nil]; omega)) rfl rfl rfl rfl) rfl ?_
      refine q0 11 55 3 rfl rfl (T_assign rfl rfl) rfl ?_
      refine k_done rfl ?_
      refine thenK_n ?_
      refine W_seq ?_
      refine W_seqK (b' := 135) rfl rfl ?_
      refine q0 32 71 1 rfl rfl (T_move rfl rfl) rfl ?_
      refine q0 33 87 2 rfl rfl (T_move rfl rfl) rfl ?_
      first | refine q0 34 103 3 rfl rfl (T_indexAddr D rfl rfl rfl rfl rfl rfl rfl rfl (by first | assumption | omega | (simp only [List.length_append, List.length_map, List.length_take, List.length_range, List.length_replicate, List.length_set]; omega) | (have k1 := hfi j (by omega) (by omega); first | exact k1.1 | exact k1.2 | exact (Int.toNat_lt k1.1).2 k1.2 | omega) | (have k1 := hq (by omega); omega) | (have k0 := hq (by omega); have k1 := hqb ((next.getD j default).getD i default).toNat (by omega); simp only [List.length_cons, List.length_nil]; omega))) rfl ?_ | refine q0 34 103 3 rfl rfl (T_indexAddrZ D rfl rfl rfl rfl rfl rfl rfl rfl (by first | assumption | omega | (simp only [List.length_append, List.length_map, List.length_take, List.length_range, List.length_replicate, List.length_set]; omega) | (have k1 := hfi j (by omega) (by omega); first | exact k1.1 | exact k1.2 | exact (Int.toNat_lt k1.1).2 k1.2 | omega) | (have k1 := hq (by omega); omega) | (have k0 := hq (by omega); have k1 := hqb ((next.getD j default).getD i default).toNat (by omega); simp only [List.length_cons, List.length_nil]; omega)) (by first | assumption | omega | (simp only [List.length_append, List.length_map, List.length_take, List.length_range, List.length_replicate, List.length_set]; omega) | (have k1 := hfi j (by omega) (by omega); first | exact k1.1 | exact k1.2 | exact (Int.toNat_lt k1.1).2 k1.2 | omega) | (have k1 := hq (by omega); omega) | (have k0 := hq (by omega); have k1 := hqb ((next.getD j default).getD i default).toNat (by omega); simp only [List.length_cons, List.length_nil]; omega))) rfl ?_
      refine q0 35 119 4 rfl rfl (T_ldE D (lv := .v _) (nn := 0) (upd := []) rfl rfl rfl rfl rfl (by first | assumption | omega | (simp only [List.length_append, List.length_map, List.length_take, List.length_range, List.length_replicate, List.length_set]; omega) | (have k1 := hfi j (by omega) (by omega); first | exact k1.1 | exact k1.2 | exact (Int.toNat_lt k1.1).2 k1.2 | omega) | (have k1 := hq (by omega); omega) | (have k0 := hq (by omega); have k1 := hqb ((next.getD j default).getD i default).toNat (by omega); simp only [List.length_cons, List.length_nil]; omega)) rfl rfl rfl rfl) rfl ?_
      refine k_done rfl ?_
      refine thenK_n ?_
      refine W_cond rfl (fun g3 => ?_) (fun g3 => ?_)
      · have h3 := g3; (try simp only [cmpB, decide_eq_true_eq, decide_eq_false_iff_not, beq_iff_eq, beq_eq_false_iff_ne, bne_iff_ne, ne_eq, bne_eq_false_iff_eq, Bool.not_eq_true', Bool.not_eq_false', Int.not_lt, Int.not_le] at h3)
        refine W_seqK (b' := 311) rfl rfl ?_
        refine q0 36 135 1 rfl rfl (T_move rfl rfl) rfl ?_
        refine q0 37 151 2 rfl rfl (T_move rfl rfl) rfl ?_
        refine q0 38 167 3 rfl rfl (T_move rfl rfl) rfl ?_
        refine q0 39 183 4 rfl rfl (T_move rfl rfl) rfl ?_
        refine q0 40 199 5 rfl rfl (T_indexAddrN D rfl rfl rfl rfl rfl rfl rfl rfl (by first | assumption | omega | (simp only [List.length_append, List.length_map, List.length_take, List.length_range, List.length_replicate, List.length_set]; omega) | (have k1 := hfi j (by omega) (by omega); first | exact k1.1 | exact k1.2 | exact (Int.toNat_lt k1.1).2 k1.2 | omega) | (have k1 := hq (by omega); omega) | (have k0 := hq (by omega); have k1 := hqb ((next.getD j default).getD i default).toNat (by omega); simp only [List.length_cons, List.length_nil]; omega)) (by first | assumption | omega | (simp only [List.length_append, List.length_map, List.length_take, List.length_range, List.length_replicate, List.length_set]; omega) | (have k1 := hfi j (by omega) (by omega); first | exact k1.1 | exact k1.2 | exact (Int.toNat_lt k1.1).2 k1.2 | omega) | (have k1 := hq (by omega); omega) | (have k0 := hq (by omega); have k1 := hqb ((next.getD j default).getD i default).toNat (by omega); simp only [List.length_cons, List.length_nil]; omega))) rfl ?_
        refine qn 41 215 6 rfl rfl (T_ldN D rfl rfl rfl rfl rfl (by first | assumption | omega | (simp only [List.length_append, List.length_map, List.length_take, List.length_range, List.length_replicate, List.length_set]; omega) | (have k1 := hfi j (by omega) (by omega); first | exact k1.1 | exact k1.2 | exact (Int.toNat_lt k1.1).2 k1.2 | omega) | (have k1 := hq (by omega); omega) | (have k0 := hq (by omega); have k1 := hqb ((next.getD j default).getD i default).toNat (by omega); simp only [List.length_cons, List.length_nil]; omega))) rfl ?_
        refine q0 42 231 7 rfl rfl (T_move rfl rfl) rfl ?_
        refine q1 43 247 8 rfl rfl (T_bs D (ys := [_]) (enc := eI) (l := [_]) rfl rfl rfl rfl rfl rfl (.cons rfl (flat_v rfl) (.nil)) rfl rfl rfl rfl (.v rfl (.nil)) rfl rfl) rfl ?_
        refine qn 44 263 9 rfl rfl (T_append D rfl rfl rfl rfl rfl rfl rfl rfl rfl rfl rfl rfl (by (try simp only [ty3]); first | assumption | omega | (simp only [List.length_append, List.length_map, List.length_take, List.length_range, List.length_replicate, List.length_set]; omega) | (have k1 := hfi j (by omega) (by omega); first | exact k1.1 | exact k1.2 | exact (Int.toNat_lt k1.1).2 k1.2 | omega) | (have k1 := hq (by omega); omega) | (have k0 := hq (by omega); have k1 := hqb ((next.getD j default).getD i default).toNat (by omega); simp only [List.length_cons, List.length_nil]; omega)) (by (try simp only [ty3]); first | assumption | omega | (simp only [List.length_append, List.length_map, List.length_take, List.length_range, List.length_replicate, List.length_set]; omega) | (have k1 := hfi j (by omega) (by omega); first | exact k1.1 | exact k1.2 | exact (Int.toNat_lt k1.1).2 k1.2 | omega) | (have k1 := hq (by omega); omega) | (have k0 := hq (by omega); have k1 := hqb ((next.getD j default).getD i default).toNat (by omega); simp only [List.length_cons, List.length_nil]; omega))) rfl ?_
        refine q0 45 279 10 rfl rfl (T_indexAddrN D rfl rfl rfl rfl rfl rfl rfl rfl (by first | assumption | omega | (simp only [List.length_append, List.length_map, List.length_take, List.length_range, List.length_replicate, List.length_set]; omega) | (have k1 := hfi j (by omega) (by omega); first | exact k1.1 | exact k1.2 | exact (Int.toNat_lt k1.1).2 k1.2 | omega) | (have k1 := hq (by omega); omega) | (have k0 := hq (by omega); have k1 := hqb ((next.getD j default).getD i default).toNat (by omega); simp only [List.length_cons, List.length_nil]; omega)) (by first | assumption | omega | (simp only [List.length_append, List.length_map, List.length_take, List.length_range, List.length_replicate, List.length_set]; omega) | (have k1 := hfi j (by omega) (by omega); first | exact k1.1 | exact k1.2 | exact (Int.toNat_lt k1.1).2 k1.2 | omega) | (have k1 := hq (by omega); omega) | (have k0 := hq (by omega); have k1 := hqb ((next.getD j default).getD i default).toNat (by omega); simp only [List.length_cons, List.length_nil]; omega))) rfl ?_
        refine sn 295 11 rfl rfl (T_stN D rfl rfl rfl rfl rfl rfl rfl rfl (by first | assumption | omega | (simp only [List.length_append, List.length_map, List.length_take, List.length_range, List.length_replicate, List.length_set]; omega) | (have k1 := hfi j (by omega) (by omega); first | exact k1.1 | exact k1.2 | exact (Int.toNat_lt k1.1).2 k1.2 | omega) | (have k1 := hq (by omega); omega) | (have k0 := hq (by omega); have k1 := hqb ((next.getD j default).getD i default).toNat (by omega); simp only [List.length_cons, List.length_nil]; omega)) (.inr ⟨_, rfl⟩)) rfl ?_
        refine k_done rfl ?_
        refine blockK_n ?_
        refine thenK_n ?_
        refine W_seqK (b' := 343) rfl rfl ?_
        refine q0 46 311 1 rfl rfl (T_add64 rfl rfl rfl (by first | assumption | omega | (simp only [List.length_append, List.length_map, List.length_take, List.length_range, List.length_replicate, List.length_set]; omega) | (have k1 := hfi j (by omega) (by omega); first | exact k1.1 | exact k1.2 | exact (Int.toNat_lt k1.1).2 k1.2 | omega) | (have k1 := hq (by omega); omega) | (have k0 := hq (by omega); have k1 := hqb ((next.getD j default).getD i default).toNat (by omega); simp only [List.length_cons, List.length_nil]; omega))) rfl ?_
        refine q0 28 327 2 rfl rfl (T_move rfl rfl) rfl ?_
        refine k_done rfl ?_
        refine thenK_n ?_
        refine ⟨i + 1, by (try dsimp only); exact ⟨by omega, fun q h => by rw [hst (by omega)] at h; have h2 := step_bound hI.2 q h; omega⟩, by (try dsimp only); omega, ?_⟩
        exact ⟨[(4, 4), (5, 5), (6, 6)], .same rfl rfl (.same rfl rfl (.same rfl rfl (.eq rfl (.same rfl rfl (.eq rfl (.eq rfl (.same rfl rfl (.eq rfl (.eq rfl (.nil) (by first | rfl | (rw [hst (by omega), fromStep, if_pos (by assumption)]; rfl) | (rw [hst (by omega), fromStep, if_neg (by intro hc; simp_all [-List.getD_eq_getElem?_getD])]))) rfl)) rfl) rfl)) rfl))), .fzE rfl (.fzE rfl (.fzE rfl (.box (by first | rfl | (rw [hst (by omega), fromStep, if_pos (by assumption)]; rfl) | (rw [hst (by omega), fromStep, if_neg (by intro hc; simp_all [-List.getD_eq_getElem?_getD])])) (.nestE rfl (.fzE rfl (.nil) rfl) (by first | rfl | (rw [hst (by omega), fromStep, if_pos (by assumption)]; rfl) | (rw [hst (by omega), fromStep, if_neg (by intro hc; simp_all [-List.getD_eq_getElem?_getD])])))) rfl) rfl) rfl, rfl⟩
      · have h3 := g3; (try simp only [cmpB, decide_eq_true_eq, decide_eq_false_iff_not, beq_iff_eq, beq_eq_false_iff_ne, bne_iff_ne, ne_eq, bne_eq_false_iff_eq, Bool.not_eq_true', Bool.not_eq_false', Int.not_lt, Int.not_le] at h3)
        refine W_skip ?_
        refine blockK_n ?_
        refine thenK_n ?_
        refine W_seqK (b' := 167) rfl rfl ?_
        refine q0 46 135 1 rfl rfl (T_add64 rfl rfl rfl (by first | assumption | omega | (simp only [List.length_append, List.length_map, List.length_take, List.length_range, List.length_replicate, List.length_set]; omega) | (have k1 := hfi j (by omega) (by omega); first | exact k1.1 | exact k1.2 | exact (Int.toNat_lt k1.1).2 k1.2 | omega) | (have k1 := hq (by omega); omega) | (have k0 := hq (by omega); have k1 := hqb ((next.getD j default).getD i default).toNat (by omega); simp only [List.length_cons, List.length_nil]; omega))) rfl ?_
        refine q0 28 151 2 rfl rfl (T_move rfl rfl) rfl ?_
        refine k_done rfl ?_
        refine thenK_n ?_
        refine ⟨i + 1, by (try dsimp only); exact ⟨by omega, fun q h => by rw [hst (by omega)] at h; have h2 := step_bound hI.2 q h; omega⟩, by (try dsimp only); omega, ?_⟩
        exact ⟨[(4, 4), (5, 5), (6, 6)], .same rfl rfl (.same rfl rfl (.same rfl rfl (.eq rfl (.same rfl rfl (.eq rfl (.eq rfl (.same rfl rfl (.eq rfl (.eq rfl (.nil) (by first | rfl | (rw [hst (by omega), fromStep, if_pos (by assumption)]; rfl) | (rw [hst (by omega), fromStep, if_neg (by intro hc; simp_all [-List.getD_eq_getElem?_getD])]))) rfl)) rfl) rfl)) rfl))), .fzE rfl (.fzE rfl (.fzE rfl (.box (by first | rfl | (rw [hst (by omega), fromStep, if_pos (by assumption)]; rfl) | (rw [hst (by omega), fromStep, if_neg (by intro hc; simp_all [-List.getD_eq_getElem?_getD])])) (.nestE rfl (.fzE rfl (.nil) rfl) (by first | rfl | (rw [hst (by omega), fromStep, if_pos (by assumption)]; rfl) | (rw [hst (by omega), fromStep, if_neg (by intro hc; simp_all [-List.getD_eq_getElem?_getD])])))) rfl) rfl) rfl, rfl⟩
    · have h2 := c_lss_f g2
      refine W_exit ?_
      refine thenK_e ?_
      refine thenK_e ?_
      refine blockK_hit ?_
      refine blockK_n ?_
      refine thenK_n ?_
      refine W_seqK (b' := 55) rfl rfl ?_
      refine q0 47 23 1 rfl rfl (T_add64 rfl rfl rfl (by first | assumption | omega | (simp only [List.length_append, List.length_map, List.length_take, List.length_range, List.length_replicate, List.length_set]; omega) | (have k1 := hfi j (by omega) (by omega); first | exact k1.1 | exact k1.2 | exact (Int.toNat_lt k1.1).2 k1.2 | omega) | (have k1 := hq (by omega); omega) | (have k0 := hq (by omega); have k1 := hqb ((next.getD j default).getD i default).toNat (by omega); simp only [List.length_cons, List.length_nil]; omega))) rfl ?_
      refine q0 21 39 2 rfl rfl (T_move rfl rfl) rfl ?_
      refine k_done rfl ?_
      refine thenK_n ?_
      have hil : i = (next.getD j default).length := by omega
      have hI2 := hI.2
      rw [hil, List.take_of_length_le (Nat.le_refl _)] at hI2
      refine ⟨j + 1, by (try dsimp only); exact ⟨by omega, fun l h => by rw [hs] at h; have h2 := hI2 l h; rw [Nat.succ_mul]; omega⟩, by (try dsimp only); omega, ?_⟩
      exact ⟨[(4, 4), (5, 5)], .same rfl rfl (.same rfl rfl (.same rfl rfl (.same rfl rfl (.eq rfl (.eq rfl (.nil) (by first | rfl | (rw [hil, List.take_of_length_le (Nat.le_refl _), hs]; rfl))) rfl)))), .fzE rfl (.fzE rfl (.fzE rfl (.box (by first | rfl | (rw [hil, List.take_of_length_le (Nat.le_refl _), hs]; rfl)) (.nestE rfl (.nil) (by first | rfl | (rw [hil, List.take_of_length_le (Nat.le_refl _), hs]; rfl)))) rfl) rfl) rfl, rfl⟩
  · have h1 := c_lss_f g1
    refine W_exit ?_
    refine thenK_e ?_
    refine thenK_e ?_
    refine blockK_hit ?_
    refine thenK_n ?_
    refine W_seq ?_
    refine W_seqK (b' := 102) rfl rfl ?_
    refine q0 48 22 1 rfl rfl (T_fa D (m := 1) rfl rfl rfl rfl rfl rfl) rfl ?_
    refine q0 49 38 2 rfl rfl (T_load_b D rfl rfl rfl rfl rfl rfl) rfl ?_
    refine q0 50 54 3 rfl rfl (T_len D rfl rfl rfl rfl rfl rfl) rfl ?_
    refine q1 51 70 4 rfl rfl (T_make D (zx := (0 : Int)) (enc := eI) rfl rfl rfl rfl rfl rfl rfl (.v rfl (.nil)) rfl (by (try simp only [ty3]); first | assumption | omega | (simp only [List.length_append, List.length_map, List.length_take, List.length_range, List.length_replicate, List.length_set]; omega) | (have k1 := hfi j (by omega) (by omega); first | exact k1.1 | exact k1.2 | exact (Int.toNat_lt k1.1).2 k1.2 | omega) | (have k1 := hq (by omega); omega) | (have k0 := hq (by omega); have k1 := hqb ((next.getD j default).getD i default).toNat (by omega); simp only [List.length_cons, List.length_nil]; omega)) (by (try simp only [ty3]); first | assumption | omega | (simp only [List.length_append, List.length_map, List.length_take, List.length_range, List.length_replicate, List.length_set]; omega) | (have k1 := hfi j (by omega) (by omega); first | exact k1.1 | exact k1.2 | exact (Int.toNat_lt k1.1).2 k1.2 | omega) | (have k1 := hq (by omega); omega) | (have k0 := hq (by omega); have k1 := hqb ((next.getD j default).getD i default).toNat (by omega); simp only [List.length_cons, List.length_nil]; omega))) rfl ?_
    refine q0 12 86 5 rfl rfl (T_assign rfl rfl) rfl ?_
    refine k_done rfl ?_
    refine thenK_n ?_
    refine W_seq ?_
    refine W_seq ?_
    refine W_seqK (b' := 150) rfl rfl ?_
    refine q0 52 102 1 rfl rfl (T_move rfl rfl) rfl ?_
    refine q0 53 118 2 rfl rfl (T_lenN D rfl rfl rfl rfl rfl rfl) rfl ?_
    refine q0 54 134 3 rfl rfl (T_move rfl rfl) rfl ?_
    refine k_done rfl ?_
    refine thenK_n ?_
    refine W_block ?_
    have hjn : j = next.length := by omega
    refine W_loop (ι := Nat) 7 (fun j => ⟨[(2, .r 3), (3, .p 4 0), (12, .r 5), (52, .r 6), (53, .v (.int .i64 (f.blocks.length : Int))), (54, .v (.int .i64 (j : Int)))], [(1, .fz 5 (f.blocks.map eBlock)), (2, .fz 1 (next.map eIs)), (3, .fz 1 (reached.map eB)), (4, .box 29 [.v (.int .i64 f.regs), .r 1]), (5, .row 3 1 ((((List.range f.blocks.length).take j).map (takenAt f reached (fromAll next reached f.blocks.length next.length)) ++ List.replicate (f.blocks.length - j) 0).map eI)), (6, .fz 1 ((fromAll next reached f.blocks.length next.length).map eIs))]⟩) (fun j => j ≤ f.blocks.length) (fun j => f.blocks.length - j) (0) (by exact Nat.zero_le _) ?_ (fun j hJ => ?_)
    · exact ⟨[(4, 4), (5, 70), (6, 5)], .same rfl rfl (.same rfl rfl (.same rfl rfl (.same rfl rfl (.eq rfl (.eq rfl (.nil) (by first | rfl | (congr 1; omega) | (subst hjn; exact nestRows_eIs _) | (simp; done))) (by first | rfl | (congr 1; omega) | (subst hjn; exact nestRows_eIs _) | (simp; done)))))), .fzE rfl (.fzE rfl (.fzE rfl (.box (by first | rfl | (congr 1; omega) | (subst hjn; exact nestRows_eIs _) | (simp; done)) (.rowE rfl (.lendNE rfl (.nil) (by first | rfl | (congr 1; omega) | (subst hjn; exact nestRows_eIs _) | (simp; done))) (by first | rfl | (congr 1; omega) | (subst hjn; exact nestRows_eIs _) | (simp; done)))) (by first | rfl | (congr 1; omega) | (subst hjn; exact nestRows_eIs _) | (simp; done))) (by first | rfl | (congr 1; omega) | (subst hjn; exact nestRows_eIs _) | (simp; done))) (by first | rfl | (congr 1; omega) | (subst hjn; exact nestRows_eIs _) | (simp; done)), rfl⟩
    have hfn := fromAll_length next reached f.blocks.length next.length
    have hfi : ∀ m, m < f.blocks.length → 0 < ((fromAll next reached f.blocks.length next.length).getD m default).length → 0 ≤ ((fromAll next reached f.blocks.length next.length).getD m default).getD 0 default ∧ ((fromAll next reached f.blocks.length next.length).getD m default).getD 0 default < (f.blocks.length : Int) := fun m hm h0 => by have k1 := fromAll_in next reached f.blocks.length next.length _ (getD_mem (i := m) (by omega)) _ (getD_mem h0); exact ⟨k1.1, Int.lt_of_lt_of_le k1.2 (by omega)⟩
    refine W_seq ?_
    refine W_seqK (b' := 23) rfl rfl ?_
    refine q0 55 7 1 rfl rfl (T_cmp rfl rfl rfl rfl) rfl ?_
    refine k_done rfl ?_
    refine thenK_n ?_
    refine W_seq ?_
    refine W_cond rfl (fun g4 => ?_) (fun g4 => ?_)
    · have h4 := c_lss_t g4
      refine W_skip ?_
      refine thenK_n ?_
      refine W_seq ?_
      refine W_block ?_
      refine W_seq ?_
      refine W_seqK (b' := 103) rfl rfl ?_
      refine q0 56 23 1 rfl rfl (T_move rfl rfl) rfl ?_
      first | refine q0 57 39 2 rfl rfl (T_indexAddr D rfl rfl rfl rfl rfl rfl rfl rfl (by first | assumption | omega | (simp only [List.length_append, List.length_map, List.length_take, List.length_range, List.length_replicate, List.length_set]; omega) | (have k1 := hfi j (by omega) (by omega); first | exact k1.1 | exact k1.2 | exact (Int.toNat_lt k1.1).2 k1.2 | omega) | (have k1 := hq (by omega); omega) | (have k0 := hq (by omega); have k1 := hqb ((next.getD j default).getD i default).toNat (by omega); simp only [List.length_cons, List.length_nil]; omega))) rfl ?_ | refine q0 57 39 2 rfl rfl (T_indexAddrZ D rfl rfl rfl rfl rfl rfl rfl rfl (by first | assumption | omega | (simp only [List.length_append, List.length_map, List.length_take, List.length_range, List.length_replicate, List.length_set]; omega) | (have k1 := hfi j (by omega) (by omega); first | exact k1.1 | exact k1.2 | exact (Int.toNat_lt k1.1).2 k1.2 | omega) | (have k1 := hq (by omega); omega) | (have k0 := hq (by omega); have k1 := hqb ((next.getD j default).getD i default).toNat (by omega); simp only [List.length_cons, List.length_nil]; omega)) (by first | assumption | omega | (simp only [List.length_append, List.length_map, List.length_take, List.length_range, List.length_replicate, List.length_set]; omega) | (have k1 := hfi j (by omega) (by omega); first | exact k1.1 | exact k1.2 | exact (Int.toNat_lt k1.1).2 k1.2 | omega) | (have k1 := hq (by omega); omega) | (have k0 := hq (by omega); have k1 := hqb ((next.getD j default).getD i default).toNat (by omega); simp only [List.length_cons, List.length_nil]; omega))) rfl ?_
      refine q1 58 55 3 rfl rfl (T_ldE D (lv := .r 55) (nn := 1) (upd := [(55, .fz 1 _)]) rfl rfl rfl rfl rfl (by first | assumption | omega | (simp only [List.length_append, List.length_map, List.length_take, List.length_range, List.length_replicate, List.length_set]; omega) | (have k1 := hfi j (by omega) (by omega); first | exact k1.1 | exact k1.2 | exact (Int.toNat_lt k1.1).2 k1.2 | omega) | (have k1 := hq (by omega); omega) | (have k0 := hq (by omega); have k1 := hqb ((next.getD j default).getD i default).toNat (by omega); simp only [List.length_cons, List.length_nil]; omega)) rfl rfl rfl rfl) rfl ?_
      refine q0 13 71 4 rfl rfl (T_assign rfl rfl) rfl ?_
      refine q0 14 87 5 rfl rfl (T_assign rfl rfl) rfl ?_
      refine k_done rfl ?_
      refine thenK_n ?_
      refine W_seq ?_
      refine W_seqK (b' := 167) rfl rfl ?_
      refine q0 59 103 1 rfl rfl (T_move rfl rfl) rfl ?_
      refine q0 60 119 2 rfl rfl (T_move rfl rfl) rfl ?_
      first | refine q0 61 135 3 rfl rfl (T_indexAddr D rfl rfl rfl rfl rfl rfl rfl rfl (by first | assumption | omega | (simp only [List.length_append, List.length_map, List.length_take, List.length_range, List.length_replicate, List.length_set]; omega) | (have k1 := hfi j (by omega) (by omega); first | exact k1.1 | exact k1.2 | exact (Int.toNat_lt k1.1).2 k1.2 | omega) | (have k1 := hq (by omega); omega) | (have k0 := hq (by omega); have k1 := hqb ((next.getD j default).getD i default).toNat (by omega); simp only [List.length_cons, List.length_nil]; omega))) rfl ?_ | refine q0 61 135 3 rfl rfl (T_indexAddrZ D rfl rfl rfl rfl rfl rfl rfl rfl (by first | assumption | omega | (simp only [List.length_append, List.length_map, List.length_take, List.length_range, List.length_replicate, List.length_set]; omega) | (have k1 := hfi j (by omega) (by omega); first | exact k1.1 | exact k1.2 | exact (Int.toNat_lt k1.1).2 k1.2 | omega) | (have k1 := hq (by omega); omega) | (have k0 := hq (by omega); have k1 := hqb ((next.getD j default).getD i default).toNat (by omega); simp only [List.length_cons, List.length_nil]; omega)) (by first | assumption | omega | (simp only [List.length_append, List.length_map, List.length_take, List.length_range, List.length_replicate, List.length_set]; omega) | (have k1 := hfi j (by omega) (by omega); first | exact k1.1 | exact k1.2 | exact (Int.toNat_lt k1.1).2 k1.2 | omega) | (have k1 := hq (by omega); omega) | (have k0 := hq (by omega); have k1 := hqb ((next.getD j default).getD i default).toNat (by omega); simp only [List.length_cons, List.length_nil]; omega))) rfl ?_
      refine s1 151 4 rfl rfl (T_store_e D (z := _) rfl rfl rfl rfl (flat_v rfl) rfl rfl (by first | assumption | omega | (simp only [List.length_append, List.length_map, List.length_take, List.length_range, List.length_replicate, List.length_set]; omega) | (have k1 := hfi j (by omega) (by omega); first | exact k1.1 | exact k1.2 | exact (Int.toNat_lt k1.1).2 k1.2 | omega) | (have k1 := hq (by omega); omega) | (have k0 := hq (by omega); have k1 := hqb ((next.getD j default).getD i default).toNat (by omega); simp only [List.length_cons, List.length_nil]; omega)) (.v rfl (.nil)) rfl (Nat.le_of_ble_eq_true rfl) rfl) rfl ?_
      refine k_done rfl ?_
      refine thenK_n ?_
      refine W_seq ?_
      refine W_anyK (b' := 663) rfl rfl rfl ?_
      refine q0 62 167 1 rfl rfl (T_move rfl rfl) rfl ?_
      refine q0 63 183 2 rfl rfl (T_cmp rfl rfl rfl rfl) rfl ?_
      refine q0 64 199 3 rfl rfl (T_move rfl rfl) rfl ?_
      refine k_split (d := 64) rfl (fun g5 => ?_) (fun g5 => ?_)
      · have h5 := c_gtr_t g5
        refine k_op0 (d := 65) (b := 215) (j' := 4) rfl rfl rfl rfl (g_tt rfl rfl rfl g5) (T_move rfl rfl) rfl ?_
        refine k_op0 (d := 66) (b := 231) (j' := 5) rfl rfl rfl rfl (g_tt rfl rfl rfl g5) (T_move rfl rfl) rfl ?_
        first | refine k_op0 (d := 67) (b := 247) (j' := 6) rfl rfl rfl rfl (g_tt rfl rfl rfl g5) (T_indexAddr D rfl rfl rfl rfl rfl rfl rfl rfl (by first | assumption | omega | (simp only [List.length_append, List.length_map, List.length_take, List.length_range, List.length_replicate, List.length_set]; omega) | (have k1 := hfi j (by omega) (by omega); first | exact k1.1 | exact k1.2 | exact (Int.toNat_lt k1.1).2 k1.2 | omega) | (have k1 := hq (by omega); omega) | (have k0 := hq (by omega); have k1 := hqb ((next.getD j default).getD i default).toNat (by omega); simp only [List.length_cons, List.length_nil]; omega))) rfl ?_ | refine k_op0 (d := 67) (b := 247) (j' := 6) rfl rfl rfl rfl (g_tt rfl rfl rfl g5) (T_indexAddrZ D rfl rfl rfl rfl rfl rfl rfl rfl (by first | assumption | omega | (simp only [List.length_append, List.length_map, List.length_take, List.length_range, List.length_replicate, List.length_set]; omega) | (have k1 := hfi j (by omega) (by omega); first | exact k1.1 | exact k1.2 | exact (Int.toNat_lt k1.1).2 k1.2 | omega) | (have k1 := hq (by omega); omega) | (have k0 := hq (by omega); have k1 := hqb ((next.getD j default).getD i default).toNat (by omega); simp only [List.length_cons, List.length_nil]; omega)) (by first | assumption | omega | (simp only [List.length_append, List.length_map, List.length_take, List.length_range, List.length_replicate, List.length_set]; omega) | (have k1 := hfi j (by omega) (by omega); first | exact k1.1 | exact k1.2 | exact (Int.toNat_lt k1.1).2 k1.2 | omega) | (have k1 := hq (by omega); omega) | (have k0 := hq (by omega); have k1 := hqb ((next.getD j default).getD i default).toNat (by omega); simp only [List.length_cons, List.length_nil]; omega))) rfl ?_
        refine k_op0 (d := 68) (b := 263) (j' := 7) rfl rfl rfl rfl (g_tt rfl rfl rfl g5) (T_ldE D (lv := .v _) (nn := 0) (upd := []) rfl rfl rfl rfl rfl (by first | assumption | omega | (simp only [List.length_append, List.length_map, List.length_take, List.length_range, List.length_replicate, List.length_set]; omega) | (have k1 := hfi j (by omega) (by omega); first | exact k1.1 | exact k1.2 | exact (Int.toNat_lt k1.1).2 k1.2 | omega) | (have k1 := hq (by omega); omega) | (have k0 := hq (by omega); have k1 := hqb ((next.getD j default).getD i default).toNat (by omega); simp only [List.length_cons, List.length_nil]; omega)) rfl rfl rfl rfl) rfl ?_
        refine q0 69 279 8 rfl rfl (T_pick_t rfl rfl rfl g5) rfl ?_
        refine q0 70 295 9 rfl rfl (T_move rfl rfl) rfl ?_
        refine k_split (d := 70) rfl (fun g6 => ?_) (fun g6 => ?_)
        · have h6 := g6; (try simp only [cmpB, decide_eq_true_eq, decide_eq_false_iff_not, beq_iff_eq, beq_eq_false_iff_ne, bne_iff_ne, ne_eq, bne_eq_false_iff_eq, Bool.not_eq_true', Bool.not_eq_false', Int.not_lt, Int.not_le] at h6)
          refine k_op0 (d := 71) (b := 311) (j' := 10) rfl rfl rfl rfl (g_tt rfl rfl rfl g6) (T_move rfl rfl) rfl ?_
          refine k_op0 (d := 72) (b := 327) (j' := 11) rfl rfl rfl rfl (g_tt rfl rfl rfl g6) (T_len D rfl rfl rfl rfl rfl rfl) rfl ?_
          refine k_op0 (d := 73) (b := 343) (j' := 12) rfl rfl rfl rfl (g_tt rfl rfl rfl g6) (T_cmp rfl rfl rfl rfl) rfl ?_
          refine q0 74 359 13 rfl rfl (T_pick_t rfl rfl rfl g6) rfl ?_
          refine q0 75 375 14 rfl rfl (T_move rfl rfl) rfl ?_
          refine k_split (d := 75) rfl (fun g7 => ?_) (fun g7 => ?_)
          · have h7 := c_eql_t g7
            refine k_op0 (d := 76) (b := 391) (j' := 15) rfl rfl rfl rfl (g_tt rfl rfl rfl g7) (T_move rfl rfl) rfl ?_
            first | refine k_op0 (d := 77) (b := 407) (j' := 16) rfl rfl rfl rfl (g_tt rfl rfl rfl g7) (T_indexAddr D rfl rfl rfl rfl rfl rfl rfl rfl (by first | assumption | omega | (simp only [List.length_append, List.length_map, List.length_take, List.length_range, List.length_replicate, List.length_set]; omega) | (have k1 := hfi j (by omega) (by omega); first | exact k1.1 | exact k1.2 | exact (Int.toNat_lt k1.1).2 k1.2 | omega) | (have k1 := hq (by omega); omega) | (have k0 := hq (by omega); have k1 := hqb ((next.getD j default).getD i default).toNat (by omega); simp only [List.length_cons, List.length_nil]; omega))) rfl ?_ | refine k_op0 (d := 77) (b := 407) (j' := 16) rfl rfl rfl rfl (g_tt rfl rfl rfl g7) (T_indexAddrZ D rfl rfl rfl rfl rfl rfl rfl rfl (by first | assumption | omega | (simp only [List.length_append, List.length_map, List.length_take, List.length_range, List.length_replicate, List.length_set]; omega) | (have k1 := hfi j (by omega) (by omega); first | exact k1.1 | exact k1.2 | exact (Int.toNat_lt k1.1).2 k1.2 | omega) | (have k1 := hq (by omega); omega) | (have k0 := hq (by omega); have k1 := hqb ((next.getD j default).getD i default).toNat (by omega); simp only [List.length_cons, List.length_nil]; omega)) (by first | assumption | omega | (simp only [List.length_append, List.length_map, List.length_take, List.length_range, List.length_replicate, List.length_set]; omega) | (have k1 := hfi j (by omega) (by omega); first | exact k1.1 | exact k1.2 | exact (Int.toNat_lt k1.1).2 k1.2 | omega) | (have k1 := hq (by omega); omega) | (have k0 := hq (by omega); have k1 := hqb ((next.getD j default).getD i default).toNat (by omega); simp only [List.length_cons, List.length_nil]; omega))) rfl ?_
            refine k_op0 (d := 78) (b := 423) (j' := 17) rfl rfl rfl rfl (g_tt rfl rfl rfl g7) (T_ldE D (lv := .v _) (nn := 0) (upd := []) rfl rfl rfl rfl rfl (by first | assumption | omega | (simp only [List.length_append, List.length_map, List.length_take, List.length_range, List.length_replicate, List.length_set]; omega) | (have k1 := hfi j (by omega) (by omega); first | exact k1.1 | exact k1.2 | exact (Int.toNat_lt k1.1).2 k1.2 | omega) | (have k1 := hq (by omega); omega) | (have k0 := hq (by omega); have k1 := hqb ((next.getD j default).getD i default).toNat (by omega); simp only [List.length_cons, List.length_nil]; omega)) rfl rfl rfl rfl) rfl ?_
            refine k_op0 (d := 79) (b := 439) (j' := 18) rfl rfl rfl rfl (g_tt rfl rfl rfl g7) (T_move rfl rfl) rfl ?_
            refine k_op0 (d := 80) (b := 455) (j' := 19) rfl rfl rfl rfl (g_tt rfl rfl rfl g7) (T_cmp rfl rfl rfl rfl) rfl ?_
            refine q0 81 471 20 rfl rfl (T_pick_t rfl rfl rfl g7) rfl ?_
            refine q0 82 487 21 rfl rfl (T_move rfl rfl) rfl ?_
            refine k_split (d := 82) rfl (fun g8 => ?_) (fun g8 => ?_)
            · have h8 := c_neq_t g8
              refine k_op0 (d := 83) (b := 503) (j' := 22) rfl rfl rfl rfl (g_tt rfl rfl rfl g8) (T_fa D (m := 1) rfl rfl rfl rfl rfl rfl) rfl ?_
              refine k_op0 (d := 84) (b := 519) (j' := 23) rfl rfl rfl rfl (g_tt rfl rfl rfl g8) (T_load_b D rfl rfl rfl rfl rfl rfl) rfl ?_
              refine k_op0 (d := 85) (b := 535) (j' := 24) rfl rfl rfl rfl (g_tt rfl rfl rfl g8) (T_move rfl rfl) rfl ?_
              first | refine k_op0 (d := 86) (b := 551) (j' := 25) rfl rfl rfl rfl (g_tt rfl rfl rfl g8) (T_indexAddr D rfl rfl rfl rfl rfl rfl rfl rfl (by first | assumption | omega | (simp only [List.length_append, List.length_map, List.length_take, List.length_range, List.length_replicate, List.length_set]; omega) | (have k1 := hfi j (by omega) (by omega); first | exact k1.1 | exact k1.2 | exact (Int.toNat_lt k1.1).2 k1.2 | omega) | (have k1 := hq (by omega); omega) | (have k0 := hq (by omega); have k1 := hqb ((next.getD j default).getD i default).toNat (by omega); simp only [List.length_cons, List.length_nil]; omega))) rfl ?_ | refine k_op0 (d := 86) (b := 551) (j' := 25) rfl rfl rfl rfl (g_tt rfl rfl rfl g8) (T_indexAddrZ D rfl rfl rfl rfl rfl rfl rfl rfl (by first | assumption | omega | (simp only [List.length_append, List.length_map, List.length_take, List.length_range, List.length_replicate, List.length_set]; omega) | (have k1 := hfi j (by omega) (by omega); first | exact k1.1 | exact k1.2 | exact (Int.toNat_lt k1.1).2 k1.2 | omega) | (have k1 := hq (by omega); omega) | (have k0 := hq (by omega); have k1 := hqb ((next.getD j default).getD i default).toNat (by omega); simp only [List.length_cons, List.length_nil]; omega)) (by first | assumption | omega | (simp only [List.length_append, List.length_map, List.length_take, List.length_range, List.length_replicate, List.length_set]; omega) | (have k1 := hfi j (by omega) (by omega); first | exact k1.1 | exact k1.2 | exact (Int.toNat_lt k1.1).2 k1.2 | omega) | (have k1 := hq (by omega); omega) | (have k0 := hq (by omega); have k1 := hqb ((next.getD j default).getD i default).toNat (by omega); simp only [List.length_cons, List.length_nil]; omega))) rfl ?_
              refine k_op0 (d := 87) (b := 567) (j' := 26) rfl rfl rfl rfl (g_tt rfl rfl rfl g8) (T_ldE D (lv := .v _) (nn := 0) (upd := []) rfl rfl rfl rfl rfl (by first | assumption | omega | (simp only [List.length_append, List.length_map, List.length_take, List.length_range, List.length_replicate, List.length_set]; omega) | (have k1 := hfi j (by omega) (by omega); first | exact k1.1 | exact k1.2 | exact (Int.toNat_lt k1.1).2 k1.2 | omega) | (have k1 := hq (by omega); omega) | (have k0 := hq (by omega); have k1 := hqb ((next.getD j default).getD i default).toNat (by omega); simp only [List.length_cons, List.length_nil]; omega)) rfl rfl rfl rfl) rfl ?_
              first | refine k_op0 (d := 88) (b := 583) (j' := 27) rfl rfl rfl rfl (g_tt rfl rfl rfl g8) (T_indexAddr D rfl rfl rfl rfl rfl rfl rfl rfl (by first | assumption | omega | (simp only [List.length_append, List.length_map, List.length_take, List.length_range, List.length_replicate, List.length_set]; omega) | (have k1 := hfi j (by omega) (by omega); first | exact k1.1 | exact k1.2 | exact (Int.toNat_lt k1.1).2 k1.2 | omega) | (have k1 := hq (by omega); omega) | (have k0 := hq (by omega); have k1 := hqb ((next.getD j default).getD i default).toNat (by omega); simp only [List.length_cons, List.length_nil]; omega))) rfl ?_ | refine k_op0 (d := 88) (b := 583) (j' := 27) rfl rfl rfl rfl (g_tt rfl rfl rfl g8) (T_indexAddrZ D rfl rfl rfl rfl rfl rfl rfl rfl (by first | assumption | omega | (simp only [List.length_append, List.length_map, List.length_take, List.length_range, List.length_replicate, List.length_set]; omega) | (have k1 := hfi j (by omega) (by omega); first | exact k1.1 | exact k1.2 | exact (Int.toNat_lt k1.1).2 k1.2 | omega) | (have k1 := hq (by omega); omega) | (have k0 := hq (by omega); have k1 := hqb ((next.getD j default).getD i default).toNat (by omega); simp only [List.length_cons, List.length_nil]; omega)) (by first | assumption | omega | (simp only [List.length_append, List.length_map, List.length_take, List.length_range, List.length_replicate, List.length_set]; omega) | (have k1 := hfi j (by omega) (by omega); first | exact k1.1 | exact k1.2 | exact (Int.toNat_lt k1.1).2 k1.2 | omega) | (have k1 := hq (by omega); omega) | (have k0 := hq (by omega); have k1 := hqb ((next.getD j default).getD i default).toNat (by omega); simp only [List.length_cons, List.length_nil]; omega))) rfl ?_
              refine k_op0 (d := 89) (b := 599) (j' := 28) rfl rfl rfl rfl (g_tt rfl rfl rfl g8) (T_fae D (m := 1) rfl rfl rfl rfl rfl rfl) rfl ?_
              refine k_op0 (d := 90) (b := 615) (j' := 29) rfl rfl rfl rfl (g_tt rfl rfl rfl g8) (T_ldE D (lv := .v _) (nn := 0) (upd := []) rfl rfl rfl rfl rfl (by first | assumption | omega | (simp only [List.length_append, List.length_map, List.length_take, List.length_range, List.length_replicate, List.length_set]; omega) | (have k1 := hfi j (by omega) (by omega); first | exact k1.1 | exact k1.2 | exact (Int.toNat_lt k1.1).2 k1.2 | omega) | (have k1 := hq (by omega); omega) | (have k0 := hq (by omega); have k1 := hqb ((next.getD j default).getD i default).toNat (by omega); simp only [List.length_cons, List.length_nil]; omega)) rfl rfl rfl rfl) rfl ?_
              refine k_op0 (d := 91) (b := 631) (j' := 30) rfl rfl rfl rfl (g_tt rfl rfl rfl g8) (T_cmp rfl rfl rfl rfl) rfl ?_
              refine q0 92 647 31 rfl rfl (T_pick_t rfl rfl rfl g8) rfl ?_
              refine k_done rfl ?_
              refine ⟨rfl, ?_⟩
              refine thenK_n ?_
              refine W_cond rfl (fun g9 => ?_) (fun g9 => ?_)
              · have h9 := c_eql_t g9
                refine W_seqK (b' := 775) rfl rfl ?_
                refine q0 93 663 1 rfl rfl (T_move rfl rfl) rfl ?_
                refine q0 94 679 2 rfl rfl (T_move rfl rfl) rfl ?_
                refine q0 95 695 3 rfl rfl (T_move rfl rfl) rfl ?_
                first | refine q0 96 711 4 rfl rfl (T_indexAddr D rfl rfl rfl rfl rfl rfl rfl rfl (by first | assumption | omega | (simp only [List.length_append, List.length_map, List.length_take, List.length_range, List.length_replicate, List.length_set]; omega) | (have k1 := hfi j (by omega) (by omega); first | exact k1.1 | exact k1.2 | exact (Int.toNat_lt k1.1).2 k1.2 | omega) | (have k1 := hq (by omega); omega) | (have k0 := hq (by omega); have k1 := hqb ((next.getD j default).getD i default).toNat (by omega); simp only [List.length_cons, List.length_nil]; omega))) rfl ?_ | refine q0 96 711 4 rfl rfl (T_indexAddrZ D rfl rfl rfl rfl rfl rfl rfl rfl (by first | assumption | omega | (simp only [List.length_append, List.length_map, List.length_take, List.length_range, List.length_replicate, List.length_set]; omega) | (have k1 := hfi j (by omega) (by omega); first | exact k1.1 | exact k1.2 | exact (Int.toNat_lt k1.1).2 k1.2 | omega) | (have k1 := hq (by omega); omega) | (have k0 := hq (by omega); have k1 := hqb ((next.getD j default).getD i default).toNat (by omega); simp only [List.length_cons, List.length_nil]; omega)) (by first | assumption | omega | (simp only [List.length_append, List.length_map, List.length_take, List.length_range, List.length_replicate, List.length_set]; omega) | (have k1 := hfi j (by omega) (by omega); first | exact k1.1 | exact k1.2 | exact (Int.toNat_lt k1.1).2 k1.2 | omega) | (have k1 := hq (by omega); omega) | (have k0 := hq (by omega); have k1 := hqb ((next.getD j default).getD i default).toNat (by omega); simp only [List.length_cons, List.length_nil]; omega))) rfl ?_
                refine q0 97 727 5 rfl rfl (T_ldE D (lv := .v _) (nn := 0) (upd := []) rfl rfl rfl rfl rfl (by first | assumption | omega | (simp only [List.length_append, List.length_map, List.length_take, List.length_range, List.length_replicate, List.length_set]; omega) | (have k1 := hfi j (by omega) (by omega); first | exact k1.1 | exact k1.2 | exact (Int.toNat_lt k1.1).2 k1.2 | omega) | (have k1 := hq (by omega); omega) | (have k0 := hq (by omega); have k1 := hqb ((next.getD j default).getD i default).toNat (by omega); simp only [List.length_cons, List.length_nil]; omega)) rfl rfl rfl rfl) rfl ?_
                first | refine q0 98 743 6 rfl rfl (T_indexAddr D rfl rfl rfl rfl rfl rfl rfl rfl (by first | assumption | omega | (simp only [List.length_append, List.length_map, List.length_take, List.length_range, List.length_replicate, List.length_set]; omega) | (have k1 := hfi j (by omega) (by omega); first | exact k1.1 | exact k1.2 | exact (Int.toNat_lt k1.1).2 k1.2 | omega) | (have k1 := hq (by omega); omega) | (have k0 := hq (by omega); have k1 := hqb ((next.getD j default).getD i default).toNat (by omega); simp only [List.length_cons, List.length_nil]; omega))) rfl ?_ | refine q0 98 743 6 rfl rfl (T_indexAddrZ D rfl rfl rfl rfl rfl rfl rfl rfl (by first | assumption | omega | (simp only [List.length_append, List.length_map, List.length_take, List.length_range, List.length_replicate, List.length_set]; omega) | (have k1 := hfi j (by omega) (by omega); first | exact k1.1 | exact k1.2 | exact (Int.toNat_lt k1.1).2 k1.2 | omega) | (have k1 := hq (by omega); omega) | (have k0 := hq (by omega); have k1 := hqb ((next.getD j default).getD i default).toNat (by omega); simp only [List.length_cons, List.length_nil]; omega)) (by first | assumption | omega | (simp only [List.length_append, List.length_map, List.length_take, List.length_range, List.length_replicate, List.length_set]; omega) | (have k1 := hfi j (by omega) (by omega); first | exact k1.1 | exact k1.2 | exact (Int.toNat_lt k1.1).2 k1.2 | omega) | (have k1 := hq (by omega); omega) | (have k0 := hq (by omega); have k1 := hqb ((next.getD j default).getD i default).toNat (by omega); simp only [List.length_cons, List.length_nil]; omega))) rfl ?_
                refine s1 759 7 rfl rfl (T_store_e D (z := _) rfl rfl rfl rfl (flat_v rfl) rfl rfl (by first | assumption | omega | (simp only [List.length_append, List.length_map, List.length_take, List.length_range, List.length_replicate, List.length_set]; omega) | (have k1 := hfi j (by omega) (by omega); first | exact k1.1 | exact k1.2 | exact (Int.toNat_lt k1.1).2 k1.2 | omega) | (have k1 := hq (by omega); omega) | (have k0 := hq (by omega); have k1 := hqb ((next.getD j default).getD i default).toNat (by omega); simp only [List.length_cons, List.length_nil]; omega)) (.v rfl (.nil)) rfl (Nat.le_of_ble_eq_true rfl) rfl) rfl ?_
                refine k_done rfl ?_
                refine blockK_n ?_
                refine thenK_n ?_
                refine W_seqK (b' := 807) rfl rfl ?_
                refine q0 99 775 1 rfl rfl (T_add64 rfl rfl rfl (by first | assumption | omega | (simp only [List.length_append, List.length_map, List.length_take, List.length_range, List.length_replicate, List.length_set]; omega) | (have k1 := hfi j (by omega) (by omega); first | exact k1.1 | exact k1.2 | exact (Int.toNat_lt k1.1).2 k1.2 | omega) | (have k1 := hq (by omega); omega) | (have k0 := hq (by omega); have k1 := hqb ((next.getD j default).getD i default).toNat (by omega); simp only [List.length_cons, List.length_nil]; omega))) rfl ?_
                refine q0 54 791 2 rfl rfl (T_move rfl rfl) rfl ?_
                refine k_done rfl ?_
                refine thenK_n ?_
                refine ⟨j + 1, by (try dsimp only); omega, by (try dsimp only); omega, ?_⟩
                exact ⟨[(4, 4), (5, 5), (6, 6)], .same rfl rfl (.same rfl rfl (.same rfl rfl (.same rfl rfl (.eq rfl (.eq rfl (.nil) (by first | rfl | (rw [List.set_set]; exact congrArg _ (row_step (by omega) (by unfold takenAt; first | exact (if_pos ⟨by omega, by assumption, by omega, by assumption, by assumption⟩).symm | rw [if_neg (by rintro ⟨a1, a2, a3, a4, a5⟩; first | omega | contradiction | exact absurd a5 (by assumption) | (rw [a2] at h6; cases h6))]))) | exact congrArg _ (row_step (by omega) (by unfold takenAt; first | exact (if_pos ⟨by omega, by assumption, by omega, by assumption, by assumption⟩).symm | rw [if_neg (by rintro ⟨a1, a2, a3, a4, a5⟩; first | omega | contradiction | exact absurd a5 (by assumption) | (rw [a2] at h6; cases h6))])))) rfl)))), .fzE rfl (.fzE rfl (.fzE rfl (.box (by first | rfl | (rw [List.set_set]; exact congrArg _ (row_step (by omega) (by unfold takenAt; first | exact (if_pos ⟨by omega, by assumption, by omega, by assumption, by assumption⟩).symm | rw [if_neg (by rintro ⟨a1, a2, a3, a4, a5⟩; first | omega | contradiction | exact absurd a5 (by assumption) | (rw [a2] at h6; cases h6))]))) | exact congrArg _ (row_step (by omega) (by unfold takenAt; first | exact (if_pos ⟨by omega, by assumption, by omega, by assumption, by assumption⟩).symm | rw [if_neg (by rintro ⟨a1, a2, a3, a4, a5⟩; first | omega | contradiction | exact absurd a5 (by assumption) | (rw [a2] at h6; cases h6))]))) (.rowE rfl (.fzE rfl (.nil) rfl) (by first | rfl | (rw [List.set_set]; exact congrArg _ (row_step (by omega) (by unfold takenAt; first | exact (if_pos ⟨by omega, by assumption, by omega, by assumption, by assumption⟩).symm | rw [if_neg (by rintro ⟨a1, a2, a3, a4, a5⟩; first | omega | contradiction | exact absurd a5 (by assumption) | (rw [a2] at h6; cases h6))]))) | exact congrArg _ (row_step (by omega) (by unfold takenAt; first | exact (if_pos ⟨by omega, by assumption, by omega, by assumption, by assumption⟩).symm | rw [if_neg (by rintro ⟨a1, a2, a3, a4, a5⟩; first | omega | contradiction | exact absurd a5 (by assumption) | (rw [a2] at h6; cases h6))]))))) rfl) rfl) rfl, rfl⟩
              · have h9 := c_eql_f g9
                refine W_skip ?_
                refine blockK_n ?_
                refine thenK_n ?_
                refine W_seqK (b' := 695) rfl rfl ?_
                refine q0 99 663 1 rfl rfl (T_add64 rfl rfl rfl (by first | assumption | omega | (simp only [List.length_append, List.length_map, List.length_take, List.length_range, List.length_replicate, List.length_set]; omega) | (have k1 := hfi j (by omega) (by omega); first | exact k1.1 | exact k1.2 | exact (Int.toNat_lt k1.1).2 k1.2 | omega) | (have k1 := hq (by omega); omega) | (have k0 := hq (by omega); have k1 := hqb ((next.getD j default).getD i default).toNat (by omega); simp only [List.length_cons, List.length_nil]; omega))) rfl ?_
                refine q0 54 679 2 rfl rfl (T_move rfl rfl) rfl ?_
                refine k_done rfl ?_
                refine thenK_n ?_
                refine ⟨j + 1, by (try dsimp only); omega, by (try dsimp only); omega, ?_⟩
                exact ⟨[(4, 4), (5, 5), (6, 6)], .same rfl rfl (.same rfl rfl (.same rfl rfl (.same rfl rfl (.eq rfl (.eq rfl (.nil) (by first | rfl | (rw [List.set_set]; exact congrArg _ (row_step (by omega) (by unfold takenAt; first | exact (if_pos ⟨by omega, by assumption, by omega, by assumption, by assumption⟩).symm | rw [if_neg (by rintro ⟨a1, a2, a3, a4, a5⟩; first | omega | contradiction | exact absurd a5 (by assumption) | (rw [a2] at h6; cases h6))]))) | exact congrArg _ (row_step (by omega) (by unfold takenAt; first | exact (if_pos ⟨by omega, by assumption, by omega, by assumption, by assumption⟩).symm | rw [if_neg (by rintro ⟨a1, a2, a3, a4, a5⟩; first | omega | contradiction | exact absurd a5 (by assumption) | (rw [a2] at h6; cases h6))])))) rfl)))), .fzE rfl (.fzE rfl (.fzE rfl (.box (by first | rfl | (rw [List.set_set]; exact congrArg _ (row_step (by omega) (by unfold takenAt; first | exact (if_pos ⟨by omega, by assumption, by omega, by assumption, by assumption⟩).symm | rw [if_neg (by rintro ⟨a1, a2, a3, a4, a5⟩; first | omega | contradiction | exact absurd a5 (by assumption) | (rw [a2] at h6; cases h6))]))) | exact congrArg _ (row_step (by omega) (by unfold takenAt; first | exact (if_pos ⟨by omega, by assumption, by omega, by assumption, by assumption⟩).symm | rw [if_neg (by rintro ⟨a1, a2, a3, a4, a5⟩; first | omega | contradiction | exact absurd a5 (by assumption) | (rw [a2] at h6; cases h6))]))) (.rowE rfl (.fzE rfl (.nil) rfl) (by first | rfl | (rw [List.set_set]; exact congrArg _ (row_step (by omega) (by unfold takenAt; first | exact (if_pos ⟨by omega, by assumption, by omega, by assumption, by assumption⟩).symm | rw [if_neg (by rintro ⟨a1, a2, a3, a4, a5⟩; first | omega | contradiction | exact absurd a5 (by assumption) | (rw [a2] at h6; cases h6))]))) | exact congrArg _ (row_step (by omega) (by unfold takenAt; first | exact (if_pos ⟨by omega, by assumption, by omega, by assumption, by assumption⟩).symm | rw [if_neg (by rintro ⟨a1, a2, a3, a4, a5⟩; first | omega | contradiction | exact absurd a5 (by assumption) | (rw [a2] at h6; cases h6))]))))) rfl) rfl) rfl, rfl⟩
            · have h8 := c_neq_f g8
              refine k_no (d := 83) (j' := 22) rfl rfl rfl (g_tf rfl rfl rfl g8) ?_
              refine k_no (d := 84) (j' := 23) rfl rfl rfl (g_tf rfl rfl rfl g8) ?_
              refine k_no (d := 85) (j' := 24) rfl rfl rfl (g_tf rfl rfl rfl g8) ?_
              refine k_no (d := 86) (j' := 25) rfl rfl rfl (g_tf rfl rfl rfl g8) ?_
              refine k_no (d := 87) (j' := 26) rfl rfl rfl (g_tf rfl rfl rfl g8) ?_
              refine k_no (d := 88) (j' := 27) rfl rfl rfl (g_tf rfl rfl rfl g8) ?_
              refine k_no (d := 89) (j' := 28) rfl rfl rfl (g_tf rfl rfl rfl g8) ?_
              refine k_no (d := 90) (j' := 29) rfl rfl rfl (g_tf rfl rfl rfl g8) ?_
              refine k_no (d := 91) (j' := 30) rfl rfl rfl (g_tf rfl rfl rfl g8) ?_
              refine q0 92 647 31 rfl rfl (T_pick_f rfl rfl rfl g8) rfl ?_
              refine k_done rfl ?_
              refine ⟨rfl, ?_⟩
              refine thenK_n ?_
              refine W_cond rfl (fun g10 => ?_) (fun g10 => ?_)
              · exact absurd (g10.symm.trans rfl) (by decide)
              · skip
                refine W_skip ?_
                refine blockK_n ?_
                refine thenK_n ?_
                refine W_seqK (b' := 695) rfl rfl ?_
                refine q0 99 663 1 rfl rfl (T_add64 rfl rfl rfl (by first | assumption | omega | (simp only [List.length_append, List.length_map, List.length_take, List.length_range, List.length_replicate, List.length_set]; omega) | (have k1 := hfi j (by omega) (by omega); first | exact k1.1 | exact k1.2 | exact (Int.toNat_lt k1.1).2 k1.2 | omega) | (have k1 := hq (by omega); omega) | (have k0 := hq (by omega); have k1 := hqb ((next.getD j default).getD i default).toNat (by omega); simp only [List.length_cons, List.length_nil]; omega))) rfl ?_
                refine q0 54 679 2 rfl rfl (T_move rfl rfl) rfl ?_
                refine k_done rfl ?_
                refine thenK_n ?_
                refine ⟨j + 1, by (try dsimp only); omega, by (try dsimp only); omega, ?_⟩
                exact ⟨[(4, 4), (5, 5), (6, 6)], .same rfl rfl (.same rfl rfl (.same rfl rfl (.same rfl rfl (.eq rfl (.eq rfl (.nil) (by first | rfl | (rw [List.set_set]; exact congrArg _ (row_step (by omega) (by unfold takenAt; first | exact (if_pos ⟨by omega, by assumption, by omega, by assumption, by assumption⟩).symm | rw [if_neg (by rintro ⟨a1, a2, a3, a4, a5⟩; first | omega | contradiction | exact absurd a5 (by assumption) | (rw [a2] at h6; cases h6))]))) | exact congrArg _ (row_step (by omega) (by unfold takenAt; first | exact (if_pos ⟨by omega, by assumption, by omega, by assumption, by assumption⟩).symm | rw [if_neg (by rintro ⟨a1, a2, a3, a4, a5⟩; first | omega | contradiction | exact absurd a5 (by assumption) | (rw [a2] at h6; cases h6))])))) rfl)))), .fzE rfl (.fzE rfl (.fzE rfl (.box (by first | rfl | (rw [List.set_set]; exact congrArg _ (row_step (by omega) (by unfold takenAt; first | exact (if_pos ⟨by omega, by assumption, by omega, by assumption, by assumption⟩).symm | rw [if_neg (by rintro ⟨a1, a2, a3, a4, a5⟩; first | omega | contradiction | exact absurd a5 (by assumption) | (rw [a2] at h6; cases h6))]))) | exact congrArg _ (row_step (by omega) (by unfold takenAt; first | exact (if_pos ⟨by omega, by assumption, by omega, by assumption, by assumption⟩).symm | rw [if_neg (by rintro ⟨a1, a2, a3, a4, a5⟩; first | omega | contradiction | exact absurd a5 (by assumption) | (rw [a2] at h6; cases h6))]))) (.rowE rfl (.fzE rfl (.nil) rfl) (by first | rfl | (rw [List.set_set]; exact congrArg _ (row_step (by omega) (by unfold takenAt; first | exact (if_pos ⟨by omega, by assumption, by omega, by assumption, by assumption⟩).symm | rw [if_neg (by rintro ⟨a1, a2, a3, a4, a5⟩; first | omega | contradiction | exact absurd a5 (by assumption) | (rw [a2] at h6; cases h6))]))) | exact congrArg _ (row_step (by omega) (by unfold takenAt; first | exact (if_pos ⟨by omega, by assumption, by omega, by assumption, by assumption⟩).symm | rw [if_neg (by rintro ⟨a1, a2, a3, a4, a5⟩; first | omega | contradiction | exact absurd a5 (by assumption) | (rw [a2] at h6; cases h6))]))))) rfl) rfl) rfl, rfl⟩
          · have h7 := c_eql_f g7
            refine k_no (d := 76) (j' := 15) rfl rfl rfl (g_tf rfl rfl rfl g7) ?_
            refine k_no (d := 77) (j' := 16) rfl rfl rfl (g_tf rfl rfl rfl g7) ?_
            refine k_no (d := 78) (j' := 17) rfl rfl rfl (g_tf rfl rfl rfl g7) ?_
            refine k_no (d := 79) (j' := 18) rfl rfl rfl (g_tf rfl rfl rfl g7) ?_
            refine k_no (d := 80) (j' := 19) rfl rfl rfl (g_tf rfl rfl rfl g7) ?_
            refine q0 81 471 20 rfl rfl (T_pick_f rfl rfl rfl g7) rfl ?_
            refine q0 82 487 21 rfl rfl (T_move rfl rfl) rfl ?_
            refine k_no (d := 83) (j' := 22) rfl rfl rfl (g_tf rfl rfl rfl rfl) ?_
            refine k_no (d := 84) (j' := 23) rfl rfl rfl (g_tf rfl rfl rfl rfl) ?_
            refine k_no (d := 85) (j' := 24) rfl rfl rfl (g_tf rfl rfl rfl rfl) ?_
            refine k_no (d := 86) (j' := 25) rfl rfl rfl (g_tf rfl rfl rfl rfl) ?_
            refine k_no (d := 87) (j' := 26) rfl rfl rfl (g_tf rfl rfl rfl rfl) ?_
            refine k_no (d := 88) (j' := 27) rfl rfl rfl (g_tf rfl rfl rfl rfl) ?_
            refine k_no (d := 89) (j' := 28) rfl rfl rfl (g_tf rfl rfl rfl rfl) ?_
            refine k_no (d := 90) (j' := 29) rfl rfl rfl (g_tf rfl rfl rfl rfl) ?_
            refine k_no (d := 91) (j' := 30) rfl rfl rfl (g_tf rfl rfl rfl rfl) ?_
            refine q0 92 647 31 rfl rfl (T_pick_f rfl rfl rfl rfl) rfl ?_
            refine k_done rfl ?_
            refine ⟨rfl, ?_⟩
            refine thenK_n ?_
            refine W_cond rfl (fun g11 => ?_) (fun g11 => ?_)
            · exact absurd (g11.symm.trans rfl) (by decide)
            · skip
              refine W_skip ?_
              refine blockK_n ?_
              refine thenK_n ?_
              refine W_seqK (b' := 695) rfl rfl ?_
              refine q0 99 663 1 rfl rfl (T_add64 rfl rfl rfl (by first | assumption | omega | (simp only [List.length_append, List.length_map, List.length_take, List.length_range, List.length_replicate, List.length_set]; omega) | (have k1 := hfi j (by omega) (by omega); first | exact k1.1 | exact k1.2 | exact (Int.toNat_lt k1.1).2 k1.2 | omega) | (have k1 := hq (by omega); omega) | (have k0 := hq (by omega); have k1 := hqb ((next.getD j default).getD i default).toNat (by omega); simp only [List.length_cons, List.length_nil]; omega))) rfl ?_
              refine q0 54 679 2 rfl rfl (T_move rfl rfl) rfl ?_
              refine k_done rfl ?_
              refine thenK_n ?_
              refine ⟨j + 1, by (try dsimp only); omega, by (try dsimp only); omega, ?_⟩
              exact ⟨[(4, 4), (5, 5), (6, 6)], .same rfl rfl (.same rfl rfl (.same rfl rfl (.same rfl rfl (.eq rfl (.eq rfl (.nil) (by first | rfl | (rw [List.set_set]; exact congrArg _ (row_step (by omega) (by unfold takenAt; first | exact (if_pos ⟨by omega, by assumption, by omega, by assumption, by assumption⟩).symm | rw [if_neg (by rintro ⟨a1, a2, a3, a4, a5⟩; first | omega | contradiction | exact absurd a5 (by assumption) | (rw [a2] at h6; cases h6))]))) | exact congrArg _ (row_step (by omega) (by unfold takenAt; first | exact (if_pos ⟨by omega, by assumption, by omega, by assumption, by assumption⟩).symm | rw [if_neg (by rintro ⟨a1, a2, a3, a4, a5⟩; first | omega | contradiction | exact absurd a5 (by assumption) | (rw [a2] at h6; cases h6))])))) rfl)))), .fzE rfl (.fzE rfl (.fzE rfl (.box (by first | rfl | (rw [List.set_set]; exact congrArg _ (row_step (by omega) (by unfold takenAt; first | exact (if_pos ⟨by omega, by assumption, by omega, by assumption, by assumption⟩).symm | rw [if_neg (by rintro ⟨a1, a2, a3, a4, a5⟩; first | omega | contradiction | exact absurd a5 (by assumption) | (rw [a2] at h6; cases h6))]))) | exact congrArg _ (row_step (by omega) (by unfold takenAt; first | exact (if_pos ⟨by omega, by assumption, by omega, by assumption, by assumption⟩).symm | rw [if_neg (by rintro ⟨a1, a2, a3, a4, a5⟩; first | omega | contradiction | exact absurd a5 (by assumption) | (rw [a2] at h6; cases h6))]))) (.rowE rfl (.fzE rfl (.nil) rfl) (by first | rfl | (rw [List.set_set]; exact congrArg _ (row_step (by omega) (by unfold takenAt; first | exact (if_pos ⟨by omega, by assumption, by omega, by assumption, by assumption⟩).symm | rw [if_neg (by rintro ⟨a1, a2, a3, a4, a5⟩; first | omega | contradiction | exact absurd a5 (by assumption) | (rw [a2] at h6; cases h6))]))) | exact congrArg _ (row_step (by omega) (by unfold takenAt; first | exact (if_pos ⟨by omega, by assumption, by omega, by assumption, by assumption⟩).symm | rw [if_neg (by rintro ⟨a1, a2, a3, a4, a5⟩; first | omega | contradiction | exact absurd a5 (by assumption) | (rw [a2] at h6; cases h6))]))))) rfl) rfl) rfl, rfl⟩
        · have h6 := g6; (try simp only [cmpB, decide_eq_true_eq, decide_eq_false_iff_not, beq_iff_eq, beq_eq_false_iff_ne, bne_iff_ne, ne_eq, bne_eq_false_iff_eq, Bool.not_eq_true', Bool.not_eq_false', Int.not_lt, Int.not_le] at h6)
          refine k_no (d := 71) (j' := 10) rfl rfl rfl (g_tf rfl rfl rfl g6) ?_
          refine k_no (d := 72) (j' := 11) rfl rfl rfl (g_tf rfl rfl rfl g6) ?_
          refine k_no (d := 73) (j' := 12) rfl rfl rfl (g_tf rfl rfl rfl g6) ?_
          refine q0 74 359 13 rfl rfl (T_pick_f rfl rfl rfl g6) rfl ?_
          refine q0 75 375 14 rfl rfl (T_move rfl rfl) rfl ?_
          refine k_no (d := 76) (j' := 15) rfl rfl rfl (g_tf rfl rfl rfl rfl) ?_
          refine k_no (d := 77) (j' := 16) rfl rfl rfl (g_tf rfl rfl rfl rfl) ?_
          refine k_no (d := 78) (j' := 17) rfl rfl rfl (g_tf rfl rfl rfl rfl) ?_
          refine k_no (d := 79) (j' := 18) rfl rfl rfl (g_tf rfl rfl rfl rfl) ?_
          refine k_no (d := 80) (j' := 19) rfl rfl rfl (g_tf rfl rfl rfl rfl) ?_
          refine q0 81 471 20 rfl rfl (T_pick_f rfl rfl rfl rfl) rfl ?_
          refine q0 82 487 21 rfl rfl (T_move rfl rfl) rfl ?_
          refine k_no (d := 83) (j' := 22) rfl rfl rfl (g_tf rfl rfl rfl rfl) ?_
          refine k_no (d := 84) (j' := 23) rfl rfl rfl (g_tf rfl rfl rfl rfl) ?_
          refine k_no (d := 85) (j' := 24) rfl rfl rfl (g_tf rfl rfl rfl rfl) ?_
          refine k_no (d := 86) (j' := 25) rfl rfl rfl (g_tf rfl rfl rfl rfl) ?_
          refine k_no (d := 87) (j' := 26) rfl rfl rfl (g_tf rfl rfl rfl rfl) ?_
          refine k_no (d := 88) (j' := 27) rfl rfl rfl (g_tf rfl rfl rfl rfl) ?_
          refine k_no (d := 89) (j' := 28) rfl rfl rfl (g_tf rfl rfl rfl rfl) ?_
          refine k_no (d := 90) (j' := 29) rfl rfl rfl (g_tf rfl rfl rfl rfl) ?_
          refine k_no (d := 91) (j' := 30) rfl rfl rfl (g_tf rfl rfl rfl rfl) ?_
          refine q0 92 647 31 rfl rfl (T_pick_f rfl rfl rfl rfl) rfl ?_
          refine k_done rfl ?_
          refine ⟨rfl, ?_⟩
          refine thenK_n ?_
          refine W_cond rfl (fun g12 => ?_) (fun g12 => ?_)
          · exact absurd (g12.symm.trans rfl) (by decide)
          · skip
            refine W_skip ?_
            refine blockK_n ?_
            refine thenK_n ?_
            refine W_seqK (b' := 695) rfl rfl ?_
            refine q0 99 663 1 rfl rfl (T_add64 rfl rfl rfl (by first | assumption | omega | (simp only [List.length_append, List.length_map, List.length_take, List.length_range, List.length_replicate, List.length_set]; omega) | (have k1 := hfi j (by omega) (by omega); first | exact k1.1 | exact k1.2 | exact (Int.toNat_lt k1.1).2 k1.2 | omega) | (have k1 := hq (by omega); omega) | (have k0 := hq (by omega); have k1 := hqb ((next.getD j default).getD i default).toNat (by omega); simp only [List.length_cons, List.length_nil]; omega))) rfl ?_
            refine q0 54 679 2 rfl rfl (T_move rfl rfl) rfl ?_
            refine k_done rfl ?_
            refine thenK_n ?_
            refine ⟨j + 1, by (try dsimp only); omega, by (try dsimp only); omega, ?_⟩
            exact ⟨[(4, 4), (5, 5), (6, 6)], .same rfl rfl (.same rfl rfl (.same rfl rfl (.same rfl rfl (.eq rfl (.eq rfl (.nil) (by first | rfl | (rw [List.set_set]; exact congrArg _ (row_step (by omega) (by unfold takenAt; first | exact (if_pos ⟨by omega, by assumption, by omega, by assumption, by assumption⟩).symm | rw [if_neg (by rintro ⟨a1, a2, a3, a4, a5⟩; first | omega | contradiction | exact absurd a5 (by assumption) | (rw [a2] at h6; cases h6))]))) | exact congrArg _ (row_step (by omega) (by unfold takenAt; first | exact (if_pos ⟨by omega, by assumption, by omega, by assumption, by assumption⟩).symm | rw [if_neg (by rintro ⟨a1, a2, a3, a4, a5⟩; first | omega | contradiction | exact absurd a5 (by assumption) | (rw [a2] at h6; cases h6))])))) rfl)))), .fzE rfl (.fzE rfl (.fzE rfl (.box (by first | rfl | (rw [List.set_set]; exact congrArg _ (row_step (by omega) (by unfold takenAt; first | exact (if_pos ⟨by omega, by assumption, by omega, by assumption, by assumption⟩).symm | rw [if_neg (by rintro ⟨a1, a2, a3, a4, a5⟩; first | omega | contradiction | exact absurd a5 (by assumption) | (rw [a2] at h6; cases h6))]))) | exact congrArg _ (row_step (by omega) (by unfold takenAt; first | exact (if_pos ⟨by omega, by assumption, by omega, by assumption, by assumption⟩).symm | rw [if_neg (by rintro ⟨a1, a2, a3, a4, a5⟩; first | omega | contradiction | exact absurd a5 (by assumption) | (rw [a2] at h6; cases h6))]))) (.rowE rfl (.fzE rfl (.nil) rfl) (by first | rfl | (rw [List.set_set]; exact congrArg _ (row_step (by omega) (by unfold takenAt; first | exact (if_pos ⟨by omega, by assumption, by omega, by assumption, by assumption⟩).symm | rw [if_neg (by rintro ⟨a1, a2, a3, a4, a5⟩; first | omega | contradiction | exact absurd a5 (by assumption) | (rw [a2] at h6; cases h6))]))) | exact congrArg _ (row_step (by omega) (by unfold takenAt; first | exact (if_pos ⟨by omega, by assumption, by omega, by assumption, by assumption⟩).symm | rw [if_neg (by rintro ⟨a1, a2, a3, a4, a5⟩; first | omega | contradiction | exact absurd a5 (by assumption) | (rw [a2] at h6; cases h6))]))))) rfl) rfl) rfl, rfl⟩
      · have h5 := c_gtr_f g5
        refine k_no (d := 65) (j' := 4) rfl rfl rfl (g_tf rfl rfl rfl g5) ?_
        refine k_no (d := 66) (j' := 5) rfl rfl rfl (g_tf rfl rfl rfl g5) ?_
        refine k_no (d := 67) (j' := 6) rfl rfl rfl (g_tf rfl rfl rfl g5) ?_
        refine k_no (d := 68) (j' := 7) rfl rfl rfl (g_tf rfl rfl rfl g5) ?_
        refine q0 69 279 8 rfl rfl (T_pick_f rfl rfl rfl g5) rfl ?_
        refine q0 70 295 9 rfl rfl (T_move rfl rfl) rfl ?_
        refine k_no (d := 71) (j' := 10) rfl rfl rfl (g_tf rfl rfl rfl rfl) ?_
        refine k_no (d := 72) (j' := 11) rfl rfl rfl (g_tf rfl rfl rfl rfl) ?_
        refine k_no (d := 73) (j' := 12) rfl rfl rfl (g_tf rfl rfl rfl rfl) ?_
        refine q0 74 359 13 rfl rfl (T_pick_f rfl rfl rfl rfl) rfl ?_
        refine q0 75 375 14 rfl rfl (T_move rfl rfl) rfl ?_
        refine k_no (d := 76) (j' := 15) rfl rfl rfl (g_tf rfl rfl rfl rfl) ?_
        refine k_no (d := 77) (j' := 16) rfl rfl rfl (g_tf rfl rfl rfl rfl) ?_
        refine k_no (d := 78) (j' := 17) rfl rfl rfl (g_tf rfl rfl rfl rfl) ?_
        refine k_no (d := 79) (j' := 18) rfl rfl rfl (g_tf rfl rfl rfl rfl) ?_
        refine k_no (d := 80) (j' := 19) rfl rfl rfl (g_tf rfl rfl rfl rfl) ?_
        refine q0 81 471 20 rfl rfl (T_pick_f rfl rfl rfl rfl) rfl ?_
        refine q0 82 487 21 rfl rfl (T_move rfl rfl) rfl ?_
        refine k_no (d := 83) (j' := 22) rfl rfl rfl (g_tf rfl rfl rfl rfl) ?_
        refine k_no (d := 84) (j' := 23) rfl rfl rfl (g_tf rfl rfl rfl rfl) ?_
        refine k_no (d := 85) (j' := 24) rfl rfl rfl (g_tf rfl rfl rfl rfl) ?_
        refine k_no (d := 86) (j' := 25) rfl rfl rfl (g_tf rfl rfl rfl rfl) ?_
        refine k_no (d := 87) (j' := 26) rfl rfl rfl (g_tf rfl rfl rfl rfl) ?_
        refine k_no (d := 88) (j' := 27) rfl rfl rfl (g_tf rfl rfl rfl rfl) ?_
        refine k_no (d := 89) (j' := 28) rfl rfl rfl (g_tf rfl rfl rfl rfl) ?_
        refine k_no (d := 90) (j' := 29) rfl rfl rfl (g_tf rfl rfl rfl rfl) ?_
        refine k_no (d := 91) (j' := 30) rfl rfl rfl (g_tf rfl rfl rfl rfl) ?_
        refine q0 92 647 31 rfl rfl (T_pick_f rfl rfl rfl rfl) rfl ?_
        refine k_done rfl ?_
        refine ⟨rfl, ?_⟩
        refine thenK_n ?_
        refine W_cond rfl (fun g13 => ?_) (fun g13 => ?_)
        · exact absurd (g13.symm.trans rfl) (by decide)
        · skip
          refine W_skip ?_
          refine blockK_n ?_
          refine thenK_n ?_
          refine W_seqK (b' := 695) rfl rfl ?_
          refine q0 99 663 1 rfl rfl (T_add64 rfl rfl rfl (by first | assumption | omega | (simp only [List.length_append, List.length_map, List.length_take, List.length_range, List.length_replicate, List.length_set]; omega) | (have k1 := hfi j (by omega) (by omega); first | exact k1.1 | exact k1.2 | exact (Int.toNat_lt k1.1).2 k1.2 | omega) | (have k1 := hq (by omega); omega) | (have k0 := hq (by omega); have k1 := hqb ((next.getD j default).getD i default).toNat (by omega); simp only [List.length_cons, List.length_nil]; omega))) rfl ?_
          refine q0 54 679 2 rfl rfl (T_move rfl rfl) rfl ?_
          refine k_done rfl ?_
          refine thenK_n ?_
          refine ⟨j + 1, by (try dsimp only); omega, by (try dsimp only); omega, ?_⟩
          exact ⟨[(4, 4), (5, 5), (6, 6)], .same rfl rfl (.same rfl rfl (.same rfl rfl (.same rfl rfl (.eq rfl (.eq rfl (.nil) (by first | rfl | (rw [List.set_set]; exact congrArg _ (row_step (by omega) (by unfold takenAt; first | exact (if_pos ⟨by omega, by assumption, by omega, by assumption, by assumption⟩).symm | rw [if_neg (by rintro ⟨a1, a2, a3, a4, a5⟩; first | omega | contradiction | exact absurd a5 (by assumption) | (rw [a2] at h6; cases h6))]))) | exact congrArg _ (row_step (by omega) (by unfold takenAt; first | exact (if_pos ⟨by omega, by assumption, by omega, by assumption, by assumption⟩).symm | rw [if_neg (by rintro ⟨a1, a2, a3, a4, a5⟩; first | omega | contradiction | exact absurd a5 (by assumption) | (rw [a2] at h6; cases h6))])))) rfl)))), .fzE rfl (.fzE rfl (.fzE rfl (.box (by first | rfl | (rw [List.set_set]; exact congrArg _ (row_step (by omega) (by unfold takenAt; first | exact (if_pos ⟨by omega, by assumption, by omega, by assumption, by assumption⟩).symm | rw [if_neg (by rintro ⟨a1, a2, a3, a4, a5⟩; first | omega | contradiction | exact absurd a5 (by assumption) | (rw [a2] at h6; cases h6))]))) | exact congrArg _ (row_step (by omega) (by unfold takenAt; first | exact (if_pos ⟨by omega, by assumption, by omega, by assumption, by assumption⟩).symm | rw [if_neg (by rintro ⟨a1, a2, a3, a4, a5⟩; first | omega | contradiction | exact absurd a5 (by assumption) | (rw [a2] at h6; cases h6))]))) (.rowE rfl (.fzE rfl (.nil) rfl) (by first | rfl | (rw [List.set_set]; exact congrArg _ (row_step (by omega) (by unfold takenAt; first | exact (if_pos ⟨by omega, by assumption, by omega, by assumption, by assumption⟩).symm | rw [if_neg (by rintro ⟨a1, a2, a3, a4, a5⟩; first | omega | contradiction | exact absurd a5 (by assumption) | (rw [a2] at h6; cases h6))]))) | exact congrArg _ (row_step (by omega) (by unfold takenAt; first | exact (if_pos ⟨by omega, by assumption, by omega, by assumption, by assumption⟩).symm | rw [if_neg (by rintro ⟨a1, a2, a3, a4, a5⟩; first | omega | contradiction | exact absurd a5 (by assumption) | (rw [a2] at h6; cases h6))]))))) rfl) rfl) rfl, rfl⟩
    · have h4 := c_lss_f g4
      refine W_exit ?_
      refine thenK_e ?_
      refine thenK_e ?_
      refine blockK_hit ?_
      refine thenK_n ?_
      refine W_seq ?_
      refine W_seqK (b' := 55) rfl rfl ?_
      refine q0 100 23 1 rfl rfl (T_move rfl rfl) rfl ?_
      refine q0 6 39 2 rfl rfl (T_assign rfl rfl) rfl ?_
      refine k_done rfl ?_
      refine thenK_n ?_
      refine W_ret ?_
      -- end 0
      exact .mk [(4, 5)] (.inr rfl) (.tmp rfl (.nil)) rfl (.rowE rfl (.nil) (by first | rfl | (have e : j = f.blocks.length := (by omega); rw [e, List.take_of_length_le (by simp)]; simp))) rfl
end Lg
end Go.Proofs.Ytpfhmodjjljpjaa

namespace Go.Proofs.Ytpfhmodjjljpjaa
open Go.RowKit
namespace Lg

/-! ### Depth first: what is reached -/
/-- x is reached from b. -/
inductive RF (next : List (List Int)) (bar : Int) (b : Int) : Nat → Prop
  | refl (h0 : 0 ≤ b) (h1 : b < (next.length : Int)) (h2 : b ≠ bar) : RF next bar b b.toNat
  | step {x : Nat} {y : Int} (h : RF next bar b x) (hy : y ∈ next.getD x default) (h0 : 0 ≤ y) (h1 : y < (next.length : Int)) (h2 : y ≠ bar) : RF next bar b y.toNat

theorem RF.lt {next : List (List Int)} {bar b : Int} {x : Nat} (h : RF next bar b x) : x < next.length := by
  cases h <;> omega
theorem RF.head {next : List (List Int)} {bar b y : Int} {x : Nat} (h0 : 0 ≤ b) (h1 : b < (next.length : Int)) (h2 : b ≠ bar) (hy : y ∈ next.getD b.toNat default) (h : RF next bar y x) : RF next bar b x := by
  induction h with
  | refl g0 g1 g2 => exact .step (.refl h0 h1 h2) hy g0 g1 g2
  | step _ hy g0 g1 g2 ih => exact .step ih hy g0 g1 g2

theorem getD_set_true {s : List Bool} {i x : Nat} (h : i < s.length) : (s.set i true).getD x default = if x = i then true else s.getD x default := by
  rw [List.getD_eq_getElem?_getD, List.getElem?_set]
  by_cases hx : i = x
  · subst hx; simp [h]
  · simp [hx, Ne.symm hx, List.getD_eq_getElem?_getD]
theorem count_mono : ∀ {s s' : List Bool}, s'.length = s.length → (∀ x, s.getD x default = true → s'.getD x default = true) → s'.count false ≤ s.count false
  | [], [], _, _ => Nat.le_refl _
  | a :: s, b :: s', hl, h => by
    have h0 := h 0
    have ih := count_mono (s := s) (s' := s') (by simpa using hl) (fun x hx => by have := h (x + 1); simp only [List.getD_cons_succ] at this; exact this hx)
    simp only [List.getD_cons_zero] at h0
    cases a <;> cases b <;> simp_all <;> omega
theorem count_set_lt {s : List Bool} {i : Nat} (h : i < s.length) (hf : s.getD i default = false) : (s.set i true).count false + 1 = s.count false := by
  have hg : s[i] = false := by
    rw [List.getD_eq_getElem?_getD, List.getElem?_eq_getElem h] at hf
    exact hf
  have hpos : 0 < s.count false := List.count_pos_iff.2 (hg ▸ List.getElem_mem h)
  rw [List.count_set h]
  simp [hg]
  omega

structure VOK (next : List (List Int)) (bar b : Int) (s o s' o' : List Bool) : Prop where
  ls : s'.length = next.length
  lo : o'.length = next.length
  mono : ∀ x, s.getD x default = true → s'.getD x default = true
  outs : ∀ x, o'.getD x default = true ↔ o.getD x default = true ∨ (s'.getD x default = true ∧ s.getD x default = false)
  fr : ∀ x, s'.getD x default = true → s.getD x default = true ∨ RF next bar b x
  clos : ∀ x, s'.getD x default = true → s.getD x default = false → ∀ y ∈ next.getD x default, 0 ≤ y → y < (next.length : Int) → y ≠ bar → s'.getD y.toNat default = true
  self : 0 ≤ b → b < (next.length : Int) → b ≠ bar → s'.getD b.toNat default = true

structure FOK (next : List (List Int)) (bar : Int) (l : List Int) (s o s' o' : List Bool) : Prop where
  ls : s'.length = next.length
  lo : o'.length = next.length
  mono : ∀ x, s.getD x default = true → s'.getD x default = true
  outs : ∀ x, o'.getD x default = true ↔ o.getD x default = true ∨ (s'.getD x default = true ∧ s.getD x default = false)
  fr : ∀ x, s'.getD x default = true → s.getD x default = true ∨ ∃ y ∈ l, RF next bar y x
  clos : ∀ x, s'.getD x default = true → s.getD x default = false → ∀ y ∈ next.getD x default, 0 ≤ y → y < (next.length : Int) → y ≠ bar → s'.getD y.toNat default = true
  all : ∀ y ∈ l, 0 ≤ y → y < (next.length : Int) → y ≠ bar → s'.getD y.toNat default = true

theorem bool_cases (b : Bool) : b = true ∨ b = false := by cases b <;> simp

theorem visit_ok (next : List (List Int)) (bar : Int) : ∀ (m : Nat) (b : Int) (s o : List Bool), s.length = next.length → o.length = next.length → s.count false + 1 ≤ m → ∃ s' o', visit next bar m b (s, o) = some (s', o') ∧ VOK next bar b s o s' o'
  | 0, _, _, _, _, _, h => by omega
  | m + 1, b, s, o, hs, ho, hm => by
    rw [visit]
    by_cases hc : b < 0 ∨ b ≥ (next.length : Int) ∨ (s, o).1.getD b.toNat default = true ∨ b = bar
    · rw [if_pos hc]
      refine ⟨s, o, rfl, hs, ho, fun _ h => h, fun x => ⟨fun h => .inl h, fun h => ?_⟩, fun x h => .inl h, fun x h1 h2 => ?_, fun h0 h1 h2 => ?_⟩
      · rcases h with h | ⟨h1, h2⟩
        · exact h
        · rw [h1] at h2; cases h2
      · rw [h1] at h2; cases h2
      · rcases hc with h | h | h | h
        · omega
        · omega
        · exact h
        · exact absurd h h2
    · rw [if_neg hc]
      simp only [not_or] at hc
      obtain ⟨c0, c1, c2, c3⟩ := hc
      have hbl : b.toNat < s.length := by omega
      have hsf : s.getD b.toNat default = false := (bool_cases _).resolve_left c2
      have hcnt := count_set_lt hbl hsf
      have hfold : ∀ (l : List Int) (s1 o1 : List Bool), s1.length = next.length → o1.length = next.length → s1.count false + 1 ≤ m → ∃ s' o', l.foldlM (fun st n => visit next bar m n st) (s1, o1) = some (s', o') ∧ FOK next bar l s1 o1 s' o' := by
        intro l
        induction l with
        | nil =>
          intro s1 o1 h1 h2 _
          refine ⟨s1, o1, rfl, h1, h2, fun _ h => h, fun x => ⟨fun h => .inl h, fun h => ?_⟩, fun x h => .inl h, fun x h1 h2 => ?_, fun y hy => by cases hy⟩
          · rcases h with h | ⟨h1, h2⟩
            · exact h
            · rw [h1] at h2; cases h2
          · rw [h1] at h2; cases h2
        | cons y l ih =>
          intro s1 o1 h1 h2 h3
          obtain ⟨s2, o2, e1, k1⟩ := visit_ok next bar m y s1 o1 h1 h2 h3
          have hle := count_mono (s := s1) (s' := s2) (by rw [k1.ls, h1]) k1.mono
          obtain ⟨s3, o3, e2, k2⟩ := ih s2 o2 k1.ls k1.lo (by omega)
          refine ⟨s3, o3, by rw [List.foldlM_cons, e1]; exact e2, k2.ls, k2.lo, fun x h => k2.mono x (k1.mono x h), fun x => ?_, fun x h => ?_, fun x g1 g2 => ?_, fun z hz => ?_⟩
          · rw [k2.outs, k1.outs]
            constructor
            · rintro ((h | ⟨h, h'⟩) | ⟨h, h'⟩)
              · exact .inl h
              · exact .inr ⟨k2.mono x h, h'⟩
              · refine .inr ⟨h, ?_⟩
                rcases bool_cases (s1.getD x default) with h4 | h4
                · rw [k1.mono x h4] at h'; cases h'
                · exact h4
            · rintro (h | ⟨h, h'⟩)
              · exact .inl (.inl h)
              · rcases bool_cases (s2.getD x default) with h4 | h4
                · exact .inl (.inr ⟨h4, h'⟩)
                · exact .inr ⟨h, h4⟩
          · rcases k2.fr x h with h | ⟨z, hz, h⟩
            · rcases k1.fr x h with h | h
              · exact .inl h
              · exact .inr ⟨y, by simp, h⟩
            · exact .inr ⟨z, List.mem_cons_of_mem _ hz, h⟩
          · rcases bool_cases (s2.getD x default) with h4 | h4
            · exact fun y hy a1 a2 a3 => k2.mono _ (k1.clos x h4 g2 y hy a1 a2 a3)
            · exact k2.clos x g1 h4
          · rcases List.mem_cons.1 hz with rfl | hz
            · exact fun a1 a2 a3 => k2.mono _ (k1.self a1 a2 a3)
            · exact k2.all z hz
      obtain ⟨s2, o2, e1, k⟩ := hfold (next.getD b.toNat default) (s.set b.toNat true) o (by simpa using hs) ho (by omega)
      have hb2 : s2.getD b.toNat default = true := k.mono _ (by rw [getD_set_true hbl, if_pos rfl])
      have hset : ∀ x, (s.set b.toNat true).getD x default = false ↔ s.getD x default = false ∧ x ≠ b.toNat := fun x => by
        rw [getD_set_true hbl]
        split
        · rename_i h; simp [h]
        · rename_i h; simp [h]
      have hset2 : ∀ x, (s.set b.toNat true).getD x default = true ↔ s.getD x default = true ∨ x = b.toNat := fun x => by
        rw [getD_set_true hbl]
        split
        · rename_i h; simp [h]
        · rename_i h; simp [h]
      refine ⟨s2, o2.set b.toNat true, by simp only at e1 ⊢; rw [e1]; rfl, k.ls, by simpa using k.lo, fun x h => k.mono x ((hset2 x).2 (.inl h)), fun x => ?_, fun x h => ?_, fun x h1 h2 y hy a1 a2 a3 => ?_, fun _ _ _ => hb2⟩
      · rw [getD_set_true (by rw [k.lo]; omega)]
        by_cases hx : x = b.toNat
        · rw [if_pos hx, hx]
          exact ⟨fun _ => .inr ⟨hb2, hsf⟩, fun _ => rfl⟩
        · rw [if_neg hx, k.outs]
          constructor
          · rintro (h | ⟨h, h'⟩)
            · exact .inl h
            · exact .inr ⟨h, ((hset x).1 h').1⟩
          · rintro (h | ⟨h, h'⟩)
            · exact .inl h
            · exact .inr ⟨h, (hset x).2 ⟨h', hx⟩⟩
      · rcases k.fr x h with h | ⟨y, hy, h⟩
        · rcases (hset2 x).1 h with h | h
          · exact .inl h
          · rw [h]; exact .inr (.refl (by omega) (by omega) c3)
        · exact .inr (RF.head (by omega) (by omega) c3 hy h)
      · by_cases hx : x = b.toNat
        · rw [hx] at hy
          exact k.all y hy a1 a2 a3
        · exact k.clos x h1 ((hset x).2 ⟨h2, hx⟩) y hy a1 a2 a3

/-- What is reached from the first one. -/
theorem visit_all (next : List (List Int)) : ∃ s2 o2, visit next (-1) (next.length + 1) 0 (List.replicate next.length false, List.replicate next.length false) = some (s2, o2) ∧ o2.length = next.length ∧ ∀ x, o2.getD x default = true ↔ RF next (-1) 0 x := by
  have hf : ∀ x, (List.replicate next.length false).getD x default = false := fun x => by
    rw [List.getD_eq_getElem?_getD, List.getElem?_replicate]
    split <;> rfl
  obtain ⟨s2, o2, h1, h2⟩ := visit_ok next (-1) (next.length + 1) 0 (List.replicate next.length false) (List.replicate next.length false) (by simp) (by simp) (by simp)
  refine ⟨s2, o2, h1, h2.lo, fun x => ?_⟩
  rw [h2.outs]
  have hs : s2.getD x default = true ↔ RF next (-1) 0 x := by
    constructor
    · intro h
      rcases h2.fr x h with h | h
      · rw [hf] at h; cases h
      · exact h
    · intro h
      induction h with
      | refl a0 a1 a2 => exact h2.self a0 a1 a2
      | step _ hy a0 a1 a2 ih => exact h2.clos _ ih (hf _) _ hy a0 a1 a2
  constructor
  · rintro (h | ⟨h, _⟩)
    · rw [hf] at h; cases h
    · exact hs.1 h
  · exact fun h => .inr ⟨hs.2 h, hf x⟩
end Lg
end Go.Proofs.Ytpfhmodjjljpjaa

namespace Go.Proofs.Ytpfhmodjjljpjaa
open Go.RowKit
namespace Lg

/-! ### What it is that paths hold -/
def linkAB (f : GFn) (a b : Int) : Prop := (blk f a).fin = 1 ∧ (blk f a).to = b
def chn (f : GFn) : List Int → Prop
  | [] => True
  | [_] => True
  | a :: b :: l => linkAB f a b ∧ chn f (b :: l)
def headOf (p : List Int) : Int := p.getD 0 default

theorem chn_iff (f : GFn) : ∀ p : List Int, chn f p ↔ ∀ i, i + 1 < p.length → linkAB f (p.getD i default) (p.getD (i + 1) default)
  | [] => ⟨fun _ i h => by simp at h, fun _ => trivial⟩
  | [_] => ⟨fun _ i h => by simp at h, fun _ => trivial⟩
  | a :: b :: l => by
    rw [chn, chn_iff f (b :: l)]
    constructor
    · rintro ⟨h1, h2⟩ i hi
      cases i with
      | zero => exact h1
      | succ i => exact h2 i (by simpa using hi)
    · intro h
      exact ⟨h 0 (by simp), fun i hi => h (i + 1) (by simpa using hi)⟩
theorem chainB_iff (f : GFn) (p : List Int) : chainB f p = true ↔ chn f p := by
  rw [chn_iff, chainB, List.all_eq_true]
  simp only [List.mem_range, link, Bool.and_eq_true, beq_iff_eq, linkAB]
  exact ⟨fun h i hi => h i (by omega), fun h i hi => h i (by omega)⟩
theorem lastOf_one (k : Int) : lastOf [k] = k := rfl
theorem lastOf_cons (a b : Int) (l : List Int) : lastOf (a :: b :: l) = lastOf (b :: l) := by
  have : (((a :: b :: l).length : Nat) : Int) - 1 = (((b :: l).length : Nat) : Int) - 1 + 1 := by simp
  unfold lastOf
  rw [this, show ((((b :: l).length : Nat) : Int) - 1 + 1).toNat = ((((b :: l).length : Nat) : Int) - 1).toNat + 1 by simp]
  rfl
theorem lastOf_append : ∀ (p q : List Int), q ≠ [] → lastOf (p ++ q) = lastOf q
  | [], q, _ => rfl
  | [a], q, h => by
    cases q with
    | nil => exact absurd rfl h
    | cons b q => exact lastOf_cons a b q
  | a :: b :: p, q, h => by
    show lastOf (a :: b :: (p ++ q)) = _
    rw [lastOf_cons]
    exact lastOf_append (b :: p) q h
theorem headOf_append (p q : List Int) (h : p ≠ []) : headOf (p ++ q) = headOf p := by
  cases p with
  | nil => exact absurd rfl h
  | cons a p => rfl
theorem chn_append (f : GFn) : ∀ (p q : List Int), p ≠ [] → q ≠ [] → (chn f (p ++ q) ↔ chn f p ∧ linkAB f (lastOf p) (headOf q) ∧ chn f q)
  | [], q, h, _ => absurd rfl h
  | [a], q, _, h => by
    cases q with
    | nil => exact absurd rfl h
    | cons b q => exact ⟨fun h => ⟨trivial, h.1, h.2⟩, fun h => ⟨h.2.1, h.2.2⟩⟩
  | a :: b :: p, q, _, h => by
    show linkAB f a b ∧ chn f (b :: p ++ q) ↔ _
    rw [chn_append f (b :: p) q (by simp) h, lastOf_cons]
    exact ⟨fun h => ⟨⟨h.1, h.2.1⟩, h.2.2⟩, fun h => ⟨h.1.1, h.1.2, h.2⟩⟩
theorem lastOf_mem {p : List Int} (h : p ≠ []) : lastOf p ∈ p := by
  have : 0 < p.length := List.length_pos_iff.2 h
  exact getD_mem (by omega)
theorem headOf_mem {p : List Int} (h : p ≠ []) : headOf p ∈ p := getD_mem (List.length_pos_iff.2 h)

/-- A new block's end is its path's end. -/
def endOk (f : GFn) (b : GBlock) (p : List Int) (ps : List (List Int)) : Prop :=
  b.fin = (blk f (lastOf p)).fin ∧ b.v = (blk f (lastOf p)).v ∧
  (if (blk f (lastOf p)).fin = 1 then leads ps b.to (blk f (lastOf p)).to = true ∧ b.els = (blk f (lastOf p)).els
   else if (blk f (lastOf p)).fin = 2 then leads ps b.to (blk f (lastOf p)).to = true ∧ leads ps b.els (blk f (lastOf p)).els = true
   else b.to = (blk f (lastOf p)).to ∧ b.els = (blk f (lastOf p)).els)
theorem made_iff (f : GFn) (b : GBlock) (p : List Int) (ps : List (List Int)) : made f b p ps = true ↔ chn f p ∧ b.ins = instrs f p ∧ endOk f b p ps := by
  rw [← chainB_iff]
  unfold made endOk
  split
  · simp only [Bool.and_eq_true, beq_iff_eq, decide_eq_true_eq, and_assoc]
  · split <;> simp only [Bool.and_eq_true, beq_iff_eq, decide_eq_true_eq, and_assoc]
theorem leads_iff (ps : List (List Int)) (n old : Int) : leads ps n old = true ↔ 0 ≤ n ∧ n < ps.length ∧ headOf (ps.getD n.toNat default) = old := by
  simp only [leads, Bool.and_eq_true, beq_iff_eq, decide_eq_true_eq, headOf, and_assoc]
def pathIn (f : GFn) (p : List Int) : Prop := p ≠ [] ∧ ∀ k ∈ p, 0 ≤ k ∧ k < (f.blocks.length : Int)
theorem okPath_iff (f : GFn) (p : List Int) : okPath f p = true ↔ pathIn f p := by
  simp only [okPath, pathIn, outside, Bool.and_eq_true, Bool.not_eq_true', List.any_eq_false, Bool.or_eq_true, decide_eq_true_eq, not_or, decide_eq_false_iff_not, List.length_eq_zero_iff]
  exact ⟨fun h => ⟨h.1, fun k hk => by have := h.2 k hk; omega⟩, fun h => ⟨h.1, fun k hk => by have := h.2 k hk; omega⟩⟩
structure Holds (old new : GFn) (ps : List (List Int)) : Prop where
  len : ps.length = new.blocks.length
  pos : ps.length ≠ 0
  regs : old.regs = new.regs
  inn : ∀ p ∈ ps, pathIn old p
  first : headOf (ps.getD 0 default) = 0
  each : ∀ i, i < ps.length → chn old (ps.getD i default) ∧ (new.blocks.getD i default).ins = instrs old (ps.getD i default) ∧ endOk old (new.blocks.getD i default) (ps.getD i default) ps
theorem tcheck_iff (old new : GFn) (ps : List (List Int)) : tcheck old new ps = true ↔ Holds old new ps := by
  unfold tcheck
  constructor
  · intro h
    split at h
    · cases h
    · rename_i h1
      split at h
      · cases h
      · rename_i h2
        split at h
        · cases h
        · rename_i h3
          rw [List.all_eq_true] at h
          refine ⟨by omega, by omega, by omega, fun p hp => ?_, ?_, fun i hi => (made_iff _ _ _ _).1 (h i (by simpa using hi))⟩
          · simp only [Bool.not_eq_false, List.all_eq_true] at h2
            exact (okPath_iff _ _).1 (h2 p hp)
          · unfold headOf; omega
  · intro h
    have h1 := h.len
    have h2 := h.pos
    have h3 := h.regs
    have h4 := h.first
    unfold headOf at h4
    rw [if_neg (by omega), if_neg (by simp only [Bool.not_eq_false, List.all_eq_true]; exact fun p hp => (okPath_iff _ _).2 (h.inn p hp)), if_neg (by omega), List.all_eq_true]
    exact fun i hi => (made_iff _ _ _ _).2 (h.each i (by simpa using hi))

/-! ### Paths put together -/
def joinP (P : List (List Int)) (q : List Int) : List Int := (q.map fun k => P.getD k.toNat default).flatten
theorem blk_getD (f : GFn) (k : Int) : blk f k = f.blocks.getD k.toNat default := rfl
theorem instrs_append (f : GFn) (p q : List Int) : instrs f (p ++ q) = instrs f p ++ instrs f q := by simp [instrs]
theorem join_ok {A B : GFn} {P : List (List Int)} (h : Holds A B P) : ∀ (q : List Int), q ≠ [] → (∀ k ∈ q, 0 ≤ k ∧ k < (P.length : Int)) → chn B q →
    joinP P q ≠ [] ∧ (∀ x ∈ joinP P q, 0 ≤ x ∧ x < (A.blocks.length : Int)) ∧ chn A (joinP P q) ∧ headOf (joinP P q) = headOf (P.getD (headOf q).toNat default) ∧ lastOf (joinP P q) = lastOf (P.getD (lastOf q).toNat default) ∧ instrs A (joinP P q) = instrs B q
  | [], h, _, _ => absurd rfl h
  | [k], _, hk, _ => by
    have hk0 := hk k (by simp)
    have hlt : k.toNat < P.length := by omega
    have e : joinP P [k] = P.getD k.toNat default := by simp [joinP]
    have hp := h.inn _ (getD_mem hlt)
    have he := h.each _ hlt
    rw [e]
    refine ⟨hp.1, hp.2, he.1, rfl, rfl, ?_⟩
    rw [← he.2.1]
    simp [instrs]
  | k :: k2 :: l, _, hk, hc => by
    have hk0 := hk k (by simp)
    have hlt : k.toNat < P.length := by omega
    have e : joinP P (k :: k2 :: l) = P.getD k.toNat default ++ joinP P (k2 :: l) := by simp [joinP]
    have hp := h.inn _ (getD_mem hlt)
    have he := h.each _ hlt
    obtain ⟨g1, g2, g3, g4, g5, g6⟩ := join_ok h (k2 :: l) (by simp) (fun x hx => hk x (List.mem_cons_of_mem _ hx)) hc.2
    have hl : linkAB A (lastOf (P.getD k.toNat default)) (headOf (joinP P (k2 :: l))) := by
      have h1 := he.2.2
      unfold endOk at h1
      have h2 := hc.1
      unfold linkAB at h2
      rw [blk_getD] at h2
      have h3 : (blk A (lastOf (P.getD k.toNat default))).fin = 1 := by rw [← h1.1]; exact h2.1
      rw [if_pos h3, h2.2] at h1
      refine ⟨h3, ?_⟩
      rw [g4]
      have := (leads_iff _ _ _).1 h1.2.2.1
      rw [← this.2.2]
      rfl
    rw [e]
    refine ⟨fun e => hp.1 (List.append_eq_nil_iff.1 e).1, fun x hx => ?_, (chn_append A _ _ hp.1 g1).2 ⟨he.1, hl, g3⟩, ?_, ?_, ?_⟩
    · rcases List.mem_append.1 hx with hx | hx
      · exact hp.2 x hx
      · exact g2 x hx
    · rw [headOf_append _ _ hp.1]; rfl
    · rw [lastOf_append _ _ g1, g5, lastOf_cons]
    · rw [instrs_append, g6, ← he.2.1]
      simp [instrs]
theorem getD_map {α β : Type} [Inhabited α] [Inhabited β] (g : α → β) (l : List α) {i : Nat} (h : i < l.length) : (l.map g).getD i default = g (l.getD i default) := by
  simp [List.getD_eq_getElem?_getD, h]
theorem joined_holds {A B C : GFn} {P Q : List (List Int)} (h : Holds A B P) (k : Holds B C Q) : Holds A C (Q.map (joinP P)) := by
  have hPB := h.len
  have hin : ∀ q ∈ Q, ∀ x ∈ q, 0 ≤ x ∧ x < (P.length : Int) := fun q hq x hx => by
    have := (k.inn q hq).2 x hx
    omega
  have hj : ∀ i, i < Q.length → _ := fun i hi => join_ok h (Q.getD i default) (k.inn _ (getD_mem hi)).1 (hin _ (getD_mem hi)) (k.each i hi).1
  have hlead : ∀ n x, leads Q n x = true → 0 ≤ x → x < (P.length : Int) → ∀ y, leads P x y = true → leads (Q.map (joinP P)) n y = true := fun n x h1 hx0 hx1 y h2 => by
    rw [leads_iff] at h1 h2 ⊢
    obtain ⟨a1, a2, a3⟩ := h1
    refine ⟨a1, by simpa using a2, ?_⟩
    have hn : n.toNat < Q.length := by omega
    rw [getD_map _ _ hn, (hj _ hn).2.2.2.1, a3]
    exact h2.2.2
  refine ⟨by simpa using k.len, by simpa using k.pos, h.regs.trans k.regs, fun p hp => ?_, ?_, fun i hi => ?_⟩
  · obtain ⟨q, hq, rfl⟩ := List.mem_map.1 hp
    obtain ⟨i, hi, he⟩ := List.mem_iff_getElem.1 hq
    have e : q = Q.getD i default := by rw [List.getD_eq_getElem?_getD, List.getElem?_eq_getElem hi, ← he]; rfl
    rw [e]
    exact ⟨(hj i hi).1, (hj i hi).2.1⟩
  · have h0 : 0 < Q.length := by have := k.pos; omega
    rw [getD_map _ _ h0, (hj 0 h0).2.2.2.1, k.first]
    exact h.first
  · have hi' : i < Q.length := by simpa using hi
    obtain ⟨g1, g2, g3, g4, g5, g6⟩ := hj i hi'
    obtain ⟨e1, e2, e3⟩ := k.each i hi'
    rw [getD_map _ _ hi']
    refine ⟨g3, e2.trans g6.symm, ?_⟩
    have hq := k.inn _ (getD_mem hi')
    have hlq := hin _ (getD_mem hi') _ (lastOf_mem hq.1)
    have hltq : (lastOf (Q.getD i default)).toNat < P.length := by omega
    obtain ⟨m1, m2, m3⟩ := h.each _ hltq
    unfold endOk at e3 m3 ⊢
    rw [blk_getD B] at e3
    rw [g5]
    obtain ⟨a1, a2, a3⟩ := e3
    obtain ⟨b1, b2, b3⟩ := m3
    refine ⟨a1.trans b1, a2.trans b2, ?_⟩
    have hB : ∀ x, leads Q x (B.blocks.getD (lastOf (Q.getD i default)).toNat default).to = true → True := fun _ _ => trivial
    rw [b1] at a3
    split
    · rename_i hf
      rw [if_pos hf] at a3 b3
      have hb := (leads_iff _ _ _).1 b3.1
      exact ⟨hlead _ _ a3.1 hb.1 hb.2.1 _ b3.1, a3.2.trans b3.2⟩
    · rename_i hf
      rw [if_neg hf] at a3 b3
      split
      · rename_i hf2
        rw [if_pos hf2] at a3 b3
        have hb := (leads_iff _ _ _).1 b3.1
        have hb2 := (leads_iff _ _ _).1 b3.2
        exact ⟨hlead _ _ a3.1 hb.1 hb.2.1 _ b3.1, hlead _ _ a3.2 hb2.1 hb2.2.1 _ b3.2⟩
      · rename_i hf2
        rw [if_neg hf2] at a3 b3
        exact ⟨a3.1.trans b3.1, a3.2.trans b3.2⟩
end Lg
end Go.Proofs.Ytpfhmodjjljpjaa

namespace Go.Proofs.Ytpfhmodjjljpjaa
open Go.RowKit
namespace Lg

/-! ### The paths of a function -/
def nextL (f : GFn) : List (List Int) := f.blocks.map follows
def reachL (f : GFn) : List Bool := ((visit (nextL f) (-1) ((nextL f).length + 1) 0 (List.replicate (nextL f).length false, List.replicate (nextL f).length false)).getD ([], [])).2
def fromL (f : GFn) : List (List Int) := fromAll (nextL f) (reachL f) f.blocks.length (nextL f).length
def byL (f : GFn) : List Int := (List.range f.blocks.length).map (takenAt f (reachL f) (fromL f))
def pathAt (f : GFn) (i : Nat) : List Int := (follow (byL f) (f.blocks.length + 1) [(i : Int)]).getD [(i : Int)]
def isHead (f : GFn) (i : Nat) : Bool := (reachL f).getD i default && decide ((byL f).getD i default < 0)
def pathsTo (f : GFn) (j : Nat) : List (List Int) := ((List.range j).filter (isHead f)).map (pathAt f)
def pathsL (f : GFn) : List (List Int) := pathsTo f f.blocks.length
/-- The ends of all blocks lead to blocks. -/
def InN (f : GFn) : Prop := ∀ l ∈ nextL f, ∀ x ∈ l, 0 ≤ x ∧ x < (f.blocks.length : Int)

theorem nextL_length (f : GFn) : (nextL f).length = f.blocks.length := by simp [nextL]
theorem nextL_getD (f : GFn) (i : Nat) : (nextL f).getD i default = follows (f.blocks.getD i default) := by
  unfold nextL
  rw [List.getD_eq_getElem?_getD, List.getElem?_map, List.getD_eq_getElem?_getD]
  cases f.blocks[i]? with
  | none => rfl
  | some b => rfl
theorem reachL_some (f : GFn) : ∃ s2, visit (nextL f) (-1) ((nextL f).length + 1) 0 (List.replicate (nextL f).length false, List.replicate (nextL f).length false) = some (s2, reachL f) := by
  obtain ⟨s2, o2, h1, _⟩ := visit_all (nextL f)
  exact ⟨s2, by unfold reachL; rw [h1]; rfl⟩
theorem reachL_length (f : GFn) : (reachL f).length = f.blocks.length := by
  obtain ⟨s2, o2, h1, h2, h3⟩ := visit_all (nextL f)
  unfold reachL; rw [h1, ← nextL_length]; exact h2
theorem reachL_iff (f : GFn) (x : Nat) : (reachL f).getD x default = true ↔ RF (nextL f) (-1) 0 x := by
  obtain ⟨s2, o2, h1, h2, h3⟩ := visit_all (nextL f)
  unfold reachL; rw [h1]; exact h3 x
theorem byL_length (f : GFn) : (byL f).length = f.blocks.length := by simp [byL]
theorem byL_getD (f : GFn) {i : Nat} (h : i < f.blocks.length) : (byL f).getD i default = takenAt f (reachL f) (fromL f) i := by
  unfold byL
  rw [getD_map _ _ (by simpa using h), range_getD h]

/-! What leads to each -/
theorem addTo_getD (fr : List (List Int)) (n i : Int) (k : Nat) : (addTo fr n i).getD k default = if k = n.toNat ∧ k < fr.length then fr.getD k default ++ [i] else fr.getD k default := by
  unfold addTo
  rw [List.getD_eq_getElem?_getD, List.getElem?_set]
  by_cases hk : n.toNat = k
  · subst hk
    by_cases hl : n.toNat < fr.length
    · simp [hl]
    · simp [hl]
  · rw [if_neg hk, if_neg (fun h => hk h.1.symm), List.getD_eq_getElem?_getD]
theorem fromFold_getD (reached : List Bool) (i k : Nat) : ∀ (l : List Int) (fr : List (List Int)), k < fr.length → (∀ x ∈ l, 0 ≤ x) →
    (l.foldl (fromStep reached i) fr).getD k default = fr.getD k default ++ (if reached.getD i default = true then List.replicate (l.count (k : Int)) (i : Int) else [])
  | [], fr, _, _ => by simp
  | x :: l, fr, hk, hx => by
    rw [List.foldl_cons, fromFold_getD reached i k l _ (by rw [fromStep_length]; exact hk) (fun y hy => hx y (List.mem_cons_of_mem _ hy))]
    unfold fromStep
    have hx0 := hx x (by simp)
    split
    · rw [addTo_getD]
      by_cases hxk : k = x.toNat
      · have e : x = (k : Int) := by omega
        rw [if_pos ⟨hxk, hk⟩, e, List.count_cons_self, List.append_assoc]
        rfl
      · have e : x ≠ (k : Int) := by omega
        rw [if_neg (fun h => hxk h.1), List.count_cons_of_ne e]
    · rfl
theorem fromAll_getD (next : List (List Int)) (reached : List Bool) (nb k : Nat) (hk : k < nb) (hn : ∀ l ∈ next, ∀ x ∈ l, 0 ≤ x) : ∀ (m : Nat), m ≤ next.length →
    (fromAll next reached nb m).getD k default = (List.range m).flatMap (fun i => if reached.getD i default = true then List.replicate ((next.getD i default).count (k : Int)) (i : Int) else [])
  | 0, _ => by
    show (List.replicate nb ([] : List Int)).getD k default = []
    rw [List.getD_eq_getElem?_getD, List.getElem?_replicate]
    split <;> rfl
  | m + 1, hm => by
    rw [fromAll_succ, fromRow, fromFold_getD reached m k _ _ (by rw [fromAll_length]; exact hk) (hn _ (getD_mem (by omega))), fromAll_getD next reached nb k hk hn m (by omega), List.range_succ, List.flatMap_append]
    simp

theorem fromL_getD {f : GFn} (hi : InN f) {k : Nat} (hk : k < f.blocks.length) :
    (fromL f).getD k default = (List.range f.blocks.length).flatMap (fun i => if (reachL f).getD i default = true then List.replicate (((nextL f).getD i default).count (k : Int)) (i : Int) else []) := by
  unfold fromL
  rw [fromAll_getD _ _ _ _ hk (fun l hl x hx => (hi l hl x hx).1) _ (Nat.le_refl _), nextL_length]
theorem mem_fromL {f : GFn} (hi : InN f) {k : Nat} (hk : k < f.blocks.length) {x : Int} : x ∈ (fromL f).getD k default ↔ ∃ i : Nat, i < f.blocks.length ∧ x = (i : Int) ∧ (reachL f).getD i default = true ∧ (k : Int) ∈ (nextL f).getD i default := by
  rw [fromL_getD hi hk, List.mem_flatMap]
  constructor
  · rintro ⟨i, h1, h2⟩
    split at h2
    · rename_i h3
      obtain ⟨h4, h5⟩ := List.mem_replicate.1 h2
      exact ⟨i, by simpa using h1, h5, h3, List.count_pos_iff.1 (by omega)⟩
    · cases h2
  · rintro ⟨i, h1, h2, h3, h4⟩
    refine ⟨i, by simpa using h1, ?_⟩
    rw [if_pos h3]
    exact List.mem_replicate.2 ⟨by have := List.count_pos_iff.2 h4; omega, h2⟩

/-- One block is taken in by another. -/
structure Takes (f : GFn) (j k : Nat) : Prop where
  k0 : 0 < k
  jn : j < f.blocks.length
  kn : k < f.blocks.length
  rj : (reachL f).getD j default = true
  rk : (reachL f).getD k default = true
  one : (fromL f).getD k default = [(j : Int)]
  ne : j ≠ k
  fin : (f.blocks.getD j default).fin = 1
  to : (f.blocks.getD j default).to = (k : Int)
theorem takes_iff {f : GFn} (hi : InN f) {k : Nat} (hk : k < f.blocks.length) (x : Int) (hx : 0 ≤ x) : (byL f).getD k default = x ↔ Takes f x.toNat k := by
  rw [byL_getD f hk]
  constructor
  · intro h
    unfold takenAt at h
    split at h
    · rename_i hc
      obtain ⟨c1, c2, c3, c4, c5⟩ := hc
      obtain ⟨y, hy⟩ := List.length_eq_one_iff.1 c3
      rw [hy] at h c4 c5
      have hyx : y = x := by simpa using h
      subst hyx
      have hm : y ∈ (fromL f).getD k default := by rw [hy]; simp
      obtain ⟨i, h1, h2, h3, h4⟩ := (mem_fromL hi hk).1 hm
      subst h2
      have e : ((i : Int)).toNat = i := by omega
      have c5' : (f.blocks.getD i default).fin = 1 := c5
      rw [nextL_getD, follows, if_pos c5', List.mem_singleton] at h4
      refine ⟨c1, by omega, hk, by rw [e]; exact h3, c2, by rw [e]; exact hy, ?_, by rw [e]; exact c5', by rw [e]; exact h4.symm⟩
      rw [e]
      have : ¬ ((i : Int) = (k : Int)) := by simpa using c4
      omega
    · omega
  · intro h
    unfold takenAt
    have e : ((x.toNat : Nat) : Int) = x := by omega
    have h1 := h.one
    rw [e] at h1
    have hne : ¬ x = (k : Int) := by have := h.ne; omega
    rw [h1]
    exact if_pos ⟨h.k0, h.rk, rfl, hne, h.fin⟩
theorem byL_neg {f : GFn} {k : Nat} (hk : k < f.blocks.length) (h : (byL f).getD k default < 0) (hi : InN f) (j : Nat) : ¬ Takes f j k := fun ht => by
  have h2 := (takes_iff hi hk (j : Int) (by omega)).2 (by simpa using ht)
  omega
theorem takes_of {f : GFn} (hi : InN f) {k : Nat} (hk : k < f.blocks.length) (h : ¬ (byL f).getD k default < 0) : Takes f ((byL f).getD k default).toNat k := (takes_iff hi hk _ (by omega)).1 rfl
theorem Takes.uniq {f : GFn} {j k k' : Nat} (h : Takes f j k) (h' : Takes f j k') : k = k' := by
  have := h.to; have := h'.to; omega
theorem Takes.uniq' {f : GFn} {j j' k : Nat} (h : Takes f j k) (h' : Takes f j' k) : j = j' := by
  have h1 := h.one
  rw [h'.one] at h1
  simp at h1
  omega

/-! Paths -/
theorem nodup_length : ∀ (n : Nat) (l : List Nat), l.Nodup → (∀ x ∈ l, x < n) → l.length ≤ n
  | 0, l, _, h => by
    cases l with
    | nil => exact Nat.le_refl _
    | cons x l => exact absurd (h x (by simp)) (by omega)
  | n + 1, l, hd, h => by
    have h1 := nodup_length n (l.erase n) (hd.erase n) (fun x hx => by
      have := h x (List.mem_of_mem_erase hx)
      have hne : x ≠ n := fun e => by subst e; exact (List.Nodup.not_mem_erase hd) hx
      omega)
    by_cases hm : n ∈ l
    · have := List.length_erase_of_mem hm; omega
    · rw [List.erase_of_not_mem hm] at h1; omega

/-- A path, grown from its head: each takes in the next one. -/
structure Grown (f : GFn) (p : List Nat) : Prop where
  ne : p ≠ []
  lt : ∀ x ∈ p, x < f.blocks.length
  rch : ∀ x ∈ p, (reachL f).getD x default = true
  nd : p.Nodup
  link : ∀ i, i + 1 < p.length → Takes f (p.getD i default) (p.getD (i + 1) default)
  hd : (byL f).getD (p.getD 0 default) default < 0
def ints (p : List Nat) : List Int := List.map (fun x : Nat => (x : Int)) p
theorem ints_length (p : List Nat) : (ints p).length = p.length := by simp [ints]
theorem ints_getD (p : List Nat) (i : Nat) : (ints p).getD i default = ((p.getD i default : Nat) : Int) := by
  unfold ints
  rw [List.getD_eq_getElem?_getD, List.getElem?_map, List.getD_eq_getElem?_getD]
  cases p[i]? <;> rfl
def lastN (p : List Nat) : Nat := p.getD (p.length - 1) default
theorem lastOf_ints {p : List Nat} (h : p ≠ []) : lastOf (ints p) = ((lastN p : Nat) : Int) := by
  have : 0 < p.length := List.length_pos_iff.2 h
  unfold lastOf lastN
  rw [ints_length, ints_getD, show ((p.length : Int) - 1).toNat = p.length - 1 by omega]
theorem getD_append_left {α : Type} [Inhabited α] {p q : List α} {i : Nat} (h : i < p.length) : (p ++ q).getD i default = p.getD i default := by
  rw [List.getD_eq_getElem?_getD, List.getElem?_append_left h, List.getD_eq_getElem?_getD]
theorem getD_append_one {α : Type} [Inhabited α] {p : List α} {x : α} : (p ++ [x]).getD p.length default = x := by
  rw [List.getD_eq_getElem?_getD, List.getElem?_append_right (Nat.le_refl _)]; simp
theorem nodup_getD {p : List Nat} (h : p.Nodup) {i j : Nat} (hi : i < p.length) (hj : j < p.length) (e : p.getD i default = p.getD j default) : i = j := by
  rw [List.getD_eq_getElem?_getD, List.getD_eq_getElem?_getD, List.getElem?_eq_getElem hi, List.getElem?_eq_getElem hj] at e
  exact (List.getElem_inj h).1 e
theorem mem_getD {α : Type} [Inhabited α] {p : List α} {x : α} (h : x ∈ p) : ∃ i, i < p.length ∧ p.getD i default = x := by
  obtain ⟨i, hi, e⟩ := List.mem_iff_getElem.1 h
  exact ⟨i, hi, by rw [List.getD_eq_getElem?_getD, List.getElem?_eq_getElem hi, e]; rfl⟩
theorem Grown.snoc {f : GFn} {p : List Nat} (h : Grown f p) {k : Nat} (hi : InN f) (ht : Takes f (lastN p) k) : Grown f (p ++ [k]) := by
  have hl : 0 < p.length := List.length_pos_iff.2 h.ne
  refine ⟨by simp, fun x hx => ?_, fun x hx => ?_, ?_, fun i hi' => ?_, ?_⟩
  · rcases List.mem_append.1 hx with hx | hx
    · exact h.lt x hx
    · simp at hx; subst hx; exact ht.kn
  · rcases List.mem_append.1 hx with hx | hx
    · exact h.rch x hx
    · simp at hx; subst hx; exact ht.rk
  · rw [List.nodup_append]
    refine ⟨h.nd, by simp, fun x hx y hy e => ?_⟩
    simp at hy
    subst hy
    subst e
    obtain ⟨i, hi', e⟩ := mem_getD hx
    cases i with
    | zero =>
      have h1 := h.hd
      rw [e] at h1
      exact byL_neg ht.kn h1 hi _ ht
    | succ i =>
      have h1 := h.link i hi'
      rw [e] at h1
      have h2 := h1.uniq' ht
      have h3 := nodup_getD h.nd (i := i) (j := p.length - 1) (by omega) (by omega) h2
      omega
  · simp at hi'
    by_cases he : i + 1 < p.length
    · rw [getD_append_left (by omega), getD_append_left he]; exact h.link i he
    · have e : i + 1 = p.length := by omega
      rw [getD_append_left (by omega), e, getD_append_one]
      have : lastN p = p.getD i default := by unfold lastN; rw [← e]; rfl
      rw [← this]; exact ht
  · rw [getD_append_left hl]; exact h.hd

theorem fst_takes {f : GFn} (hi : InN f) (j : Nat) : (fstIdx (fun y => y == (j : Int)) (byL f) ≥ 0 → Takes f j (fstIdx (fun y => y == (j : Int)) (byL f)).toNat) ∧ (¬ fstIdx (fun y => y == (j : Int)) (byL f) ≥ 0 → ∀ k, ¬ Takes f j k) := by
  unfold fstIdx
  cases hf : (byL f).findIdx? (fun y => y == (j : Int)) with
  | none =>
    refine ⟨fun h => absurd h (by simp), fun _ k ht => ?_⟩
    rw [List.findIdx?_eq_none_iff] at hf
    have h1 := (takes_iff hi ht.kn (j : Int) (by omega)).2 (by simpa using ht)
    have := hf _ (getD_mem (i := k) (by rw [byL_length]; exact ht.kn))
    rw [h1] at this
    simp at this
  | some k =>
    refine ⟨fun _ => ?_, fun h => absurd (show (k : Int) ≥ 0 by omega) h⟩
    obtain ⟨h1, h2, _⟩ := List.findIdx?_eq_some_iff_getElem.1 hf
    rw [byL_length] at h1
    have h3 : (byL f).getD k default = (j : Int) := by
      rw [List.getD_eq_getElem?_getD, List.getElem?_eq_getElem (by rw [byL_length]; exact h1)]
      simpa using h2
    have := (takes_iff hi h1 (j : Int) (by omega)).1 h3
    simpa using this

theorem follow_grown {f : GFn} (hi : InN f) : ∀ (m : Nat) (p : List Nat), Grown f p → f.blocks.length < m + p.length → ∃ q, follow (byL f) m (ints p) = some (ints (p ++ q)) ∧ Grown f (p ++ q) ∧ ∀ k, ¬ Takes f (lastN (p ++ q)) k
  | 0, p, h, hm => by
    have := nodup_length _ p h.nd h.lt
    omega
  | m + 1, p, h, hm => by
    rw [follow, lastOf_ints h.ne]
    split
    · rename_i hk
      have ht := (fst_takes hi (lastN p)).1 hk
      obtain ⟨q, h1, h2, h3⟩ := follow_grown hi m _ (h.snoc hi ht) (by simp; omega)
      refine ⟨(fstIdx (fun y => y == ((lastN p : Nat) : Int)) (byL f)).toNat :: q, ?_, by simpa using h2, by simpa using h3⟩
      rw [show ints p ++ [fstIdx (fun y => y == ((lastN p : Nat) : Int)) (byL f)] = ints (p ++ [(fstIdx (fun y => y == ((lastN p : Nat) : Int)) (byL f)).toNat]) by simp [ints]; omega, h1]
      simp
    · rename_i hk
      exact ⟨[], by simp, by simpa using h, by simpa using (fst_takes hi (lastN p)).2 hk⟩

theorem grown_one {f : GFn} {i : Nat} (hi : i < f.blocks.length) (h : isHead f i = true) : Grown f [i] := by
  simp only [isHead, Bool.and_eq_true, decide_eq_true_eq] at h
  exact ⟨by simp, fun x hx => by simp at hx; omega, fun x hx => by simp at hx; subst hx; exact h.1, by simp, fun i hi => by simp at hi, h.2⟩
/-- A head's path. -/
structure PathOf (f : GFn) (i : Nat) (p : List Nat) : Prop where
  e : pathAt f i = ints p
  g : Grown f p
  h : p.getD 0 default = i
  last : ∀ k, ¬ Takes f (lastN p) k
theorem path_of {f : GFn} (hi : InN f) {i : Nat} (hl : i < f.blocks.length) (h : isHead f i = true) : follow (byL f) (f.blocks.length + 1) [(i : Int)] = some (pathAt f i) ∧ ∃ p, PathOf f i p := by
  obtain ⟨q, h1, h2, h3⟩ := follow_grown hi (f.blocks.length + 1) [i] (grown_one hl h) (by simp; omega)
  have e : pathAt f i = ints ([i] ++ q) := by
    unfold pathAt
    rw [show [(i : Int)] = ints [i] from rfl, h1]
    rfl
  exact ⟨by rw [e]; exact h1, [i] ++ q, e, h2, rfl, h3⟩
theorem follows_le (f : GFn) : ∀ l ∈ nextL f, l.length ≤ 2 := fun l hl => by
  obtain ⟨b, _, rfl⟩ := List.mem_map.1 hl
  unfold follows
  split
  · simp
  · split <;> simp
theorem isHead_of {f : GFn} {i : Nat} (h1 : (reachL f).getD i default = true) (h2 : (byL f).getD i default < 0) : isHead f i = true := by
  unfold isHead; rw [h1, decide_eq_true h2]; rfl
theorem pathsTo_le (f : GFn) (j : Nat) : (pathsTo f j).length ≤ j := by
  unfold pathsTo
  rw [List.length_map]
  exact Nat.le_trans (List.length_filter_le _ _) (by simp)
theorem pathsTo_t {f : GFn} {j : Nat} (h : isHead f j = true) : pathsTo f (j + 1) = pathsTo f j ++ [pathAt f j] := by
  simp [pathsTo, List.range_succ, List.filter_append, h]
theorem pathsTo_f {f : GFn} {j : Nat} (h : isHead f j = false) : pathsTo f (j + 1) = pathsTo f j := by
  simp [pathsTo, List.range_succ, List.filter_append, h]
end Lg
end Go.Proofs.Ytpfhmodjjljpjaa

namespace Go.Proofs.Ytpfhmodjjljpjaa
open Go.RowKit
namespace Lg
set_option maxRecDepth 100000
set_option linter.unusedVariables false
set_option linter.unusedSimpArgs false



theorem body66 : (Try.prog.funcs[66]?).map (fun fn => (fn.name == "runtime.NumGoroutine" || fn.body.isNone)) = some false := by kernel_rfl
theorem paths_spec (f : GFn) (hb : f.blocks.length ≤ 900000) (hi : InN f) : Spec Try.prog 66 [.agg [.v (.int .i64 f.regs), .r 1]] 2 [(1, .fz 5 (f.blocks.map eBlock))] (.r 2) 3 [(2, .row 52 1 ((pathsL f).map eIs))] := by
  have hfl : ∀ l ∈ nextL f, l.length ≤ 2 := follows_le f
  obtain ⟨s2, hv⟩ := reachL_some f
  have hnl := nextL_length f
  have hrl := reachL_length f
  have hbl := byL_length f
  refine spec_of D (fn := Try.f66) rfl rfl (Nat.le_of_ble_eq_true rfl) ?_
  refine W_seq ?_
  refine W_seqK (b' := 34) rfl rfl ?_
  refine q1 1 2 1 rfl rfl (T_box rfl rfl flat_agg) rfl ?_
  refine q1 2 18 2 rfl rfl (T_nils [(52, 1)] (T_assign rfl rfl) rfl (.inr ⟨rfl, rfl⟩) (.cons (.nil rfl) .nil) (lv' := .r 18) (upd' := [(18, .row 52 1 (List.map eIs ([] : List (List Int))))]) (nn' := 1) rfl rfl) rfl ?_
  refine k_done rfl ?_
  refine thenK_n ?_
  refine W_seq ?_
  refine W_seqK (b' := 82) rfl rfl ?_
  refine q0 9 34 1 rfl rfl (T_load_bA D (l := [_, _]) rfl rfl rfl rfl rfl rfl rfl) rfl ?_
  refine q1 10 50 2 rfl rfl (T_callR (lvs := [_]) (L := [(1, 1)]) (keep := false) (next_spec _ (by omega)) body90 rfl rfl rfl rfl (.fz rfl (.nil)) rfl (.inl rfl) rfl) rfl ?_
  refine q0 3 66 3 rfl rfl (T_assign rfl rfl) rfl ?_
  refine k_done rfl ?_
  refine thenK_n ?_
  refine W_seq ?_
  refine W_seqK (b' := 130) rfl rfl ?_
  refine q0 11 82 1 rfl rfl (T_move rfl rfl) rfl ?_
  refine q1 12 98 2 rfl rfl (T_callR (lvs := [_]) (L := [(1, 50)]) (keep := true) (reach_spec (nextL f) (by omega) (fun l h => by have := hfl l h; omega) _ _ _ hv) body111 rfl rfl rfl rfl (.lend rfl (.nil)) rfl (.inr (flat_eB _)) rfl) rfl ?_
  refine q0 4 114 3 rfl rfl (T_assign rfl rfl) rfl ?_
  refine k_done rfl ?_
  refine thenK_n ?_
  refine W_seq ?_
  refine W_seqK (b' := 226) rfl rfl ?_
  refine q0 13 130 1 rfl rfl (T_load_bA D (l := [_, _]) rfl rfl rfl rfl rfl rfl rfl) rfl ?_
  refine q0 14 146 2 rfl rfl (T_move rfl rfl) rfl ?_
  refine q0 15 162 3 rfl rfl (T_move rfl rfl) rfl ?_
  refine q1 16 178 4 rfl rfl (T_callR (lvs := [_, _, _]) (L := [(1, 1), (2, 50), (3, 98)]) (keep := true) (taken_spec f (nextL f) (reachL f) (by omega) (nextL_length f) (reachL_length f) 2 (by omega) hfl (fun l h i k => hi l h _ (getD_mem k))) body112 rfl rfl rfl rfl (.fz rfl (.lend rfl (.lend rfl (.nil)))) rfl (.inr (flat_eI _)) rfl) rfl ?_
  refine qn 5 194 5 rfl rfl (T_nilbox [(3, 1)] (T_alloc D rfl rfl rfl) rfl (.cons (.nil rfl) <| .nil) (upd' := [(194, .box 52 [.r 195]), (195, .row 3 1 (List.map eI ([] : List (Int))))]) (nn' := 2) rfl rfl) rfl ?_
  refine s1 210 6 rfl rfl (T_stB D (cs' := [_]) rfl rfl rfl rfl (flat_sl rfl) rfl rfl (Nat.le_of_ble_eq_true rfl) rfl) rfl ?_
  refine k_done rfl ?_
  refine thenK_n ?_
  refine W_seq ?_
  refine W_seqK (b' := 242) rfl rfl ?_
  refine q1 6 226 1 rfl rfl (T_alloc D rfl rfl rfl) rfl ?_
  refine k_done rfl ?_
  refine thenK_n ?_
  refine W_seq ?_
  refine W_seqK (b' := 274) rfl rfl ?_
  refine q0 17 242 1 rfl rfl (T_makeFunc (l := [_, _]) rfl rfl) rfl ?_
  refine s1 258 2 rfl rfl (T_stB D (cs' := [_]) rfl rfl rfl rfl flat_fn rfl rfl (Nat.le_of_ble_eq_true rfl) rfl) rfl ?_
  refine k_done rfl ?_
  refine thenK_n ?_
  refine W_seq ?_
  refine W_seqK (b' := 290) rfl rfl ?_
  refine q1 7 274 1 rfl rfl (T_nils [(52, 1)] (T_assign rfl rfl) rfl (.inr ⟨rfl, rfl⟩) (.cons (.nil rfl) .nil) (lv' := .r 274) (upd' := [(274, .row 52 1 (List.map eIs ([] : List (List Int))))]) (nn' := 1) rfl rfl) rfl ?_
  refine k_done rfl ?_
  refine thenK_n ?_
  refine W_seq ?_
  refine W_seq ?_
  refine W_seqK (b' := 354) rfl rfl ?_
  refine q0 18 290 1 rfl rfl (T_fa D (m := 1) rfl rfl rfl rfl rfl rfl) rfl ?_
  refine q0 19 306 2 rfl rfl (T_load_b D rfl rfl rfl rfl rfl rfl) rfl ?_
  refine q0 20 322 3 rfl rfl (T_len D rfl rfl rfl rfl rfl rfl) rfl ?_
  refine q0 21 338 4 rfl rfl (T_move rfl rfl) rfl ?_
  refine k_done rfl ?_
  refine thenK_n ?_
  refine W_block ?_
  refine W_loop (ι := Nat) 7 (fun j => ⟨[(4, .r 2), (5, .p 3 0), (6, .p 5 0), (7, .r 6), (20, .v (.int .i64 (f.blocks.length : Int))), (21, .v (.int .i64 (j : Int)))], [(1, .fz 5 (f.blocks.map eBlock)), (2, .fz 1 ((reachL f).map eB)), (3, .box 52 [.r 4]), (4, .fz 1 ((byL f).map eI)), (5, .box 144 [.fn 113 [.p 3 0, .p 5 0]]), (6, .row 52 1 ((pathsTo f j).map eIs))]⟩) (fun j => j ≤ f.blocks.length) (fun j => f.blocks.length - j) (0) (by exact Nat.zero_le _) ?_ (fun j hJ => ?_)
  · exact ⟨[(2, 98), (3, 194), (4, 178), (5, 226), (6, 274)], .same rfl rfl (.same rfl rfl (.same rfl rfl (.same rfl rfl (.eq rfl (.eq rfl (.nil) (by first | rfl | simp)) (by first | rfl | simp))))), .fzE rfl (.lendE rfl (.box (by first | rfl | simp) (.lendE rfl (.box (by first | rfl | simp) (.rowE rfl (.nil) (by first | rfl | simp))) (by first | rfl | simp))) (by first | rfl | simp)) (by first | rfl | simp), rfl⟩
  have hpl := pathsTo_le f j
  refine W_seq ?_
  refine W_seqK (b' := 23) rfl rfl ?_
  refine q0 22 7 1 rfl rfl (T_cmp rfl rfl rfl rfl) rfl ?_
  refine k_done rfl ?_
  refine thenK_n ?_
  refine W_seq ?_
  refine W_cond rfl (fun g1 => ?_) (fun g1 => ?_)
  · have h1 := c_lss_t g1
    refine W_skip ?_
    refine thenK_n ?_
    refine W_seq ?_
    refine W_block ?_
    refine W_seq ?_
    refine W_seqK (b' := 55) rfl rfl ?_
    refine q0 23 23 1 rfl rfl (T_move rfl rfl) rfl ?_
    refine q0 8 39 2 rfl rfl (T_assign rfl rfl) rfl ?_
    refine k_done rfl ?_
    refine thenK_n ?_
    refine W_seq ?_
    refine W_seqK (b' := 231) rfl rfl ?_
    refine q0 24 55 1 rfl rfl (T_move rfl rfl) rfl ?_
    refine q0 25 71 2 rfl rfl (T_move rfl rfl) rfl ?_
    first | refine q0 26 87 3 rfl rfl (T_indexAddr D rfl rfl rfl rfl rfl rfl rfl rfl (by first | assumption | omega | (simp; omega))) rfl ?_ | refine q0 26 87 3 rfl rfl (T_indexAddrZ D rfl rfl rfl rfl rfl rfl rfl rfl (by first | assumption | omega | (simp; omega)) (by first | assumption | omega | (simp; omega))) rfl ?_
    refine q0 27 103 4 rfl rfl (T_ldE D (lv := .v _) (nn := 0) (upd := []) rfl rfl rfl rfl rfl (by first | assumption | omega | (simp; omega)) rfl rfl rfl rfl) rfl ?_
    refine q0 28 119 5 rfl rfl (T_move rfl rfl) rfl ?_
    refine k_split (d := 28) rfl (fun g2 => ?_) (fun g2 => ?_)
    · have h2 := g2; (try simp only [cmpB, decide_eq_true_eq, decide_eq_false_iff_not, beq_iff_eq, beq_eq_false_iff_ne, bne_iff_ne, ne_eq, bne_eq_false_iff_eq, Bool.not_eq_true', Bool.not_eq_false', Int.not_lt, Int.not_le] at h2)
      refine k_op0 (d := 29) (b := 135) (j' := 6) rfl rfl rfl rfl (g_tt rfl rfl rfl g2) (T_load_b D rfl rfl rfl rfl rfl rfl) rfl ?_
      refine k_op0 (d := 30) (b := 151) (j' := 7) rfl rfl rfl rfl (g_tt rfl rfl rfl g2) (T_move rfl rfl) rfl ?_
      first | refine k_op0 (d := 31) (b := 167) (j' := 8) rfl rfl rfl rfl (g_tt rfl rfl rfl g2) (T_indexAddr D rfl rfl rfl rfl rfl rfl rfl rfl (by first | assumption | omega | (simp; omega))) rfl ?_ | refine k_op0 (d := 31) (b := 167) (j' := 8) rfl rfl rfl rfl (g_tt rfl rfl rfl g2) (T_indexAddrZ D rfl rfl rfl rfl rfl rfl rfl rfl (by first | assumption | omega | (simp; omega)) (by first | assumption | omega | (simp; omega))) rfl ?_
      refine k_op0 (d := 32) (b := 183) (j' := 9) rfl rfl rfl rfl (g_tt rfl rfl rfl g2) (T_ldE D (lv := .v _) (nn := 0) (upd := []) rfl rfl rfl rfl rfl (by first | assumption | omega | (simp; omega)) rfl rfl rfl rfl) rfl ?_
      refine k_op0 (d := 33) (b := 199) (j' := 10) rfl rfl rfl rfl (g_tt rfl rfl rfl g2) (T_cmp rfl rfl rfl rfl) rfl ?_
      refine q0 34 215 11 rfl rfl (T_pick_t rfl rfl rfl g2) rfl ?_
      refine k_done rfl ?_
      refine thenK_n ?_
      refine W_cond rfl (fun g3 => ?_) (fun g3 => ?_)
      · have h3 := c_lss_t g3
        refine W_seqK (b' := 359) rfl rfl ?_
        refine q0 35 231 1 rfl rfl (T_move rfl rfl) rfl ?_
        refine q0 36 247 2 rfl rfl (T_load_b D rfl rfl rfl rfl rfl rfl) rfl ?_
        refine q0 37 263 3 rfl rfl (T_move rfl rfl) rfl ?_
        refine q1 38 279 4 rfl rfl (T_bs D (ys := [_]) (enc := eI) (l := [_]) rfl rfl rfl rfl rfl rfl (.cons rfl (flat_v rfl) (.nil)) rfl rfl rfl rfl (.v rfl (.nil)) rfl rfl) rfl ?_
        refine qn 39 295 5 rfl rfl (T_call (lvs := [_]) (L := [(1, 279), (2, 3), (3, 5), (4, 4)]) (lv := .r 295) (upd := [(279, .no), (3, .box 52 [.r 4]), (5, .box 144 [.fn 113 [.p 3 0, .p 5 0]]), (295, .row 3 1 _)]) (nn := 1) false (follow_spec (byL f) (by omega) _ _ _ (by simp) (path_of hi (by omega) (isHead_of (by assumption) (by assumption))).1 (by simp; omega)) body113 rfl rfl rfl rfl (.row rfl (.box rfl (.box rfl (.fz rfl (.nil))))) rfl (.inl rfl) rfl rfl rfl) rfl ?_
        refine qn 40 311 6 rfl rfl (T_bs D (ys := [_]) (enc := eIs) (l := [_]) rfl rfl rfl rfl rfl rfl (.cons rfl (flat_sl rfl) (.nil)) rfl rfl rfl rfl (.row rfl (.nil) rfl) rfl rfl) rfl ?_
        refine qn 41 327 7 rfl rfl (T_append D rfl rfl rfl rfl rfl rfl rfl rfl rfl rfl rfl rfl (by (try simp only [ty52]); first | assumption | omega | (simp; omega)) (by (try simp only [ty52]); first | assumption | omega | (simp; omega))) rfl ?_
        refine q0 7 343 8 rfl rfl (T_assign rfl rfl) rfl ?_
        refine k_done rfl ?_
        refine blockK_n ?_
        refine thenK_n ?_
        refine W_seqK (b' := 391) rfl rfl ?_
        refine q0 42 359 1 rfl rfl (T_add64 rfl rfl rfl (by first | assumption | omega | (simp; omega))) rfl ?_
        refine q0 21 375 2 rfl rfl (T_move rfl rfl) rfl ?_
        refine k_done rfl ?_
        refine thenK_n ?_
        refine ⟨j + 1, by (try dsimp only); omega, by (try dsimp only); omega, ?_⟩
        exact ⟨[(2, 2), (3, 3), (4, 4), (5, 5), (6, 327)], .same rfl rfl (.same rfl rfl (.same rfl rfl (.same rfl rfl (.eq rfl (.eq rfl (.nil) (by first | rfl | (rw [pathsTo_t (isHead_of (by assumption) (by assumption))]; done) | (rw [pathsTo_f (by unfold isHead; simp_all [-List.getD_eq_getElem?_getD, -Int.default_eq_zero])]))) rfl)))), .fzE rfl (.fzE rfl (.box (by first | rfl | (rw [pathsTo_t (isHead_of (by assumption) (by assumption))]; done) | (rw [pathsTo_f (by unfold isHead; simp_all [-List.getD_eq_getElem?_getD, -Int.default_eq_zero])])) (.fzE rfl (.box (by first | rfl | (rw [pathsTo_t (isHead_of (by assumption) (by assumption))]; done) | (rw [pathsTo_f (by unfold isHead; simp_all [-List.getD_eq_getElem?_getD, -Int.default_eq_zero])])) (.rowE rfl (.nil) (by first | rfl | (rw [pathsTo_t (isHead_of (by assumption) (by assumption))]; done) | (rw [pathsTo_f (by unfold isHead; simp_all [-List.getD_eq_getElem?_getD, -Int.default_eq_zero])])))) rfl)) rfl) rfl, rfl⟩
      · have h3 := c_lss_f g3
        refine W_skip ?_
        refine blockK_n ?_
        refine thenK_n ?_
        refine W_seqK (b' := 263) rfl rfl ?_
        refine q0 42 231 1 rfl rfl (T_add64 rfl rfl rfl (by first | assumption | omega | (simp; omega))) rfl ?_
        refine q0 21 247 2 rfl rfl (T_move rfl rfl) rfl ?_
        refine k_done rfl ?_
        refine thenK_n ?_
        refine ⟨j + 1, by (try dsimp only); omega, by (try dsimp only); omega, ?_⟩
        exact ⟨[(2, 2), (3, 3), (4, 4), (5, 5), (6, 6)], .same rfl rfl (.same rfl rfl (.same rfl rfl (.same rfl rfl (.eq rfl (.eq rfl (.nil) (by first | rfl | (rw [pathsTo_t (isHead_of (by assumption) (by assumption))]; done) | (rw [pathsTo_f (by unfold isHead; simp_all [-List.getD_eq_getElem?_getD, -Int.default_eq_zero])]))) rfl)))), .fzE rfl (.fzE rfl (.box (by first | rfl | (rw [pathsTo_t (isHead_of (by assumption) (by assumption))]; done) | (rw [pathsTo_f (by unfold isHead; simp_all [-List.getD_eq_getElem?_getD, -Int.default_eq_zero])])) (.fzE rfl (.box (by first | rfl | (rw [pathsTo_t (isHead_of (by assumption) (by assumption))]; done) | (rw [pathsTo_f (by unfold isHead; simp_all [-List.getD_eq_getElem?_getD, -Int.default_eq_zero])])) (.rowE rfl (.nil) (by first | rfl | (rw [pathsTo_t (isHead_of (by assumption) (by assumption))]; done) | (rw [pathsTo_f (by unfold isHead; simp_all [-List.getD_eq_getElem?_getD, -Int.default_eq_zero])])))) rfl)) rfl) rfl, rfl⟩
    · have h2 := g2; (try simp only [cmpB, decide_eq_true_eq, decide_eq_false_iff_not, beq_iff_eq, beq_eq_false_iff_ne, bne_iff_ne, ne_eq, bne_eq_false_iff_eq, Bool.not_eq_true', Bool.not_eq_false', Int.not_lt, Int.not_le] at h2)
      refine k_no (d := 29) (j' := 6) rfl rfl rfl (g_tf rfl rfl rfl g2) ?_
      refine k_no (d := 30) (j' := 7) rfl rfl rfl (g_tf rfl rfl rfl g2) ?_
      refine k_no (d := 31) (j' := 8) rfl rfl rfl (g_tf rfl rfl rfl g2) ?_
      refine k_no (d := 32) (j' := 9) rfl rfl rfl (g_tf rfl rfl rfl g2) ?_
      refine k_no (d := 33) (j' := 10) rfl rfl rfl (g_tf rfl rfl rfl g2) ?_
      refine q0 34 215 11 rfl rfl (T_pick_f rfl rfl rfl g2) rfl ?_
      refine k_done rfl ?_
      refine thenK_n ?_
      refine W_cond rfl (fun g4 => ?_) (fun g4 => ?_)
      · exact absurd (g4.symm.trans rfl) (by decide)
      · skip
        refine W_skip ?_
        refine blockK_n ?_
        refine thenK_n ?_
        refine W_seqK (b' := 263) rfl rfl ?_
        refine q0 42 231 1 rfl rfl (T_add64 rfl rfl rfl (by first | assumption | omega | (simp; omega))) rfl ?_
        refine q0 21 247 2 rfl rfl (T_move rfl rfl) rfl ?_
        refine k_done rfl ?_
        refine thenK_n ?_
        refine ⟨j + 1, by (try dsimp only); omega, by (try dsimp only); omega, ?_⟩
        exact ⟨[(2, 2), (3, 3), (4, 4), (5, 5), (6, 6)], .same rfl rfl (.same rfl rfl (.same rfl rfl (.same rfl rfl (.eq rfl (.eq rfl (.nil) (by first | rfl | (rw [pathsTo_t (isHead_of (by assumption) (by assumption))]; done) | (rw [pathsTo_f (by unfold isHead; simp_all [-List.getD_eq_getElem?_getD, -Int.default_eq_zero])]))) rfl)))), .fzE rfl (.fzE rfl (.box (by first | rfl | (rw [pathsTo_t (isHead_of (by assumption) (by assumption))]; done) | (rw [pathsTo_f (by unfold isHead; simp_all [-List.getD_eq_getElem?_getD, -Int.default_eq_zero])])) (.fzE rfl (.box (by first | rfl | (rw [pathsTo_t (isHead_of (by assumption) (by assumption))]; done) | (rw [pathsTo_f (by unfold isHead; simp_all [-List.getD_eq_getElem?_getD, -Int.default_eq_zero])])) (.rowE rfl (.nil) (by first | rfl | (rw [pathsTo_t (isHead_of (by assumption) (by assumption))]; done) | (rw [pathsTo_f (by unfold isHead; simp_all [-List.getD_eq_getElem?_getD, -Int.default_eq_zero])])))) rfl)) rfl) rfl, rfl⟩
  · have h1 := c_lss_f g1
    refine W_exit ?_
    refine thenK_e ?_
    refine thenK_e ?_
    refine blockK_hit ?_
    refine thenK_n ?_
    refine W_seq ?_
    refine W_seqK (b' := 55) rfl rfl ?_
    refine q0 43 23 1 rfl rfl (T_move rfl rfl) rfl ?_
    refine q0 2 39 2 rfl rfl (T_assign rfl rfl) rfl ?_
    refine k_done rfl ?_
    refine thenK_n ?_
    refine W_ret ?_
    -- end 0
    exact .mk [(2, 6)] (.inr rfl) (.tmp rfl (.nil)) rfl (.rowE rfl (.nil) (by first | rfl | (have e : j = f.blocks.length := (by omega); rw [e]; rfl))) rfl
end Lg
end Go.Proofs.Ytpfhmodjjljpjaa

namespace Go.Proofs.Ytpfhmodjjljpjaa
open Go.RowKit
namespace Lg

/-! ### A function, tidied -/
def begins (ps : List (List Int)) (old : Int) : Int := fstIdx (fun p : List Int => p.getD 0 default == old) ps
def newBlock (f : GFn) (ps : List (List Int)) (p : List Int) : GBlock :=
  ⟨instrs f p, (blk f (lastOf p)).fin, (blk f (lastOf p)).v, if (blk f (lastOf p)).fin = 3 then 0 else begins ps (blk f (lastOf p)).to, if (blk f (lastOf p)).fin = 2 then begins ps (blk f (lastOf p)).els else 0⟩
def tidyG (f : GFn) : GFn := ⟨f.regs, (pathsL f).map (newBlock f (pathsL f))⟩

theorem mem_pathsL {f : GFn} (hi : InN f) {p : List Int} (h : p ∈ pathsL f) : ∃ i q, i < f.blocks.length ∧ isHead f i = true ∧ PathOf f i q ∧ p = ints q := by
  unfold pathsL pathsTo at h
  obtain ⟨i, h1, h2⟩ := List.mem_map.1 h
  obtain ⟨h3, h4⟩ := List.mem_filter.1 h1
  obtain ⟨q, hq⟩ := (path_of hi (by simpa using h3) h4).2
  exact ⟨i, q, by simpa using h3, h4, hq, by rw [← h2, hq.e]⟩
theorem path_in {f : GFn} (hi : InN f) {p : List Int} (h : p ∈ pathsL f) : 1 ≤ p.length ∧ p.length ≤ f.blocks.length ∧ ∀ x ∈ p, 0 ≤ x ∧ x < (f.blocks.length : Int) := by
  obtain ⟨i, q, h1, h2, h3, rfl⟩ := mem_pathsL hi h
  refine ⟨by rw [ints_length]; exact List.length_pos_iff.2 h3.g.ne, by rw [ints_length]; exact nodup_length _ _ h3.g.nd h3.g.lt, fun x hx => ?_⟩
  obtain ⟨y, hy, rfl⟩ := List.mem_map.1 hx
  have := h3.g.lt y hy
  omega
theorem instrs_le {f : GFn} {c : Nat} (hc : ∀ b ∈ f.blocks, b.ins.length ≤ c) : ∀ (p : List Int), (instrs f p).length ≤ p.length * c
  | [] => by simp [instrs]
  | k :: p => by
    have h1 := instrs_le hc p
    have h2 : (f.blocks.getD k.toNat default).ins.length ≤ c := by
      by_cases h : k.toNat < f.blocks.length
      · exact hc _ (getD_mem h)
      · rw [List.getD_eq_getElem?_getD, List.getElem?_eq_none (by omega)]
        exact Nat.zero_le _
    have h3 : (instrs f (k :: p)).length = (f.blocks.getD k.toNat default).ins.length + (instrs f p).length := by simp [instrs]
    rw [h3, List.length_cons, Nat.succ_mul]
    omega
theorem instrs_small {f : GFn} (hb : f.blocks.length ≤ 900000) (hc : ∀ b ∈ f.blocks, b.ins.length ≤ 1000) {p : List Int} (hp : p.length ≤ f.blocks.length) (j : Nat) : (instrs f (p.take j)).length ≤ 1000000000 := by
  have h1 := instrs_le hc (p.take j)
  have h2 : (p.take j).length ≤ 900000 := by rw [List.length_take]; omega
  have h3 := Nat.mul_le_mul_right 1000 h2
  omega
theorem last_in {f : GFn} {p : List Int} (h1 : 1 ≤ p.length) (h : ∀ x ∈ p, 0 ≤ x ∧ x < (f.blocks.length : Int)) : 0 ≤ lastOf p ∧ lastOf p < (f.blocks.length : Int) := h _ (lastOf_mem (List.length_pos_iff.1 h1))
theorem tidy_step {N : List Int → GBlock} {P : List (List Int)} {j : Nat} {b : GBlock} (h : j < P.length) (hb : b = N (P.getD j default)) : (((P.take j).map N) ++ [b]).map eBlock = ((P.take (j + 1)).map N).map eBlock := by
  rw [take_succ_getD h, hb]
  simp
theorem newBlock_eq {f : GFn} {ps : List (List Int)} {p : List Int} {a : List GTac} {b c d e : Int} (ha : a = instrs f p) (hb : b = (blk f (lastOf p)).fin) (hc : c = (blk f (lastOf p)).v) (hd : d = if (blk f (lastOf p)).fin = 3 then 0 else begins ps (blk f (lastOf p)).to) (he : e = if (blk f (lastOf p)).fin = 2 then begins ps (blk f (lastOf p)).els else 0) : (⟨a, b, c, d, e⟩ : GBlock) = newBlock f ps p := by
  subst ha hb hc hd he
  rfl
end Lg
end Go.Proofs.Ytpfhmodjjljpjaa

namespace Go.Proofs.Ytpfhmodjjljpjaa
open Go.RowKit
namespace Lg
set_option maxRecDepth 100000
set_option linter.unusedVariables false
set_option linter.unusedSimpArgs false



theorem body26 : (Try.prog.funcs[26]?).map (fun fn => (fn.name == "runtime.NumGoroutine" || fn.body.isNone)) = some false := by kernel_rfl
theorem tidy_spec (f : GFn) (hb : f.blocks.length ≤ 900000) (hi : InN f) (hc : ∀ b ∈ f.blocks, b.ins.length ≤ 1000) : Spec Try.prog 26 [.agg [.v (.int .i64 f.regs), .r 1]] 2 [(1, .fz 5 (f.blocks.map eBlock))] (.tup [.agg [.v (.int .i64 f.regs), .r 2], .r 3]) 4 [(2, .row 72 5 ((tidyG f).blocks.map eBlock)), (3, .fz 1 ((pathsL f).map eIs))] := by
  have hpi : ∀ p ∈ pathsL f, 1 ≤ p.length ∧ p.length ≤ f.blocks.length ∧ ∀ x ∈ p, 0 ≤ x ∧ x < (f.blocks.length : Int) := fun p h => path_in hi h
  have hpl : (pathsL f).length ≤ f.blocks.length := pathsTo_le f _
  refine spec_of D (fn := Try.f26) rfl rfl (Nat.le_of_ble_eq_true rfl) ?_
  refine W_seq ?_
  refine W_seqK (b' := 50) rfl rfl ?_
  refine q1 1 2 1 rfl rfl (T_box rfl rfl flat_agg) rfl ?_
  refine qn 2 18 2 rfl rfl (T_nilbox [(72, 5)] (T_alloc D rfl rfl rfl) rfl (.cons (.same _) <| .cons (.nil rfl) <| .nil) (upd' := [(18, .box 29 [.v (.int .i64 0), .r 19]), (19, .row 72 5 (List.map eBlock ([] : List (GBlock))))]) (nn' := 2) rfl rfl) rfl ?_
  refine q1 3 34 3 rfl rfl (T_nils [(52, 1)] (T_assign rfl rfl) rfl (.inr ⟨rfl, rfl⟩) (.cons (.nil rfl) .nil) (lv' := .r 34) (upd' := [(34, .row 52 1 (List.map eIs ([] : List (List Int))))]) (nn' := 1) rfl rfl) rfl ?_
  refine k_done rfl ?_
  refine thenK_n ?_
  refine W_seq ?_
  refine W_seqK (b' := 114) rfl rfl ?_
  refine q0 11 50 1 rfl rfl (T_load_bA D (l := [_, _]) rfl rfl rfl rfl rfl rfl rfl) rfl ?_
  refine q1 12 66 2 rfl rfl (T_callR (lvs := [_]) (L := [(1, 1)]) (keep := false) (paths_spec _ hb hi) body66 rfl rfl rfl rfl (.fz rfl (.nil)) rfl (.inl rfl) rfl) rfl ?_
  refine qn 4 82 3 rfl rfl (T_nilbox [(52, 1)] (T_alloc D rfl rfl rfl) rfl (.cons (.nil rfl) <| .nil) (upd' := [(82, .box 30 [.r 83]), (83, .row 52 1 (List.map eIs ([] : List (List Int))))]) (nn' := 2) rfl rfl) rfl ?_
  refine s1 98 4 rfl rfl (T_stB D (cs' := [_]) rfl rfl rfl rfl (flat_sl rfl) rfl rfl (Nat.le_of_ble_eq_true rfl) rfl) rfl ?_
  refine k_done rfl ?_
  refine thenK_n ?_
  refine W_seq ?_
  refine W_seqK (b' := 146) rfl rfl ?_
  refine q0 13 114 1 rfl rfl (T_makeFunc (l := [_]) rfl rfl) rfl ?_
  refine q0 5 130 2 rfl rfl (T_assign rfl rfl) rfl ?_
  refine k_done rfl ?_
  refine thenK_n ?_
  refine W_seq ?_
  refine W_seqK (b' := 226) rfl rfl ?_
  refine q0 14 146 1 rfl rfl (T_fa D (m := 0) rfl rfl rfl rfl rfl rfl) rfl ?_
  refine q0 15 162 2 rfl rfl (T_load_b D rfl rfl rfl rfl rfl rfl) rfl ?_
  refine q1 16 178 3 rfl rfl (T_nils [(72, 5)] (T_build D (l := [_, _]) rfl rfl rfl rfl (.cons rfl (flat_v rfl) (.nil)) rfl rfl) rfl (.inl ⟨rfl, rfl⟩) (.cons (.same _) <| .cons (.nil rfl) <| .nil) (lv' := .agg [_, .r 178]) (upd' := [(178, .row 72 5 (List.map eBlock ([] : List (GBlock))))]) (nn' := 1) rfl rfl) rfl ?_
  refine qn 6 194 4 rfl rfl (T_nilbox [(72, 5)] (T_alloc D rfl rfl rfl) rfl (.cons (.same _) <| .cons (.nil rfl) <| .nil) (upd' := [(194, .box 29 [.v (.int .i64 0), .r 195]), (195, .row 72 5 (List.map eBlock ([] : List (GBlock))))]) (nn' := 2) rfl rfl) rfl ?_
  refine s1 210 5 rfl rfl (T_stB D (cs' := [_, _]) rfl rfl rfl rfl flat_agg rfl rfl (Nat.le_of_ble_eq_true rfl) rfl) rfl ?_
  refine k_done rfl ?_
  refine thenK_n ?_
  refine W_seq ?_
  refine W_seq ?_
  refine W_seqK (b' := 274) rfl rfl ?_
  refine q0 17 226 1 rfl rfl (T_load_b D rfl rfl rfl rfl rfl rfl) rfl ?_
  refine q0 18 242 2 rfl rfl (T_len D rfl rfl rfl rfl rfl rfl) rfl ?_
  refine q0 19 258 3 rfl rfl (T_move rfl rfl) rfl ?_
  refine k_done rfl ?_
  refine thenK_n ?_
  refine W_block ?_
  refine W_loop (ι := Nat) 9 (fun j => ⟨[(1, .p 2 0), (2, .p 3 0), (4, .p 5 0), (5, .fn 67 [.p 5 0]), (6, .p 7 0), (17, .r 6), (18, .v (.int .i64 ((pathsL f).length : Int))), (19, .v (.int .i64 (j : Int)))], [(1, .fz 5 (f.blocks.map eBlock)), (2, .box 29 [.v (.int .i64 f.regs), .r 1]), (3, .box 29 [.v (.int .i64 0), .r 4]), (4, .row 72 5 (([] : List GBlock).map eBlock)), (5, .box 30 [.r 6]), (6, .fz 1 ((pathsL f).map eIs)), (7, .box 29 [.v (.int .i64 f.regs), .r 8]), (8, .row 72 5 ((((pathsL f).take j).map (newBlock f (pathsL f))).map eBlock))]⟩) (fun j => j ≤ (pathsL f).length) (fun j => (pathsL f).length - j) (0) (by exact Nat.zero_le _) ?_ (fun j hJ => ?_)
  · exact ⟨[(2, 2), (3, 18), (4, 19), (5, 82), (6, 66), (7, 194), (8, 178)], .same rfl rfl (.same rfl rfl (.same rfl rfl (.same rfl rfl (.same rfl rfl (.same rfl rfl (.eq rfl (.eq rfl (.nil) (by first | rfl | simp)) (by first | rfl | simp))))))), .fzE rfl (.box (by first | rfl | simp) (.box (by first | rfl | simp) (.rowE rfl (.box (by first | rfl | simp) (.lendE rfl (.box (by first | rfl | simp) (.rowE rfl (.nil) (by first | rfl | simp))) (by first | rfl | simp))) (by first | rfl | simp)))) (by first | rfl | simp), rfl⟩
  have hj := fun h => hpi ((pathsL f).getD j default) (getD_mem h)
  have hlj := fun h => last_in (hj h).1 (hj h).2.2
  simp only [lastOf] at hlj
  refine W_seq ?_
  refine W_seqK (b' := 25) rfl rfl ?_
  refine q0 20 9 1 rfl rfl (T_cmp rfl rfl rfl rfl) rfl ?_
  refine k_done rfl ?_
  refine thenK_n ?_
  refine W_seq ?_
  refine W_cond rfl (fun g1 => ?_) (fun g1 => ?_)
  · have h1 := c_lss_t g1
    refine W_skip ?_
    refine thenK_n ?_
    refine W_seq ?_
    refine W_block ?_
    refine W_seq ?_
    refine W_seqK (b' := 73) rfl rfl ?_
    first | refine q0 21 25 1 rfl rfl (T_indexAddr D rfl rfl rfl rfl rfl rfl rfl rfl (by first | assumption | omega | (simp; omega) | (have k := hj (by omega); omega) | (have k := hlj (by omega); omega))) rfl ?_ | refine q0 21 25 1 rfl rfl (T_indexAddrZ D rfl rfl rfl rfl rfl rfl rfl rfl (by first | assumption | omega | (simp; omega) | (have k := hj (by omega); omega) | (have k := hlj (by omega); omega)) (by first | assumption | omega | (simp; omega) | (have k := hj (by omega); omega) | (have k := hlj (by omega); omega))) rfl ?_
    refine q1 22 41 2 rfl rfl (T_ldE D (lv := .r 41) (nn := 1) (upd := [(41, .fz 1 _)]) rfl rfl rfl rfl rfl (by first | assumption | omega | (simp; omega) | (have k := hj (by omega); omega) | (have k := hlj (by omega); omega)) rfl rfl rfl rfl) rfl ?_
    refine q0 8 57 3 rfl rfl (T_assign rfl rfl) rfl ?_
    refine k_done rfl ?_
    refine thenK_n ?_
    refine W_seq ?_
    refine W_anyK (b' := 265) rfl rfl rfl ?_
    refine q0 23 73 1 rfl rfl (T_fa D (m := 1) rfl rfl rfl rfl rfl rfl) rfl ?_
    refine q0 24 89 2 rfl rfl (T_load_b D rfl rfl rfl rfl rfl rfl) rfl ?_
    refine q0 25 105 3 rfl rfl (T_move rfl rfl) rfl ?_
    refine q0 26 121 4 rfl rfl (T_move rfl rfl) rfl ?_
    refine q0 27 137 5 rfl rfl (T_len D rfl rfl rfl rfl rfl rfl) rfl ?_
    refine q0 28 153 6 rfl rfl (T_sub64 rfl rfl rfl (by first | assumption | omega | (simp; omega) | (have k := hj (by omega); omega) | (have k := hlj (by omega); omega))) rfl ?_
    first | refine q0 29 169 7 rfl rfl (T_indexAddr D rfl rfl rfl rfl rfl rfl rfl rfl (by first | assumption | omega | (simp; omega) | (have k := hj (by omega); omega) | (have k := hlj (by omega); omega))) rfl ?_ | refine q0 29 169 7 rfl rfl (T_indexAddrZ D rfl rfl rfl rfl rfl rfl rfl rfl (by first | assumption | omega | (simp; omega) | (have k := hj (by omega); omega) | (have k := hlj (by omega); omega)) (by first | assumption | omega | (simp; omega) | (have k := hj (by omega); omega) | (have k := hlj (by omega); omega))) rfl ?_
    refine q0 30 185 8 rfl rfl (T_ldE D (lv := .v _) (nn := 0) (upd := []) rfl rfl rfl rfl rfl (by first | assumption | omega | (simp; omega) | (have k := hj (by omega); omega) | (have k := hlj (by omega); omega)) rfl rfl rfl rfl) rfl ?_
    first | refine q0 31 201 9 rfl rfl (T_indexAddr D rfl rfl rfl rfl rfl rfl rfl rfl (by first | assumption | omega | (simp; omega) | (have k := hj (by omega); omega) | (have k := hlj (by omega); omega))) rfl ?_ | refine q0 31 201 9 rfl rfl (T_indexAddrZ D rfl rfl rfl rfl rfl rfl rfl rfl (by first | assumption | omega | (simp; omega) | (have k := hj (by omega); omega) | (have k := hlj (by omega); omega)) (by first | assumption | omega | (simp; omega) | (have k := hj (by omega); omega) | (have k := hlj (by omega); omega))) rfl ?_
    refine q1 32 217 10 rfl rfl (T_ldEA D (l := [.r 217, .v _, .v _, .v _, .v _]) (nn := 1) (upd := [(217, .fz 8 _)]) rfl rfl rfl rfl rfl (by first | assumption | omega | (simp; omega) | (have k := hj (by omega); omega) | (have k := hlj (by omega); omega)) rfl rfl rfl rfl rfl) rfl ?_
    refine qn 9 233 11 rfl rfl (T_nilbox [(70, 8)] (T_alloc D rfl rfl rfl) rfl (.cons (.nil rfl) <| .cons (.same _) <| .cons (.same _) <| .cons (.same _) <| .cons (.same _) <| .nil) (upd' := [(233, .box 72 [.r 234, .v (.int .i64 0), .v (.int .i64 0), .v (.int .i64 0), .v (.int .i64 0)]), (234, .row 70 8 (List.map eTac ([] : List (GTac))))]) (nn' := 2) rfl rfl) rfl ?_
    refine s1 249 12 rfl rfl (T_stB D (cs' := [_, _, _, _, _]) rfl rfl rfl rfl flat_agg rfl rfl (Nat.le_of_ble_eq_true rfl) rfl) rfl ?_
    refine k_done rfl ?_
    refine ⟨rfl, ?_⟩
    refine thenK_n ?_
    refine W_seq ?_
    refine W_anyK (b' := 425) rfl rfl rfl ?_
    refine q0 33 265 1 rfl rfl (T_load_bA D (l := [_, _]) rfl rfl rfl rfl rfl rfl rfl) rfl ?_
    refine q0 34 281 2 rfl rfl (T_move rfl rfl) rfl ?_
    refine q1 35 297 3 rfl rfl (T_call (lvs := [_, _]) (L := [(1, 1), (2, 41)]) (lv := .r 297) (upd := [(297, .fz 8 _)]) (nn := 1) false (instrs_spec _ _ ⟨by have := hj (by omega); omega, fun i h => (hj (by omega)).2.2 _ (getD_mem h)⟩ (instrs_small hb hc (hj (by omega)).2.1)) body70 rfl rfl rfl rfl (.fz rfl (.fz rfl (.nil))) rfl (.inl rfl) rfl rfl rfl) rfl ?_
    refine q0 36 313 4 rfl rfl (T_fa D (m := 1) rfl rfl rfl rfl rfl rfl) rfl ?_
    refine q0 37 329 5 rfl rfl (T_load_b D rfl rfl rfl rfl rfl rfl) rfl ?_
    refine q0 38 345 6 rfl rfl (T_fa D (m := 2) rfl rfl rfl rfl rfl rfl) rfl ?_
    refine q0 39 361 7 rfl rfl (T_load_b D rfl rfl rfl rfl rfl rfl) rfl ?_
    refine q0 40 377 8 rfl rfl (T_build D (l := [_, _, _, _, _]) rfl rfl rfl rfl (.cons rfl (flat_sl rfl) (.cons rfl (flat_v rfl) (.cons rfl (flat_v rfl) (.nil)))) rfl rfl) rfl ?_
    refine qn 10 393 9 rfl rfl (T_nilbox [(70, 8)] (T_alloc D rfl rfl rfl) rfl (.cons (.nil rfl) <| .cons (.same _) <| .cons (.same _) <| .cons (.same _) <| .cons (.same _) <| .nil) (upd' := [(393, .box 72 [.r 394, .v (.int .i64 0), .v (.int .i64 0), .v (.int .i64 0), .v (.int .i64 0)]), (394, .row 70 8 (List.map eTac ([] : List (GTac))))]) (nn' := 2) rfl rfl) rfl ?_
    refine s1 409 10 rfl rfl (T_stB D (cs' := [_, _, _, _, _]) rfl rfl rfl rfl flat_agg rfl rfl (Nat.le_of_ble_eq_true rfl) rfl) rfl ?_
    refine k_done rfl ?_
    refine ⟨rfl, ?_⟩
    refine thenK_n ?_
    refine W_seq ?_
    refine W_seq ?_
    refine W_seqK (b' := 473) rfl rfl ?_
    refine q0 41 425 1 rfl rfl (T_fa D (m := 1) rfl rfl rfl rfl rfl rfl) rfl ?_
    refine q0 42 441 2 rfl rfl (T_load_b D rfl rfl rfl rfl rfl rfl) rfl ?_
    refine q0 43 457 3 rfl rfl (T_cmp rfl rfl rfl rfl) rfl ?_
    refine k_done rfl ?_
    refine thenK_n ?_
    refine W_cond rfl (fun g2 => ?_) (fun g2 => ?_)
    · have h2 := c_neq_t g2
      refine W_seqK (b' := 569) rfl rfl ?_
      refine q0 44 473 1 rfl rfl (T_move rfl rfl) rfl ?_
      refine q0 45 489 2 rfl rfl (T_fa D (m := 3) rfl rfl rfl rfl rfl rfl) rfl ?_
      refine q0 46 505 3 rfl rfl (T_load_b D rfl rfl rfl rfl rfl rfl) rfl ?_
      refine q1 47 521 4 rfl rfl (T_call (lvs := [_]) (L := [(1, 5), (2, 6)]) (lv := .v _) (upd := [(5, .box 30 [.r 6])]) (nn := 0) false (of1_spec (pathsL f) _ (by omega) (fun p h => (hpi p h).1)) body67 rfl rfl rfl rfl (.box rfl (.fz rfl (.nil))) rfl (.inl rfl) rfl rfl rfl) rfl ?_
      refine q0 48 537 5 rfl rfl (T_fa D (m := 3) rfl rfl rfl rfl rfl rfl) rfl ?_
      refine s1 553 6 rfl rfl (T_stB D (cs' := [_, _, _, _, _]) rfl rfl rfl rfl (flat_v rfl) rfl rfl (Nat.le_of_ble_eq_true rfl) rfl) rfl ?_
      refine k_done rfl ?_
      refine thenK_n ?_
      refine W_seq ?_
      refine W_seq ?_
      refine W_seqK (b' := 617) rfl rfl ?_
      refine q0 49 569 1 rfl rfl (T_fa D (m := 1) rfl rfl rfl rfl rfl rfl) rfl ?_
      refine q0 50 585 2 rfl rfl (T_load_b D rfl rfl rfl rfl rfl rfl) rfl ?_
      refine q0 51 601 3 rfl rfl (T_cmp rfl rfl rfl rfl) rfl ?_
      refine k_done rfl ?_
      refine thenK_n ?_
      refine W_cond rfl (fun g3 => ?_) (fun g3 => ?_)
      · have h3 := c_eql_t g3
        refine W_seqK (b' := 713) rfl rfl ?_
        refine q0 52 617 1 rfl rfl (T_move rfl rfl) rfl ?_
        refine q0 53 633 2 rfl rfl (T_fa D (m := 4) rfl rfl rfl rfl rfl rfl) rfl ?_
        refine q0 54 649 3 rfl rfl (T_load_b D rfl rfl rfl rfl rfl rfl) rfl ?_
        refine q1 55 665 4 rfl rfl (T_call (lvs := [_]) (L := [(1, 5), (2, 6)]) (lv := .v _) (upd := [(5, .box 30 [.r 6])]) (nn := 0) false (of1_spec (pathsL f) _ (by omega) (fun p h => (hpi p h).1)) body67 rfl rfl rfl rfl (.box rfl (.fz rfl (.nil))) rfl (.inl rfl) rfl rfl rfl) rfl ?_
        refine q0 56 681 5 rfl rfl (T_fa D (m := 4) rfl rfl rfl rfl rfl rfl) rfl ?_
        refine s1 697 6 rfl rfl (T_stB D (cs' := [_, _, _, _, _]) rfl rfl rfl rfl (flat_v rfl) rfl rfl (Nat.le_of_ble_eq_true rfl) rfl) rfl ?_
        refine k_done rfl ?_
        refine thenK_n ?_
        refine W_seqK (b' := 825) rfl rfl ?_
        refine q0 57 713 1 rfl rfl (T_fa D (m := 1) rfl rfl rfl rfl rfl rfl) rfl ?_
        refine q0 58 729 2 rfl rfl (T_load_b D rfl rfl rfl rfl rfl rfl) rfl ?_
        refine q0 59 745 3 rfl rfl (T_load_bA D (l := [_, _, _, _, _]) rfl rfl rfl rfl rfl rfl rfl) rfl ?_
        refine q1 60 761 4 rfl rfl (T_bs D (ys := [⟨_, _, _, _, _⟩]) (enc := eBlock) (l := [_, _, _, _, _]) rfl rfl rfl rfl rfl rfl (.cons rfl flat_agg (.nil)) rfl rfl rfl rfl (.fz rfl (.v rfl (.v rfl (.v rfl (.v rfl (.nil)))))) rfl rfl) rfl ?_
        refine qn 61 777 5 rfl rfl (T_append D rfl rfl rfl rfl rfl rfl rfl rfl rfl rfl rfl rfl (by (try simp only [ty72]); first | assumption | omega | (simp; omega) | (have k := hj (by omega); omega) | (have k := hlj (by omega); omega)) (by (try simp only [ty72]); first | assumption | omega | (simp; omega) | (have k := hj (by omega); omega) | (have k := hlj (by omega); omega))) rfl ?_
        refine q0 62 793 6 rfl rfl (T_fa D (m := 1) rfl rfl rfl rfl rfl rfl) rfl ?_
        refine s1 809 7 rfl rfl (T_stB D (cs' := [_, _]) rfl rfl rfl rfl (flat_sl rfl) rfl rfl (Nat.le_of_ble_eq_true rfl) rfl) rfl ?_
        refine k_done rfl ?_
        refine blockK_n ?_
        refine thenK_n ?_
        refine W_seqK (b' := 857) rfl rfl ?_
        refine q0 63 825 1 rfl rfl (T_add64 rfl rfl rfl (by first | assumption | omega | (simp; omega) | (have k := hj (by omega); omega) | (have k := hlj (by omega); omega))) rfl ?_
        refine q0 19 841 2 rfl rfl (T_move rfl rfl) rfl ?_
        refine k_done rfl ?_
        refine thenK_n ?_
        refine ⟨j + 1, by (try dsimp only); omega, by (try dsimp only); omega, ?_⟩
        exact ⟨[(2, 2), (3, 3), (4, 4), (5, 5), (6, 6), (7, 7), (8, 777)], .same rfl rfl (.same rfl rfl (.same rfl rfl (.same rfl rfl (.same rfl rfl (.same rfl rfl (.eq rfl (.eq rfl (.nil) (by first | rfl | (exfalso; omega) | (refine tidy_step (by omega) (newBlock_eq rfl rfl rfl ?_ ?_) <;> first | exact (if_pos (by assumption)).symm | exact (if_neg (by assumption)).symm))) rfl)))))), .fzE rfl (.box (by first | rfl | (exfalso; omega) | (refine tidy_step (by omega) (newBlock_eq rfl rfl rfl ?_ ?_) <;> first | exact (if_pos (by assumption)).symm | exact (if_neg (by assumption)).symm)) (.box (by first | rfl | (exfalso; omega) | (refine tidy_step (by omega) (newBlock_eq rfl rfl rfl ?_ ?_) <;> first | exact (if_pos (by assumption)).symm | exact (if_neg (by assumption)).symm)) (.rowE rfl (.box (by first | rfl | (exfalso; omega) | (refine tidy_step (by omega) (newBlock_eq rfl rfl rfl ?_ ?_) <;> first | exact (if_pos (by assumption)).symm | exact (if_neg (by assumption)).symm)) (.fzE rfl (.box (by first | rfl | (exfalso; omega) | (refine tidy_step (by omega) (newBlock_eq rfl rfl rfl ?_ ?_) <;> first | exact (if_pos (by assumption)).symm | exact (if_neg (by assumption)).symm)) (.rowE rfl (.nil) (by first | rfl | (exfalso; omega) | (refine tidy_step (by omega) (newBlock_eq rfl rfl rfl ?_ ?_) <;> first | exact (if_pos (by assumption)).symm | exact (if_neg (by assumption)).symm)))) rfl)) (by first | rfl | (exfalso; omega) | (refine tidy_step (by omega) (newBlock_eq rfl rfl rfl ?_ ?_) <;> first | exact (if_pos (by assumption)).symm | exact (if_neg (by assumption)).symm))))) rfl, rfl⟩
      · have h3 := c_eql_f g3
        refine W_skip ?_
        refine thenK_n ?_
        refine W_seqK (b' := 729) rfl rfl ?_
        refine q0 57 617 1 rfl rfl (T_fa D (m := 1) rfl rfl rfl rfl rfl rfl) rfl ?_
        refine q0 58 633 2 rfl rfl (T_load_b D rfl rfl rfl rfl rfl rfl) rfl ?_
        refine q0 59 649 3 rfl rfl (T_load_bA D (l := [_, _, _, _, _]) rfl rfl rfl rfl rfl rfl rfl) rfl ?_
        refine q1 60 665 4 rfl rfl (T_bs D (ys := [⟨_, _, _, _, _⟩]) (enc := eBlock) (l := [_, _, _, _, _]) rfl rfl rfl rfl rfl rfl (.cons rfl flat_agg (.nil)) rfl rfl rfl rfl (.fz rfl (.v rfl (.v rfl (.v rfl (.v rfl (.nil)))))) rfl rfl) rfl ?_
        refine qn 61 681 5 rfl rfl (T_append D rfl rfl rfl rfl rfl rfl rfl rfl rfl rfl rfl rfl (by (try simp only [ty72]); first | assumption | omega | (simp; omega) | (have k := hj (by omega); omega) | (have k := hlj (by omega); omega)) (by (try simp only [ty72]); first | assumption | omega | (simp; omega) | (have k := hj (by omega); omega) | (have k := hlj (by omega); omega))) rfl ?_
        refine q0 62 697 6 rfl rfl (T_fa D (m := 1) rfl rfl rfl rfl rfl rfl) rfl ?_
        refine s1 713 7 rfl rfl (T_stB D (cs' := [_, _]) rfl rfl rfl rfl (flat_sl rfl) rfl rfl (Nat.le_of_ble_eq_true rfl) rfl) rfl ?_
        refine k_done rfl ?_
        refine blockK_n ?_
        refine thenK_n ?_
        refine W_seqK (b' := 761) rfl rfl ?_
        refine q0 63 729 1 rfl rfl (T_add64 rfl rfl rfl (by first | assumption | omega | (simp; omega) | (have k := hj (by omega); omega) | (have k := hlj (by omega); omega))) rfl ?_
        refine q0 19 745 2 rfl rfl (T_move rfl rfl) rfl ?_
        refine k_done rfl ?_
        refine thenK_n ?_
        refine ⟨j + 1, by (try dsimp only); omega, by (try dsimp only); omega, ?_⟩
        exact ⟨[(2, 2), (3, 3), (4, 4), (5, 5), (6, 6), (7, 7), (8, 681)], .same rfl rfl (.same rfl rfl (.same rfl rfl (.same rfl rfl (.same rfl rfl (.same rfl rfl (.eq rfl (.eq rfl (.nil) (by first | rfl | (exfalso; omega) | (refine tidy_step (by omega) (newBlock_eq rfl rfl rfl ?_ ?_) <;> first | exact (if_pos (by assumption)).symm | exact (if_neg (by assumption)).symm))) rfl)))))), .fzE rfl (.box (by first | rfl | (exfalso; omega) | (refine tidy_step (by omega) (newBlock_eq rfl rfl rfl ?_ ?_) <;> first | exact (if_pos (by assumption)).symm | exact (if_neg (by assumption)).symm)) (.box (by first | rfl | (exfalso; omega) | (refine tidy_step (by omega) (newBlock_eq rfl rfl rfl ?_ ?_) <;> first | exact (if_pos (by assumption)).symm | exact (if_neg (by assumption)).symm)) (.rowE rfl (.box (by first | rfl | (exfalso; omega) | (refine tidy_step (by omega) (newBlock_eq rfl rfl rfl ?_ ?_) <;> first | exact (if_pos (by assumption)).symm | exact (if_neg (by assumption)).symm)) (.fzE rfl (.box (by first | rfl | (exfalso; omega) | (refine tidy_step (by omega) (newBlock_eq rfl rfl rfl ?_ ?_) <;> first | exact (if_pos (by assumption)).symm | exact (if_neg (by assumption)).symm)) (.rowE rfl (.nil) (by first | rfl | (exfalso; omega) | (refine tidy_step (by omega) (newBlock_eq rfl rfl rfl ?_ ?_) <;> first | exact (if_pos (by assumption)).symm | exact (if_neg (by assumption)).symm)))) rfl)) (by first | rfl | (exfalso; omega) | (refine tidy_step (by omega) (newBlock_eq rfl rfl rfl ?_ ?_) <;> first | exact (if_pos (by assumption)).symm | exact (if_neg (by assumption)).symm))))) rfl, rfl⟩
    · have h2 := c_neq_f g2
      refine W_skip ?_
      refine thenK_n ?_
      refine W_seq ?_
      refine W_seq ?_
      refine W_seqK (b' := 521) rfl rfl ?_
      refine q0 49 473 1 rfl rfl (T_fa D (m := 1) rfl rfl rfl rfl rfl rfl) rfl ?_
      refine q0 50 489 2 rfl rfl (T_load_b D rfl rfl rfl rfl rfl rfl) rfl ?_
      refine q0 51 505 3 rfl rfl (T_cmp rfl rfl rfl rfl) rfl ?_
      refine k_done rfl ?_
      refine thenK_n ?_
      refine W_cond rfl (fun g4 => ?_) (fun g4 => ?_)
      · have h4 := c_eql_t g4
        refine W_seqK (b' := 617) rfl rfl ?_
        refine q0 52 521 1 rfl rfl (T_move rfl rfl) rfl ?_
        refine q0 53 537 2 rfl rfl (T_fa D (m := 4) rfl rfl rfl rfl rfl rfl) rfl ?_
        refine q0 54 553 3 rfl rfl (T_load_b D rfl rfl rfl rfl rfl rfl) rfl ?_
        refine q1 55 569 4 rfl rfl (T_call (lvs := [_]) (L := [(1, 5), (2, 6)]) (lv := .v _) (upd := [(5, .box 30 [.r 6])]) (nn := 0) false (of1_spec (pathsL f) _ (by omega) (fun p h => (hpi p h).1)) body67 rfl rfl rfl rfl (.box rfl (.fz rfl (.nil))) rfl (.inl rfl) rfl rfl rfl) rfl ?_
        refine q0 56 585 5 rfl rfl (T_fa D (m := 4) rfl rfl rfl rfl rfl rfl) rfl ?_
        refine s1 601 6 rfl rfl (T_stB D (cs' := [_, _, _, _, _]) rfl rfl rfl rfl (flat_v rfl) rfl rfl (Nat.le_of_ble_eq_true rfl) rfl) rfl ?_
        refine k_done rfl ?_
        refine thenK_n ?_
        refine W_seqK (b' := 729) rfl rfl ?_
        refine q0 57 617 1 rfl rfl (T_fa D (m := 1) rfl rfl rfl rfl rfl rfl) rfl ?_
        refine q0 58 633 2 rfl rfl (T_load_b D rfl rfl rfl rfl rfl rfl) rfl ?_
        refine q0 59 649 3 rfl rfl (T_load_bA D (l := [_, _, _, _, _]) rfl rfl rfl rfl rfl rfl rfl) rfl ?_
        refine q1 60 665 4 rfl rfl (T_bs D (ys := [⟨_, _, _, _, _⟩]) (enc := eBlock) (l := [_, _, _, _, _]) rfl rfl rfl rfl rfl rfl (.cons rfl flat_agg (.nil)) rfl rfl rfl rfl (.fz rfl (.v rfl (.v rfl (.v rfl (.v rfl (.nil)))))) rfl rfl) rfl ?_
        refine qn 61 681 5 rfl rfl (T_append D rfl rfl rfl rfl rfl rfl rfl rfl rfl rfl rfl rfl (by (try simp only [ty72]); first | assumption | omega | (simp; omega) | (have k := hj (by omega); omega) | (have k := hlj (by omega); omega)) (by (try simp only [ty72]); first | assumption | omega | (simp; omega) | (have k := hj (by omega); omega) | (have k := hlj (by omega); omega))) rfl ?_
        refine q0 62 697 6 rfl rfl (T_fa D (m := 1) rfl rfl rfl rfl rfl rfl) rfl ?_
        refine s1 713 7 rfl rfl (T_stB D (cs' := [_, _]) rfl rfl rfl rfl (flat_sl rfl) rfl rfl (Nat.le_of_ble_eq_true rfl) rfl) rfl ?_
        refine k_done rfl ?_
        refine blockK_n ?_
        refine thenK_n ?_
        refine W_seqK (b' := 761) rfl rfl ?_
        refine q0 63 729 1 rfl rfl (T_add64 rfl rfl rfl (by first | assumption | omega | (simp; omega) | (have k := hj (by omega); omega) | (have k := hlj (by omega); omega))) rfl ?_
        refine q0 19 745 2 rfl rfl (T_move rfl rfl) rfl ?_
        refine k_done rfl ?_
        refine thenK_n ?_
        refine ⟨j + 1, by (try dsimp only); omega, by (try dsimp only); omega, ?_⟩
        exact ⟨[(2, 2), (3, 3), (4, 4), (5, 5), (6, 6), (7, 7), (8, 681)], .same rfl rfl (.same rfl rfl (.same rfl rfl (.same rfl rfl (.same rfl rfl (.same rfl rfl (.eq rfl (.eq rfl (.nil) (by first | rfl | (exfalso; omega) | (refine tidy_step (by omega) (newBlock_eq rfl rfl rfl ?_ ?_) <;> first | exact (if_pos (by assumption)).symm | exact (if_neg (by assumption)).symm))) rfl)))))), .fzE rfl (.box (by first | rfl | (exfalso; omega) | (refine tidy_step (by omega) (newBlock_eq rfl rfl rfl ?_ ?_) <;> first | exact (if_pos (by assumption)).symm | exact (if_neg (by assumption)).symm)) (.box (by first | rfl | (exfalso; omega) | (refine tidy_step (by omega) (newBlock_eq rfl rfl rfl ?_ ?_) <;> first | exact (if_pos (by assumption)).symm | exact (if_neg (by assumption)).symm)) (.rowE rfl (.box (by first | rfl | (exfalso; omega) | (refine tidy_step (by omega) (newBlock_eq rfl rfl rfl ?_ ?_) <;> first | exact (if_pos (by assumption)).symm | exact (if_neg (by assumption)).symm)) (.fzE rfl (.box (by first | rfl | (exfalso; omega) | (refine tidy_step (by omega) (newBlock_eq rfl rfl rfl ?_ ?_) <;> first | exact (if_pos (by assumption)).symm | exact (if_neg (by assumption)).symm)) (.rowE rfl (.nil) (by first | rfl | (exfalso; omega) | (refine tidy_step (by omega) (newBlock_eq rfl rfl rfl ?_ ?_) <;> first | exact (if_pos (by assumption)).symm | exact (if_neg (by assumption)).symm)))) rfl)) (by first | rfl | (exfalso; omega) | (refine tidy_step (by omega) (newBlock_eq rfl rfl rfl ?_ ?_) <;> first | exact (if_pos (by assumption)).symm | exact (if_neg (by assumption)).symm))))) rfl, rfl⟩
      · have h4 := c_eql_f g4
        refine W_skip ?_
        refine thenK_n ?_
        refine W_seqK (b' := 633) rfl rfl ?_
        refine q0 57 521 1 rfl rfl (T_fa D (m := 1) rfl rfl rfl rfl rfl rfl) rfl ?_
        refine q0 58 537 2 rfl rfl (T_load_b D rfl rfl rfl rfl rfl rfl) rfl ?_
        refine q0 59 553 3 rfl rfl (T_load_bA D (l := [_, _, _, _, _]) rfl rfl rfl rfl rfl rfl rfl) rfl ?_
        refine q1 60 569 4 rfl rfl (T_bs D (ys := [⟨_, _, _, _, _⟩]) (enc := eBlock) (l := [_, _, _, _, _]) rfl rfl rfl rfl rfl rfl (.cons rfl flat_agg (.nil)) rfl rfl rfl rfl (.fz rfl (.v rfl (.v rfl (.v rfl (.v rfl (.nil)))))) rfl rfl) rfl ?_
        refine qn 61 585 5 rfl rfl (T_append D rfl rfl rfl rfl rfl rfl rfl rfl rfl rfl rfl rfl (by (try simp only [ty72]); first | assumption | omega | (simp; omega) | (have k := hj (by omega); omega) | (have k := hlj (by omega); omega)) (by (try simp only [ty72]); first | assumption | omega | (simp; omega) | (have k := hj (by omega); omega) | (have k := hlj (by omega); omega))) rfl ?_
        refine q0 62 601 6 rfl rfl (T_fa D (m := 1) rfl rfl rfl rfl rfl rfl) rfl ?_
        refine s1 617 7 rfl rfl (T_stB D (cs' := [_, _]) rfl rfl rfl rfl (flat_sl rfl) rfl rfl (Nat.le_of_ble_eq_true rfl) rfl) rfl ?_
        refine k_done rfl ?_
        refine blockK_n ?_
        refine thenK_n ?_
        refine W_seqK (b' := 665) rfl rfl ?_
        refine q0 63 633 1 rfl rfl (T_add64 rfl rfl rfl (by first | assumption | omega | (simp; omega) | (have k := hj (by omega); omega) | (have k := hlj (by omega); omega))) rfl ?_
        refine q0 19 649 2 rfl rfl (T_move rfl rfl) rfl ?_
        refine k_done rfl ?_
        refine thenK_n ?_
        refine ⟨j + 1, by (try dsimp only); omega, by (try dsimp only); omega, ?_⟩
        exact ⟨[(2, 2), (3, 3), (4, 4), (5, 5), (6, 6), (7, 7), (8, 585)], .same rfl rfl (.same rfl rfl (.same rfl rfl (.same rfl rfl (.same rfl rfl (.same rfl rfl (.eq rfl (.eq rfl (.nil) (by first | rfl | (exfalso; omega) | (refine tidy_step (by omega) (newBlock_eq rfl rfl rfl ?_ ?_) <;> first | exact (if_pos (by assumption)).symm | exact (if_neg (by assumption)).symm))) rfl)))))), .fzE rfl (.box (by first | rfl | (exfalso; omega) | (refine tidy_step (by omega) (newBlock_eq rfl rfl rfl ?_ ?_) <;> first | exact (if_pos (by assumption)).symm | exact (if_neg (by assumption)).symm)) (.box (by first | rfl | (exfalso; omega) | (refine tidy_step (by omega) (newBlock_eq rfl rfl rfl ?_ ?_) <;> first | exact (if_pos (by assumption)).symm | exact (if_neg (by assumption)).symm)) (.rowE rfl (.box (by first | rfl | (exfalso; omega) | (refine tidy_step (by omega) (newBlock_eq rfl rfl rfl ?_ ?_) <;> first | exact (if_pos (by assumption)).symm | exact (if_neg (by assumption)).symm)) (.fzE rfl (.box (by first | rfl | (exfalso; omega) | (refine tidy_step (by omega) (newBlock_eq rfl rfl rfl ?_ ?_) <;> first | exact (if_pos (by assumption)).symm | exact (if_neg (by assumption)).symm)) (.rowE rfl (.nil) (by first | rfl | (exfalso; omega) | (refine tidy_step (by omega) (newBlock_eq rfl rfl rfl ?_ ?_) <;> first | exact (if_pos (by assumption)).symm | exact (if_neg (by assumption)).symm)))) rfl)) (by first | rfl | (exfalso; omega) | (refine tidy_step (by omega) (newBlock_eq rfl rfl rfl ?_ ?_) <;> first | exact (if_pos (by assumption)).symm | exact (if_neg (by assumption)).symm))))) rfl, rfl⟩
  · have h1 := c_lss_f g1
    refine W_exit ?_
    refine thenK_e ?_
    refine thenK_e ?_
    refine blockK_hit ?_
    refine thenK_n ?_
    refine W_seq ?_
    refine W_anyK (b' := 89) rfl rfl rfl ?_
    refine q0 64 25 1 rfl rfl (T_load_bA D (l := [_, _]) rfl rfl rfl rfl rfl rfl rfl) rfl ?_
    refine q0 65 41 2 rfl rfl (T_load_b D rfl rfl rfl rfl rfl rfl) rfl ?_
    refine s1 57 3 rfl rfl (T_stB D (cs' := [_, _]) rfl rfl rfl rfl flat_agg rfl rfl (Nat.le_of_ble_eq_true rfl) rfl) rfl ?_
    refine q0 3 73 4 rfl rfl (T_assign rfl rfl) rfl ?_
    refine k_done rfl ?_
    refine ⟨rfl, ?_⟩
    refine thenK_n ?_
    refine W_ret ?_
    -- end 0
    exact .mk [(2, 8), (3, 6)] (.inr rfl) (.cellA rfl rfl rfl rfl rfl (.tmp rfl (.nil))) (by first | rfl | (have e : j = (pathsL f).length := (by omega); rw [e, List.take_of_length_le (Nat.le_refl _)]; rfl)) (.rowE rfl (.fzE rfl (.nil) (by first | rfl | (have e : j = (pathsL f).length := (by omega); rw [e, List.take_of_length_le (Nat.le_refl _)]; rfl))) (by first | rfl | (have e : j = (pathsL f).length := (by omega); rw [e, List.take_of_length_le (Nat.le_refl _)]; rfl))) rfl
end Lg
end Go.Proofs.Ytpfhmodjjljpjaa

namespace Go.Proofs.Ytpfhmodjjljpjaa
open Go.RowKit
namespace Lg

theorem HR.lk {w0 w : World} {M : Fp} {U : Nat → Prop} {ρ : Nat → Value} {own : Nat → Option Nat} {o o' : List (Nat × Ob)} (h : HR w0 M U ρ own o w) (hl : ∀ i, o'.lookup i = o.lookup i) : HR w0 M U ρ own o' w :=
  ⟨fun i b hi => h.ob i b (by rw [← hl]; exact hi), h.gr, h.fr, by rw [hl]; exact h.z, h.z0, h.ag⟩
/-- A contract whose last argument is a slice, for the nil slice. -/
theorem spec_nil {P : Program} {f : Nat} {pre : List LV} {b0 sz : Nat} {oc : List (Nat × Ob)} {r : Value} (hs : Spec P f (pre ++ [.r b0]) (b0 + 1) (oc ++ [(b0, .fz sz [])]) (.v r) (b0 + 1) []) (hoc : oc.lookup b0 = none) :
    Spec P f (pre ++ [.v (.slice none 0 0)]) b0 oc (.v r) b0 [] := by
  intro w0 M ρ own w hM hr hu
  have hnil : Rd w (fun k => own k = none) (.sl sz []) (.slice none 0 0) := .sl sz [] none 0 (fun _ _ => undef) (Nat.le_refl _) (Nat.zero_le _) (by simp) (by simp) (by simp) (by simp)
  have hr1 := hr.addFz b0 (Nat.lt_irrefl _) hnil
  have hρ : ∀ i, i < b0 → upd1 ρ b0 (.slice none 0 0) i = ρ i := fun i hi => upd1_other _ _ (by omega)
  have hr2 := (hr1.mono (U' := fun c => c < b0 + 1) (fun i hi => by rcases hi with hi | hi <;> omega)).lk (o' := oc ++ [(b0, .fz sz [])]) (fun i => by
    simp only [lookup_append, List.lookup]
    by_cases hi : i = b0
    · subst hi
      rw [hoc]
      simp
    · have : (i == b0) = false := by simpa using hi
      rw [this]
      cases oc.lookup i <;> rfl)
  have hr3 : HR w0 ⟨M.mt, M.ok, b0 + 1, upd1 ρ b0 (.slice none 0 0)⟩ (fun c => c < b0 + 1) (upd1 ρ b0 (.slice none 0 0)) own (oc ++ [(b0, .fz sz [])]) w :=
    ⟨hr2.ob, hr2.gr, hr2.fr, hr2.z, hr2.z0, fun i hi => ⟨hi, rfl⟩⟩
  have hup : LV.useds (fun c => c < b0) ρ pre := useds_iff.2 (fun x hx => useds_iff.1 hu x (List.mem_append_left _ hx))
  have hup2 : LV.useds (fun c => c < b0 + 1) (upd1 ρ b0 (.slice none 0 0)) pre := useds_mono hρ (fun i hi => by omega) pre hup
  have hu2 : LV.useds (fun c => c < b0 + 1) (upd1 ρ b0 (.slice none 0 0)) (pre ++ [.r b0]) := useds_iff.2 (fun x hx => by
    rcases List.mem_append.1 hx with hx | hx
    · exact useds_iff.1 hup2 x hx
    · simp at hx; subst hx; exact Nat.lt_succ_self _)
  have hv : LV.vals (upd1 ρ b0 (.slice none 0 0)) (pre ++ [.r b0]) = LV.vals ρ (pre ++ [.v (.slice none 0 0)]) := by
    rw [vals_append, vals_append, useds_congr hρ pre hup]
    simp [LV.vals, LV.val, upd1_same]
  have hcall := hs w0 ⟨M.mt, M.ok, b0 + 1, upd1 ρ b0 (.slice none 0 0)⟩ _ own w rfl hr3 hu2
  rw [hv] at hcall
  refine Calls.mono hcall (fun e w' h => ?_)
  obtain ⟨ρ', own', h1, _, h3⟩ := h
  refine ⟨ρ', own', h1, trivial, ⟨fun i b hi => by simp at hi, h3.gr, h3.fr, rfl, by have := hr.z0; exact this, fun i hi => ?_⟩⟩
  have h4 := h3.ag i (show i < b0 + 1 by omega)
  have h5 := hr.ag i hi
  refine ⟨h5.1, h4.2.trans ?_⟩
  show upd1 ρ b0 _ i = _
  rw [hρ i (by omega)]
  exact h5.2
end Lg
end Go.Proofs.Ytpfhmodjjljpjaa

namespace Go.Proofs.Ytpfhmodjjljpjaa
open Go.RowKit
namespace Lg
set_option linter.unusedSimpArgs false
set_option linter.unusedVariables false

/-! ### The fixed example -/
def aF : GFn := ⟨1, [⟨[⟨8, 0, 0, 0, 0, 0, 0, 0⟩], 1, 0, 2, 0⟩, ⟨[], 3, 0, 0, 0⟩, ⟨[⟨9, 0, 0, 0, 0, 0, 0, 0⟩], 3, 0, 0, 0⟩]⟩
def aG : GFn := ⟨1, [⟨[⟨8, 0, 0, 0, 0, 0, 0, 0⟩, ⟨9, 0, 0, 0, 0, 0, 0, 0⟩], 3, 0, 0, 0⟩]⟩
theorem aF_in : InN aF := by unfold InN; decide +kernel
theorem aF_g : tidyG aF = aG := by decide +kernel
theorem aF_p : pathsL aF = [[0, 2]] := by decide +kernel
theorem take_len {f : GFn} {p : List Int} {c : Nat} (h : ∀ b ∈ f.blocks, b.ins.length ≤ 1000) (hp : p.length ≤ 1000000) (j : Nat) : (instrs f (p.take j)).length ≤ 1000000000 := by
  have h1 := instrs_le h (p.take j)
  have h2 : (p.take j).length ≤ 1000000 := by rw [List.length_take]; omega
  have h3 := Nat.mul_le_mul_right 1000 h2
  omega
theorem aI (ps : List (List Int)) (h : ∀ p ∈ ps, p.length ≤ 1000000) : ∀ p ∈ ps, ∀ j, (instrs aF (p.take j)).length ≤ 1000000000 := fun p hp j => take_len (c := 0) (by decide) (h p hp) j
theorem aI1 : ∀ p ∈ pathsL aF, ∀ j, (instrs aF (p.take j)).length ≤ 1000000000 := aI _ (by decide +kernel)
theorem aI2 : ∀ p ∈ [[(0 : Int)]], ∀ j, (instrs aF (p.take j)).length ≤ 1000000000 := aI _ (by decide)
theorem aI3 : ∀ p ∈ ([] : List (List Int)), ∀ j, (instrs aF (p.take j)).length ≤ 1000000000 := aI _ (by decide)
end Lg
end Go.Proofs.Ytpfhmodjjljpjaa

namespace Go.Proofs.Ytpfhmodjjljpjaa
open Go.RowKit
namespace Lg
set_option maxRecDepth 100000
set_option linter.unusedVariables false
set_option linter.unusedSimpArgs false



theorem body24 : (Try.prog.funcs[24]?).map (fun fn => (fn.name == "runtime.NumGoroutine" || fn.body.isNone)) = some false := by kernel_rfl
theorem awake_spec  : Spec Try.prog 24 [] 1 [] (.v (.bool true)) 1 [] := by
  refine spec_of D (fn := Try.f24) rfl rfl (Nat.le_of_ble_eq_true rfl) ?_
  refine W_seq ?_
  refine W_seqK (b' := 17) rfl rfl ?_
  refine q0 0 1 1 rfl rfl (T_assign rfl rfl) rfl ?_
  refine k_done rfl ?_
  refine thenK_n ?_
  refine W_seq ?_
  refine W_seqK (b' := 193) rfl rfl ?_
  refine q0 5 17 1 rfl rfl (T_build D (l := [_, _, _, _, _, _, _, _]) rfl rfl rfl rfl (.cons rfl (flat_v rfl) (.nil)) rfl rfl) rfl ?_
  refine q1 6 33 2 rfl rfl (T_bs D (ys := [⟨_, _, _, _, _, _, _, _⟩]) (enc := eTac) (l := [_, _, _, _, _, _, _, _]) rfl rfl rfl rfl rfl rfl (.cons rfl flat_agg (.nil)) rfl rfl rfl rfl (.v rfl (.v rfl (.v rfl (.v rfl (.v rfl (.v rfl (.v rfl (.v rfl (.nil))))))))) rfl rfl) rfl ?_
  refine q0 7 49 3 rfl rfl (T_build D (l := [_, _, _, _, _]) rfl rfl rfl rfl (.cons rfl (flat_sl rfl) (.cons rfl (flat_v rfl) (.cons rfl (flat_v rfl) (.nil)))) rfl rfl) rfl ?_
  refine q1 8 65 4 rfl rfl (T_nils [(70, 8)] (T_build D (l := [_, _, _, _, _]) rfl rfl rfl rfl (.cons rfl (flat_v rfl) (.nil)) rfl rfl) rfl (.inl ⟨rfl, rfl⟩) (.cons (.nil rfl) <| .cons (.same _) <| .cons (.same _) <| .cons (.same _) <| .cons (.same _) <| .nil) (lv' := .agg [.r 65, _, _, _, _]) (upd' := [(65, .row 70 8 (List.map eTac ([] : List (GTac))))]) (nn' := 1) rfl rfl) rfl ?_
  refine q0 9 81 5 rfl rfl (T_build D (l := [_, _, _, _, _, _, _, _]) rfl rfl rfl rfl (.cons rfl (flat_v rfl) (.nil)) rfl rfl) rfl ?_
  refine q1 10 97 6 rfl rfl (T_bs D (ys := [⟨_, _, _, _, _, _, _, _⟩]) (enc := eTac) (l := [_, _, _, _, _, _, _, _]) rfl rfl rfl rfl rfl rfl (.cons rfl flat_agg (.nil)) rfl rfl rfl rfl (.v rfl (.v rfl (.v rfl (.v rfl (.v rfl (.v rfl (.v rfl (.v rfl (.nil))))))))) rfl rfl) rfl ?_
  refine q0 11 113 7 rfl rfl (T_build D (l := [_, _, _, _, _]) rfl rfl rfl rfl (.cons rfl (flat_sl rfl) (.cons rfl (flat_v rfl) (.nil))) rfl rfl) rfl ?_
  refine qn 12 129 8 rfl rfl (T_bs D (ys := [⟨_, _, _, _, _⟩, ⟨_, _, _, _, _⟩, ⟨_, _, _, _, _⟩]) (enc := eBlock) (l := [_, _, _, _, _, _, _, _, _, _, _, _, _, _, _]) rfl rfl rfl rfl rfl rfl (.cons rfl flat_agg (.cons rfl flat_agg (.cons rfl flat_agg (.nil)))) rfl rfl rfl rfl (.row rfl (.v rfl (.v rfl (.v rfl (.v rfl (.row rfl (.v rfl (.v rfl (.v rfl (.v rfl (.row rfl (.v rfl (.v rfl (.v rfl (.v rfl (.nil))))) rfl))))) rfl))))) rfl) rfl rfl) rfl ?_
  refine q0 13 145 9 rfl rfl (T_build D (l := [_, _]) rfl rfl rfl rfl (.cons rfl (flat_v rfl) (.cons rfl (flat_sl rfl) (.nil))) rfl rfl) rfl ?_
  refine qn 1 161 10 rfl rfl (T_nilbox [(72, 5)] (T_alloc D rfl rfl rfl) rfl (.cons (.same _) <| .cons (.nil rfl) <| .nil) (upd' := [(161, .box 29 [.v (.int .i64 0), .r 162]), (162, .row 72 5 (List.map eBlock ([] : List (GBlock))))]) (nn' := 2) rfl rfl) rfl ?_
  refine s1 177 11 rfl rfl (T_stB D (cs' := [_, _]) rfl rfl rfl rfl flat_agg rfl rfl (Nat.le_of_ble_eq_true rfl) rfl) rfl ?_
  refine k_done rfl ?_
  refine thenK_n ?_
  refine W_seq ?_
  refine W_seqK (b' := 321) rfl rfl ?_
  refine q0 14 193 1 rfl rfl (T_build D (l := [_, _, _, _, _, _, _, _]) rfl rfl rfl rfl (.cons rfl (flat_v rfl) (.nil)) rfl rfl) rfl ?_
  refine q0 15 209 2 rfl rfl (T_build D (l := [_, _, _, _, _, _, _, _]) rfl rfl rfl rfl (.cons rfl (flat_v rfl) (.nil)) rfl rfl) rfl ?_
  refine q1 16 225 3 rfl rfl (T_bs D (ys := [⟨_, _, _, _, _, _, _, _⟩, ⟨_, _, _, _, _, _, _, _⟩]) (enc := eTac) (l := [_, _, _, _, _, _, _, _, _, _, _, _, _, _, _, _]) rfl rfl rfl rfl rfl rfl (.cons rfl flat_agg (.cons rfl flat_agg (.nil))) rfl rfl rfl rfl (.v rfl (.v rfl (.v rfl (.v rfl (.v rfl (.v rfl (.v rfl (.v rfl (.v rfl (.v rfl (.v rfl (.v rfl (.v rfl (.v rfl (.v rfl (.v rfl (.nil))))))))))))))))) rfl rfl) rfl ?_
  refine q0 17 241 4 rfl rfl (T_build D (l := [_, _, _, _, _]) rfl rfl rfl rfl (.cons rfl (flat_sl rfl) (.cons rfl (flat_v rfl) (.nil))) rfl rfl) rfl ?_
  refine qn 18 257 5 rfl rfl (T_bs D (ys := [⟨_, _, _, _, _⟩]) (enc := eBlock) (l := [_, _, _, _, _]) rfl rfl rfl rfl rfl rfl (.cons rfl flat_agg (.nil)) rfl rfl rfl rfl (.row rfl (.v rfl (.v rfl (.v rfl (.v rfl (.nil))))) rfl) rfl rfl) rfl ?_
  refine q0 19 273 6 rfl rfl (T_build D (l := [_, _]) rfl rfl rfl rfl (.cons rfl (flat_v rfl) (.cons rfl (flat_sl rfl) (.nil))) rfl rfl) rfl ?_
  refine qn 2 289 7 rfl rfl (T_nilbox [(72, 5)] (T_alloc D rfl rfl rfl) rfl (.cons (.same _) <| .cons (.nil rfl) <| .nil) (upd' := [(289, .box 29 [.v (.int .i64 0), .r 290]), (290, .row 72 5 (List.map eBlock ([] : List (GBlock))))]) (nn' := 2) rfl rfl) rfl ?_
  refine s1 305 8 rfl rfl (T_stB D (cs' := [_, _]) rfl rfl rfl rfl flat_agg rfl rfl (Nat.le_of_ble_eq_true rfl) rfl) rfl ?_
  refine k_done rfl ?_
  refine thenK_n ?_
  refine W_seq ?_
  refine W_seqK (b' := 449) rfl rfl ?_
  refine q0 21 321 1 rfl rfl (T_load_bA D (l := [_, _]) rfl rfl rfl rfl rfl rfl rfl) rfl ?_
  refine qn 22 337 2 rfl rfl (T_call (lvs := [_]) (L := [(1, 129)]) (lv := .tup [.agg [.v _, .r 337], .r 338]) (upd := [(337, .row 72 5 _), (338, .fz 1 _), (129, .fz 5 _)]) (nn := 2) false (tidy_spec aF (by decide) aF_in (by decide)) body26 rfl rfl rfl rfl (.lend rfl (.nil)) rfl (.inl rfl) rfl rfl rfl) rfl ?_
  refine q0 20 353 3 rfl rfl (T_move rfl rfl) rfl ?_
  refine q0 23 369 4 rfl rfl (T_extract rfl rfl rfl) rfl ?_
  refine q0 24 385 5 rfl rfl (T_extract rfl rfl rfl) rfl ?_
  refine qn 3 401 6 rfl rfl (T_nilbox [(72, 5)] (T_alloc D rfl rfl rfl) rfl (.cons (.same _) <| .cons (.nil rfl) <| .nil) (upd' := [(401, .box 29 [.v (.int .i64 0), .r 402]), (402, .row 72 5 (List.map eBlock ([] : List (GBlock))))]) (nn' := 2) rfl rfl) rfl ?_
  refine s1 417 7 rfl rfl (T_stB D (cs' := [_, _]) rfl rfl rfl rfl flat_agg rfl rfl (Nat.le_of_ble_eq_true rfl) rfl) rfl ?_
  refine q0 4 433 8 rfl rfl (T_assign rfl rfl) rfl ?_
  refine k_done rfl ?_
  refine thenK_n ?_
  refine W_seq ?_
  refine W_seqK (b' := 1025) rfl rfl ?_
  refine q0 25 449 1 rfl rfl (T_load_bA D (l := [_, _]) rfl rfl rfl rfl rfl rfl rfl) rfl ?_
  refine q0 26 465 2 rfl rfl (T_load_bA D (l := [_, _]) rfl rfl rfl rfl rfl rfl rfl) rfl ?_
  refine q0 27 481 3 rfl rfl (T_callV (lvs := [_, _]) (L := [(1, 337), (2, 257)]) (same_spec (tidyG aF) aG (by decide +kernel) (by decide +kernel)) body28 rfl rfl rfl rfl (.lend rfl (.lend rfl (.nil))) rfl) rfl ?_
  refine q0 28 497 4 rfl rfl (T_move rfl rfl) rfl ?_
  refine k_split (d := 28) rfl (fun g1 => ?_) (fun g1 => ?_)
  · have h1 := g1; (try simp only [cmpB, decide_eq_true_eq, decide_eq_false_iff_not, beq_iff_eq, beq_eq_false_iff_ne, bne_iff_ne, ne_eq, bne_eq_false_iff_eq, Bool.not_eq_true', Bool.not_eq_false', Int.not_lt, Int.not_le] at h1)
    refine k_op0 (d := 29) (b := 513) (j' := 5) rfl rfl rfl rfl (g_tt rfl rfl rfl g1) (T_move rfl rfl) rfl ?_
    refine k_op0 (d := 30) (b := 529) (j' := 6) rfl rfl rfl rfl (g_tt rfl rfl rfl g1) (T_len D rfl rfl rfl rfl rfl rfl) rfl ?_
    refine k_op0 (d := 31) (b := 545) (j' := 7) rfl rfl rfl rfl (g_tt rfl rfl rfl g1) (T_cmp rfl rfl rfl rfl) rfl ?_
    refine q0 32 561 8 rfl rfl (T_pick_t rfl rfl rfl g1) rfl ?_
    refine q0 33 577 9 rfl rfl (T_move rfl rfl) rfl ?_
    refine k_split (d := 33) rfl (fun g2 => ?_) (fun g2 => ?_)
    · have h2 := c_eql_t g2
      refine k_op0 (d := 34) (b := 593) (j' := 10) rfl rfl rfl rfl (g_tt rfl rfl rfl g2) (T_move rfl rfl) rfl ?_
      first | refine k_op0 (d := 35) (b := 609) (j' := 11) rfl rfl rfl rfl (g_tt rfl rfl rfl g2) (T_indexAddr D rfl rfl rfl rfl rfl rfl rfl rfl (by first | assumption | decide +kernel)) rfl ?_ | refine k_op0 (d := 35) (b := 609) (j' := 11) rfl rfl rfl rfl (g_tt rfl rfl rfl g2) (T_indexAddrZ D rfl rfl rfl rfl rfl rfl rfl rfl (by first | assumption | decide +kernel) (by first | assumption | decide +kernel)) rfl ?_
      refine k_op1 (d := 36) (b := 625) (j' := 12) rfl rfl rfl rfl (g_tt rfl rfl rfl g2) (T_ldE D (lv := .r 625) (nn := 1) (upd := [(625, .fz 1 _)]) rfl rfl rfl rfl rfl (by first | assumption | decide +kernel) rfl rfl rfl rfl) rfl ?_
      refine k_op1 (d := 37) (b := 641) (j' := 13) rfl rfl rfl rfl (g_tt rfl rfl rfl g2) (T_bs D (ys := [_, _]) (enc := eI) (l := [_, _]) rfl rfl rfl rfl rfl rfl (.cons rfl (flat_v rfl) (.cons rfl (flat_v rfl) (.nil))) rfl rfl rfl rfl (.v rfl (.v rfl (.nil))) rfl rfl) rfl ?_
      refine k_op0 (d := 38) (b := 657) (j' := 14) rfl rfl rfl rfl (g_tt rfl rfl rfl g2) (T_callV (lvs := [_, _]) (L := [(1, 625), (2, 641)]) (list_spec ((pathsL aF).getD 0 default) [0, 2] (by decide +kernel)) body39 rfl rfl rfl rfl (.fz rfl (.lend rfl (.nil))) rfl) rfl ?_
      refine q0 39 673 15 rfl rfl (T_pick_t rfl rfl rfl g2) rfl ?_
      refine q0 40 689 16 rfl rfl (T_move rfl rfl) rfl ?_
      refine k_split (d := 40) rfl (fun g3 => ?_) (fun g3 => ?_)
      · have h3 := g3; (try simp only [cmpB, decide_eq_true_eq, decide_eq_false_iff_not, beq_iff_eq, beq_eq_false_iff_ne, bne_iff_ne, ne_eq, bne_eq_false_iff_eq, Bool.not_eq_true', Bool.not_eq_false', Int.not_lt, Int.not_le] at h3)
        refine k_op0 (d := 41) (b := 705) (j' := 17) rfl rfl rfl rfl (g_tt rfl rfl rfl g3) (T_load_bA D (l := [_, _]) rfl rfl rfl rfl rfl rfl rfl) rfl ?_
        refine k_op0 (d := 42) (b := 721) (j' := 18) rfl rfl rfl rfl (g_tt rfl rfl rfl g3) (T_load_bA D (l := [_, _]) rfl rfl rfl rfl rfl rfl rfl) rfl ?_
        refine k_op0 (d := 43) (b := 737) (j' := 19) rfl rfl rfl rfl (g_tt rfl rfl rfl g3) (T_move rfl rfl) rfl ?_
        refine k_op0 (d := 44) (b := 753) (j' := 20) rfl rfl rfl rfl (g_tt rfl rfl rfl g3) (T_callV (lvs := [_, _, _]) (L := [(1, 129), (2, 337), (3, 338)]) (tcheck_spec aF (tidyG aF) (pathsL aF) (by decide +kernel) (by decide +kernel) (by decide +kernel) aI1) body30 rfl rfl rfl rfl (.fz rfl (.lend rfl (.fz rfl (.nil)))) rfl) rfl ?_
        refine q0 45 769 21 rfl rfl (T_pick_t rfl rfl rfl g3) rfl ?_
        refine q0 46 785 22 rfl rfl (T_move rfl rfl) rfl ?_
        refine k_split (d := 46) rfl (fun g4 => ?_) (fun g4 => ?_)
        · have h4 := g4; (try simp only [cmpB, decide_eq_true_eq, decide_eq_false_iff_not, beq_iff_eq, beq_eq_false_iff_ne, bne_iff_ne, ne_eq, bne_eq_false_iff_eq, Bool.not_eq_true', Bool.not_eq_false', Int.not_lt, Int.not_le] at h4)
          refine k_op0 (d := 47) (b := 801) (j' := 23) rfl rfl rfl rfl (g_tt rfl rfl rfl g4) (T_load_bA D (l := [_, _]) rfl rfl rfl rfl rfl rfl rfl) rfl ?_
          refine k_op0 (d := 48) (b := 817) (j' := 24) rfl rfl rfl rfl (g_tt rfl rfl rfl g4) (T_load_bA D (l := [_, _]) rfl rfl rfl rfl rfl rfl rfl) rfl ?_
          refine k_op1 (d := 49) (b := 833) (j' := 25) rfl rfl rfl rfl (g_tt rfl rfl rfl g4) (T_bs D (ys := [_]) (enc := eI) (l := [_]) rfl rfl rfl rfl rfl rfl (.cons rfl (flat_v rfl) (.nil)) rfl rfl rfl rfl (.v rfl (.nil)) rfl rfl) rfl ?_
          refine k_opn (d := 50) (b := 849) (j' := 26) rfl rfl rfl rfl (g_tt rfl rfl rfl g4) (T_bs D (ys := [_]) (enc := eIs) (l := [_]) rfl rfl rfl rfl rfl rfl (.cons rfl (flat_sl rfl) (.nil)) rfl rfl rfl rfl (.row rfl (.nil) rfl) rfl rfl) rfl ?_
          refine k_op0 (d := 51) (b := 865) (j' := 27) rfl rfl rfl rfl (g_tt rfl rfl rfl g4) (T_callV (lvs := [_, _, _]) (L := [(1, 129), (2, 337), (3, 849)]) (tcheck_spec aF (tidyG aF) [[0]] (by decide +kernel) (by decide +kernel) (by decide +kernel) aI2) body30 rfl rfl rfl rfl (.fz rfl (.lend rfl (.lend rfl (.nil)))) rfl) rfl ?_
          refine k_op0 (d := 52) (b := 881) (j' := 28) rfl rfl rfl rfl (g_tt rfl rfl rfl g4) (T_not rfl rfl) rfl ?_
          refine q0 53 897 29 rfl rfl (T_pick_t rfl rfl rfl g4) rfl ?_
          refine q0 54 913 30 rfl rfl (T_move rfl rfl) rfl ?_
          refine k_split (d := 54) rfl (fun g5 => ?_) (fun g5 => ?_)
          · have h5 := g5; (try simp only [cmpB, decide_eq_true_eq, decide_eq_false_iff_not, beq_iff_eq, beq_eq_false_iff_ne, bne_iff_ne, ne_eq, bne_eq_false_iff_eq, Bool.not_eq_true', Bool.not_eq_false', Int.not_lt, Int.not_le] at h5)
            refine k_op0 (d := 55) (b := 929) (j' := 31) rfl rfl rfl rfl (g_tt rfl rfl rfl g5) (T_load_bA D (l := [_, _]) rfl rfl rfl rfl rfl rfl rfl) rfl ?_
            refine k_op0 (d := 56) (b := 945) (j' := 32) rfl rfl rfl rfl (g_tt rfl rfl rfl g5) (T_load_bA D (l := [_, _]) rfl rfl rfl rfl rfl rfl rfl) rfl ?_
            refine k_op0 (d := 57) (b := 961) (j' := 33) rfl rfl rfl rfl (g_tt rfl rfl rfl g5) (T_callV (lvs := [_, _, _]) (L := [(1, 129), (2, 337)]) (spec_nil (sz := 1) (b0 := 3) (pre := [_, _]) (tcheck_spec aF (tidyG aF) [] (by decide +kernel) (by decide +kernel) (by decide +kernel) aI3) rfl) body30 rfl rfl rfl rfl (.fz rfl (.lend rfl (.nil))) rfl) rfl ?_
            refine k_op0 (d := 58) (b := 977) (j' := 34) rfl rfl rfl rfl (g_tt rfl rfl rfl g5) (T_not rfl rfl) rfl ?_
            refine q0 59 993 35 rfl rfl (T_pick_t rfl rfl rfl g5) rfl ?_
            refine q0 0 1009 36 rfl rfl (T_assign rfl rfl) rfl ?_
            refine k_done rfl ?_
            refine thenK_n ?_
            refine W_ret ?_
            -- end 0
            exact .mk [] (.inr rfl) (.tmp rfl (.nil)) (by first | rfl | exact absurd g1 (by decide +kernel) | exact absurd g2 (by decide +kernel) | exact absurd g3 (by decide +kernel) | exact absurd g4 (by decide +kernel) | exact absurd g5 (by decide +kernel) | exact absurd g6 (by decide +kernel) | exact absurd g7 (by decide +kernel) | decide +kernel) (.nil) rfl
          · have h5 := g5; (try simp only [cmpB, decide_eq_true_eq, decide_eq_false_iff_not, beq_iff_eq, beq_eq_false_iff_ne, bne_iff_ne, ne_eq, bne_eq_false_iff_eq, Bool.not_eq_true', Bool.not_eq_false', Int.not_lt, Int.not_le] at h5)
            refine k_no (d := 55) (j' := 31) rfl rfl rfl (g_tf rfl rfl rfl g5) ?_
            refine k_no (d := 56) (j' := 32) rfl rfl rfl (g_tf rfl rfl rfl g5) ?_
            refine k_no (d := 57) (j' := 33) rfl rfl rfl (g_tf rfl rfl rfl g5) ?_
            refine k_no (d := 58) (j' := 34) rfl rfl rfl (g_tf rfl rfl rfl g5) ?_
            refine q0 59 993 35 rfl rfl (T_pick_f rfl rfl rfl g5) rfl ?_
            refine q0 0 1009 36 rfl rfl (T_assign rfl rfl) rfl ?_
            refine k_done rfl ?_
            refine thenK_n ?_
            refine W_ret ?_
            -- end 1
            exact .mk [] (.inr rfl) (.tmp rfl (.nil)) (by first | rfl | exact absurd g1 (by decide +kernel) | exact absurd g2 (by decide +kernel) | exact absurd g3 (by decide +kernel) | exact absurd g4 (by decide +kernel) | exact absurd g5 (by decide +kernel) | exact absurd g6 (by decide +kernel) | exact absurd g7 (by decide +kernel) | decide +kernel) (.nil) rfl
        · have h4 := g4; (try simp only [cmpB, decide_eq_true_eq, decide_eq_false_iff_not, beq_iff_eq, beq_eq_false_iff_ne, bne_iff_ne, ne_eq, bne_eq_false_iff_eq, Bool.not_eq_true', Bool.not_eq_false', Int.not_lt, Int.not_le] at h4)
          refine k_no (d := 47) (j' := 23) rfl rfl rfl (g_tf rfl rfl rfl g4) ?_
          refine k_no (d := 48) (j' := 24) rfl rfl rfl (g_tf rfl rfl rfl g4) ?_
          refine k_no (d := 49) (j' := 25) rfl rfl rfl (g_tf rfl rfl rfl g4) ?_
          refine k_no (d := 50) (j' := 26) rfl rfl rfl (g_tf rfl rfl rfl g4) ?_
          refine k_no (d := 51) (j' := 27) rfl rfl rfl (g_tf rfl rfl rfl g4) ?_
          refine k_no (d := 52) (j' := 28) rfl rfl rfl (g_tf rfl rfl rfl g4) ?_
          refine q0 53 897 29 rfl rfl (T_pick_f rfl rfl rfl g4) rfl ?_
          refine q0 54 913 30 rfl rfl (T_move rfl rfl) rfl ?_
          refine k_no (d := 55) (j' := 31) rfl rfl rfl (g_tf rfl rfl rfl rfl) ?_
          refine k_no (d := 56) (j' := 32) rfl rfl rfl (g_tf rfl rfl rfl rfl) ?_
          refine k_no (d := 57) (j' := 33) rfl rfl rfl (g_tf rfl rfl rfl rfl) ?_
          refine k_no (d := 58) (j' := 34) rfl rfl rfl (g_tf rfl rfl rfl rfl) ?_
          refine q0 59 993 35 rfl rfl (T_pick_f rfl rfl rfl rfl) rfl ?_
          refine q0 0 1009 36 rfl rfl (T_assign rfl rfl) rfl ?_
          refine k_done rfl ?_
          refine thenK_n ?_
          refine W_ret ?_
          -- end 2
          exact .mk [] (.inr rfl) (.tmp rfl (.nil)) (by first | rfl | exact absurd g1 (by decide +kernel) | exact absurd g2 (by decide +kernel) | exact absurd g3 (by decide +kernel) | exact absurd g4 (by decide +kernel) | exact absurd g5 (by decide +kernel) | exact absurd g6 (by decide +kernel) | exact absurd g7 (by decide +kernel) | decide +kernel) (.nil) rfl
      · have h3 := g3; (try simp only [cmpB, decide_eq_true_eq, decide_eq_false_iff_not, beq_iff_eq, beq_eq_false_iff_ne, bne_iff_ne, ne_eq, bne_eq_false_iff_eq, Bool.not_eq_true', Bool.not_eq_false', Int.not_lt, Int.not_le] at h3)
        refine k_no (d := 41) (j' := 17) rfl rfl rfl (g_tf rfl rfl rfl g3) ?_
        refine k_no (d := 42) (j' := 18) rfl rfl rfl (g_tf rfl rfl rfl g3) ?_
        refine k_no (d := 43) (j' := 19) rfl rfl rfl (g_tf rfl rfl rfl g3) ?_
        refine k_no (d := 44) (j' := 20) rfl rfl rfl (g_tf rfl rfl rfl g3) ?_
        refine q0 45 769 21 rfl rfl (T_pick_f rfl rfl rfl g3) rfl ?_
        refine q0 46 785 22 rfl rfl (T_move rfl rfl) rfl ?_
        refine k_no (d := 47) (j' := 23) rfl rfl rfl (g_tf rfl rfl rfl rfl) ?_
        refine k_no (d := 48) (j' := 24) rfl rfl rfl (g_tf rfl rfl rfl rfl) ?_
        refine k_no (d := 49) (j' := 25) rfl rfl rfl (g_tf rfl rfl rfl rfl) ?_
        refine k_no (d := 50) (j' := 26) rfl rfl rfl (g_tf rfl rfl rfl rfl) ?_
        refine k_no (d := 51) (j' := 27) rfl rfl rfl (g_tf rfl rfl rfl rfl) ?_
        refine k_no (d := 52) (j' := 28) rfl rfl rfl (g_tf rfl rfl rfl rfl) ?_
        refine q0 53 897 29 rfl rfl (T_pick_f rfl rfl rfl rfl) rfl ?_
        refine q0 54 913 30 rfl rfl (T_move rfl rfl) rfl ?_
        refine k_no (d := 55) (j' := 31) rfl rfl rfl (g_tf rfl rfl rfl rfl) ?_
        refine k_no (d := 56) (j' := 32) rfl rfl rfl (g_tf rfl rfl rfl rfl) ?_
        refine k_no (d := 57) (j' := 33) rfl rfl rfl (g_tf rfl rfl rfl rfl) ?_
        refine k_no (d := 58) (j' := 34) rfl rfl rfl (g_tf rfl rfl rfl rfl) ?_
        refine q0 59 993 35 rfl rfl (T_pick_f rfl rfl rfl rfl) rfl ?_
        refine q0 0 1009 36 rfl rfl (T_assign rfl rfl) rfl ?_
        refine k_done rfl ?_
        refine thenK_n ?_
        refine W_ret ?_
        -- end 3
        exact .mk [] (.inr rfl) (.tmp rfl (.nil)) (by first | rfl | exact absurd g1 (by decide +kernel) | exact absurd g2 (by decide +kernel) | exact absurd g3 (by decide +kernel) | exact absurd g4 (by decide +kernel) | exact absurd g5 (by decide +kernel) | exact absurd g6 (by decide +kernel) | exact absurd g7 (by decide +kernel) | decide +kernel) (.nil) rfl
    · have h2 := c_eql_f g2
      refine k_no (d := 34) (j' := 10) rfl rfl rfl (g_tf rfl rfl rfl g2) ?_
      refine k_no (d := 35) (j' := 11) rfl rfl rfl (g_tf rfl rfl rfl g2) ?_
      refine k_no (d := 36) (j' := 12) rfl rfl rfl (g_tf rfl rfl rfl g2) ?_
      refine k_no (d := 37) (j' := 13) rfl rfl rfl (g_tf rfl rfl rfl g2) ?_
      refine k_no (d := 38) (j' := 14) rfl rfl rfl (g_tf rfl rfl rfl g2) ?_
      refine q0 39 673 15 rfl rfl (T_pick_f rfl rfl rfl g2) rfl ?_
      refine q0 40 689 16 rfl rfl (T_move rfl rfl) rfl ?_
      refine k_no (d := 41) (j' := 17) rfl rfl rfl (g_tf rfl rfl rfl rfl) ?_
      refine k_no (d := 42) (j' := 18) rfl rfl rfl (g_tf rfl rfl rfl rfl) ?_
      refine k_no (d := 43) (j' := 19) rfl rfl rfl (g_tf rfl rfl rfl rfl) ?_
      refine k_no (d := 44) (j' := 20) rfl rfl rfl (g_tf rfl rfl rfl rfl) ?_
      refine q0 45 769 21 rfl rfl (T_pick_f rfl rfl rfl rfl) rfl ?_
      refine q0 46 785 22 rfl rfl (T_move rfl rfl) rfl ?_
      refine k_no (d := 47) (j' := 23) rfl rfl rfl (g_tf rfl rfl rfl rfl) ?_
      refine k_no (d := 48) (j' := 24) rfl rfl rfl (g_tf rfl rfl rfl rfl) ?_
      refine k_no (d := 49) (j' := 25) rfl rfl rfl (g_tf rfl rfl rfl rfl) ?_
      refine k_no (d := 50) (j' := 26) rfl rfl rfl (g_tf rfl rfl rfl rfl) ?_
      refine k_no (d := 51) (j' := 27) rfl rfl rfl (g_tf rfl rfl rfl rfl) ?_
      refine k_no (d := 52) (j' := 28) rfl rfl rfl (g_tf rfl rfl rfl rfl) ?_
      refine q0 53 897 29 rfl rfl (T_pick_f rfl rfl rfl rfl) rfl ?_
      refine q0 54 913 30 rfl rfl (T_move rfl rfl) rfl ?_
      refine k_no (d := 55) (j' := 31) rfl rfl rfl (g_tf rfl rfl rfl rfl) ?_
      refine k_no (d := 56) (j' := 32) rfl rfl rfl (g_tf rfl rfl rfl rfl) ?_
      refine k_no (d := 57) (j' := 33) rfl rfl rfl (g_tf rfl rfl rfl rfl) ?_
      refine k_no (d := 58) (j' := 34) rfl rfl rfl (g_tf rfl rfl rfl rfl) ?_
      refine q0 59 993 35 rfl rfl (T_pick_f rfl rfl rfl rfl) rfl ?_
      refine q0 0 1009 36 rfl rfl (T_assign rfl rfl) rfl ?_
      refine k_done rfl ?_
      refine thenK_n ?_
      refine W_ret ?_
      -- end 4
      exact .mk [] (.inr rfl) (.tmp rfl (.nil)) (by first | rfl | exact absurd g1 (by decide +kernel) | exact absurd g2 (by decide +kernel) | exact absurd g3 (by decide +kernel) | exact absurd g4 (by decide +kernel) | exact absurd g5 (by decide +kernel) | exact absurd g6 (by decide +kernel) | exact absurd g7 (by decide +kernel) | decide +kernel) (.nil) rfl
  · have h1 := g1; (try simp only [cmpB, decide_eq_true_eq, decide_eq_false_iff_not, beq_iff_eq, beq_eq_false_iff_ne, bne_iff_ne, ne_eq, bne_eq_false_iff_eq, Bool.not_eq_true', Bool.not_eq_false', Int.not_lt, Int.not_le] at h1)
    refine k_no (d := 29) (j' := 5) rfl rfl rfl (g_tf rfl rfl rfl g1) ?_
    refine k_no (d := 30) (j' := 6) rfl rfl rfl (g_tf rfl rfl rfl g1) ?_
    refine k_no (d := 31) (j' := 7) rfl rfl rfl (g_tf rfl rfl rfl g1) ?_
    refine q0 32 561 8 rfl rfl (T_pick_f rfl rfl rfl g1) rfl ?_
    refine q0 33 577 9 rfl rfl (T_move rfl rfl) rfl ?_
    refine k_no (d := 34) (j' := 10) rfl rfl rfl (g_tf rfl rfl rfl rfl) ?_
    refine k_no (d := 35) (j' := 11) rfl rfl rfl (g_tf rfl rfl rfl rfl) ?_
    refine k_no (d := 36) (j' := 12) rfl rfl rfl (g_tf rfl rfl rfl rfl) ?_
    refine k_no (d := 37) (j' := 13) rfl rfl rfl (g_tf rfl rfl rfl rfl) ?_
    refine k_no (d := 38) (j' := 14) rfl rfl rfl (g_tf rfl rfl rfl rfl) ?_
    refine q0 39 673 15 rfl rfl (T_pick_f rfl rfl rfl rfl) rfl ?_
    refine q0 40 689 16 rfl rfl (T_move rfl rfl) rfl ?_
    refine k_no (d := 41) (j' := 17) rfl rfl rfl (g_tf rfl rfl rfl rfl) ?_
    refine k_no (d := 42) (j' := 18) rfl rfl rfl (g_tf rfl rfl rfl rfl) ?_
    refine k_no (d := 43) (j' := 19) rfl rfl rfl (g_tf rfl rfl rfl rfl) ?_
    refine k_no (d := 44) (j' := 20) rfl rfl rfl (g_tf rfl rfl rfl rfl) ?_
    refine q0 45 769 21 rfl rfl (T_pick_f rfl rfl rfl rfl) rfl ?_
    refine q0 46 785 22 rfl rfl (T_move rfl rfl) rfl ?_
    refine k_no (d := 47) (j' := 23) rfl rfl rfl (g_tf rfl rfl rfl rfl) ?_
    refine k_no (d := 48) (j' := 24) rfl rfl rfl (g_tf rfl rfl rfl rfl) ?_
    refine k_no (d := 49) (j' := 25) rfl rfl rfl (g_tf rfl rfl rfl rfl) ?_
    refine k_no (d := 50) (j' := 26) rfl rfl rfl (g_tf rfl rfl rfl rfl) ?_
    refine k_no (d := 51) (j' := 27) rfl rfl rfl (g_tf rfl rfl rfl rfl) ?_
    refine k_no (d := 52) (j' := 28) rfl rfl rfl (g_tf rfl rfl rfl rfl) ?_
    refine q0 53 897 29 rfl rfl (T_pick_f rfl rfl rfl rfl) rfl ?_
    refine q0 54 913 30 rfl rfl (T_move rfl rfl) rfl ?_
    refine k_no (d := 55) (j' := 31) rfl rfl rfl (g_tf rfl rfl rfl rfl) ?_
    refine k_no (d := 56) (j' := 32) rfl rfl rfl (g_tf rfl rfl rfl rfl) ?_
    refine k_no (d := 57) (j' := 33) rfl rfl rfl (g_tf rfl rfl rfl rfl) ?_
    refine k_no (d := 58) (j' := 34) rfl rfl rfl (g_tf rfl rfl rfl rfl) ?_
    refine q0 59 993 35 rfl rfl (T_pick_f rfl rfl rfl rfl) rfl ?_
    refine q0 0 1009 36 rfl rfl (T_assign rfl rfl) rfl ?_
    refine k_done rfl ?_
    refine thenK_n ?_
    refine W_ret ?_
    -- end 5
    exact .mk [] (.inr rfl) (.tmp rfl (.nil)) (by first | rfl | exact absurd g1 (by decide +kernel) | exact absurd g2 (by decide +kernel) | exact absurd g3 (by decide +kernel) | exact absurd g4 (by decide +kernel) | exact absurd g5 (by decide +kernel) | exact absurd g6 (by decide +kernel) | exact absurd g7 (by decide +kernel) | decide +kernel) (.nil) rfl
end Lg
end Go.Proofs.Ytpfhmodjjljpjaa

namespace Go.Proofs.Ytpfhmodjjljpjaa
open Go.RowKit
namespace Lg

/-! ### Sizes of what comes in, and what the guards say -/
def FnOk (f : GFn) : Prop := f.blocks.length ≤ 140737488351232 ∧ ∀ b ∈ f.blocks, b.ins.length ≤ 140737488351232
def PsOk (ps : List (List Int)) : Prop := ps.length ≤ 140737488351232 ∧ ∀ p ∈ ps, p.length ≤ 140737488351232
theorem sumLen_le {α : Type} {c : Nat} : ∀ (l : List (List α)), (∀ x ∈ l, x.length ≤ c) → sumLen l ≤ l.length * c
  | [], _ => by simp [sumLen]
  | x :: l, h => by
    have h1 := sumLen_le l (fun y hy => h y (List.mem_cons_of_mem _ hy))
    have h2 := h x (by simp)
    have h3 : sumLen (x :: l) = x.length + sumLen l := by simp [sumLen]
    rw [h3, List.length_cons, Nat.succ_mul]
    omega
theorem le_sumLen {α : Type} : ∀ (l : List (List α)) (x : List α), x ∈ l → x.length ≤ sumLen l
  | y :: l, x, h => by
    have h3 : sumLen (y :: l) = y.length + sumLen l := by simp [sumLen]
    rcases List.mem_cons.1 h with rfl | h
    · omega
    · have := le_sumLen l x h; omega
theorem few_sum {f : GFn} (hf : FnOk f) {n : Nat} (hn : f.blocks.length ≤ n) (h1000 : n ≤ 1000) (j : Nat) : sumLen ((insOf f).take j) ≤ 4000000000000000000 := by
  have h1 := sumLen_take_le (insOf f) j
  have h2 := sumLen_le (c := 140737488351232) (insOf f) (fun x hx => by
    obtain ⟨b, hb, rfl⟩ := List.mem_map.1 hx
    exact hf.2 b hb)
  have h3 : (insOf f).length = f.blocks.length := by simp [insOf]
  have h4 := Nat.mul_le_mul_right 140737488351232 (show (insOf f).length ≤ 1000 by omega)
  omega
theorem few_iff {f : GFn} {x y : Int} (h : few f x y = true) : (f.blocks.length : Int) ≤ x ∧ (sumLen (insOf f) : Int) ≤ y := by
  simpa [few] using h
theorem few_ins {f : GFn} {x y : Int} (h : few f x y = true) : ∀ b ∈ f.blocks, (b.ins.length : Int) ≤ y := fun b hb => by
  have h1 := le_sumLen (insOf f) b.ins (List.mem_map_of_mem (f := fun b : GBlock => b.ins) hb)
  have h2 := (few_iff h).2
  omega
def smallP (ps : List (List Int)) (x y : Int) : Bool := decide ((ps.length : Int) ≤ x) && decide ((sumLen ps : Int) ≤ y)
theorem smallP_iff {ps : List (List Int)} {x y : Int} (h : smallP ps x y = true) : (ps.length : Int) ≤ x ∧ ∀ p ∈ ps, (p.length : Int) ≤ y := by
  simp only [smallP, Bool.and_eq_true, decide_eq_true_eq] at h
  exact ⟨h.1, fun p hp => by have := le_sumLen ps p hp; omega⟩
/-- What a contract of Check asks. -/
structure ChkOk (f g : GFn) (ps : List (List Int)) : Prop where
  hl : ps.length ≤ 1000000000
  hpl : ∀ p ∈ ps, p.length ≤ 1000000000
  hgi : ∀ b ∈ g.blocks, b.ins.length ≤ 1000000
  hI : ∀ p ∈ ps, ∀ j, (instrs f (p.take j)).length ≤ 1000000000
theorem chkOk {f g : GFn} {ps : List (List Int)} {a b c d e q : Int} (h1 : few f a b = true) (h2 : few g c d = true) (h3 : smallP ps e q = true) (hb : b ≤ 1000) (hd : d ≤ 1000) (he : e ≤ 1000) (hq : q ≤ 1000) : ChkOk f g ps := by
  have h4 := smallP_iff h3
  refine ⟨by omega, fun p hp => by have := h4.2 p hp; omega, fun x hx => by have := few_ins h2 x hx; omega, fun p hp j => ?_⟩
  exact take_len (c := 0) (fun x hx => by have := few_ins h1 x hx; omega) (by have := h4.2 p hp; omega) j
theorem tcheck_ok {f g : GFn} {ps : List (List Int)} (hc : ChkOk f g ps) : Spec Try.prog 30 [.agg [.v (.int .i64 f.regs), .r 1], .agg [.v (.int .i64 g.regs), .r 2], .r 3] 4 [(1, .fz 5 (f.blocks.map eBlock)), (2, .fz 5 (g.blocks.map eBlock)), (3, .fz 1 (ps.map eIs))] (.v (.bool (tcheck f g ps))) 4 [] := tcheck_spec f g ps hc.hl hc.hpl hc.hgi hc.hI
theorem rcheck_ok {f g : GFn} {ps : List (List Int)} (hc : ChkOk f g ps) : Spec Try.prog 33 [.agg [.v (.int .i64 f.regs), .r 1], .agg [.v (.int .i64 g.regs), .r 2], .r 3] 4 [(1, .fz 5 (f.blocks.map eBlock)), (2, .fz 5 (g.blocks.map eBlock)), (3, .fz 1 (ps.map eIs))] (.v (.bool (tcheck f g ps))) 4 [] := rcheck_spec f g ps hc.hl hc.hpl hc.hgi hc.hI
end Lg
end Go.Proofs.Ytpfhmodjjljpjaa

namespace Go.Proofs.Ytpfhmodjjljpjaa
open Go.RowKit
namespace Lg
theorem fnOk {f : GFn} (h : WFn f) : FnOk f := ⟨by have := h.len; omega, fun b hb => by have := (h.each b hb).len; omega⟩
theorem psOk {l : List (List Int)} (h : WIss l) : PsOk l := ⟨by have := h.len; omega, fun p hp => by have := (h.each p hp).len; omega⟩
end Lg
end Go.Proofs.Ytpfhmodjjljpjaa

namespace Go.Proofs.Ytpfhmodjjljpjaa
open Go.ChangeShapes Go.WideShapes Go.ChangeAt Go.RowKit
namespace Lg
set_option maxRecDepth 100000
theorem one_int (k : IntKind) (x : Int) : (Value.int k x).oneCell' = true := rfl
structure GTwo where
  a : GFn
  b : GFn
  c : GFn
  p : List (List Int)
  q : List (List Int)
structure WTwo (x : GTwo) : Prop where
  a : WFn x.a
  b : WFn x.b
  c : WFn x.c
  p : WIss x.p
  q : WIss x.q
def eTwo (x : GTwo) : List Cell := eFn x.a ++ (eFn x.b ++ (eFn x.c ++ ([.sl 1 (x.p.map eIs)] ++ ([.sl 1 (x.q.map eIs)] ++ []))))
section
variable {H : Type} {enc : TypeId × Value → H} {w : World}
theorem o_two : Opens enc Try.prog w 78 eTwo WTwo :=
  (opens_struct (n := 8) Try.underlying78 (by kernel_rfl) (opensF_cons (k := 2) rfl (by kernel_rfl) o_fn <| opensF_cons (k := 2) rfl (by kernel_rfl) o_fn <| opensF_cons (k := 2) rfl (by kernel_rfl) o_fn <| opensF_cons (k := 1) rfl (by kernel_rfl) o_iss <|
    opensF_cons (k := 1) rfl (by kernel_rfl) o_iss <| opensF_nil rfl)).map
  (fun x h => ⟨⟨x.1, x.2.1, x.2.2.1, x.2.2.2.1, x.2.2.2.2.1⟩, rfl, ⟨h.1, h.2.1, h.2.2.1, h.2.2.2.1, h.2.2.2.2.1⟩⟩)
theorem rd_v {x v : Value} {ok : Nat → Prop} (h : Rd w ok (.v x) v) : v = x := by cases h; rfl
theorem arg_two {r : Reach} {b : Nat} {v : Value} {d : DataW H} {p : List MemPlace} (hv : Value.okWide Try.prog w r b 78 v) (hd : DataW.Trod enc Try.prog w 0 (fun _ => true) true 78 v d p) (hw : (d.weights Try.prog 78).all (· ≤ reachBytes) = true) :
    ∃ (x : GTwo) (s1 s2 s3 s4 s5 : Value), v = .agg #[.int .i64 x.a.regs, s1, .int .i64 x.b.regs, s2, .int .i64 x.c.regs, s3, s4, s5] ∧ Rd w (fun _ => True) (.sl 5 (x.a.blocks.map eBlock)) s1 ∧ Rd w (fun _ => True) (.sl 5 (x.b.blocks.map eBlock)) s2 ∧ Rd w (fun _ => True) (.sl 5 (x.c.blocks.map eBlock)) s3 ∧ Rd w (fun _ => True) (.sl 1 (x.p.map eIs)) s4 ∧ Rd w (fun _ => True) (.sl 1 (x.q.map eIs)) s5 ∧ WTwo x := by
  obtain ⟨x, cs, rfl, h1, h2⟩ := arg_agg o_two (by rw [Try.underlying78]) hv hd hw
  obtain ⟨l⟩ := cs
  match l, h1 with
  | [v1, s1, v2, s2, v3, s3, s4, s5], h1 =>
    obtain ⟨a1, a2, a3, a4, a5, a6, a7, a8, _⟩ := h1
    exact ⟨x, s1, s2, s3, s4, s5, by rw [rd_v a1, rd_v a3, rd_v a5], a2, a4, a6, a7, a8, h2⟩
theorem arg_prog {r : Reach} {b : Nat} {v : Value} {d : DataW H} {p : List MemPlace} (hv : Value.okWide Try.prog w r b 24 v) (hd : DataW.Trod enc Try.prog w 0 (fun _ => true) true 24 v d p) (hw : (d.weights Try.prog 24).all (· ≤ reachBytes) = true) :
    ∃ (x : GProg) (s : Value), v = .agg #[.int .i64 x.words, s] ∧ Rd w (fun _ => True) (.sl 2 (x.funcs.map eFn)) s ∧ WProg x := by
  obtain ⟨x, cs, rfl, h1, h2⟩ := arg_agg o_prog (by rw [Try.underlying24]) hv hd hw
  obtain ⟨l⟩ := cs
  match l, h1 with
  | [v1, s1], h1 =>
    obtain ⟨a1, a2, _⟩ := h1
    exact ⟨x, s1, by rw [rd_v a1], a2, h2⟩
theorem arg_u8 {r : Reach} {b : Nat} {v : Value} {d : DataW H} {p : List MemPlace} (hv : Value.okWide Try.prog w r b 5 v) (hd : DataW.Trod enc Try.prog w 0 (fun _ => true) true 5 v d p) (hw : (d.weights Try.prog 5).all (· ≤ reachBytes) = true) :
    ∃ x : Int, v = .int .u8 x ∧ 0 ≤ x ∧ x < 256 := by
  obtain ⟨n, rfl⟩ := okWide_int Try.underlying5 hv
  obtain ⟨fuel, hf⟩ := hd
  obtain ⟨x, h1, h2⟩ := o_u8 fuel _ d p hf hw
  have h3 := rd_v h1.1
  cases h3
  exact ⟨_, rfl, h2⟩
end
end Lg
end Go.Proofs.Ytpfhmodjjljpjaa

namespace Go.Proofs.Ytpfhmodjjljpjaa
open Go.RowKit
namespace Lg

/-- The second one told by its fields. -/
theorem T_eqTac8 {N : Nat} {o : Oper} {b : Nat} {st : St} {x y : Operand} (u : GTac) {v1 v2 v3 v4 v5 v6 v7 v8 : Int} {t' : TypeId} (ho : o.op = .binOp .eql 70 x y t') (hx : st.ev x = some (lvTac u))
    (hy : st.ev y = some (.agg [.v (.int .i64 v1), .v (.int .i64 v2), .v (.int .i64 v3), .v (.int .i64 v4), .v (.int .i64 v5), .v (.int .i64 v6), .v (.int .i64 v7), .v (.int .u32 v8)])) : T Try.prog N o b [] st (.v (.bool (decide (u = ⟨v1, v2, v3, v4, v5, v6, v7, v8⟩)))) 0 [] :=
  T_eqTac u ⟨v1, v2, v3, v4, v5, v6, v7, v8⟩ ho hx hy
/-! ### May a program be? -/
def withinB (i n : Int) : Bool := decide (0 ≤ i) && decide (i < n)
def setsOp (op : Int) : Bool := decide (op = 1 ∨ op = 2 ∨ op = 3 ∨ op = 4 ∨ op = 6 ∨ op = 8)
def setsT (t : GTac) : Int := if setsOp t.op = true then t.d else -1
def usesT (t : GTac) : List Int := if t.op = 2 ∨ t.op = 5 ∨ t.op = 6 ∨ t.op = 9 then [t.a] else if t.op = 3 ∨ t.op = 7 then [t.a, t.b] else []
def wantT (t : GTac) : GTac :=
  ⟨t.op, if setsOp t.op = true then t.d else 0, if 0 < (usesT t).length then t.a else 0, if 1 < (usesT t).length then t.b else 0, if t.op = 3 then t.k else 0, if t.op = 4 ∨ t.op = 5 ∨ t.op = 6 ∨ t.op = 7 ∨ t.op = 10 then t.base else 0, if t.op = 6 ∨ t.op = 7 then t.size else 0, if t.op = 1 then t.n else 0⟩
/-- What an instruction must be, but for what it has beside. -/
def FitsP (t : GTac) (f regs words : Int) : Prop :=
  (1 ≤ t.op ∧ t.op ≤ 10) ∧ (setsOp t.op = true → withinB t.d regs = true) ∧ (∀ u ∈ usesT t, withinB u regs = true) ∧ (t.op = 3 → 4 ≤ t.k ∧ t.k ≤ 15) ∧ (t.op = 4 ∨ t.op = 5 → withinB t.base words = true) ∧
  (t.op = 6 ∨ t.op = 7 → 1 ≤ t.size ∧ t.size ≤ 4096 ∧ 0 ≤ t.base ∧ t.base ≤ words - t.size) ∧ (t.op = 10 → withinB t.base f = true) ∧ t = wantT t
instance (t : GTac) (f regs words : Int) : Decidable (FitsP t f regs words) := by unfold FitsP; infer_instance
def fitsB (t : GTac) (f regs words : Int) : Bool := decide (FitsP t f regs words)
def endsB (b : GBlock) (blocks regs : Int) : Bool :=
  if b.fin = 1 then withinB b.to blocks && (b.v == 0) && (b.els == 0)
  else if b.fin = 2 then withinB b.to blocks && withinB b.els blocks && withinB b.v regs
  else (b.fin == 3) && (b.v == 0) && (b.to == 0) && (b.els == 0)
def blockB (b : GBlock) (blocks number regs words : Int) : Bool := endsB b blocks regs && b.ins.all (fun t => fitsB t number regs words)
def oneB (f : GFn) (number words : Int) : Bool := decide (0 ≤ f.regs ∧ f.regs ≤ 4000 ∧ f.blocks ≠ []) && f.blocks.all (fun b => blockB b f.blocks.length number f.regs words)
def rightB (p : GProg) : Bool := decide (0 ≤ p.words ∧ p.words ≤ 1048576 ∧ p.funcs ≠ []) && (List.range p.funcs.length).all (fun i => oneB (p.funcs.getD i default) (i : Int) p.words)
theorem setsOp_t {op : Int} (h : op = 1 ∨ op = 2 ∨ op = 3 ∨ op = 4 ∨ op = 6 ∨ op = 8) : setsOp op = true := decide_eq_true h
theorem setsOp_f {op : Int} (h : ¬ (op = 1 ∨ op = 2 ∨ op = 3 ∨ op = 4 ∨ op = 6 ∨ op = 8)) : setsOp op = false := decide_eq_false h
theorem setsT_ge {t : GTac} (h : setsT t ≥ 0) : setsOp t.op = true := by
  unfold setsT at h
  split at h
  · assumption
  · omega
/-- The instruction that has what it must have, and what the code has found. -/
theorem fits_fin {t : GTac} {f regs words k base size n : Int} (h : (1 ≤ t.op ∧ t.op ≤ 10) ∧ (setsOp t.op = true → withinB t.d regs = true) ∧ (∀ u ∈ usesT t, withinB u regs = true)) (h3 : t.op = 3 → 4 ≤ t.k ∧ t.k ≤ 15) (h4 : t.op = 4 ∨ t.op = 5 → withinB t.base words = true)
    (h6 : t.op = 6 ∨ t.op = 7 → 1 ≤ t.size ∧ t.size ≤ 4096 ∧ 0 ≤ t.base ∧ t.base ≤ words - t.size) (h10 : t.op = 10 → withinB t.base f = true)
    (hk : k = if t.op = 3 then t.k else 0) (hb : base = if t.op = 4 ∨ t.op = 5 ∨ t.op = 6 ∨ t.op = 7 ∨ t.op = 10 then t.base else 0) (hs : size = if t.op = 6 ∨ t.op = 7 then t.size else 0) (hn : n = if t.op = 1 then t.n else 0) :
    decide (t = ⟨t.op, if setsOp t.op = true then t.d else 0, if 0 < (usesT t).length then t.a else 0, if 1 < (usesT t).length then t.b else 0, k, base, size, n⟩) = fitsB t f regs words := by
  subst hk hb hs hn
  show decide (t = wantT t) = _
  unfold fitsB
  by_cases hw : t = wantT t
  · rw [decide_eq_true hw, decide_eq_true]
    exact ⟨h.1, h.2.1, h.2.2, h3, h4, h6, h10, hw⟩
  · rw [decide_eq_false hw, decide_eq_false]
    exact fun hF => hw hF.2.2.2.2.2.2.2
theorem fits_no {t : GTac} {f regs words : Int} (h : ¬ FitsP t f regs words) : false = fitsB t f regs words := (decide_eq_false h).symm
theorem usesT_le (t : GTac) : (usesT t).length ≤ 2 := by
  unfold usesT
  split
  · simp
  · split <;> simp
theorem blockB_t {b : GBlock} {n number regs words : Int} (h : endsB b n regs = true) (h2 : ∀ m, m < b.ins.length → fitsB (b.ins.getD m default) number regs words = true) : blockB b n number regs words = true := by
  unfold blockB
  rw [h, all_iff_getD.2 h2]
  rfl
theorem one_no1 {f : GFn} {number words : Int} (h : ¬ (0 ≤ f.regs ∧ f.regs ≤ 4000 ∧ ¬ (f.blocks.length : Int) = 0)) : false = oneB f number words := by
  unfold oneB
  rw [decide_eq_false (fun hk => h ⟨hk.1, hk.2.1, fun e => hk.2.2 (List.eq_nil_of_length_eq_zero (by omega))⟩)]
  rfl
theorem one_no2 {f : GFn} {number words : Int} {j : Nat} (hj : j < f.blocks.length) (h : endsB (f.blocks.getD j default) f.blocks.length f.regs = false) : false = oneB f number words := by
  unfold oneB
  rw [all_false_at hj (by unfold blockB; rw [h]; rfl), Bool.and_false]
theorem one_no3 {f : GFn} {number words : Int} {j i : Nat} (hj : j < f.blocks.length) (hi : i < (f.blocks.getD j default).ins.length) (h : fitsB ((f.blocks.getD j default).ins.getD i default) number f.regs words = false) : false = oneB f number words := by
  unfold oneB
  rw [all_false_at hj (by unfold blockB; rw [all_false_at hi h, Bool.and_false]), Bool.and_false]
theorem one_yes {f : GFn} {number words : Int} (h : 0 ≤ f.regs ∧ f.regs ≤ 4000) (h0 : ¬ (f.blocks.length : Int) = 0) (hb : ∀ i, i < f.blocks.length → blockB (f.blocks.getD i default) f.blocks.length number f.regs words = true) : true = oneB f number words := by
  unfold oneB
  rw [decide_eq_true ⟨h.1, h.2, fun e => h0 (by rw [e]; rfl)⟩, all_iff_getD.2 hb]
  rfl
end Lg
end Go.Proofs.Ytpfhmodjjljpjaa

namespace Go.Proofs.Ytpfhmodjjljpjaa
open Go.RowKit
namespace Lg

/-! ### Tidying: the plain law -/
/-- A function that may be, as far as its graph goes. -/
structure VF (f : GFn) : Prop where
  ne : 0 < f.blocks.length
  ends : ∀ k, k < f.blocks.length → endsB (f.blocks.getD k default) f.blocks.length f.regs = true
theorem withinB_iff {i n : Int} : withinB i n = true ↔ 0 ≤ i ∧ i < n := by
  simp [withinB]
structure Ends (f : GFn) (b : GBlock) : Prop where
  e : (b.fin = 1 ∧ (0 ≤ b.to ∧ b.to < (f.blocks.length : Int)) ∧ b.v = 0 ∧ b.els = 0) ∨ (b.fin = 2 ∧ (0 ≤ b.to ∧ b.to < (f.blocks.length : Int)) ∧ (0 ≤ b.els ∧ b.els < (f.blocks.length : Int)) ∧ 0 ≤ b.v ∧ b.v < f.regs) ∨ (b.fin = 3 ∧ b.v = 0 ∧ b.to = 0 ∧ b.els = 0)
theorem ends_of {f : GFn} {b : GBlock} (h : endsB b f.blocks.length f.regs = true) : Ends f b := by
  unfold endsB at h
  split at h
  · simp only [Bool.and_eq_true, withinB_iff, beq_iff_eq] at h
    exact ⟨.inl ⟨by assumption, h.1.1, h.1.2, h.2⟩⟩
  · split at h
    · simp only [Bool.and_eq_true, withinB_iff] at h
      exact ⟨.inr (.inl ⟨by assumption, h.1.1, h.1.2, h.2⟩)⟩
    · simp only [Bool.and_eq_true, beq_iff_eq] at h
      exact ⟨.inr (.inr ⟨h.1.1.1, h.1.1.2, h.1.2, h.2⟩)⟩
theorem VF.at {f : GFn} (h : VF f) {k : Nat} (hk : k < f.blocks.length) : Ends f (f.blocks.getD k default) := ends_of (h.ends k hk)
theorem Ends.follows {f : GFn} {b : GBlock} (h : Ends f b) {x : Int} (hx : x ∈ follows b) : 0 ≤ x ∧ x < (f.blocks.length : Int) := by
  unfold Lg.follows at hx
  rcases h.e with ⟨h1, h2, _⟩ | ⟨h1, h2, h3, _⟩ | ⟨h1, _⟩
  · rw [if_pos h1] at hx; simp at hx; omega
  · rw [if_neg (by omega), if_pos h1] at hx; simp at hx; omega
  · rw [if_neg (by omega), if_neg (by omega)] at hx; cases hx
theorem VF.inN {f : GFn} (h : VF f) : InN f := fun l hl x hx => by
  obtain ⟨k, hk, rfl⟩ := mem_getD hl
  rw [nextL_length] at hk
  rw [nextL_getD] at hx
  exact (h.at hk).follows hx

/-! Heads -/
def headsL (f : GFn) : List Nat := (List.range f.blocks.length).filter (isHead f)
theorem pathsL_eq (f : GFn) : pathsL f = (headsL f).map (pathAt f) := rfl
theorem heads_lt {f : GFn} {x : Nat} (h : x ∈ headsL f) : x < f.blocks.length ∧ isHead f x = true := by
  obtain ⟨h1, h2⟩ := List.mem_filter.1 h
  exact ⟨by simpa using h1, h2⟩
theorem mem_heads {f : GFn} {x : Nat} (h1 : x < f.blocks.length) (h2 : isHead f x = true) : x ∈ headsL f := List.mem_filter.2 ⟨by simpa using h1, h2⟩
theorem heads_nodup (f : GFn) : (headsL f).Nodup := List.nodup_range.sublist List.filter_sublist
theorem isHead_iff {f : GFn} {x : Nat} : isHead f x = true ↔ (reachL f).getD x default = true ∧ (byL f).getD x default < 0 := by
  simp only [isHead, Bool.and_eq_true, decide_eq_true_eq]
theorem zero_head {f : GFn} (h : VF f) : isHead f 0 = true := by
  rw [isHead_iff]
  refine ⟨(reachL_iff f 0).2 (RF.refl (by omega) (by rw [nextL_length]; have := h.ne; omega) (by omega)), ?_⟩
  rw [byL_getD f h.ne]
  unfold takenAt
  rw [if_neg (fun hc => Nat.lt_irrefl 0 hc.1)]
  omega
theorem heads_zero {f : GFn} (h : VF f) : 0 < (headsL f).length ∧ (headsL f).getD 0 default = 0 := by
  obtain ⟨m, hm⟩ : ∃ m, f.blocks.length = m + 1 := ⟨f.blocks.length - 1, by have := h.ne; omega⟩
  have e : headsL f = 0 :: ((List.range m).map Nat.succ).filter (isHead f) := by
    unfold headsL
    rw [hm, List.range_succ_eq_map, List.filter_cons_of_pos (zero_head h)]
  rw [e]
  exact ⟨by simp, rfl⟩
theorem paths_length (f : GFn) : (pathsL f).length = (headsL f).length := by rw [pathsL_eq, List.length_map]
theorem path_at {f : GFn} (h : VF f) {j : Nat} (hj : j < (headsL f).length) : ∃ p, PathOf f ((headsL f).getD j default) p ∧ (pathsL f).getD j default = ints p := by
  have hm := heads_lt (getD_mem hj)
  obtain ⟨p, hp⟩ := (path_of h.inN hm.1 hm.2).2
  exact ⟨p, hp, by rw [pathsL_eq, getD_map _ _ hj, hp.e]⟩
theorem headOf_ints (p : List Nat) : headOf (ints p) = ((p.getD 0 default : Nat) : Int) := ints_getD p 0
theorem path_head {f : GFn} (h : VF f) {j : Nat} (hj : j < (headsL f).length) : headOf ((pathsL f).getD j default) = (((headsL f).getD j default : Nat) : Int) := by
  obtain ⟨p, hp, e⟩ := path_at h hj
  rw [e, headOf_ints, hp.h]
theorem begins_head {f : GFn} (h : VF f) {j : Nat} (hj : j < (headsL f).length) : begins (pathsL f) (((headsL f).getD j default : Nat) : Int) = (j : Int) := by
  unfold begins
  refine fstIdx_hit (fun p : List Int => p.getD 0 default == (((headsL f).getD j default : Nat) : Int)) _ (by rw [paths_length]; exact hj) (beq_iff_eq.2 (path_head h hj)) (fun i hi => beq_eq_false_iff_ne.2 (fun e => ?_))
  have h1 := path_head h (show i < (headsL f).length by omega)
  have h2 : (((headsL f).getD i default : Nat) : Int) = (((headsL f).getD j default : Nat) : Int) := h1.symm.trans e
  have := nodup_getD (heads_nodup f) (i := i) (j := j) (by omega) hj (by omega)
  omega
/-- The number of a head. -/
theorem begins_of {f : GFn} (h : VF f) {x : Nat} (hx : x < f.blocks.length) (hh : isHead f x = true) : ∃ j, j < (headsL f).length ∧ (headsL f).getD j default = x ∧ begins (pathsL f) (x : Int) = (j : Int) := by
  obtain ⟨j, hj, e⟩ := mem_getD (mem_heads hx hh)
  exact ⟨j, hj, e, by rw [← e]; exact begins_head h hj⟩

/-! What follows a reached block -/
theorem reach_step {f : GFn} (h : VF f) {x : Nat} (hx : x < f.blocks.length) (hr : (reachL f).getD x default = true) {y : Int} (hy : y ∈ follows (f.blocks.getD x default)) : y.toNat < f.blocks.length ∧ ((y.toNat : Nat) : Int) = y ∧ (reachL f).getD y.toNat default = true := by
  have h1 := (h.at hx).follows hy
  refine ⟨by omega, by omega, (reachL_iff f _).2 ?_⟩
  exact RF.step ((reachL_iff f x).1 hr) (by rw [nextL_getD]; exact hy) h1.1 (by rw [nextL_length]; exact h1.2) (by omega)
/-- It is a head, or taken in by that block. -/
theorem step_cases {f : GFn} (h : VF f) {x : Nat} (hx : x < f.blocks.length) (hr : (reachL f).getD x default = true) {y : Int} (hy : y ∈ follows (f.blocks.getD x default)) : isHead f y.toNat = true ∨ Takes f x y.toNat := by
  obtain ⟨h1, h2, h3⟩ := reach_step h hx hr hy
  by_cases hb : (byL f).getD y.toNat default < 0
  · exact .inl (isHead_iff.2 ⟨h3, hb⟩)
  · have ht := takes_of h.inN h1 hb
    have hm : (x : Int) ∈ (fromL f).getD y.toNat default := (mem_fromL h.inN h1).2 ⟨x, hx, rfl, hr, by rw [h2, nextL_getD]; exact hy⟩
    rw [ht.one] at hm
    have e : x = ((byL f).getD y.toNat default).toNat := by have := List.mem_singleton.1 hm; omega
    exact .inr (by rw [e]; exact ht)
theorem last_head {f : GFn} (h : VF f) {i : Nat} {p : List Nat} (hp : PathOf f i p) {y : Int} (hy : y ∈ follows (f.blocks.getD (lastN p) default)) : y.toNat < f.blocks.length ∧ ((y.toNat : Nat) : Int) = y ∧ isHead f y.toNat = true := by
  have hl : lastN p ∈ p := getD_mem (by have := List.length_pos_iff.2 hp.g.ne; omega)
  obtain ⟨h1, h2, h3⟩ := reach_step h (hp.g.lt _ hl) (hp.g.rch _ hl) hy
  rcases step_cases h (hp.g.lt _ hl) (hp.g.rch _ hl) hy with h4 | h4
  · exact ⟨h1, h2, h4⟩
  · exact absurd h4 (hp.last _)
theorem blk_nat (f : GFn) (x : Nat) : blk f (x : Int) = f.blocks.getD x default := by unfold blk; simp
theorem leads_of {f : GFn} (h : VF f) {i : Nat} {p : List Nat} (hp : PathOf f i p) {y : Int} (hy : y ∈ follows (f.blocks.getD (lastN p) default)) : leads (pathsL f) (begins (pathsL f) y) y = true := by
  obtain ⟨h1, h2, h3⟩ := last_head h hp hy
  obtain ⟨j, hj, e, hb⟩ := begins_of h h1 h3
  rw [h2] at hb
  rw [leads_iff, hb]
  refine ⟨by omega, by rw [paths_length]; omega, ?_⟩
  rw [show ((j : Int)).toNat = j by omega, path_head h hj, e, h2]

theorem chn_ints {f : GFn} {p : List Nat} (hg : Grown f p) : chn f (ints p) := by
  rw [chn_iff]
  intro i hi
  rw [ints_length] at hi
  have ht := hg.link i hi
  rw [ints_getD, ints_getD]
  exact ⟨by rw [blk_nat]; exact ht.fin, by rw [blk_nat]; exact ht.to⟩
theorem tidyG_at {f : GFn} {j : Nat} (hj : j < (headsL f).length) : (tidyG f).blocks.getD j default = newBlock f (pathsL f) ((pathsL f).getD j default) := by
  unfold tidyG
  exact getD_map _ _ (by rw [paths_length]; exact hj)
theorem tidyG_length (f : GFn) : (tidyG f).blocks.length = (headsL f).length := by simp [tidyG, paths_length]
theorem lastOf_path {f : GFn} {i : Nat} {p : List Nat} (hp : PathOf f i p) : blk f (lastOf (ints p)) = f.blocks.getD (lastN p) default := by
  rw [lastOf_ints hp.g.ne, blk_nat]
theorem lastN_mem {f : GFn} {i : Nat} {p : List Nat} (hp : PathOf f i p) : lastN p ∈ p := getD_mem (by have := List.length_pos_iff.2 hp.g.ne; omega)

/-- What is tidied holds. -/
theorem tidy_holds {f : GFn} (h : VF f) : Holds f (tidyG f) (pathsL f) := by
  refine ⟨by rw [tidyG_length, paths_length], by rw [paths_length]; have := (heads_zero h).1; omega, rfl, fun p hp => ?_, ?_, fun j hj => ?_⟩
  · have h1 := path_in h.inN hp
    exact ⟨List.length_pos_iff.1 (by omega), h1.2.2⟩
  · rw [path_head h (heads_zero h).1, (heads_zero h).2]; rfl
  · rw [paths_length] at hj
    obtain ⟨p, hp, e⟩ := path_at h hj
    rw [tidyG_at hj, e]
    refine ⟨chn_ints hp.g, rfl, ?_⟩
    have hE := h.at (hp.g.lt _ (lastN_mem hp))
    unfold endOk newBlock
    simp only
    rw [lastOf_path hp]
    refine ⟨trivial, trivial, ?_⟩
    rcases hE.e with ⟨h1, h2, h3, h4⟩ | ⟨h1, h2, h3, h4⟩ | ⟨h1, h2, h3, h4⟩
    · rw [if_pos h1, if_neg (by omega), if_neg (by omega), h4]
      exact ⟨leads_of h hp (by unfold follows; rw [if_pos h1]; simp), rfl⟩
    · rw [if_neg (by omega), if_pos h1, if_neg (by omega), if_pos h1]
      exact ⟨leads_of h hp (by unfold follows; rw [if_neg (by omega), if_pos h1]; simp), leads_of h hp (by unfold follows; rw [if_neg (by omega), if_pos h1]; simp)⟩
    · rw [if_neg (by omega), if_neg (by omega), if_pos h1, if_neg (by omega)]
      exact ⟨h3.symm, h4.symm⟩

/-! ### The tidied function's own graph -/
theorem tidy_follows {f : GFn} (h : VF f) {j : Nat} (hj : j < (headsL f).length) {p : List Nat} (hp : PathOf f ((headsL f).getD j default) p) (e : (pathsL f).getD j default = ints p) :
    follows ((tidyG f).blocks.getD j default) = (follows (f.blocks.getD (lastN p) default)).map (begins (pathsL f)) := by
  rw [tidyG_at hj, e]
  have hE := h.at (hp.g.lt _ (lastN_mem hp))
  unfold follows newBlock
  simp only
  rw [lastOf_path hp]
  rcases hE.e with ⟨h1, _⟩ | ⟨h1, _⟩ | ⟨h1, _⟩
  · rw [if_pos h1, if_pos h1, if_neg (by omega)]; rfl
  · rw [if_neg (by omega), if_pos h1, if_neg (by omega), if_pos h1, if_neg (by omega), if_pos h1]; rfl
  · rw [if_neg (by omega), if_neg (by omega), if_neg (by omega), if_neg (by omega)]; rfl
theorem begins_inj {f : GFn} (h : VF f) {x y : Nat} (hx : x < f.blocks.length) (hxh : isHead f x = true) (hy : y < f.blocks.length) (hyh : isHead f y = true) (e : begins (pathsL f) (x : Int) = begins (pathsL f) (y : Int)) : x = y := by
  obtain ⟨j, _, e1, b1⟩ := begins_of h hx hxh
  obtain ⟨j', _, e2, b2⟩ := begins_of h hy hyh
  have : j = j' := by omega
  rw [← e1, ← e2, this]
/-- A block on a path: its last one, or the next one is what it takes in. -/
theorem on_path {f : GFn} {i : Nat} {p : List Nat} (hp : PathOf f i p) {x : Nat} (hx : x ∈ p) : x = lastN p ∨ ∃ y ∈ p, Takes f x y := by
  obtain ⟨k, hk, rfl⟩ := mem_getD hx
  by_cases hl : k + 1 < p.length
  · exact .inr ⟨_, getD_mem hl, hp.g.link k hl⟩
  · left; unfold lastN; rw [show p.length - 1 = k by omega]
theorem head_on_path {f : GFn} (h : VF f) {i : Nat} {p : List Nat} (hp : PathOf f i p) {x : Nat} (hx : x ∈ p) (hh : isHead f x = true) : x = i := by
  obtain ⟨k, hk, rfl⟩ := mem_getD hx
  cases k with
  | zero => exact hp.h
  | succ k => exact absurd (hp.g.link k hk) (byL_neg (hp.g.lt _ hx) (isHead_iff.1 hh).2 h.inN _)
theorem takes_follows {f : GFn} {x y : Nat} (h : Takes f x y) : follows (f.blocks.getD x default) = [(y : Int)] := by
  unfold follows; rw [if_pos h.fin, h.to]

/-- Each reached block lies on a path, whose number is reached. -/
theorem reached_on {f : GFn} (h : VF f) {x : Nat} (hx : RF (nextL f) (-1) 0 x) : ∃ j p, j < (headsL f).length ∧ PathOf f ((headsL f).getD j default) p ∧ (pathsL f).getD j default = ints p ∧ x ∈ p ∧ RF (nextL (tidyG f)) (-1) 0 j := by
  have hg : (nextL (tidyG f)).length = (headsL f).length := by rw [nextL_length, tidyG_length]
  induction hx with
  | refl h0 h1 h2 =>
    obtain ⟨z0, z1⟩ := heads_zero h
    obtain ⟨p, hp, e⟩ := path_at h z0
    refine ⟨0, p, z0, hp, e, ?_, RF.refl (by omega) (by rw [hg]; omega) (by omega)⟩
    have h3 := hp.h
    rw [z1] at h3
    show 0 ∈ p
    rw [← h3]
    exact getD_mem (List.length_pos_iff.2 hp.g.ne)
  | @step x y hr hy h0 h1 h2 ih =>
    obtain ⟨j, p, hj, hp, e, hxp, hrg⟩ := ih
    have hxl := hp.g.lt x hxp
    have hxr := hp.g.rch x hxp
    rw [nextL_getD] at hy
    rcases step_cases h hxl hxr hy with hh | ht
    · obtain ⟨y1, y2, y3⟩ := reach_step h hxl hxr hy
      obtain ⟨j2, hj2, e2, hb2⟩ := begins_of h y1 hh
      obtain ⟨p2, hp2, ep2⟩ := path_at h hj2
      have hlast : x = lastN p := by
        rcases on_path hp hxp with hl | ⟨z, hz, ht⟩
        · exact hl
        · exfalso
          rw [takes_follows ht] at hy
          have e3 : y.toNat = z := by simp at hy; omega
          rw [e3] at hh
          exact byL_neg ht.kn (isHead_iff.1 hh).2 h.inN _ ht
      refine ⟨j2, p2, hj2, hp2, ep2, ?_, ?_⟩
      · have h3 := hp2.h
        rw [e2] at h3
        rw [← h3]
        exact getD_mem (List.length_pos_iff.2 hp2.g.ne)
      · have h4 : (j2 : Int) ∈ (nextL (tidyG f)).getD j default := by
          rw [nextL_getD, tidy_follows h hj hp e, ← hlast, List.mem_map]
          exact ⟨y, hy, by rw [← y2]; exact hb2⟩
        have := RF.step hrg h4 (by omega) (by rw [hg]; omega) (by omega)
        simpa using this
    · refine ⟨j, p, hj, hp, e, ?_, hrg⟩
      rcases on_path hp hxp with hl | ⟨z, hz, ht'⟩
      · rw [hl] at ht; exact absurd ht (hp.last _)
      · rw [ht.uniq ht']; exact hz
theorem tidy_reached {f : GFn} (h : VF f) {k : Nat} (hk : k < (headsL f).length) : RF (nextL (tidyG f)) (-1) 0 k := by
  have hm := heads_lt (getD_mem hk)
  obtain ⟨j, p, hj, hp, e, hx, hr⟩ := reached_on h ((reachL_iff f _).1 (isHead_iff.1 hm.2).1)
  have h1 := head_on_path h hp hx hm.2
  have := nodup_getD (heads_nodup f) hk hj h1
  rw [this]; exact hr

/-! ### Nothing is left to join -/
def srcs (next : List (List Int)) (k : Nat) (m : Nat) : List Int := (List.range m).flatMap (fun j => List.replicate ((next.getD j default).count (k : Int)) (j : Int))
theorem mem_srcs {next : List (List Int)} {k m : Nat} {x : Int} : x ∈ srcs next k m ↔ ∃ j : Nat, j < m ∧ x = (j : Int) ∧ (k : Int) ∈ next.getD j default := by
  unfold srcs
  rw [List.mem_flatMap]
  constructor
  · rintro ⟨j, h1, h2⟩
    obtain ⟨h3, h4⟩ := List.mem_replicate.1 h2
    exact ⟨j, by simpa using h1, h4, List.count_pos_iff.1 (by omega)⟩
  · rintro ⟨j, h1, h2, h3⟩
    exact ⟨j, by simpa using h1, List.mem_replicate.2 ⟨by have := List.count_pos_iff.2 h3; omega, h2⟩⟩
theorem flatMap_one {g : Nat → List Int} {l : Nat} {z : List Int} : ∀ (n : Nat), l < n → g l = z → (∀ i, i < n → i ≠ l → g i = []) → (List.range n).flatMap g = z
  | 0, h, _, _ => by omega
  | n + 1, h, hl, hz => by
    rw [List.range_succ, List.flatMap_append]
    have hsing : [n].flatMap g = g n := by simp
    rw [hsing]
    by_cases e : l = n
    · have : (List.range n).flatMap g = [] := by
        rw [List.flatMap_eq_nil_iff]
        intro i hi
        exact hz i (by have := List.mem_range.1 hi; omega) (by have := List.mem_range.1 hi; omega)
      rw [this, ← e, hl]; rfl
    · rw [flatMap_one n (by omega) hl (fun i hi hne => hz i (by omega) hne), hz n (by omega) (by omega), List.append_nil]
theorem tidy_most {f : GFn} (h : VF f) {k : Nat} (hk : k < (headsL f).length) (hk0 : 0 < k) : srcs (nextL (tidyG f)) k (headsL f).length ≠ [] ∧ ∀ j : Nat, srcs (nextL (tidyG f)) k (headsL f).length = [(j : Int)] → j ≠ k → ((tidyG f).blocks.getD j default).fin = 1 → False := by
  constructor
  · intro he
    have hr := tidy_reached h hk
    cases hr with
    | @step x y hx hy h0 h1 h2 =>
      have hm : (x : Int) ∈ srcs (nextL (tidyG f)) y.toNat (headsL f).length := mem_srcs.2 ⟨x, by have := hx.lt; rw [nextL_length, tidyG_length] at this; exact this, rfl, by rw [show ((y.toNat : Nat) : Int) = y by omega]; exact hy⟩
      rw [he] at hm
      cases hm
    | refl => omega
  · intro j hs hjk hfin
    have hjm : (j : Int) ∈ srcs (nextL (tidyG f)) k (headsL f).length := by rw [hs]; simp
    obtain ⟨j', hj, ej, hkf⟩ := mem_srcs.1 hjm
    have ej' : j = j' := by omega
    subst ej'
    obtain ⟨p, hp, e⟩ := path_at h hj
    rw [nextL_getD, tidy_follows h hj hp e, List.mem_map] at hkf
    obtain ⟨y, hy, hby⟩ := hkf
    obtain ⟨y1, y2, y3⟩ := last_head h hp hy
    have hhk := heads_lt (getD_mem hk)
    have eH : y.toNat = (headsL f).getD k default := begins_inj h y1 y3 hhk.1 hhk.2 (by rw [y2, hby, begins_head h hk])
    have hll := hp.g.lt _ (lastN_mem hp)
    have hlr := hp.g.rch _ (lastN_mem hp)
    have hlfin : (f.blocks.getD (lastN p) default).fin = 1 := by
      rw [tidyG_at hj, e] at hfin
      unfold newBlock at hfin
      simp only at hfin
      rwa [lastOf_path hp] at hfin
    have hlfol : follows (f.blocks.getD (lastN p) default) = [y] := by
      have h8 := hy
      unfold follows at h8 ⊢
      rw [if_pos hlfin] at h8 ⊢
      rw [List.mem_singleton.1 h8]
    have hlne : lastN p ≠ (headsL f).getD k default := fun e2 => by
      have h5 := head_on_path h hp (lastN_mem hp) (by rw [e2]; exact hhk.2)
      have h6 := nodup_getD (heads_nodup f) hj hk (h5.symm.trans e2)
      exact hjk h6
    have hone : (fromL f).getD ((headsL f).getD k default) default = [((lastN p : Nat) : Int)] := by
      rw [fromL_getD h.inN hhk.1]
      refine flatMap_one (l := lastN p) _ hll ?_ (fun x hx hne => ?_)
      · rw [if_pos hlr, nextL_getD, hlfol, ← eH, y2]
        simp
      · split
        · rename_i hxr
          have hnm : ¬ (((headsL f).getD k default : Nat) : Int) ∈ (nextL f).getD x default := fun hm => by
            rw [nextL_getD] at hm
            obtain ⟨j2, p2, hj2, hp2, e2, hx2, _⟩ := reached_on h ((reachL_iff f x).1 hxr)
            have hlast : x = lastN p2 := by
              rcases on_path hp2 hx2 with hl | ⟨z, hz, ht⟩
              · exact hl
              · exfalso
                rw [takes_follows ht] at hm
                have e3 : (headsL f).getD k default = z := by have := List.mem_singleton.1 hm; omega
                have hh := hhk.2
                rw [e3] at hh
                exact byL_neg ht.kn (isHead_iff.1 hh).2 h.inN _ ht
            have hm2 : (j2 : Int) ∈ srcs (nextL (tidyG f)) k (headsL f).length := mem_srcs.2 ⟨j2, hj2, rfl, by
              rw [nextL_getD, tidy_follows h hj2 hp2 e2, List.mem_map, ← hlast]
              exact ⟨_, hm, begins_head h hk⟩⟩
            rw [hs] at hm2
            have e4 : j2 = j := by simp at hm2; omega
            subst e4
            have e5 : ints p2 = ints p := e2.symm.trans e
            have e6 : lastN p2 = lastN p := by
              have h7 := lastOf_ints hp2.g.ne
              rw [e5, lastOf_ints hp.g.ne] at h7
              omega
            exact hne (hlast.trans e6)
          rw [List.count_eq_zero.2 hnm]
          rfl
        · rfl
    have hby2 : (byL f).getD ((headsL f).getD k default) default = ((lastN p : Nat) : Int) := by
      rw [byL_getD f hhk.1]
      unfold takenAt
      rw [hone]
      refine if_pos ⟨?_, (isHead_iff.1 hhk.2).1, rfl, ?_, ?_⟩
      · rcases Nat.eq_zero_or_pos ((headsL f).getD k default) with h0 | h0
        · exfalso
          have := nodup_getD (heads_nodup f) hk (heads_zero h).1 (h0.trans (heads_zero h).2.symm)
          omega
        · exact h0
      · show ¬ ((lastN p : Nat) : Int) = _
        omega
      · show (blk f ((lastN p : Nat) : Int)).fin = 1
        rw [blk_nat]; exact hlfin
    have := (isHead_iff.1 hhk.2).2
    omega
end Lg
end Go.Proofs.Ytpfhmodjjljpjaa
