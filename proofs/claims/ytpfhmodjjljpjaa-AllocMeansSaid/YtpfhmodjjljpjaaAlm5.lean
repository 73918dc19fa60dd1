import Derived.Test.YtpfhmodjjljpjaaAlm4
set_option linter.unusedVariables false
set_option linter.unusedSimpArgs false
namespace Go.Proofs.Ytpfhmodjjljpjaa
open Go.RowKit
namespace Lg
set_option maxRecDepth 100000
set_option linter.unusedVariables false
set_option linter.unusedSimpArgs false
theorem body58 : (Try.prog.funcs[58]?).map (fun fn => (fn.name == "runtime.NumGoroutine" || fn.body.isNone)) = some false := by kernel_rfl
theorem beh_spec (f : GFn) (li lo : List (List Bool)) (k : Int) (hF : LF f) (hkk : 0 ≤ k ∧ k < (f.blocks.length : Int)) (hS : SzL f lo) : Spec Try.prog 58 [.agg [.v (.int .i64 f.regs), .r 1], .agg [.r 2, .r 3], .v (.int .i64 k)] 4 [(1, .fz 5 (f.blocks.map eBlock)), (2, .fz 1 (li.map eBs)), (3, .fz 1 (lo.map eBs))] (.r 4) 5 [(4, .fz 1 ((behL (f.blocks.getD k.toNat default) (lo.getD k.toNat default)).map eBs))] := by
 have hFr := hF.regs
 have hSl := hS.len
 have hob : (lo.getD k.toNat default).length = f.regs.toNat := hS.at (k := k.toNat) (by omega)
 have hBi := hF.ins (f.blocks.getD k.toNat default) (getD_mem (by omega))
 have hBo : BOk (lo.getD k.toNat default).length (f.blocks.getD k.toNat default) := by rw [hob]; exact hF.ok _ (getD_mem (by omega))
 have hbl := behL_len (f.blocks.getD k.toNat default) (lo.getD k.toNat default)
 refine spec_of D (fn := Try.f58) rfl rfl (Nat.le_of_ble_eq_true rfl) ?_
 refine W_seq ?_
 refine W_seqK (b' := 52) rfl rfl ?_
 refine q1 3 4 1 rfl rfl (T_box rfl rfl flat_agg) rfl ?_
 refine q1 4 20 2 rfl rfl (T_box rfl rfl flat_agg) rfl ?_
 refine q1 6 36 3 rfl rfl (T_nils [(48, 1)] (T_assign rfl rfl) rfl (.inr ⟨rfl, rfl⟩) (.cons (.nil rfl) .nil) (lv' := .r 36) (upd' := [(36, .row 48 1 (List.map eBs ([] : List (List Bool))))]) (nn' := 1) rfl rfl) rfl ?_
 refine k_done rfl ?_
 refine thenK_n ?_
 refine W_seq ?_
 refine W_seqK (b' := 164) rfl rfl ?_
 refine q0 12 52 1 rfl rfl (T_fa D (m := 1) rfl rfl rfl rfl rfl rfl) rfl ?_
 refine q0 13 68 2 rfl rfl (T_load_b D rfl rfl rfl rfl rfl rfl) rfl ?_
 refine q0 14 84 3 rfl rfl (T_move rfl rfl) rfl ?_
 refine q0 15 100 4 rfl rfl (T_indexAddrZ D rfl rfl rfl rfl rfl rfl rfl rfl (by omega) (by omega)) rfl ?_
 refine q1 16 116 5 rfl rfl (T_ldEA D (l := [.r 116, .v _, .v _, .v _, .v _]) (nn := 1) (upd := [(116, .fz 8 _)]) rfl rfl rfl rfl rfl (by omega) rfl rfl rfl rfl rfl) rfl ?_
 refine qn 7 132 6 rfl rfl (T_nilbox [(70, 8)] (T_alloc D rfl rfl rfl) rfl (.cons (.nil rfl) <| .cons (.same _) <| .cons (.same _) <| .cons (.same _) <| .cons (.same _) <| .nil) (upd' := [(132, .box 72 [.r 133, .v (.int .i64 0), .v (.int .i64 0), .v (.int .i64 0), .v (.int .i64 0)]), (133, .row 70 8 (List.map eTac ([] : List (GTac))))]) (nn' := 2) rfl rfl) rfl ?_
 refine s1 148 7 rfl rfl (T_stB D (cs' := [_, _, _, _, _]) rfl rfl rfl rfl flat_agg rfl rfl (Nat.le_of_ble_eq_true rfl) rfl) rfl ?_
 refine k_done rfl ?_
 refine thenK_n ?_
 refine W_seq ?_
 refine W_anyK (b' := 308) rfl rfl rfl ?_
 refine q0 17 164 1 rfl rfl (T_load_bA D (l := [_, _, _, _, _]) rfl rfl rfl rfl rfl rfl rfl) rfl ?_
 refine q0 18 180 2 rfl rfl (T_fa D (m := 1) rfl rfl rfl rfl rfl rfl) rfl ?_
 refine q0 19 196 3 rfl rfl (T_load_b D rfl rfl rfl rfl rfl rfl) rfl ?_
 refine q0 20 212 4 rfl rfl (T_move rfl rfl) rfl ?_
 refine q0 21 228 5 rfl rfl (T_indexAddrZ D rfl rfl rfl rfl rfl rfl rfl rfl (by omega) (by omega)) rfl ?_
 refine q1 22 244 6 rfl rfl (T_ldE D (lv := .r 244) (nn := 1) (upd := [(244, .fz 1 _)]) rfl rfl rfl rfl rfl (by omega) rfl rfl rfl rfl) rfl ?_
 refine q1 23 260 7 rfl rfl (T_callR (lvs := [_, _]) (L := [(1, 116), (2, 244)]) (keep := false) (end_spec (f.blocks.getD k.toNat default) (lo.getD k.toNat default) (by omega) hBo.2) body102 rfl rfl rfl rfl (.fz rfl (.fz rfl (.nil))) rfl (.inl rfl) rfl) rfl ?_
 refine qn 8 276 8 rfl rfl (T_nilbox [(4, 1)] (T_alloc D rfl rfl rfl) rfl (.cons (.nil rfl) <| .nil) (upd' := [(276, .box 124 [.r 277]), (277, .row 4 1 (List.map eB ([] : List (Bool))))]) (nn' := 2) rfl rfl) rfl ?_
 refine s1 292 9 rfl rfl (T_stB D (cs' := [_]) rfl rfl rfl rfl (flat_sl rfl) rfl rfl (Nat.le_of_ble_eq_true rfl) rfl) rfl ?_
 refine k_done rfl ?_
 refine ⟨rfl, ?_⟩
 refine thenK_n ?_
 refine W_seq ?_
 refine W_seqK (b' := 404) rfl rfl ?_
 refine q0 24 308 1 rfl rfl (T_fa D (m := 0) rfl rfl rfl rfl rfl rfl) rfl ?_
 refine q0 25 324 2 rfl rfl (T_load_b D rfl rfl rfl rfl rfl rfl) rfl ?_
 refine q0 26 340 3 rfl rfl (T_len D rfl rfl rfl rfl rfl rfl) rfl ?_
 refine q1 27 356 4 rfl rfl (T_makeN D (e2 := 4) (sz2 := 1) rfl rfl rfl rfl rfl rfl rfl rfl (by simp) (by (try simp only [ty48]); omega) (by (try simp only [ty48]); omega)) rfl ?_
 refine qn 9 372 5 rfl rfl (T_nilbox [(48, 1)] (T_alloc D rfl rfl rfl) rfl (.cons (.nil rfl) <| .nil) (upd' := [(372, .box 55 [.r 373]), (373, .row 48 1 (List.map eBs ([] : List (List Bool))))]) (nn' := 2) rfl rfl) rfl ?_
 refine s1 388 6 rfl rfl (T_stB D (cs' := [_]) rfl rfl rfl rfl (flat_nest rfl) rfl rfl (Nat.le_of_ble_eq_true rfl) rfl) rfl ?_
 refine k_done rfl ?_
 refine thenK_n ?_
 refine W_seq ?_
 refine W_seq ?_
 refine W_seqK (b' := 452) rfl rfl ?_
 refine q0 28 404 1 rfl rfl (T_fa D (m := 0) rfl rfl rfl rfl rfl rfl) rfl ?_
 refine q0 29 420 2 rfl rfl (T_load_b D rfl rfl rfl rfl rfl rfl) rfl ?_
 refine q1 30 436 3 rfl rfl (T_call (lvs := [_]) (L := [(1, 116)]) (lv := .fn 129 [.p 436 0]) (upd := [(436, .box 67 [.r 116])]) (nn := 1) false (backt_spec (f.blocks.getD k.toNat default).ins) body103 rfl rfl rfl rfl (.fz rfl (.nil)) rfl (.inl rfl) rfl rfl rfl) rfl ?_
 refine k_done rfl ?_
 refine thenK_n ?_
 refine W_block ?_
 refine W_range (b0 := 10) iter129 (ι := Nat) (enc := eTac) (xs := (f.blocks.getD k.toNat default).ins) 67 8 9 [(8, .p 4 0), (9, .p 6 0), (30, .fn 129 [.p 8 0])] (fun i => [(1, .fz 5 (f.blocks.map eBlock)), (2, .fz 1 (li.map eBs)), (3, .fz 1 (lo.map eBs)), (4, .box 124 [.r 5]), (5, .row 4 1 ((thrK (f.blocks.getD k.toNat default) (lo.getD k.toNat default) i).map eB)), (6, .box 55 [.r 7]), (7, .nest 48 4 1 ((List.replicate i [] ++ (behL (f.blocks.getD k.toNat default) (lo.getD k.toNat default)).drop i).map (List.map eB)) none), (8, .box 67 [.r 9]), (9, .fz 8 ((f.blocks.getD k.toNat default).ins.map eTac))]) (fun q i => i = q) ((f.blocks.getD k.toNat default).ins.length) (by rfl) ?_ rfl rfl (by simp only [maxLen]; omega) (fun _ _ => ⟨rfl, Nat.le_of_ble_eq_true rfl⟩) (fun _ => rfl) (fun _ => rfl) rfl rfl (fun args w => by rfl) (fun q i l hk hJ => ?_) (fun i hJ => ?_)
 ·exact ⟨[(4, 276), (5, 260), (6, 372), (7, 356), (8, 436), (9, 116)], .same rfl rfl (.same rfl rfl (.same rfl rfl (.nil))), .fzE rfl (.fzE rfl (.fzE rfl (.box (by rfl) (.rowE rfl (.box (by rfl) (.nestE rfl (.box (by rfl) (.fzE rfl (.nil) (by rfl))) (by (rw [List.drop_of_length_le (by omega)]; simp; done)))) (by (rw [thrK_end _ _ (Nat.le_refl _)]; done)))) (by rfl)) (by rfl)) (by rfl), rfl⟩
 ·skip
  show W (some l) _ _ _ _ 106 ⟨[(32, .agg [.v (.int .i64 ((f.blocks.getD k.toNat default).ins.getD q default).op), .v (.int .i64 ((f.blocks.getD k.toNat default).ins.getD q default).d), .v (.int .i64 ((f.blocks.getD k.toNat default).ins.getD q default).a), .v (.int .i64 ((f.blocks.getD k.toNat default).ins.getD q default).b), .v (.int .i64 ((f.blocks.getD k.toNat default).ins.getD q default).k), .v (.int .i64 ((f.blocks.getD k.toNat default).ins.getD q default).base), .v (.int .i64 ((f.blocks.getD k.toNat default).ins.getD q default).size), .v (.int .u32 ((f.blocks.getD k.toNat default).ins.getD q default).n)]), (31, .v (.int .i64 (q : Int))), (8, .p 4 0), (9, .p 6 0), (30, .fn 129 [.p 8 0])], [(1, .fz 5 (f.blocks.map eBlock)), (2, .fz 1 (li.map eBs)), (3, .fz 1 (lo.map eBs)), (4, .box 124 [.r 5]), (5, .row 4 1 ((thrK (f.blocks.getD k.toNat default) (lo.getD k.toNat default) i).map eB)), (6, .box 55 [.r 7]), (7, .nest 48 4 1 ((List.replicate i [] ++ (behL (f.blocks.getD k.toNat default) (lo.getD k.toNat default)).drop i).map (List.map eB)) none), (8, .box 67 [.r 9]), (9, .fz 8 ((f.blocks.getD k.toNat default).ins.map eTac))]⟩ _
  subst hJ
  refine W_seq ?_
  refine W_seqK (b' := 122) rfl rfl ?_
  refine q0 10 106 1 rfl rfl (T_assign rfl rfl) rfl ?_
  refine k_done rfl ?_
  refine thenK_n ?_
  refine W_seqK (b' := 154) rfl rfl ?_
  refine q1 11 122 1 rfl rfl (T_alloc D rfl rfl rfl) rfl ?_
  refine s1 138 2 rfl rfl (T_stB D (cs' := [_, _, _, _, _, _, _, _]) rfl rfl rfl rfl flat_agg rfl rfl (Nat.le_of_ble_eq_true rfl) rfl) rfl ?_
  refine k_done rfl ?_
  refine ⟨rfl, ?_⟩
  refine W_block ?_
  refine W_seq ?_
  refine W_anyK (b' := 250) rfl rfl rfl ?_
  refine q0 33 154 1 rfl rfl (T_load_b D rfl rfl rfl rfl rfl rfl) rfl ?_
  refine q0 34 170 2 rfl rfl (T_move rfl rfl) rfl ?_
  refine q0 35 186 3 rfl rfl (T_load_b D rfl rfl rfl rfl rfl rfl) rfl ?_
  refine q1 36 202 4 rfl rfl (T_callR (lvs := [_]) (L := [(1, 5)]) (keep := true) (clone_spec (thrK (f.blocks.getD k.toNat default) (lo.getD k.toNat default) (q + 1)) (by rw [thrK_len]; omega)) body104 rfl rfl rfl rfl (.lend rfl (.nil)) rfl (.inr (flat_eB _)) rfl) rfl ?_
  refine q0 37 218 5 rfl rfl (T_indexAddrM D rfl rfl rfl rfl rfl rfl rfl rfl (by (simp; omega))) rfl ?_
  refine sn 234 6 rfl rfl (T_stN D rfl rfl rfl rfl rfl rfl rfl rfl (by (simp; omega)) (.inl rfl)) rfl ?_
  refine k_done rfl ?_
  refine ⟨rfl, ?_⟩
  refine thenK_n ?_
  refine W_seqK (b' := 298) rfl rfl ?_
  refine q0 38 250 1 rfl rfl (T_load_b D rfl rfl rfl rfl rfl rfl) rfl ?_
  refine q0 39 266 2 rfl rfl (T_load_bA D (l := [_, _, _, _, _, _, _, _]) rfl rfl rfl rfl rfl rfl rfl) rfl ?_
  refine q1 40 282 3 rfl rfl (T_call (lvs := [_, _]) (L := [(1, 5)]) (lv := .tup []) (upd := [(5, .row 4 1 _)]) (nn := 0) false (ahead_spec (thrK (f.blocks.getD k.toNat default) (lo.getD k.toNat default) (q + 1)) ((f.blocks.getD k.toNat default).ins.getD q default) (by rw [thrK_len]; omega) (by rw [thrK_len]; exact hBo.1 _ (getD_mem hk))) body105 rfl rfl rfl rfl (.row rfl (.nil)) rfl (.inl rfl) rfl rfl rfl) rfl ?_
  refine k_done rfl ?_
  refine blockK_n ?_
  refine ⟨rfl, q, by (try dsimp only); all_goals rfl, ?_⟩
  exact ⟨[], .nil, .fzE rfl (.fzE rfl (.fzE rfl (.box (by rfl) (.rowE rfl (.box (by rfl) (.nestE rfl (.box (by rfl) (.fzE rfl (.nil) rfl)) (by (exact congrArg (List.map (List.map eB)) (fill_back (behL (f.blocks.getD k.toNat default) (lo.getD k.toNat default)) [] _ (by omega) (behL_getD _ _ hk).symm))))) (by (rw [thrK_step (f.blocks.getD k.toNat default) (lo.getD k.toNat default) hk]; done)))) rfl) rfl) rfl, rfl⟩
 ·skip
  subst hJ
  refine blockK_n ?_
  refine thenK_n ?_
  refine W_seq ?_
  refine W_seqK (b' := 42) rfl rfl ?_
  refine q0 41 10 1 rfl rfl (T_load_b D rfl rfl rfl rfl rfl rfl) rfl ?_
  refine q0 6 26 2 rfl rfl (T_assign rfl rfl) rfl ?_
  refine k_done rfl ?_
  refine thenK_n ?_
  refine W_ret ?_
  exact .mk [(4, 7)] (.inr rfl) (.tmp rfl (.nil)) rfl (.lendNE rfl (.nil) (by (exact nestRows_eBs _))) rfl
theorem body59 : (Try.prog.funcs[59]?).map (fun fn => (fn.name == "runtime.NumGoroutine" || fn.body.isNone)) = some false := by kernel_rfl
theorem rbeh_spec (f : GFn) (li lo : List (List Bool)) (k : Int) (hF : LF f) (hkk : 0 ≤ k ∧ k < (f.blocks.length : Int)) (hS : SzL f lo) : Spec Try.prog 59 [.agg [.v (.int .i64 f.regs), .r 1], .agg [.r 2, .r 3], .v (.int .i64 k)] 4 [(1, .fz 5 (f.blocks.map eBlock)), (2, .fz 1 (li.map eBs)), (3, .fz 1 (lo.map eBs))] (.r 4) 5 [(4, .fz 1 ((behL (f.blocks.getD k.toNat default) (lo.getD k.toNat default)).map eBs))] := by
 have hFr := hF.regs
 have hSl := hS.len
 have hob : (lo.getD k.toNat default).length = f.regs.toNat := hS.at (k := k.toNat) (by omega)
 have hBi := hF.ins (f.blocks.getD k.toNat default) (getD_mem (by omega))
 have hBo : BOk (lo.getD k.toNat default).length (f.blocks.getD k.toNat default) := by rw [hob]; exact hF.ok _ (getD_mem (by omega))
 have hbl := behL_len (f.blocks.getD k.toNat default) (lo.getD k.toNat default)
 refine spec_of D (fn := Try.f59) rfl rfl (Nat.le_of_ble_eq_true rfl) ?_
 refine W_seq ?_
 refine W_seqK (b' := 52) rfl rfl ?_
 refine q1 3 4 1 rfl rfl (T_box rfl rfl flat_agg) rfl ?_
 refine q1 4 20 2 rfl rfl (T_box rfl rfl flat_agg) rfl ?_
 refine q1 6 36 3 rfl rfl (T_nils [(48, 1)] (T_assign rfl rfl) rfl (.inr ⟨rfl, rfl⟩) (.cons (.nil rfl) .nil) (lv' := .r 36) (upd' := [(36, .row 48 1 (List.map eBs ([] : List (List Bool))))]) (nn' := 1) rfl rfl) rfl ?_
 refine k_done rfl ?_
 refine thenK_n ?_
 refine W_seq ?_
 refine W_seqK (b' := 164) rfl rfl ?_
 refine q0 11 52 1 rfl rfl (T_fa D (m := 1) rfl rfl rfl rfl rfl rfl) rfl ?_
 refine q0 12 68 2 rfl rfl (T_load_b D rfl rfl rfl rfl rfl rfl) rfl ?_
 refine q0 13 84 3 rfl rfl (T_move rfl rfl) rfl ?_
 refine q0 14 100 4 rfl rfl (T_indexAddrZ D rfl rfl rfl rfl rfl rfl rfl rfl (by omega) (by omega)) rfl ?_
 refine q1 15 116 5 rfl rfl (T_ldEA D (l := [.r 116, .v _, .v _, .v _, .v _]) (nn := 1) (upd := [(116, .fz 8 _)]) rfl rfl rfl rfl rfl (by omega) rfl rfl rfl rfl rfl) rfl ?_
 refine qn 7 132 6 rfl rfl (T_nilbox [(70, 8)] (T_alloc D rfl rfl rfl) rfl (.cons (.nil rfl) <| .cons (.same _) <| .cons (.same _) <| .cons (.same _) <| .cons (.same _) <| .nil) (upd' := [(132, .box 72 [.r 133, .v (.int .i64 0), .v (.int .i64 0), .v (.int .i64 0), .v (.int .i64 0)]), (133, .row 70 8 (List.map eTac ([] : List (GTac))))]) (nn' := 2) rfl rfl) rfl ?_
 refine s1 148 7 rfl rfl (T_stB D (cs' := [_, _, _, _, _]) rfl rfl rfl rfl flat_agg rfl rfl (Nat.le_of_ble_eq_true rfl) rfl) rfl ?_
 refine k_done rfl ?_
 refine thenK_n ?_
 refine W_seq ?_
 refine W_seqK (b' := 244) rfl rfl ?_
 refine q0 16 164 1 rfl rfl (T_fa D (m := 0) rfl rfl rfl rfl rfl rfl) rfl ?_
 refine q0 17 180 2 rfl rfl (T_load_b D rfl rfl rfl rfl rfl rfl) rfl ?_
 refine q0 18 196 3 rfl rfl (T_len D rfl rfl rfl rfl rfl rfl) rfl ?_
 refine q1 19 212 4 rfl rfl (T_make D (zx := ([] : List Bool)) (enc := eBs) rfl rfl rfl rfl rfl rfl rfl (.z (.nil)) rfl (by (try simp only [ty48]); omega) (by (try simp only [ty48]); omega)) rfl ?_
 refine q0 8 228 5 rfl rfl (T_assign rfl rfl) rfl ?_
 refine k_done rfl ?_
 refine thenK_n ?_
 refine W_seq ?_
 refine W_anyK (b' := 372) rfl rfl rfl ?_
 refine q0 20 244 1 rfl rfl (T_load_bA D (l := [_, _, _, _, _]) rfl rfl rfl rfl rfl rfl rfl) rfl ?_
 refine q0 21 260 2 rfl rfl (T_fa D (m := 1) rfl rfl rfl rfl rfl rfl) rfl ?_
 refine q0 22 276 3 rfl rfl (T_load_b D rfl rfl rfl rfl rfl rfl) rfl ?_
 refine q0 23 292 4 rfl rfl (T_move rfl rfl) rfl ?_
 refine q0 24 308 5 rfl rfl (T_indexAddrZ D rfl rfl rfl rfl rfl rfl rfl rfl (by omega) (by omega)) rfl ?_
 refine q1 25 324 6 rfl rfl (T_ldE D (lv := .r 324) (nn := 1) (upd := [(324, .fz 1 _)]) rfl rfl rfl rfl rfl (by omega) rfl rfl rfl rfl) rfl ?_
 refine q1 26 340 7 rfl rfl (T_callR (lvs := [_, _]) (L := [(1, 116), (2, 324)]) (keep := false) (rlast_spec (f.blocks.getD k.toNat default) (lo.getD k.toNat default) (by omega) hBo.2) body106 rfl rfl rfl rfl (.fz rfl (.fz rfl (.nil))) rfl (.inl rfl) rfl) rfl ?_
 refine q0 9 356 8 rfl rfl (T_assign rfl rfl) rfl ?_
 refine k_done rfl ?_
 refine ⟨rfl, ?_⟩
 refine thenK_n ?_
 refine W_seq ?_
 refine W_seq ?_
 refine W_seqK (b' := 452) rfl rfl ?_
 refine q0 27 372 1 rfl rfl (T_fa D (m := 0) rfl rfl rfl rfl rfl rfl) rfl ?_
 refine q0 28 388 2 rfl rfl (T_load_b D rfl rfl rfl rfl rfl rfl) rfl ?_
 refine q0 29 404 3 rfl rfl (T_len D rfl rfl rfl rfl rfl rfl) rfl ?_
 refine q0 30 420 4 rfl rfl (T_sub64 rfl rfl rfl (by omega)) rfl ?_
 refine q0 10 436 5 rfl rfl (T_assign rfl rfl) rfl ?_
 refine k_done rfl ?_
 refine thenK_n ?_
 refine W_block ?_
 refine W_loop (ι := Nat) 8 (fun q => ⟨[(7, .p 4 0), (8, .r 6), (9, .r 7), (10, .v (.int .i64 ((q : Int) - 1)))], [(1, .fz 5 (f.blocks.map eBlock)), (2, .fz 1 (li.map eBs)), (3, .fz 1 (lo.map eBs)), (4, .box 72 [.r 5, .v (.int .i64 (f.blocks.getD k.toNat default).fin), .v (.int .i64 (f.blocks.getD k.toNat default).v), .v (.int .i64 (f.blocks.getD k.toNat default).to), .v (.int .i64 (f.blocks.getD k.toNat default).els)]), (5, .fz 8 ((f.blocks.getD k.toNat default).ins.map eTac)), (6, .row 48 1 ((List.replicate q [] ++ (behL (f.blocks.getD k.toNat default) (lo.getD k.toNat default)).drop q).map eBs)), (7, .row 4 1 ((thrK (f.blocks.getD k.toNat default) (lo.getD k.toNat default) q).map eB))]⟩) (fun q => q ≤ (f.blocks.getD k.toNat default).ins.length) (fun q => q) ((f.blocks.getD k.toNat default).ins.length) (by exact Nat.le_refl _) ?_ (fun q hJ => ?_)
 ·exact ⟨[(4, 132), (5, 116), (6, 212), (7, 340)], .same rfl rfl (.same rfl rfl (.same rfl rfl (.eq rfl (.nil) (by rfl)))), .fzE rfl (.fzE rfl (.fzE rfl (.box (by rfl) (.fzE rfl (.rowE rfl (.rowE rfl (.nil) (by (rw [thrK_end _ _ (Nat.le_refl _)]; done))) (by (refine congrArg (List.map eBs) ?_; rw [List.drop_of_length_le (by omega)]; simp; done))) (by rfl))) (by rfl)) (by rfl)) (by rfl), rfl⟩
 refine W_seq ?_
 refine W_seq ?_
 refine W_seqK (b' := 40) rfl rfl ?_
 refine q0 31 8 1 rfl rfl (T_move rfl rfl) rfl ?_
 refine q0 32 24 2 rfl rfl (T_cmp rfl rfl rfl rfl) rfl ?_
 refine k_done rfl ?_
 refine thenK_n ?_
 refine W_cond rfl (fun g1 => ?_) (fun g1 => ?_)
 ·have h1 := c_geq_t g1
  refine W_skip ?_
  refine thenK_n ?_
  refine W_seq ?_
  refine W_block ?_
  refine W_seq ?_
  refine W_seqK (b' := 120) rfl rfl ?_
  refine q0 35 40 1 rfl rfl (T_move rfl rfl) rfl ?_
  refine q0 36 56 2 rfl rfl (T_move rfl rfl) rfl ?_
  refine q0 37 72 3 rfl rfl (T_move rfl rfl) rfl ?_
  refine q0 38 88 4 rfl rfl (T_indexAddrZ D rfl rfl rfl rfl rfl rfl rfl rfl (by assumption) (by (simp only [List.length_append, List.length_replicate, List.length_drop]; omega))) rfl ?_
  refine sn 104 5 rfl rfl (T_store_e D (z := _) rfl rfl rfl rfl (flat_sl rfl) rfl rfl (by (simp only [List.length_append, List.length_replicate, List.length_drop]; omega)) (.row rfl (.nil) (by rfl)) rfl (Nat.le_of_ble_eq_true rfl) rfl) rfl ?_
  refine k_done rfl ?_
  refine thenK_n ?_
  refine W_seqK (b' := 248) rfl rfl ?_
  refine q0 39 120 1 rfl rfl (T_fa D (m := 0) rfl rfl rfl rfl rfl rfl) rfl ?_
  refine q0 40 136 2 rfl rfl (T_load_b D rfl rfl rfl rfl rfl rfl) rfl ?_
  refine q0 41 152 3 rfl rfl (T_move rfl rfl) rfl ?_
  refine q0 42 168 4 rfl rfl (T_indexAddrZ D rfl rfl rfl rfl rfl rfl rfl rfl (by assumption) (by omega)) rfl ?_
  refine q0 43 184 5 rfl rfl (T_ldEA D (l := [.v _, .v _, .v _, .v _, .v _, .v _, .v _, .v _]) (nn := 0) (upd := []) rfl rfl rfl rfl rfl (by omega) rfl rfl rfl rfl rfl) rfl ?_
  refine q0 44 200 6 rfl rfl (T_move rfl rfl) rfl ?_
  refine q1 45 216 7 rfl rfl (T_callR (lvs := [_, _]) (L := [(1, 7)]) (keep := false) (back_spec ((f.blocks.getD k.toNat default).ins.getD ((q : Int) - 1).toNat default) (thrK (f.blocks.getD k.toNat default) (lo.getD k.toNat default) q) (by rw [thrK_len]; omega) (by rw [thrK_len]; exact hBo.1 _ (getD_mem (by omega)))) body107 rfl rfl rfl rfl (.fz rfl (.nil)) rfl (.inl rfl) rfl) rfl ?_
  refine q0 9 232 8 rfl rfl (T_assign rfl rfl) rfl ?_
  refine k_done rfl ?_
  refine blockK_n ?_
  refine thenK_n ?_
  refine W_seqK (b' := 296) rfl rfl ?_
  refine q0 33 248 1 rfl rfl (T_move rfl rfl) rfl ?_
  refine q0 34 264 2 rfl rfl (T_sub64 rfl rfl rfl (by omega)) rfl ?_
  refine q0 10 280 3 rfl rfl (T_assign rfl rfl) rfl ?_
  refine k_done rfl ?_
  refine thenK_n ?_
  have hek : ((q - 1 : Nat) : Int) = (q : Int) - 1 := by omega
  refine ⟨q - 1, by (try dsimp only); omega, by (try dsimp only); omega, ?_⟩
  exact ⟨[(4, 4), (5, 5), (6, 6), (7, 216)], .same rfl rfl (.same rfl rfl (.same rfl rfl (.eq rfl (.nil) (by (rw [hek]; done))))), .fzE rfl (.fzE rfl (.fzE rfl (.box (by rfl) (.fzE rfl (.rowE rfl (.rowE rfl (.nil) (by (rw [thrK_prev (f.blocks.getD k.toNat default) (lo.getD k.toNat default) (by omega) (by omega)]; done))) (by (exact congrArg (List.map eBs) (fill_back' (behL (f.blocks.getD k.toNat default) (lo.getD k.toNat default)) [] _ (by omega) (by omega) (by rw [behL_getD _ _ (by omega), show q - 1 + 1 = q by omega]))))) rfl)) rfl) rfl) rfl, rfl⟩
 ·have h1 := c_geq_f g1
  refine W_exit ?_
  refine thenK_e ?_
  refine thenK_e ?_
  refine blockK_hit ?_
  refine thenK_n ?_
  refine W_seq ?_
  refine W_seqK (b' := 72) rfl rfl ?_
  refine q0 46 40 1 rfl rfl (T_move rfl rfl) rfl ?_
  refine q0 6 56 2 rfl rfl (T_assign rfl rfl) rfl ?_
  refine k_done rfl ?_
  refine thenK_n ?_
  refine W_ret ?_
  exact .mk [(4, 6)] (.inr rfl) (.tmp rfl (.nil)) rfl (.lendE rfl (.nil) (by (have e : q = 0 := (by omega); subst e; rfl))) rfl
end Lg
end Go.Proofs.Ytpfhmodjjljpjaa

namespace Go.Proofs.Ytpfhmodjjljpjaa
open Go.RowKit
namespace Lg
set_option linter.unusedSimpArgs false
set_option linter.unusedVariables false
def Sub (s t : List Bool) : Prop := ∀ i, s.getD i default = true → t.getD i default = true
theorem Sub.refl (s : List Bool) : Sub s s := fun _ h => h
theorem Sub.trans {a b c : List Bool} (h : Sub a b) (k : Sub b c) : Sub a c := fun i hi => k i (h i hi)
theorem getD_lt {s : List Bool} {i : Nat} (h : s.getD i default = true) : i < s.length := by
  rcases Nat.lt_or_ge i s.length with hi | hi
  · exact hi
  · rw [List.getD, List.getElem?_eq_none hi] at h; cases h
theorem sub_within {s t : List Bool} (h : Sub s t) : withinS s t = true := withinS_iff.2 fun i _ hi => h i hi
theorem within_sub {s t : List Bool} (h : withinS s t = true) : Sub s t := fun i hi => withinS_iff.1 h i (getD_lt hi) hi
theorem setAll_get : ∀ (l : List Int) (s : List Bool) (i : Nat), (l.foldl (fun s (u : Int) => s.set u.toNat true) s).getD i default = true ↔ i < s.length ∧ ((∃ u ∈ l, u.toNat = i) ∨ s.getD i default = true)
  | [], s, i => ⟨fun h => ⟨getD_lt h, .inr h⟩, fun h => by
    rcases h.2 with ⟨u, hu, _⟩ | h
    · cases hu
    · exact h⟩
  | u :: l, s, i => by
    rw [List.foldl_cons, setAll_get l (s.set u.toNat true) i, List.length_set]
    constructor
    · rintro ⟨h1, h2⟩
      refine ⟨h1, ?_⟩
      rcases h2 with ⟨v, hv, hvi⟩ | h2
      · exact .inl ⟨v, by simp [hv], hvi⟩
      · by_cases hu : u.toNat < s.length
        · rw [getD_set hu] at h2
          split at h2
          · rename_i e; exact .inl ⟨u, by simp, e.symm⟩
          · exact .inr h2
        · rw [List.set_eq_of_length_le (by omega)] at h2; exact .inr h2
    · rintro ⟨h1, h2⟩
      refine ⟨h1, ?_⟩
      rcases h2 with ⟨v, hv, hvi⟩ | h2
      · rcases List.mem_cons.1 hv with rfl | hv
        · right
          rw [getD_set (by omega), if_pos hvi.symm]
        · exact .inl ⟨v, hv, hvi⟩
      · right
        by_cases hu : u.toNat < s.length
        · rw [getD_set hu]
          split
          · rfl
          · exact h2
        · rw [List.set_eq_of_length_le (by omega)]; exact h2
def Kill (t : GTac) (i : Nat) : Prop := 0 ≤ setsT t ∧ (setsT t).toNat = i
theorem aheadT_get (t : GTac) (s : List Bool) (i : Nat) : (aheadT t s).getD i default = true ↔ i < s.length ∧ ((∃ u ∈ usesT t, u.toNat = i) ∨ (¬ Kill t i ∧ s.getD i default = true)) := by
  unfold aheadT
  rw [setAll_get]
  have hl : (if 0 ≤ setsT t then s.set (setsT t).toNat false else s).length = s.length := by split <;> simp
  rw [hl]
  have hk : (if 0 ≤ setsT t then s.set (setsT t).toNat false else s).getD i default = true ↔ ¬ Kill t i ∧ s.getD i default = true := by
    unfold Kill
    by_cases h0 : 0 ≤ setsT t
    · rw [if_pos h0]
      by_cases hu : (setsT t).toNat < s.length
      · rw [getD_set hu]
        by_cases e : i = (setsT t).toNat
        · rw [if_pos e]; simp [h0, e]
        · rw [if_neg e]; simp [Ne.symm e]
      · rw [List.set_eq_of_length_le (by omega)]
        constructor
        · intro h; have := getD_lt h; exact ⟨by omega, h⟩
        · exact fun h => h.2
    · rw [if_neg h0]; simp [h0]
  rw [hk]
theorem endS_get (b : GBlock) (s : List Bool) (i : Nat) : (endS b s).getD i default = true ↔ i < s.length ∧ ((b.fin = 2 ∧ b.v.toNat = i) ∨ s.getD i default = true) := by
  unfold endS
  split
  · rename_i h
    by_cases hu : b.v.toNat < s.length
    · rw [getD_set hu]
      by_cases e : i = b.v.toNat
      · rw [if_pos e]; simp [h, e, hu]
      · rw [if_neg e]
        constructor
        · exact fun hs => ⟨getD_lt hs, .inr hs⟩
        · rintro ⟨_, h1 | h1⟩
          · exact absurd h1.2.symm e
          · exact h1
    · rw [List.set_eq_of_length_le (by omega)]
      constructor
      · exact fun hs => ⟨getD_lt hs, .inr hs⟩
      · rintro ⟨h0, h1 | h1⟩
        · omega
        · exact h1
  · rename_i h
    constructor
    · exact fun hs => ⟨getD_lt hs, .inr hs⟩
    · rintro ⟨_, h1 | h1⟩
      · exact absurd h1.1 h
      · exact h1
theorem aheadT_mono {t : GTac} {s s' : List Bool} (hl : s.length = s'.length) (h : Sub s s') : Sub (aheadT t s) (aheadT t s') := fun i hi => by
  rw [aheadT_get] at hi ⊢
  refine ⟨by omega, ?_⟩
  rcases hi.2 with h1 | h1
  · exact .inl h1
  · exact .inr ⟨h1.1, h i h1.2⟩
theorem endS_mono {b : GBlock} {s s' : List Bool} (hl : s.length = s'.length) (h : Sub s s') : Sub (endS b s) (endS b s') := fun i hi => by
  rw [endS_get] at hi ⊢
  exact ⟨by omega, hi.2.imp (fun h => h) (fun h1 => h i h1)⟩
theorem thrK_mono {b : GBlock} {s s' : List Bool} (hl : s.length = s'.length) (h : Sub s s') (k : Nat) : Sub (thrK b s k) (thrK b s' k) := by
  unfold thrK
  generalize hL : b.ins.drop k = l
  clear hL
  induction l with
  | nil => exact endS_mono hl h
  | cons t l ih =>
    rw [List.foldr_cons, List.foldr_cons]
    refine aheadT_mono ?_ ih
    have : ∀ (s : List Bool), (l.foldr aheadT (endS b s)).length = s.length := fun s => by
      clear ih
      induction l with
      | nil => exact endS_len b s
      | cons t l ih => rw [List.foldr_cons, aheadT_len, ih]
    rw [this, this, hl]
theorem thrS_mono {b : GBlock} {s s' : List Bool} (hl : s.length = s'.length) (h : Sub s s') : Sub (thrS b s) (thrS b s') := thrK_mono hl h 0
theorem foldr_len (b : GBlock) (s : List Bool) : ∀ (l : List GTac), (l.foldr aheadT (endS b s)).length = s.length
  | [] => endS_len b s
  | t :: l => by rw [List.foldr_cons, aheadT_len, foldr_len b s l]
theorem thrS_or {b : GBlock} {s s' u : List Bool} (h1 : s.length = u.length) (h2 : s'.length = u.length) (h : ∀ i, u.getD i default = true → s.getD i default = true ∨ s'.getD i default = true) : ∀ i, (thrS b u).getD i default = true → (thrS b s).getD i default = true ∨ (thrS b s').getD i default = true := by
  unfold thrS thrK
  generalize b.ins.drop 0 = l
  induction l with
  | nil =>
    intro i hi
    simp only [List.foldr_nil] at hi ⊢
    rw [endS_get] at hi
    rw [endS_get, endS_get]
    rcases hi.2 with h3 | h3
    · exact .inl ⟨by omega, .inl h3⟩
    · exact (h i h3).imp (fun h4 => ⟨by omega, .inr h4⟩) (fun h4 => ⟨by omega, .inr h4⟩)
  | cons t l ih =>
    intro i hi
    simp only [List.foldr_cons] at hi ⊢
    rw [aheadT_get, foldr_len] at hi
    rw [aheadT_get, aheadT_get, foldr_len, foldr_len]
    rcases hi.2 with h3 | h3
    · exact .inl ⟨by omega, .inl h3⟩
    · exact (ih i h3.2).imp (fun h4 => ⟨by omega, .inr ⟨h3.1, h4⟩⟩) (fun h4 => ⟨by omega, .inr ⟨h3.1, h4⟩⟩)
section
variable {f : GFn} {x : IO2}
theorem outJ_get (hF : LF f) (h : SzX f x) {b : Nat} (hb : b < f.blocks.length) : ∀ (m : Nat), m ≤ ((nextL f).getD b default).length → ∀ i, (outJ f x.1 x.2 b m).getD i default = true ↔ (x.2.getD b default).getD i default = true ∨ ∃ q, q < m ∧ (x.1.getD (((nextL f).getD b default).getD q default).toNat default).getD i default = true
  | 0, _, i => by rw [outJ_zero]; simp
  | m + 1, hm, i => by
    have hk := hF.follow (j := b) (m := m) hb (by omega)
    have hl := h.i.at (k := (((nextL f).getD b default).getD m default).toNat) (by omega)
    have hl2 := h.o.at hb
    rw [outJ_succ (by omega), addS_get (by rw [outJ_len]; omega), Bool.or_eq_true, outJ_get hF h hb m (by omega) i]
    constructor
    · rintro ((h1 | ⟨q, hq, h1⟩) | h1)
      · exact .inl h1
      · exact .inr ⟨q, by omega, h1⟩
      · exact .inr ⟨m, by omega, h1⟩
    · rintro (h1 | ⟨q, hq, h1⟩)
      · exact .inl (.inl h1)
      · by_cases e : q = m
        · subst e; exact .inr h1
        · exact .inl (.inr ⟨q, by omega, h1⟩)
theorem outS_get (hF : LF f) (h : SzX f x) {b : Nat} (hb : b < f.blocks.length) (i : Nat) : (outS f x b).getD i default = true ↔ (x.2.getD b default).getD i default = true ∨ ∃ q, q < ((nextL f).getD b default).length ∧ (x.1.getD (((nextL f).getD b default).getD q default).toNat default).getD i default = true := outJ_get hF h hb _ (Nat.le_refl _) i
theorem getD_set_ne {α : Type} [Inhabited α] {l : List α} {b c : Nat} (h : c ≠ b) (s : α) : (l.set b s).getD c default = l.getD c default := by
  simp only [List.getD]; rw [List.getElem?_set_ne (Ne.symm h)]
theorem iterL_last (Q : IO2 → Prop) (hQ : ∀ x, SzX f x → Q x → Q (rndK f x 0).1) : ∀ (m : Nat) (x : IO2), SzX f x → Q x → cntL x.1 < m → ∃ y, SzX f y ∧ Q y ∧ (rndK f y 0).2 = false ∧ iterL f m x = (rndK f y 0).1
  | 0, x, _, _, h => by omega
  | m + 1, x, hs, hq, hc => by
    rw [iterL]
    by_cases hm : (rndK f x 0).2 = true
    · rw [if_pos hm]
      have := (rnd_cnt hs f.blocks.length 0 (by omega)).2.1 hm
      exact iterL_last Q hQ m _ (hs.rndk (Nat.zero_le _)) (hQ x hs hq) (by omega)
    · rw [if_neg hm]
      exact ⟨x, hs, hq, by simpa using hm, rfl⟩
theorem live_last (Q : IO2 → Prop) (h0 : Q (zeroL f)) (hQ : ∀ x, SzX f x → Q x → Q (rndK f x 0).1) : ∃ y, SzX f y ∧ Q y ∧ (rndK f y 0).2 = false ∧ liveL f = (rndK f y 0).1 :=
  iterL_last Q hQ _ _ (zeroL_sz f) h0 ((rndI_start f).t rfl).2
theorem rnd_ind (Q : IO2 → Prop) (hQ : ∀ x b, SzX f x → b < f.blocks.length → Q x → Q (stepI f x b)) {x : IO2} (hs : SzX f x) (h : Q x) : ∀ (q k : Nat), k + q = f.blocks.length → Q (rndK f x k).1
  | 0, k, e => by
    have : k = f.blocks.length := by omega
    subst this
    rw [rndK_end]; exact h
  | q + 1, k, e => by
    rw [rndK_step x (by omega)]
    exact hQ _ _ (hs.rndk (by omega)) (by omega) (rnd_ind Q hQ hs h q (k + 1) (by omega))
theorem rnd_flag {y : IO2} (h : (rndK f y 0).2 = false) : ∀ k, k ≤ f.blocks.length → (rndK f y k).2 = false
  | 0, _ => h
  | k + 1, hk => by
    have := rnd_flag h k (by omega)
    rw [rndK_step y (by omega)] at this
    exact (Bool.or_eq_false_iff.1 this).2
theorem rnd_same {y : IO2} (hs : SzX f y) (h : (rndK f y 0).2 = false) {k : Nat} (hk : k ≤ f.blocks.length) : (rndK f y k).1.1 = y.1 := (rnd_cnt hs (f.blocks.length - k) k (by omega)).2.2 (rnd_flag h k hk)
theorem rnd_out {y : IO2} (hs : SzX f y) (h : (rndK f y 0).2 = false) {b : Nat} (hb : b < f.blocks.length) : ∀ (k : Nat), k ≤ b → (rndK f y k).1.2.getD b default = outS f (y.1, y.2) b := by
  have hge : ∀ (q k : Nat), k + q = f.blocks.length → b < k → (rndK f y k).1.2.getD b default = y.2.getD b default := by
    intro q
    induction q with
    | zero => intro k e hk; have : k = f.blocks.length := by omega
              subst this; rw [rndK_end]
    | succ q ih =>
      intro k e hk
      rw [rndK_step y (by omega)]
      show ((rndK f y (k + 1)).1.2.set k _).getD b default = _
      rw [getD_set_ne (by omega)]
      exact ih (k + 1) (by omega) (by omega)
  have hat : (rndK f y b).1.2.getD b default = outS f (y.1, y.2) b := by
    rw [rndK_step y hb]
    show ((rndK f y (b + 1)).1.2.set b _).getD b default = _
    rw [getD_set_self (by rw [(hs.rndk (by omega)).o.len]; exact hb)]
    unfold outS outJ
    rw [rnd_same hs h (by omega), hge (f.blocks.length - (b + 1)) (b + 1) (by omega) (by omega)]
  intro k hk
  have : ∀ (d : Nat), d ≤ b → (rndK f y (b - d)).1.2.getD b default = outS f (y.1, y.2) b := by
    intro d
    induction d with
    | zero => intro _; exact hat
    | succ d ih =>
      intro hd
      rw [rndK_step y (by omega)]
      show ((rndK f y (b - (d + 1) + 1)).1.2.set (b - (d + 1)) _).getD b default = _
      rw [getD_set_ne (by omega), show b - (d + 1) + 1 = b - d by omega]
      exact ih (by omega)
  have h2 := this (b - k) (by omega)
  rwa [show b - (b - k) = k by omega] at h2
structure LiveIs (f : GFn) (y : IO2) : Prop where
  sz : SzX f y
  i : (liveL f).1 = y.1
  o : ∀ b, b < f.blocks.length → (liveL f).2.getD b default = outS f y b
  thr : ∀ b, b < f.blocks.length → Sub (thrS (f.blocks.getD b default) (outS f y b)) (y.1.getD b default)
theorem live_is (hF : LF f) (Q : IO2 → Prop) (h0 : Q (zeroL f)) (hQ : ∀ x b, SzX f x → b < f.blocks.length → Q x → Q (stepI f x b)) : ∃ y, LiveIs f y ∧ Q y ∧ Q (liveL f) := by
  obtain ⟨y, hs, hq, hfl, he⟩ := live_last Q h0 (fun x hs hx => rnd_ind Q hQ hs hx f.blocks.length 0 (by omega))
  refine ⟨y, ⟨hs, by rw [he]; exact rnd_same hs hfl (Nat.zero_le _), fun b hb => by rw [he]; exact rnd_out hs hfl hb 0 (Nat.zero_le _), fun b hb i hi => ?_⟩, hq, by rw [he]; exact rnd_ind Q hQ hs hq f.blocks.length 0 (by omega)⟩
  have hf1 := rnd_flag hfl b (by omega)
  rw [rndK_step y hb] at hf1
  have hm := (Bool.or_eq_false_iff.1 hf1).1
  have hr := hs.rndk (k := b + 1) (by omega)
  have hin := rnd_same hs hfl (k := b + 1) (by omega)
  have hout : outS f (rndK f y (b + 1)).1 b = outS f y b := by
    have h1 := rnd_out hs hfl hb b (Nat.le_refl _)
    rw [rndK_step y hb] at h1
    have h2 : ((rndK f y (b + 1)).1.2.set b (outS f (rndK f y (b + 1)).1 b)).getD b default = outS f (y.1, y.2) b := h1
    rwa [getD_set_self (by rw [hr.o.len]; exact hb)] at h2
  have hl : (thrO f (rndK f y (b + 1)).1 b).length ≤ ((rndK f y (b + 1)).1.1.getD b default).length := by rw [thrO_len, hr.i.at hb, hr.o.at hb]; omega
  have hadd := (addS_cnt hl).2.2 hm
  have hg := addS_get hl i
  rw [hadd] at hg
  have ht : (thrO f (rndK f y (b + 1)).1 b).getD i default = true := by unfold thrO; rw [hout]; exact hi
  rw [ht, Bool.or_true] at hg
  rw [← hin]; exact hg
theorem LiveIs.out (hF : LF f) {y : IO2} (h : LiveIs f y) {b : Nat} (hb : b < f.blocks.length) (i : Nat) : ((liveL f).2.getD b default).getD i default = true ↔ (y.2.getD b default).getD i default = true ∨ ∃ q, q < ((nextL f).getD b default).length ∧ ((liveL f).1.getD (((nextL f).getD b default).getD q default).toNat default).getD i default = true := by
  rw [h.o b hb, h.i]; exact outS_get hF h.sz hb i
theorem live_closed (hF : LF f) : checkL f (liveL f).1 (liveL f).2 = true := by
  obtain ⟨y, h, _, _⟩ := live_is hF (fun _ => True) trivial (fun _ _ _ _ _ => trivial)
  refine checkL_iff.2 ⟨sizedL_iff.2 ⟨(live_sz f).i.sized hF.regs.1, (live_sz f).o.sized hF.regs.1⟩, fun b hb => okB_iff.2 ⟨fun m hm => sub_within fun i hi => ?_, sub_within ?_⟩⟩
  · exact (h.out hF hb i).2 (.inr ⟨m, hm, hi⟩)
  · rw [h.o b hb, h.i]; exact h.thr b hb
theorem closed_iff {li lo : List (List Bool)} (h : checkL f li lo = true) : SzL f li ∧ SzL f lo ∧ ∀ b, b < f.blocks.length → (∀ m, m < ((nextL f).getD b default).length → Sub (li.getD (((nextL f).getD b default).getD m default).toNat default) (lo.getD b default)) ∧ Sub (thrS (f.blocks.getD b default) (lo.getD b default)) (li.getD b default) := by
  obtain ⟨h1, h2⟩ := checkL_iff.1 h
  obtain ⟨h3, h4⟩ := sizedL_iff.1 h1
  exact ⟨szL_of h3, szL_of h4, fun b hb => by
    obtain ⟨h5, h6⟩ := okB_iff.1 (h2 b hb)
    exact ⟨fun m hm => within_sub (h5 m hm), within_sub h6⟩⟩
theorem zero_get (b i : Nat) : ((zeroL f).1.getD b default).getD i default = false ∧ ((zeroL f).2.getD b default).getD i default = false := by
  have : ((List.replicate f.blocks.length (List.replicate f.regs.toNat false)).getD b default).getD i default = false := by
    simp only [List.getD, List.getElem?_replicate]
    split
    · simp only [Option.getD_some, List.getElem?_replicate]; split <;> rfl
    · rfl
  exact ⟨this, this⟩
end
end Lg
end Go.Proofs.Ytpfhmodjjljpjaa

namespace Go.Proofs.Ytpfhmodjjljpjaa
open Go.RowKit
namespace Lg
set_option linter.unusedSimpArgs false
set_option linter.unusedVariables false
theorem small_lf {f : GFn} (h : small27 f 12 60 = true) : LF f := (s27 h).lf
section
variable {f : GFn} {k : Nat}
theorem beq_same {b : Bool} : (b == b) = true := by cases b <;> rfl
theorem live_in (hF : LF f) (hk : k < f.blocks.length) : Sub (thrS (f.blocks.getD k default) ((liveL f).2.getD k default)) ((liveL f).1.getD k default) := ((closed_iff (live_closed hF)).2.2 k hk).2
end
def mixV (a b e : Bool) : Bool := (a && b) || (e && (a || b))
def fillR (g : Nat → Bool) (n r : Nat) : List Bool := (List.range n).map fun i => if i < r then g i else false
theorem fillR_len (g : Nat → Bool) (n r : Nat) : (fillR g n r).length = n := by simp [fillR]
theorem fillR_zero (g : Nat → Bool) (n : Nat) : List.replicate n false = fillR g n 0 := by
  refine List.ext_getElem (by simp [fillR]) (fun i h1 h2 => ?_)
  simp [fillR]
theorem fillR_step (g : Nat → Bool) {n r : Nat} (h : r < n) {v : Bool} (hv : v = g r) : (fillR g n r).set r v = fillR g n (r + 1) := by
  subst hv
  refine List.ext_getElem (by simp [fillR]) (fun i h1 h2 => ?_)
  rw [List.getElem_set]
  simp only [fillR, List.getElem_map, List.getElem_range]
  by_cases e : r = i
  · subst e; simp
  · rw [if_neg e]
    have : (i < r + 1) ↔ i < r := by omega
    simp only [this]
def mixR (a b : List Bool) (e : Bool) : List Bool := fillR (fun i => mixV (a.getD i default) (b.getD i default) e) a.length a.length
def bothV (a b : List (List Bool)) (e : Bool) : List (List Bool) := (List.range a.length).map fun j => mixR (a.getD j default) (b.getD j default) e
theorem bothV_len (a b : List (List Bool)) (e : Bool) : (bothV a b e).length = a.length := by simp [bothV]
theorem bothV_getD (a b : List (List Bool)) (e : Bool) {j : Nat} (h : j < a.length) : (bothV a b e).getD j default = mixR (a.getD j default) (b.getD j default) e := by simp [bothV, List.getD, h]
theorem mixR_len (a b : List Bool) (e : Bool) : (mixR a b e).length = a.length := fillR_len _ _ _
theorem mixR_get (a b : List Bool) (e : Bool) (hl : b.length = a.length) (i : Nat) : (mixR a b e).getD i default = mixV (a.getD i default) (b.getD i default) e := by
  by_cases h : i < a.length
  · simp only [mixR, fillR, List.getD, List.getElem?_map, List.getElem?_range h, Option.map_some, Option.getD_some, if_pos h]
  · rw [List.getD, List.getElem?_eq_none (by rw [mixR_len]; omega), List.getD, List.getElem?_eq_none (by omega), List.getD, List.getElem?_eq_none (by omega)]
    cases e <;> rfl
theorem mix_or {a b : Bool} : mixV a b true = true ↔ a = true ∨ b = true := by cases a <;> cases b <;> simp [mixV]
theorem mix_and {a b : Bool} : mixV a b false = true ↔ a = true ∧ b = true := by cases a <;> cases b <;> simp [mixV]
theorem mix_tt {a b e : Bool} (h1 : a = true) (h2 : b = true) : true = mixV a b e := by subst h1 h2; rfl
theorem closed_mk {f : GFn} (hF : LF f) {li lo : List (List Bool)} (h1 : SzL f li) (h2 : SzL f lo) (h : ∀ b, b < f.blocks.length → (∀ m, m < ((nextL f).getD b default).length → Sub (li.getD (((nextL f).getD b default).getD m default).toNat default) (lo.getD b default)) ∧ Sub (thrS (f.blocks.getD b default) (lo.getD b default)) (li.getD b default)) : checkL f li lo = true :=
  checkL_iff.2 ⟨sizedL_iff.2 ⟨h1.sized hF.regs.1, h2.sized hF.regs.1⟩, fun b hb => okB_iff.2 ⟨fun m hm => sub_within ((h b hb).1 m hm), sub_within (h b hb).2⟩⟩
section
variable {f : GFn} {mi mo ni no : List (List Bool)}
end
end Lg
end Go.Proofs.Ytpfhmodjjljpjaa

namespace Go.Proofs.Ytpfhmodjjljpjaa
end Go.Proofs.Ytpfhmodjjljpjaa

namespace Go.Proofs.Ytpfhmodjjljpjaa
open Go.RowKit
namespace Lg
set_option linter.unusedSimpArgs false
set_option linter.unusedVariables false
def allJ (s : List Bool) (i : Nat) (m : List (Int × Int)) : Nat → List (Int × Int)
  | 0 => m
  | j + 1 => if s.getD i default = true ∧ s.getD j default = true then putM (allJ s i m j) (prI i j) else allJ s i m j
def allI (s : List Bool) (m : List (Int × Int)) : Nat → List (Int × Int)
  | 0 => m
  | i + 1 => allJ s i (allI s m i) i
theorem allJ_t {s : List Bool} {i j : Nat} {m : List (Int × Int)} (h1 : s.getD i default = true) (h2 : s.getD j default = true) : putM (allJ s i m j) (prI i j) = allJ s i m (j + 1) := by rw [allJ, if_pos ⟨h1, h2⟩]
theorem allJ_f1 {s : List Bool} {i j : Nat} {m : List (Int × Int)} (h1 : s.getD i default = false) : allJ s i m j = allJ s i m (j + 1) := by rw [allJ, if_neg (fun h => by rw [h1] at h; cases h.1)]
theorem allJ_f2 {s : List Bool} {i j : Nat} {m : List (Int × Int)} (h1 : s.getD j default = false) : allJ s i m j = allJ s i m (j + 1) := by rw [allJ, if_neg (fun h => by rw [h1] at h; cases h.2)]
def oneM (t : GTac) (s : List Bool) (m : List (Int × Int)) : Nat → List (Int × Int)
  | 0 => m
  | i + 1 => if s.getD i default = true ∧ 0 ≤ setsT t ∧ (i : Int) ≠ setsT t then putM (oneM t s m i) (prI i (setsT t)) else oneM t s m i
def oneB' (t : GTac) (s : List Bool) (v : List Bool) : Nat → List Bool
  | 0 => v
  | i + 1 => if s.getD i default = true ∧ t.op = 10 then (oneB' t s v i).set i true else oneB' t s v i
theorem oneB'_len (t : GTac) (s v : List Bool) : ∀ i, (oneB' t s v i).length = v.length
  | 0 => rfl
  | i + 1 => by rw [oneB']; split <;> simp [oneB'_len t s v i]
section
variable {t : GTac} {s v : List Bool} {m : List (Int × Int)} {i : Nat}
theorem oneM_t (h1 : s.getD i default = true) (h2 : setsT t ≥ 0) (h3 : ¬ (i : Int) = setsT t) : putM (oneM t s m i) (prI i (setsT t)) = oneM t s m (i + 1) := by rw [oneM, if_pos ⟨h1, h2, h3⟩]
theorem oneM_f1 (h1 : s.getD i default = false) : oneM t s m i = oneM t s m (i + 1) := by rw [oneM, if_neg (fun h => by rw [h1] at h; cases h.1)]
theorem oneM_f2 (h1 : ¬ setsT t ≥ 0) : oneM t s m i = oneM t s m (i + 1) := by rw [oneM, if_neg (fun h => h1 h.2.1)]
theorem oneM_f3 (h1 : (i : Int) = setsT t) : oneM t s m i = oneM t s m (i + 1) := by rw [oneM, if_neg (fun h => h.2.2 h1)]
theorem oneB'_t (h1 : s.getD i default = true) (h2 : t.op = 10) : (oneB' t s v i).set i true = oneB' t s v (i + 1) := by rw [oneB', if_pos ⟨h1, h2⟩]
theorem oneB'_f1 (h1 : s.getD i default = false) : oneB' t s v i = oneB' t s v (i + 1) := by rw [oneB', if_neg (fun h => by rw [h1] at h; cases h.1)]
theorem oneB'_f2 (h1 : ¬ t.op = 10) : oneB' t s v i = oneB' t s v (i + 1) := by rw [oneB', if_neg (fun h => h1 h.2)]
end
abbrev Cf := List (Int × Int) × List Bool
def oneC (t : GTac) (s : List Bool) (c : Cf) : Cf := (oneM t s c.1 s.length, oneB' t s c.2 s.length)
def blkC (b : GBlock) (out : List Bool) (c : Cf) : Nat → Cf
  | 0 => c
  | i + 1 => oneC (b.ins.getD i default) ((behL b out).getD i default) (blkC b out c i)
def ofC (f : GFn) (li lo : List (List Bool)) : Nat → Cf
  | 0 => (allI (li.getD 0 default) [] (li.getD 0 default).length, List.replicate f.regs.toNat false)
  | k + 1 => blkC (f.blocks.getD k default) (lo.getD k default) (ofC f li lo k) (f.blocks.getD k default).ins.length
def confl (f : GFn) (li lo : List (List Bool)) : Cf := ofC f li lo f.blocks.length
theorem blkC_len (b : GBlock) (out : List Bool) (c : Cf) : ∀ i, (blkC b out c i).2.length = c.2.length
  | 0 => rfl
  | i + 1 => by rw [blkC, oneC]; simp only [oneB'_len]; exact blkC_len b out c i
theorem ofC_len (f : GFn) (li lo : List (List Bool)) : ∀ k, (ofC f li lo k).2.length = f.regs.toNat
  | 0 => by simp [ofC]
  | k + 1 => by rw [ofC, blkC_len]; exact ofC_len f li lo k
def freeB (m : List (Int × Int)) (ps : List Int) (r x : Int) : Bool := (List.range ps.length).all fun i => !(decide (ps.getD i default = x) && decide (prI i r ∈ m))
theorem free_no {m : List (Int × Int)} {ps : List Int} {r x : Int} {i : Nat} (hi : i < ps.length) (h1 : ps.getD i default = x) (h2 : decide ((mnI i r, mxI i r) ∈ m) = true) : false = freeB m ps r x := by
  cases h : freeB m ps r x
  · rfl
  · have := List.all_eq_true.1 h i (List.mem_range.2 hi)
    rw [h1] at this
    have h3 : decide (prI i r ∈ m) = true := h2
    simp [h3] at this
theorem free_yes {m : List (Int × Int)} {ps : List Int} {r x : Int} (h : ∀ i, i < ps.length → (decide (ps.getD i default = x) && decide (prI i r ∈ m)) = false) : true = freeB m ps r x :=
  (List.all_eq_true.2 fun i hi => by rw [h i (List.mem_range.1 hi)]; rfl).symm
theorem free_step {m : List (Int × Int)} {ps : List Int} {r x : Int} {j : Nat} (hJ : ∀ i, i < j → (decide (ps.getD i default = x) && decide (prI i r ∈ m)) = false) (h : ¬ ps.getD j default = x ∨ decide ((mnI j r, mxI j r) ∈ m) = false) : ∀ i, i < j + 1 → (decide (ps.getD i default = x) && decide (prI i r ∈ m)) = false := fun i hi => by
  rcases Nat.lt_or_ge i j with h1 | h1
  · exact hJ i h1
  · obtain rfl : i = j := by omega
    rcases h with h | h
    · rw [decide_eq_false h]; rfl
    · have h3 : decide (prI i r ∈ m) = false := h
      rw [h3, Bool.and_false]
def fitsP (k w : Int) : Bool := (decide (1 ≤ w) && decide (w ≤ k)) || (decide (w ≤ -1) && decide (-4000 ≤ w))
def nofit (k w : Int) : Bool := !fitsP k w
def okP (c : Cf) (ps : List Int) (i : Nat) : Bool := !((c.2.getD i default && decide (0 < ps.getD i default)) || !freeB c.1 (ps.take i) i (ps.getD i default))
def acheck (f : GFn) (li lo : List (List Bool)) (ps : List Int) (k : Int) : Bool := checkL f li lo && (decide ((ps.length : Int) = f.regs) && (!(ps.any (nofit k)) && (List.range ps.length).all (okP (confl f li lo) ps)))
section
variable {f : GFn} {li lo : List (List Bool)} {ps : List Int} {k : Int}
theorem acheck_no1 (h : checkL f li lo = false) : false = acheck f li lo ps k := by unfold acheck; rw [h]; rfl
theorem acheck_no2 (h : ¬ (ps.length : Int) = f.regs) : false = acheck f li lo ps k := by unfold acheck; rw [decide_eq_false h]; simp
theorem acheck_no3 (h : ps.any (nofit k) = true) : false = acheck f li lo ps k := by unfold acheck; rw [h]; simp
theorem acheck_no4 {i : Nat} (hi : i < ps.length) (h : okP (confl f li lo) ps i = false) : false = acheck f li lo ps k := by
  cases h1 : acheck f li lo ps k
  · rfl
  · unfold acheck at h1
    simp only [Bool.and_eq_true, List.all_eq_true] at h1
    have := h1.2.2.2 i (List.mem_range.2 hi)
    rw [h] at this; cases this
theorem acheck_yes (h1 : checkL f li lo = true) (h2 : (ps.length : Int) = f.regs) (h3 : ps.any (nofit k) = false) (h4 : ∀ i, i < ps.length → okP (confl f li lo) ps i = true) : true = acheck f li lo ps k := by
  unfold acheck
  rw [h1, decide_eq_true h2, h3, List.all_eq_true.2 (fun i hi => h4 i (List.mem_range.1 hi))]; rfl
theorem okP_no1 {c : Cf} {i : Nat} (h1 : c.2.getD i default = true) (h2 : ps.getD i default > 0) : okP c ps i = false := by unfold okP; rw [h1, decide_eq_true h2]; rfl
theorem okP_no2 {c : Cf} {i : Nat} (h1 : freeB c.1 (ps.take i) i (ps.getD i default) = false) : okP c ps i = false := by unfold okP; rw [h1]; simp
theorem okP_yes1 {c : Cf} {i : Nat} (h1 : c.2.getD i default = false) (h2 : freeB c.1 (ps.take i) i (ps.getD i default) = true) : okP c ps i = true := by unfold okP; rw [h1, h2]; rfl
theorem okP_yes2 {c : Cf} {i : Nat} (h1 : ¬ ps.getD i default > 0) (h2 : freeB c.1 (ps.take i) i (ps.getD i default) = true) : okP c ps i = true := by unfold okP; rw [decide_eq_false (show ¬ 0 < ps.getD i default from h1), h2]; simp
end
end Lg
end Go.Proofs.Ytpfhmodjjljpjaa

namespace Go.Proofs.Ytpfhmodjjljpjaa
open Go.RowKit
namespace Lg
set_option maxRecDepth 100000
set_option linter.unusedVariables false
set_option linter.unusedSimpArgs false
theorem body124 : (Try.prog.funcs[124]?).map (fun fn => (fn.name == "runtime.NumGoroutine" || fn.body.isNone)) = some false := by kernel_rfl
theorem made28_spec (a b : Int) : Spec Try.prog 124 [.v (.int .i64 a), .v (.int .i64 b)] 1 [] (.agg [.v (.int .i64 (mnI a b)), .v (.int .i64 (mxI a b))]) 1 [] := by
 refine spec_of D (fn := Try.f124) rfl rfl (Nat.le_of_ble_eq_true rfl) ?_
 refine W_seq ?_
 refine W_seqK (b' := 17) rfl rfl ?_
 refine q1 4 1 1 rfl rfl (T_alloc D rfl rfl rfl) rfl ?_
 refine k_done rfl ?_
 refine thenK_n ?_
 refine W_seq ?_
 refine W_seqK (b' := 145) rfl rfl ?_
 refine q0 5 17 1 rfl rfl (T_move rfl rfl) rfl ?_
 refine q0 6 33 2 rfl rfl (T_move rfl rfl) rfl ?_
 refine q0 7 49 3 rfl rfl (T_min rfl rfl rfl) rfl ?_
 refine q0 8 65 4 rfl rfl (T_move rfl rfl) rfl ?_
 refine q0 9 81 5 rfl rfl (T_move rfl rfl) rfl ?_
 refine q0 10 97 6 rfl rfl (T_max rfl rfl rfl) rfl ?_
 refine q0 11 113 7 rfl rfl (T_pair rfl rfl rfl) rfl ?_
 refine s1 129 8 rfl rfl (T_stB D (cs' := [_, _]) rfl rfl rfl rfl flat_agg rfl rfl (Nat.le_of_ble_eq_true rfl) rfl) rfl ?_
 refine k_done rfl ?_
 refine thenK_n ?_
 refine W_ret ?_
 exact .mk [] (.inr rfl) (.cellA rfl rfl rfl rfl rfl (.nil)) (by rfl) (.nil) rfl
theorem body83 : (Try.prog.funcs[83]?).map (fun fn => (fn.name == "runtime.NumGoroutine" || fn.body.isNone)) = some false := by kernel_rfl
theorem free_spec (m : List (Int × Int)) (v : List Bool) (ps : List Int) (r x : Int) (hl : ps.length ≤ 1000000000) : Spec Try.prog 83 [.p 1 0, .r 4, .v (.int .i64 r), .v (.int .i64 x)] 5 [(1, .box 117 [.r 2, .r 3]), (2, .map m), (3, .row 4 1 (v.map eB)), (4, .fz 1 (ps.map eI))] (.v (.bool (freeB m ps r x))) 5 [(1, .box 117 [.r 2, .r 3]), (2, .map m), (3, .row 4 1 (v.map eB))] := by
 refine spec_of D (fn := Try.f83) rfl rfl (Nat.le_of_ble_eq_true rfl) ?_
 refine W_seq ?_
 refine W_seqK (b' := 21) rfl rfl ?_
 refine q0 8 5 1 rfl rfl (T_assign rfl rfl) rfl ?_
 refine k_done rfl ?_
 refine thenK_n ?_
 refine W_seq ?_
 refine W_seq ?_
 refine W_seqK (b' := 69) rfl rfl ?_
 refine q0 11 21 1 rfl rfl (T_move rfl rfl) rfl ?_
 refine q0 12 37 2 rfl rfl (T_len D rfl rfl rfl rfl rfl rfl) rfl ?_
 refine q0 13 53 3 rfl rfl (T_move rfl rfl) rfl ?_
 refine k_done rfl ?_
 refine thenK_n ?_
 refine W_block ?_
 refine W_loop (ι := Nat) 5 (fun j => ⟨[(0, .p 1 0), (2, .v (.int .i64 r)), (3, .v (.int .i64 x)), (11, .r 4), (12, .v (.int .i64 (ps.length : Int))), (13, .v (.int .i64 (j : Int)))], [(1, .box 117 [.r 2, .r 3]), (2, .map (m)), (3, .row 4 1 (v.map eB)), (4, .fz 1 (ps.map eI))]⟩) (fun j => j ≤ ps.length ∧ ∀ i, i < j → (decide (ps.getD i default = x) && decide (prI i r ∈ m)) = false) (fun j => ps.length - j) (0) (by exact ⟨Nat.zero_le _, fun i h => absurd h (Nat.not_lt_zero _)⟩) ?_ (fun j hJ => ?_)
 ·exact ⟨[], .same rfl rfl (.eq rfl (.eq rfl (.same rfl rfl (.eq rfl (.eq rfl (.nil) (by rfl)) (by rfl))) (by rfl)) (by rfl)), .box (by rfl) (.mapE rfl (.rowE rfl (.fzE rfl (.nil) (by rfl)) (by rfl)) (by rfl)), rfl⟩
 refine W_seq ?_
 refine W_seqK (b' := 21) rfl rfl ?_
 refine q0 14 5 1 rfl rfl (T_cmp rfl rfl rfl rfl) rfl ?_
 refine k_done rfl ?_
 refine thenK_n ?_
 refine W_seq ?_
 refine W_cond rfl (fun g1 => ?_) (fun g1 => ?_)
 ·have h1 := c_lss_t g1
  refine W_skip ?_
  refine thenK_n ?_
  refine W_seq ?_
  refine W_block ?_
  refine W_seq ?_
  refine W_seqK (b' := 101) rfl rfl ?_
  refine q0 15 21 1 rfl rfl (T_move rfl rfl) rfl ?_
  refine q0 16 37 2 rfl rfl (T_indexAddr D rfl rfl rfl rfl rfl rfl rfl rfl (by omega)) rfl ?_
  refine q0 17 53 3 rfl rfl (T_ldE D (lv := .v _) (nn := 0) (upd := []) rfl rfl rfl rfl rfl (by omega) rfl rfl rfl rfl) rfl ?_
  refine q0 9 69 4 rfl rfl (T_assign rfl rfl) rfl ?_
  refine q0 10 85 5 rfl rfl (T_assign rfl rfl) rfl ?_
  refine k_done rfl ?_
  refine thenK_n ?_
  refine W_seq ?_
  refine W_anyK (b' := 309) rfl rfl rfl ?_
  refine q0 18 101 1 rfl rfl (T_move rfl rfl) rfl ?_
  refine q0 19 117 2 rfl rfl (T_move rfl rfl) rfl ?_
  refine q0 20 133 3 rfl rfl (T_cmp rfl rfl rfl rfl) rfl ?_
  refine q0 21 149 4 rfl rfl (T_move rfl rfl) rfl ?_
  refine k_split (d := 21) rfl (fun g2 => ?_) (fun g2 => ?_)
  ·have h2 := c_eql_t g2
   refine k_op0 (d := 22) (b := 165) (j' := 5) rfl rfl rfl rfl (g_tt rfl rfl rfl g2) (T_move rfl rfl) rfl ?_
   refine k_op0 (d := 23) (b := 181) (j' := 6) rfl rfl rfl rfl (g_tt rfl rfl rfl g2) (T_nilCheck rfl rfl) rfl ?_
   refine k_op0 (d := 24) (b := 197) (j' := 7) rfl rfl rfl rfl (g_tt rfl rfl rfl g2) (T_fa D (m := 0) rfl rfl rfl rfl rfl rfl) rfl ?_
   refine k_op0 (d := 25) (b := 213) (j' := 8) rfl rfl rfl rfl (g_tt rfl rfl rfl g2) (T_load_b D rfl rfl rfl rfl rfl rfl) rfl ?_
   refine k_op0 (d := 26) (b := 229) (j' := 9) rfl rfl rfl rfl (g_tt rfl rfl rfl g2) (T_move rfl rfl) rfl ?_
   refine k_op0 (d := 27) (b := 245) (j' := 10) rfl rfl rfl rfl (g_tt rfl rfl rfl g2) (T_move rfl rfl) rfl ?_
   refine k_opn (d := 28) (b := 261) (j' := 11) rfl rfl rfl rfl (g_tt rfl rfl rfl g2) (T_call (lvs := [_, _]) (L := []) (lv := .agg [.v _, .v _]) (upd := []) (nn := 0) false (made28_spec _ _) body124 rfl rfl rfl rfl (.nil) rfl (.inl rfl) rfl rfl rfl) rfl ?_
   refine k_op0 (d := 29) (b := 277) (j' := 12) rfl rfl rfl rfl (g_tt rfl rfl rfl g2) (T_lookup rfl rfl rfl rfl) rfl ?_
   refine q0 30 293 13 rfl rfl (T_pick_t rfl rfl rfl g2) rfl ?_
   refine k_done rfl ?_
   refine ⟨rfl, ?_⟩
   refine thenK_n ?_
   refine W_cond rfl (fun g3 => ?_) (fun g3 => ?_)
   ·have h3 := g3; (try simp only [cmpB, decide_eq_true_eq, decide_eq_false_iff_not, beq_iff_eq, beq_eq_false_iff_ne, bne_iff_ne, ne_eq, bne_eq_false_iff_eq, Bool.not_eq_true', Bool.not_eq_false', Int.not_lt, Int.not_le] at h3)
    refine W_seq ?_
    refine W_seqK (b' := 325) rfl rfl ?_
    refine q0 8 309 1 rfl rfl (T_assign rfl rfl) rfl ?_
    refine k_done rfl ?_
    refine thenK_n ?_
    refine W_ret ?_
    refine blockK_r ?_
    refine thenK_r ?_
    refine thenK_r ?_
    refine blockK_r ?_
    refine thenK_r ?_
    exact .mk [] (.inr rfl) (.tmp rfl (.nil)) (by (simp only [resLV, LV.ren, LV.v.injEq, Value.bool.injEq]; exact free_no (i := j) (by omega) (by omega) (by assumption))) (.box (by rfl) (.mapE rfl (.rowE rfl (.nil) (by rfl)) (by rfl))) rfl
   ·have h3 := g3; (try simp only [cmpB, decide_eq_true_eq, decide_eq_false_iff_not, beq_iff_eq, beq_eq_false_iff_ne, bne_iff_ne, ne_eq, bne_eq_false_iff_eq, Bool.not_eq_true', Bool.not_eq_false', Int.not_lt, Int.not_le] at h3)
    refine W_skip ?_
    refine blockK_n ?_
    refine thenK_n ?_
    refine W_seqK (b' := 341) rfl rfl ?_
    refine q0 31 309 1 rfl rfl (T_add64 rfl rfl rfl (by omega)) rfl ?_
    refine q0 13 325 2 rfl rfl (T_move rfl rfl) rfl ?_
    refine k_done rfl ?_
    refine thenK_n ?_
    refine ⟨j + 1, by (try dsimp only); exact ⟨by omega, free_step hJ.2 (.inr (by assumption))⟩, by (try dsimp only); omega, ?_⟩
    exact ⟨[], .same rfl rfl (.eq rfl (.eq rfl (.same rfl rfl (.eq rfl (.eq rfl (.nil) (by rfl)) rfl)) rfl) rfl), .box (by rfl) (.mapE rfl (.rowE rfl (.fzE rfl (.nil) rfl) (by rfl)) (by rfl)), rfl⟩
  ·have h2 := c_eql_f g2
   refine k_no (d := 22) (j' := 5) rfl rfl rfl (g_tf rfl rfl rfl g2) ?_
   refine k_no (d := 23) (j' := 6) rfl rfl rfl (g_tf rfl rfl rfl g2) ?_
   refine k_no (d := 24) (j' := 7) rfl rfl rfl (g_tf rfl rfl rfl g2) ?_
   refine k_no (d := 25) (j' := 8) rfl rfl rfl (g_tf rfl rfl rfl g2) ?_
   refine k_no (d := 26) (j' := 9) rfl rfl rfl (g_tf rfl rfl rfl g2) ?_
   refine k_no (d := 27) (j' := 10) rfl rfl rfl (g_tf rfl rfl rfl g2) ?_
   refine k_no (d := 28) (j' := 11) rfl rfl rfl (g_tf rfl rfl rfl g2) ?_
   refine k_no (d := 29) (j' := 12) rfl rfl rfl (g_tf rfl rfl rfl g2) ?_
   refine q0 30 293 13 rfl rfl (T_pick_f rfl rfl rfl g2) rfl ?_
   refine k_done rfl ?_
   refine ⟨rfl, ?_⟩
   refine thenK_n ?_
   refine W_cond rfl (fun g4 => ?_) (fun g4 => ?_)
   ·exact absurd (g4.symm.trans rfl) (by decide)
   ·skip
    refine W_skip ?_
    refine blockK_n ?_
    refine thenK_n ?_
    refine W_seqK (b' := 341) rfl rfl ?_
    refine q0 31 309 1 rfl rfl (T_add64 rfl rfl rfl (by omega)) rfl ?_
    refine q0 13 325 2 rfl rfl (T_move rfl rfl) rfl ?_
    refine k_done rfl ?_
    refine thenK_n ?_
    refine ⟨j + 1, by (try dsimp only); exact ⟨by omega, free_step hJ.2 (.inl (by omega))⟩, by (try dsimp only); omega, ?_⟩
    exact ⟨[], .same rfl rfl (.eq rfl (.eq rfl (.same rfl rfl (.eq rfl (.eq rfl (.nil) (by rfl)) rfl)) rfl) rfl), .box (by rfl) (.mapE rfl (.rowE rfl (.fzE rfl (.nil) rfl) (by rfl)) (by rfl)), rfl⟩
 ·have h1 := c_lss_f g1
  refine W_exit ?_
  refine thenK_e ?_
  refine thenK_e ?_
  refine blockK_hit ?_
  refine thenK_n ?_
  refine W_seq ?_
  refine W_seqK (b' := 37) rfl rfl ?_
  refine q0 8 21 1 rfl rfl (T_assign rfl rfl) rfl ?_
  refine k_done rfl ?_
  refine thenK_n ?_
  refine W_ret ?_
  exact .mk [] (.inr rfl) (.tmp rfl (.nil)) (by (simp only [resLV, LV.ren, LV.v.injEq, Value.bool.injEq]; exact free_yes (fun i h => hJ.2 i (by omega)))) (.box (by rfl) (.mapE rfl (.rowE rfl (.nil) (by rfl)) (by rfl))) rfl
theorem body122 : (Try.prog.funcs[122]?).map (fun fn => (fn.name == "runtime.NumGoroutine" || fn.body.isNone)) = some false := by kernel_rfl
theorem all_spec (m : List (Int × Int)) (v s : List Bool) (hl : s.length ≤ 1000000) : Spec Try.prog 122 [.p 1 0, .r 4] 5 [(1, .box 117 [.r 2, .r 3]), (2, .map m), (3, .row 4 1 (v.map eB)), (4, .fz 1 (s.map eB))] (.tup []) 5 [(1, .box 117 [.r 2, .r 3]), (2, .map (allI s m s.length)), (3, .row 4 1 (v.map eB))] := by
 refine spec_of D (fn := Try.f122) rfl rfl (Nat.le_of_ble_eq_true rfl) ?_
 refine W_seq ?_
 refine W_seqK (b' := 53) rfl rfl ?_
 refine q0 7 5 1 rfl rfl (T_move rfl rfl) rfl ?_
 refine q0 8 21 2 rfl rfl (T_len D rfl rfl rfl rfl rfl rfl) rfl ?_
 refine q0 9 37 3 rfl rfl (T_move rfl rfl) rfl ?_
 refine k_done rfl ?_
 refine thenK_n ?_
 refine W_block ?_
 refine W_loop (ι := Nat) 5 (fun i => ⟨[(0, .p 1 0), (1, .r 4), (7, .r 4), (8, .v (.int .i64 (s.length : Int))), (9, .v (.int .i64 (i : Int)))], [(1, .box 117 [.r 2, .r 3]), (2, .map (allI s m i)), (3, .row 4 1 (v.map eB)), (4, .fz 1 (s.map eB))]⟩) (fun i => i ≤ s.length) (fun i => s.length - i) (0) (by exact Nat.zero_le _) ?_ (fun i hJ => ?_)
 ·exact ⟨[], .same rfl rfl (.same rfl rfl (.same rfl rfl (.eq rfl (.eq rfl (.nil) (by rfl)) (by rfl)))), .box (by rfl) (.mapE rfl (.rowE rfl (.fzE rfl (.nil) (by rfl)) (by rfl)) (by rfl)), rfl⟩
 refine W_seq ?_
 refine W_seqK (b' := 21) rfl rfl ?_
 refine q0 10 5 1 rfl rfl (T_cmp rfl rfl rfl rfl) rfl ?_
 refine k_done rfl ?_
 refine thenK_n ?_
 refine W_seq ?_
 refine W_cond rfl (fun g1 => ?_) (fun g1 => ?_)
 ·have h1 := c_lss_t g1
  refine W_skip ?_
  refine thenK_n ?_
  refine W_seq ?_
  refine W_block ?_
  refine W_seq ?_
  refine W_seqK (b' := 101) rfl rfl ?_
  refine q0 11 21 1 rfl rfl (T_move rfl rfl) rfl ?_
  refine q0 12 37 2 rfl rfl (T_indexAddr D rfl rfl rfl rfl rfl rfl rfl rfl (by omega)) rfl ?_
  refine q0 13 53 3 rfl rfl (T_ldE D (lv := .v _) (nn := 0) (upd := []) rfl rfl rfl rfl rfl (by omega) rfl rfl rfl rfl) rfl ?_
  refine q0 4 69 4 rfl rfl (T_assign rfl rfl) rfl ?_
  refine q0 5 85 5 rfl rfl (T_assign rfl rfl) rfl ?_
  refine k_done rfl ?_
  refine thenK_n ?_
  refine W_seq ?_
  refine W_seqK (b' := 133) rfl rfl ?_
  refine q0 14 101 1 rfl rfl (T_move rfl rfl) rfl ?_
  refine q0 15 117 2 rfl rfl (T_move rfl rfl) rfl ?_
  refine k_done rfl ?_
  refine thenK_n ?_
  refine W_block ?_
  refine W_loop (ι := Nat) 5 (fun j => ⟨[(0, .p 1 0), (1, .r 4), (4, .v (.int .i64 (i : Int))), (5, .v (.bool (s.getD i default))), (7, .r 4), (8, .v (.int .i64 (s.length : Int))), (9, .v (.int .i64 (i : Int))), (14, .v (.int .i64 (i : Int))), (15, .v (.int .i64 (j : Int)))], [(1, .box 117 [.r 2, .r 3]), (2, .map (allJ s i (allI s m i) j)), (3, .row 4 1 (v.map eB)), (4, .fz 1 (s.map eB))]⟩) (fun j => j ≤ i) (fun j => i - j) (0) (by exact Nat.zero_le _) ?_ (fun j hK => ?_)
  ·exact ⟨[], .same rfl rfl (.same rfl rfl (.eq rfl (.eq rfl (.same rfl rfl (.eq rfl (.eq rfl (.eq rfl (.eq rfl (.nil) (by rfl)) (by rfl)) (by rfl)) (by rfl))) (by rfl)) (by rfl))), .box (by rfl) (.mapE rfl (.rowE rfl (.fzE rfl (.nil) (by rfl)) (by rfl)) (by rfl)), rfl⟩
  refine W_seq ?_
  refine W_seqK (b' := 21) rfl rfl ?_
  refine q0 16 5 1 rfl rfl (T_cmp rfl rfl rfl rfl) rfl ?_
  refine k_done rfl ?_
  refine thenK_n ?_
  refine W_seq ?_
  refine W_cond rfl (fun g2 => ?_) (fun g2 => ?_)
  ·have h2 := c_lss_t g2
   refine W_skip ?_
   refine thenK_n ?_
   refine W_seq ?_
   refine W_block ?_
   refine W_seq ?_
   refine W_seqK (b' := 53) rfl rfl ?_
   refine q0 17 21 1 rfl rfl (T_move rfl rfl) rfl ?_
   refine q0 6 37 2 rfl rfl (T_assign rfl rfl) rfl ?_
   refine k_done rfl ?_
   refine thenK_n ?_
   refine W_seq ?_
   refine W_seqK (b' := 165) rfl rfl ?_
   refine q0 18 53 1 rfl rfl (T_move rfl rfl) rfl ?_
   refine q0 19 69 2 rfl rfl (T_move rfl rfl) rfl ?_
   refine k_split (d := 19) rfl (fun g3 => ?_) (fun g3 => ?_)
   ·have h3 := g3; (try simp only [cmpB, decide_eq_true_eq, decide_eq_false_iff_not, beq_iff_eq, beq_eq_false_iff_ne, bne_iff_ne, ne_eq, bne_eq_false_iff_eq, Bool.not_eq_true', Bool.not_eq_false', Int.not_lt, Int.not_le] at h3)
    refine k_op0 (d := 20) (b := 85) (j' := 3) rfl rfl rfl rfl (g_tt rfl rfl rfl g3) (T_move rfl rfl) rfl ?_
    refine k_op0 (d := 21) (b := 101) (j' := 4) rfl rfl rfl rfl (g_tt rfl rfl rfl g3) (T_move rfl rfl) rfl ?_
    refine k_op0 (d := 22) (b := 117) (j' := 5) rfl rfl rfl rfl (g_tt rfl rfl rfl g3) (T_indexAddr D rfl rfl rfl rfl rfl rfl rfl rfl (by omega)) rfl ?_
    refine k_op0 (d := 23) (b := 133) (j' := 6) rfl rfl rfl rfl (g_tt rfl rfl rfl g3) (T_ldE D (lv := .v _) (nn := 0) (upd := []) rfl rfl rfl rfl rfl (by omega) rfl rfl rfl rfl) rfl ?_
    refine q0 24 149 7 rfl rfl (T_pick_t rfl rfl rfl g3) rfl ?_
    refine k_done rfl ?_
    refine thenK_n ?_
    refine W_cond rfl (fun g4 => ?_) (fun g4 => ?_)
    ·have h4 := g4; (try simp only [cmpB, decide_eq_true_eq, decide_eq_false_iff_not, beq_iff_eq, beq_eq_false_iff_ne, bne_iff_ne, ne_eq, bne_eq_false_iff_eq, Bool.not_eq_true', Bool.not_eq_false', Int.not_lt, Int.not_le] at h4)
     refine W_anyK (b' := 293) rfl rfl rfl ?_
     refine q0 25 165 1 rfl rfl (T_move rfl rfl) rfl ?_
     refine q0 26 181 2 rfl rfl (T_nilCheck rfl rfl) rfl ?_
     refine q0 27 197 3 rfl rfl (T_fa D (m := 0) rfl rfl rfl rfl rfl rfl) rfl ?_
     refine q0 28 213 4 rfl rfl (T_load_b D rfl rfl rfl rfl rfl rfl) rfl ?_
     refine q0 29 229 5 rfl rfl (T_move rfl rfl) rfl ?_
     refine q0 30 245 6 rfl rfl (T_move rfl rfl) rfl ?_
     refine qn 31 261 7 rfl rfl (T_call (lvs := [_, _]) (L := []) (lv := .agg [.v _, .v _]) (upd := []) (nn := 0) false (made28_spec _ _) body124 rfl rfl rfl rfl (.nil) rfl (.inl rfl) rfl rfl rfl) rfl ?_
     refine s1 277 8 rfl rfl (T_mapUpd rfl rfl rfl rfl rfl) rfl ?_
     refine k_done rfl ?_
     refine ⟨rfl, ?_⟩
     refine blockK_n ?_
     refine thenK_n ?_
     refine W_seqK (b' := 325) rfl rfl ?_
     refine q0 32 293 1 rfl rfl (T_add64 rfl rfl rfl (by omega)) rfl ?_
     refine q0 15 309 2 rfl rfl (T_move rfl rfl) rfl ?_
     refine k_done rfl ?_
     refine thenK_n ?_
     refine ⟨j + 1, by (try dsimp only); omega, by (try dsimp only); omega, ?_⟩
     exact ⟨[], .same rfl rfl (.same rfl rfl (.eq rfl (.eq rfl (.same rfl rfl (.eq rfl (.eq rfl (.eq rfl (.eq rfl (.nil) (by rfl)) rfl) rfl) rfl)) rfl) rfl)), .box (by rfl) (.mapE rfl (.rowE rfl (.fzE rfl (.nil) rfl) (by rfl)) (by (exact allJ_t (by assumption) (by assumption)))), rfl⟩
    ·have h4 := g4; (try simp only [cmpB, decide_eq_true_eq, decide_eq_false_iff_not, beq_iff_eq, beq_eq_false_iff_ne, bne_iff_ne, ne_eq, bne_eq_false_iff_eq, Bool.not_eq_true', Bool.not_eq_false', Int.not_lt, Int.not_le] at h4)
     refine W_skip ?_
     refine blockK_n ?_
     refine thenK_n ?_
     refine W_seqK (b' := 197) rfl rfl ?_
     refine q0 32 165 1 rfl rfl (T_add64 rfl rfl rfl (by omega)) rfl ?_
     refine q0 15 181 2 rfl rfl (T_move rfl rfl) rfl ?_
     refine k_done rfl ?_
     refine thenK_n ?_
     refine ⟨j + 1, by (try dsimp only); omega, by (try dsimp only); omega, ?_⟩
     exact ⟨[], .same rfl rfl (.same rfl rfl (.eq rfl (.eq rfl (.same rfl rfl (.eq rfl (.eq rfl (.eq rfl (.eq rfl (.nil) (by rfl)) rfl) rfl) rfl)) rfl) rfl)), .box (by rfl) (.mapE rfl (.rowE rfl (.fzE rfl (.nil) rfl) (by rfl)) (by (exact allJ_f2 (by assumption)))), rfl⟩
   ·have h3 := g3; (try simp only [cmpB, decide_eq_true_eq, decide_eq_false_iff_not, beq_iff_eq, beq_eq_false_iff_ne, bne_iff_ne, ne_eq, bne_eq_false_iff_eq, Bool.not_eq_true', Bool.not_eq_false', Int.not_lt, Int.not_le] at h3)
    refine k_no (d := 20) (j' := 3) rfl rfl rfl (g_tf rfl rfl rfl g3) ?_
    refine k_no (d := 21) (j' := 4) rfl rfl rfl (g_tf rfl rfl rfl g3) ?_
    refine k_no (d := 22) (j' := 5) rfl rfl rfl (g_tf rfl rfl rfl g3) ?_
    refine k_no (d := 23) (j' := 6) rfl rfl rfl (g_tf rfl rfl rfl g3) ?_
    refine q0 24 149 7 rfl rfl (T_pick_f rfl rfl rfl g3) rfl ?_
    refine k_done rfl ?_
    refine thenK_n ?_
    refine W_cond rfl (fun g5 => ?_) (fun g5 => ?_)
    ·exact absurd (g5.symm.trans rfl) (by decide)
    ·skip
     refine W_skip ?_
     refine blockK_n ?_
     refine thenK_n ?_
     refine W_seqK (b' := 197) rfl rfl ?_
     refine q0 32 165 1 rfl rfl (T_add64 rfl rfl rfl (by omega)) rfl ?_
     refine q0 15 181 2 rfl rfl (T_move rfl rfl) rfl ?_
     refine k_done rfl ?_
     refine thenK_n ?_
     refine ⟨j + 1, by (try dsimp only); omega, by (try dsimp only); omega, ?_⟩
     exact ⟨[], .same rfl rfl (.same rfl rfl (.eq rfl (.eq rfl (.same rfl rfl (.eq rfl (.eq rfl (.eq rfl (.eq rfl (.nil) (by rfl)) rfl) rfl) rfl)) rfl) rfl)), .box (by rfl) (.mapE rfl (.rowE rfl (.fzE rfl (.nil) rfl) (by rfl)) (by (exact allJ_f1 (by assumption)))), rfl⟩
  ·have h2 := c_lss_f g2
   refine W_exit ?_
   refine thenK_e ?_
   refine thenK_e ?_
   refine blockK_hit ?_
   refine blockK_n ?_
   refine thenK_n ?_
   refine W_seqK (b' := 53) rfl rfl ?_
   refine q0 33 21 1 rfl rfl (T_add64 rfl rfl rfl (by omega)) rfl ?_
   refine q0 9 37 2 rfl rfl (T_move rfl rfl) rfl ?_
   refine k_done rfl ?_
   refine thenK_n ?_
   refine ⟨i + 1, by (try dsimp only); omega, by (try dsimp only); omega, ?_⟩
   exact ⟨[], .same rfl rfl (.same rfl rfl (.same rfl rfl (.eq rfl (.eq rfl (.nil) (by rfl)) rfl))), .box (by rfl) (.mapE rfl (.rowE rfl (.fzE rfl (.nil) rfl) (by rfl)) (by (have ej : j = i := (by omega); subst ej; rfl))), rfl⟩
 ·have h1 := c_lss_f g1
  refine W_exit ?_
  refine thenK_e ?_
  refine thenK_e ?_
  refine blockK_hit ?_
  exact .mk [] (.inl rfl) (.nil) rfl (.box (by rfl) (.mapE rfl (.rowE rfl (.nil) (by rfl)) (by (have ei : i = s.length := (by omega); subst ei; rfl)))) rfl
theorem body123 : (Try.prog.funcs[123]?).map (fun fn => (fn.name == "runtime.NumGoroutine" || fn.body.isNone)) = some false := by kernel_rfl
theorem onec_spec (m : List (Int × Int)) (v s : List Bool) (t : GTac) (hl : s.length ≤ 1000000) (hv : v.length = s.length) : Spec Try.prog 123 [.p 1 0, .agg [.v (.int .i64 t.op), .v (.int .i64 t.d), .v (.int .i64 t.a), .v (.int .i64 t.b), .v (.int .i64 t.k), .v (.int .i64 t.base), .v (.int .i64 t.size), .v (.int .u32 t.n)], .r 4] 5 [(1, .box 117 [.r 2, .r 3]), (2, .map m), (3, .row 4 1 (v.map eB)), (4, .fz 1 (s.map eB))] (.tup []) 5 [(1, .box 117 [.r 2, .r 3]), (2, .map (oneM t s m s.length)), (3, .row 4 1 ((oneB' t s v s.length).map eB))] := by
 refine spec_of D (fn := Try.f123) rfl rfl (Nat.le_of_ble_eq_true rfl) ?_
 refine W_seq ?_
 refine W_seqK (b' := 21) rfl rfl ?_
 refine q1 4 5 1 rfl rfl (T_box rfl rfl flat_agg) rfl ?_
 refine k_done rfl ?_
 refine thenK_n ?_
 refine W_seq ?_
 refine W_seqK (b' := 69) rfl rfl ?_
 refine q0 9 21 1 rfl rfl (T_load_bA D (l := [_, _, _, _, _, _, _, _]) rfl rfl rfl rfl rfl rfl rfl) rfl ?_
 refine q0 10 37 2 rfl rfl (T_callV (lvs := [_]) (L := []) (bsets_spec t) body130 rfl rfl rfl rfl (.nil) rfl) rfl ?_
 refine q0 6 53 3 rfl rfl (T_assign rfl rfl) rfl ?_
 refine k_done rfl ?_
 refine thenK_n ?_
 refine W_seq ?_
 refine W_seqK (b' := 117) rfl rfl ?_
 refine q0 11 69 1 rfl rfl (T_move rfl rfl) rfl ?_
 refine q0 12 85 2 rfl rfl (T_len D rfl rfl rfl rfl rfl rfl) rfl ?_
 refine q0 13 101 3 rfl rfl (T_move rfl rfl) rfl ?_
 refine k_done rfl ?_
 refine thenK_n ?_
 refine W_block ?_
 refine W_loop (ι := Nat) 6 (fun i => ⟨[(0, .p 1 0), (4, .p 5 0), (6, .v (.int .i64 (setsT t))), (11, .r 4), (12, .v (.int .i64 (s.length : Int))), (13, .v (.int .i64 (i : Int)))], [(1, .box 117 [.r 2, .r 3]), (2, .map (oneM t s m i)), (3, .row 4 1 ((oneB' t s v i).map eB)), (4, .fz 1 (s.map eB)), (5, .box 70 [.v (.int .i64 t.op), .v (.int .i64 t.d), .v (.int .i64 t.a), .v (.int .i64 t.b), .v (.int .i64 t.k), .v (.int .i64 t.base), .v (.int .i64 t.size), .v (.int .u32 t.n)])]⟩) (fun i => i ≤ s.length) (fun i => s.length - i) (0) (by exact Nat.zero_le _) ?_ (fun i hJ => ?_)
 ·exact ⟨[(5, 5)], .same rfl rfl (.same rfl rfl (.eq rfl (.same rfl rfl (.eq rfl (.eq rfl (.nil) (by rfl)) (by rfl))) (by rfl))), .box (by rfl) (.mapE rfl (.rowE rfl (.fzE rfl (.box (by rfl) (.nil)) (by rfl)) (by rfl)) (by rfl)), rfl⟩
 have hol := oneB'_len t s v i
 refine W_seq ?_
 refine W_seqK (b' := 22) rfl rfl ?_
 refine q0 14 6 1 rfl rfl (T_cmp rfl rfl rfl rfl) rfl ?_
 refine k_done rfl ?_
 refine thenK_n ?_
 refine W_seq ?_
 refine W_cond rfl (fun g1 => ?_) (fun g1 => ?_)
 ·have h1 := c_lss_t g1
  refine W_skip ?_
  refine thenK_n ?_
  refine W_seq ?_
  refine W_block ?_
  refine W_seq ?_
  refine W_seqK (b' := 102) rfl rfl ?_
  refine q0 15 22 1 rfl rfl (T_move rfl rfl) rfl ?_
  refine q0 16 38 2 rfl rfl (T_indexAddr D rfl rfl rfl rfl rfl rfl rfl rfl (by omega)) rfl ?_
  refine q0 17 54 3 rfl rfl (T_ldE D (lv := .v _) (nn := 0) (upd := []) rfl rfl rfl rfl rfl (by omega) rfl rfl rfl rfl) rfl ?_
  refine q0 7 70 4 rfl rfl (T_assign rfl rfl) rfl ?_
  refine q0 8 86 5 rfl rfl (T_assign rfl rfl) rfl ?_
  refine k_done rfl ?_
  refine thenK_n ?_
  refine W_seq ?_
  refine W_seq ?_
  refine W_seqK (b' := 134) rfl rfl ?_
  refine q0 18 102 1 rfl rfl (T_move rfl rfl) rfl ?_
  refine q0 19 118 2 rfl rfl (T_not rfl rfl) rfl ?_
  refine k_done rfl ?_
  refine thenK_n ?_
  refine W_cond rfl (fun g2 => ?_) (fun g2 => ?_)
  ·have h2 := g2; (try simp only [cmpB, decide_eq_true_eq, decide_eq_false_iff_not, beq_iff_eq, beq_eq_false_iff_ne, bne_iff_ne, ne_eq, bne_eq_false_iff_eq, Bool.not_eq_true', Bool.not_eq_false', Int.not_lt, Int.not_le] at h2)
   refine W_exit ?_
   refine thenK_e ?_
   refine blockK_hit ?_
   refine thenK_n ?_
   refine W_seqK (b' := 166) rfl rfl ?_
   refine q0 43 134 1 rfl rfl (T_add64 rfl rfl rfl (by omega)) rfl ?_
   refine q0 13 150 2 rfl rfl (T_move rfl rfl) rfl ?_
   refine k_done rfl ?_
   refine thenK_n ?_
   refine ⟨i + 1, by (try dsimp only); omega, by (try dsimp only); omega, ?_⟩
   exact ⟨[(5, 5)], .same rfl rfl (.same rfl rfl (.eq rfl (.same rfl rfl (.eq rfl (.eq rfl (.nil) (by rfl)) rfl)) rfl)), .box (by rfl) (.mapE rfl (.rowE rfl (.fzE rfl (.box (by rfl) (.nil)) rfl) (by (rw [oneB'_f1 (by assumption)]; done))) (by (exact oneM_f1 (by assumption)))), rfl⟩
  ·have h2 := g2; (try simp only [cmpB, decide_eq_true_eq, decide_eq_false_iff_not, beq_iff_eq, beq_eq_false_iff_ne, bne_iff_ne, ne_eq, bne_eq_false_iff_eq, Bool.not_eq_true', Bool.not_eq_false', Int.not_lt, Int.not_le] at h2)
   refine W_skip ?_
   refine thenK_n ?_
   refine W_seq ?_
   refine W_seq ?_
   refine W_seqK (b' := 246) rfl rfl ?_
   refine q0 20 134 1 rfl rfl (T_move rfl rfl) rfl ?_
   refine q0 21 150 2 rfl rfl (T_cmp rfl rfl rfl rfl) rfl ?_
   refine q0 22 166 3 rfl rfl (T_move rfl rfl) rfl ?_
   refine k_split (d := 22) rfl (fun g3 => ?_) (fun g3 => ?_)
   ·have h3 := c_geq_t g3
    refine k_op0 (d := 23) (b := 182) (j' := 4) rfl rfl rfl rfl (g_tt rfl rfl rfl g3) (T_move rfl rfl) rfl ?_
    refine k_op0 (d := 24) (b := 198) (j' := 5) rfl rfl rfl rfl (g_tt rfl rfl rfl g3) (T_move rfl rfl) rfl ?_
    refine k_op0 (d := 25) (b := 214) (j' := 6) rfl rfl rfl rfl (g_tt rfl rfl rfl g3) (T_cmp rfl rfl rfl rfl) rfl ?_
    refine q0 26 230 7 rfl rfl (T_pick_t rfl rfl rfl g3) rfl ?_
    refine k_done rfl ?_
    refine thenK_n ?_
    refine W_cond rfl (fun g4 => ?_) (fun g4 => ?_)
    ·have h4 := c_neq_t g4
     refine W_anyK (b' := 374) rfl rfl rfl ?_
     refine q0 27 246 1 rfl rfl (T_move rfl rfl) rfl ?_
     refine q0 28 262 2 rfl rfl (T_nilCheck rfl rfl) rfl ?_
     refine q0 29 278 3 rfl rfl (T_fa D (m := 0) rfl rfl rfl rfl rfl rfl) rfl ?_
     refine q0 30 294 4 rfl rfl (T_load_b D rfl rfl rfl rfl rfl rfl) rfl ?_
     refine q0 31 310 5 rfl rfl (T_move rfl rfl) rfl ?_
     refine q0 32 326 6 rfl rfl (T_move rfl rfl) rfl ?_
     refine qn 33 342 7 rfl rfl (T_call (lvs := [_, _]) (L := []) (lv := .agg [.v _, .v _]) (upd := []) (nn := 0) false (made28_spec _ _) body124 rfl rfl rfl rfl (.nil) rfl (.inl rfl) rfl rfl rfl) rfl ?_
     refine s1 358 8 rfl rfl (T_mapUpd rfl rfl rfl rfl rfl) rfl ?_
     refine k_done rfl ?_
     refine ⟨rfl, ?_⟩
     refine thenK_n ?_
     refine W_seq ?_
     refine W_seqK (b' := 422) rfl rfl ?_
     refine q0 34 374 1 rfl rfl (T_fa D (m := 0) rfl rfl rfl rfl rfl rfl) rfl ?_
     refine q0 35 390 2 rfl rfl (T_load_b D rfl rfl rfl rfl rfl rfl) rfl ?_
     refine q0 36 406 3 rfl rfl (T_cmp rfl rfl rfl rfl) rfl ?_
     refine k_done rfl ?_
     refine thenK_n ?_
     refine W_cond rfl (fun g5 => ?_) (fun g5 => ?_)
     ·have h5 := c_eql_t g5
      refine W_seqK (b' := 534) rfl rfl ?_
      refine q0 37 422 1 rfl rfl (T_move rfl rfl) rfl ?_
      refine q0 38 438 2 rfl rfl (T_nilCheck rfl rfl) rfl ?_
      refine q0 39 454 3 rfl rfl (T_fa D (m := 1) rfl rfl rfl rfl rfl rfl) rfl ?_
      refine q0 40 470 4 rfl rfl (T_load_b D rfl rfl rfl rfl rfl rfl) rfl ?_
      refine q0 41 486 5 rfl rfl (T_move rfl rfl) rfl ?_
      refine q0 42 502 6 rfl rfl (T_indexAddr D rfl rfl rfl rfl rfl rfl rfl rfl (by omega)) rfl ?_
      refine s1 518 7 rfl rfl (T_store_e D (z := _) rfl rfl rfl rfl (flat_v rfl) rfl rfl (by omega) (.v rfl (.nil)) rfl (Nat.le_of_ble_eq_true rfl) rfl) rfl ?_
      refine k_done rfl ?_
      refine blockK_n ?_
      refine thenK_n ?_
      refine W_seqK (b' := 566) rfl rfl ?_
      refine q0 43 534 1 rfl rfl (T_add64 rfl rfl rfl (by omega)) rfl ?_
      refine q0 13 550 2 rfl rfl (T_move rfl rfl) rfl ?_
      refine k_done rfl ?_
      refine thenK_n ?_
      refine ⟨i + 1, by (try dsimp only); omega, by (try dsimp only); omega, ?_⟩
      exact ⟨[(5, 5)], .same rfl rfl (.same rfl rfl (.eq rfl (.same rfl rfl (.eq rfl (.eq rfl (.nil) (by rfl)) rfl)) rfl)), .box (by rfl) (.mapE rfl (.rowE rfl (.fzE rfl (.box (by rfl) (.nil)) rfl) (by (rw [oneB'_t (by assumption) (by omega)]; done))) (by (exact oneM_t (by assumption) (by omega) (by omega)))), rfl⟩
     ·have h5 := c_eql_f g5
      refine W_skip ?_
      refine blockK_n ?_
      refine thenK_n ?_
      refine W_seqK (b' := 454) rfl rfl ?_
      refine q0 43 422 1 rfl rfl (T_add64 rfl rfl rfl (by omega)) rfl ?_
      refine q0 13 438 2 rfl rfl (T_move rfl rfl) rfl ?_
      refine k_done rfl ?_
      refine thenK_n ?_
      refine ⟨i + 1, by (try dsimp only); omega, by (try dsimp only); omega, ?_⟩
      exact ⟨[(5, 5)], .same rfl rfl (.same rfl rfl (.eq rfl (.same rfl rfl (.eq rfl (.eq rfl (.nil) (by rfl)) rfl)) rfl)), .box (by rfl) (.mapE rfl (.rowE rfl (.fzE rfl (.box (by rfl) (.nil)) rfl) (by (rw [oneB'_f2 (by omega)]; done))) (by (exact oneM_t (by assumption) (by omega) (by omega)))), rfl⟩
    ·have h4 := c_neq_f g4
     refine W_skip ?_
     refine thenK_n ?_
     refine W_seq ?_
     refine W_seqK (b' := 294) rfl rfl ?_
     refine q0 34 246 1 rfl rfl (T_fa D (m := 0) rfl rfl rfl rfl rfl rfl) rfl ?_
     refine q0 35 262 2 rfl rfl (T_load_b D rfl rfl rfl rfl rfl rfl) rfl ?_
     refine q0 36 278 3 rfl rfl (T_cmp rfl rfl rfl rfl) rfl ?_
     refine k_done rfl ?_
     refine thenK_n ?_
     refine W_cond rfl (fun g6 => ?_) (fun g6 => ?_)
     ·have h6 := c_eql_t g6
      refine W_seqK (b' := 406) rfl rfl ?_
      refine q0 37 294 1 rfl rfl (T_move rfl rfl) rfl ?_
      refine q0 38 310 2 rfl rfl (T_nilCheck rfl rfl) rfl ?_
      refine q0 39 326 3 rfl rfl (T_fa D (m := 1) rfl rfl rfl rfl rfl rfl) rfl ?_
      refine q0 40 342 4 rfl rfl (T_load_b D rfl rfl rfl rfl rfl rfl) rfl ?_
      refine q0 41 358 5 rfl rfl (T_move rfl rfl) rfl ?_
      refine q0 42 374 6 rfl rfl (T_indexAddr D rfl rfl rfl rfl rfl rfl rfl rfl (by omega)) rfl ?_
      refine s1 390 7 rfl rfl (T_store_e D (z := _) rfl rfl rfl rfl (flat_v rfl) rfl rfl (by omega) (.v rfl (.nil)) rfl (Nat.le_of_ble_eq_true rfl) rfl) rfl ?_
      refine k_done rfl ?_
      refine blockK_n ?_
      refine thenK_n ?_
      refine W_seqK (b' := 438) rfl rfl ?_
      refine q0 43 406 1 rfl rfl (T_add64 rfl rfl rfl (by omega)) rfl ?_
      refine q0 13 422 2 rfl rfl (T_move rfl rfl) rfl ?_
      refine k_done rfl ?_
      refine thenK_n ?_
      refine ⟨i + 1, by (try dsimp only); omega, by (try dsimp only); omega, ?_⟩
      exact ⟨[(5, 5)], .same rfl rfl (.same rfl rfl (.eq rfl (.same rfl rfl (.eq rfl (.eq rfl (.nil) (by rfl)) rfl)) rfl)), .box (by rfl) (.mapE rfl (.rowE rfl (.fzE rfl (.box (by rfl) (.nil)) rfl) (by (rw [oneB'_t (by assumption) (by omega)]; done))) (by (exact oneM_f3 (by omega)))), rfl⟩
     ·have h6 := c_eql_f g6
      refine W_skip ?_
      refine blockK_n ?_
      refine thenK_n ?_
      refine W_seqK (b' := 326) rfl rfl ?_
      refine q0 43 294 1 rfl rfl (T_add64 rfl rfl rfl (by omega)) rfl ?_
      refine q0 13 310 2 rfl rfl (T_move rfl rfl) rfl ?_
      refine k_done rfl ?_
      refine thenK_n ?_
      refine ⟨i + 1, by (try dsimp only); omega, by (try dsimp only); omega, ?_⟩
      exact ⟨[(5, 5)], .same rfl rfl (.same rfl rfl (.eq rfl (.same rfl rfl (.eq rfl (.eq rfl (.nil) (by rfl)) rfl)) rfl)), .box (by rfl) (.mapE rfl (.rowE rfl (.fzE rfl (.box (by rfl) (.nil)) rfl) (by (rw [oneB'_f2 (by omega)]; done))) (by (exact oneM_f3 (by omega)))), rfl⟩
   ·have h3 := c_geq_f g3
    refine k_no (d := 23) (j' := 4) rfl rfl rfl (g_tf rfl rfl rfl g3) ?_
    refine k_no (d := 24) (j' := 5) rfl rfl rfl (g_tf rfl rfl rfl g3) ?_
    refine k_no (d := 25) (j' := 6) rfl rfl rfl (g_tf rfl rfl rfl g3) ?_
    refine q0 26 230 7 rfl rfl (T_pick_f rfl rfl rfl g3) rfl ?_
    refine k_done rfl ?_
    refine thenK_n ?_
    refine W_cond rfl (fun g7 => ?_) (fun g7 => ?_)
    ·exact absurd (g7.symm.trans rfl) (by decide)
    ·skip
     refine W_skip ?_
     refine thenK_n ?_
     refine W_seq ?_
     refine W_seqK (b' := 294) rfl rfl ?_
     refine q0 34 246 1 rfl rfl (T_fa D (m := 0) rfl rfl rfl rfl rfl rfl) rfl ?_
     refine q0 35 262 2 rfl rfl (T_load_b D rfl rfl rfl rfl rfl rfl) rfl ?_
     refine q0 36 278 3 rfl rfl (T_cmp rfl rfl rfl rfl) rfl ?_
     refine k_done rfl ?_
     refine thenK_n ?_
     refine W_cond rfl (fun g8 => ?_) (fun g8 => ?_)
     ·have h8 := c_eql_t g8
      refine W_seqK (b' := 406) rfl rfl ?_
      refine q0 37 294 1 rfl rfl (T_move rfl rfl) rfl ?_
      refine q0 38 310 2 rfl rfl (T_nilCheck rfl rfl) rfl ?_
      refine q0 39 326 3 rfl rfl (T_fa D (m := 1) rfl rfl rfl rfl rfl rfl) rfl ?_
      refine q0 40 342 4 rfl rfl (T_load_b D rfl rfl rfl rfl rfl rfl) rfl ?_
      refine q0 41 358 5 rfl rfl (T_move rfl rfl) rfl ?_
      refine q0 42 374 6 rfl rfl (T_indexAddr D rfl rfl rfl rfl rfl rfl rfl rfl (by omega)) rfl ?_
      refine s1 390 7 rfl rfl (T_store_e D (z := _) rfl rfl rfl rfl (flat_v rfl) rfl rfl (by omega) (.v rfl (.nil)) rfl (Nat.le_of_ble_eq_true rfl) rfl) rfl ?_
      refine k_done rfl ?_
      refine blockK_n ?_
      refine thenK_n ?_
      refine W_seqK (b' := 438) rfl rfl ?_
      refine q0 43 406 1 rfl rfl (T_add64 rfl rfl rfl (by omega)) rfl ?_
      refine q0 13 422 2 rfl rfl (T_move rfl rfl) rfl ?_
      refine k_done rfl ?_
      refine thenK_n ?_
      refine ⟨i + 1, by (try dsimp only); omega, by (try dsimp only); omega, ?_⟩
      exact ⟨[(5, 5)], .same rfl rfl (.same rfl rfl (.eq rfl (.same rfl rfl (.eq rfl (.eq rfl (.nil) (by rfl)) rfl)) rfl)), .box (by rfl) (.mapE rfl (.rowE rfl (.fzE rfl (.box (by rfl) (.nil)) rfl) (by (rw [oneB'_t (by assumption) (by omega)]; done))) (by (exact oneM_f2 (by omega)))), rfl⟩
     ·have h8 := c_eql_f g8
      refine W_skip ?_
      refine blockK_n ?_
      refine thenK_n ?_
      refine W_seqK (b' := 326) rfl rfl ?_
      refine q0 43 294 1 rfl rfl (T_add64 rfl rfl rfl (by omega)) rfl ?_
      refine q0 13 310 2 rfl rfl (T_move rfl rfl) rfl ?_
      refine k_done rfl ?_
      refine thenK_n ?_
      refine ⟨i + 1, by (try dsimp only); omega, by (try dsimp only); omega, ?_⟩
      exact ⟨[(5, 5)], .same rfl rfl (.same rfl rfl (.eq rfl (.same rfl rfl (.eq rfl (.eq rfl (.nil) (by rfl)) rfl)) rfl)), .box (by rfl) (.mapE rfl (.rowE rfl (.fzE rfl (.box (by rfl) (.nil)) rfl) (by (rw [oneB'_f2 (by omega)]; done))) (by (exact oneM_f2 (by omega)))), rfl⟩
 ·have h1 := c_lss_f g1
  refine W_exit ?_
  refine thenK_e ?_
  refine thenK_e ?_
  refine blockK_hit ?_
  exact .mk [] (.inl rfl) (.nil) rfl (.box (by rfl) (.mapE rfl (.rowE rfl (.nil) (by (have ei : i = s.length := (by omega); subst ei; rfl))) (by (have ei : i = s.length := (by omega); subst ei; rfl)))) rfl
end Lg
end Go.Proofs.Ytpfhmodjjljpjaa

namespace Go.Proofs.Ytpfhmodjjljpjaa
open Go.RowKit
namespace Lg
set_option maxRecDepth 100000
set_option linter.unusedVariables false
set_option linter.unusedSimpArgs false
theorem body82 : (Try.prog.funcs[82]?).map (fun fn => (fn.name == "runtime.NumGoroutine" || fn.body.isNone)) = some false := by kernel_rfl
theorem of28_spec (f : GFn) (li lo : List (List Bool)) (hF : LF f) (hi : SzL f li) (ho : SzL f lo) (hb : 0 < f.blocks.length) : Spec Try.prog 82 [.agg [.v (.int .i64 f.regs), .r 1], .agg [.r 2, .r 3]] 4 [(1, .fz 5 (f.blocks.map eBlock)), (2, .fz 1 (li.map eBs)), (3, .fz 1 (lo.map eBs))] (.p 4 0) 7 [(4, .box 117 [.r 5, .r 6]), (5, .map (confl f li lo).1), (6, .row 4 1 ((confl f li lo).2.map eB))] := by
 have hFr := hF.regs
 have hFl := hF.len
 have hil := hi.len
 have hol := ho.len
 have hi0 := hi.at (k := 0) hb
 refine spec_of D (fn := Try.f82) rfl rfl (Nat.le_of_ble_eq_true rfl) ?_
 refine W_seq ?_
 refine W_seqK (b' := 52) rfl rfl ?_
 refine q1 2 4 1 rfl rfl (T_box rfl rfl flat_agg) rfl ?_
 refine q1 3 20 2 rfl rfl (T_box rfl rfl flat_agg) rfl ?_
 refine q0 4 36 3 rfl rfl (T_assign rfl rfl) rfl ?_
 refine k_done rfl ?_
 refine thenK_n ?_
 refine W_seq ?_
 refine W_seqK (b' := 164) rfl rfl ?_
 refine q1 11 52 1 rfl rfl (T_makeMap rfl) rfl ?_
 refine q0 12 68 2 rfl rfl (T_fa D (m := 0) rfl rfl rfl rfl rfl rfl) rfl ?_
 refine q0 13 84 3 rfl rfl (T_load_b D rfl rfl rfl rfl rfl rfl) rfl ?_
 refine q1 14 100 4 rfl rfl (T_makeZ (x := .tmp 13) (y := .tmp 13) (m := f.regs.toNat) (by omega) rfl rfl (fun k1 k2 => T_make D (zx := false) (enc := eB) rfl k1 k2 rfl rfl rfl rfl (.v rfl (.nil)) rfl (by (try simp only [ty4]); omega) (by (try simp only [ty4]); omega))) rfl ?_
 refine q0 15 116 5 rfl rfl (T_build D (l := [_, _]) rfl rfl rfl rfl (.cons rfl (flat_map rfl) (.cons rfl (flat_sl rfl) (.nil))) rfl rfl) rfl ?_
 refine q1 16 132 6 rfl rfl (T_box rfl rfl flat_agg) rfl ?_
 refine q0 5 148 7 rfl rfl (T_assign rfl rfl) rfl ?_
 refine k_done rfl ?_
 refine thenK_n ?_
 refine W_seq ?_
 refine W_seqK (b' := 260) rfl rfl ?_
 refine q0 17 164 1 rfl rfl (T_move rfl rfl) rfl ?_
 refine q0 18 180 2 rfl rfl (T_fa D (m := 0) rfl rfl rfl rfl rfl rfl) rfl ?_
 refine q0 19 196 3 rfl rfl (T_load_b D rfl rfl rfl rfl rfl rfl) rfl ?_
 refine q0 20 212 4 rfl rfl (T_indexAddr D rfl rfl rfl rfl rfl rfl rfl rfl (by (simp; omega))) rfl ?_
 refine q1 21 228 5 rfl rfl (T_ldE D (lv := .r 228) (nn := 1) (upd := [(228, .fz 1 _)]) rfl rfl rfl rfl rfl (by (simp; omega)) rfl rfl rfl rfl) rfl ?_
 refine qn 22 244 6 rfl rfl (T_call (lvs := [_, _]) (L := [(1, 132), (2, 52), (3, 100), (4, 228)]) (lv := .tup []) (upd := [(132, .box 117 [.r 52, .r 100]), (52, .map _), (100, .row 4 1 _)]) (nn := 0) false (all_spec [] (List.replicate f.regs.toNat false) (li.getD 0 default) (by omega)) body122 rfl rfl rfl rfl (.box rfl (.map rfl (.row rfl (.fz rfl (.nil))))) rfl (.inl rfl) rfl rfl rfl) rfl ?_
 refine k_done rfl ?_
 refine thenK_n ?_
 refine W_seq ?_
 refine W_seq ?_
 refine W_seqK (b' := 324) rfl rfl ?_
 refine q0 23 260 1 rfl rfl (T_fa D (m := 1) rfl rfl rfl rfl rfl rfl) rfl ?_
 refine q0 24 276 2 rfl rfl (T_load_b D rfl rfl rfl rfl rfl rfl) rfl ?_
 refine q0 25 292 3 rfl rfl (T_len D rfl rfl rfl rfl rfl rfl) rfl ?_
 refine q0 26 308 4 rfl rfl (T_move rfl rfl) rfl ?_
 refine k_done rfl ?_
 refine thenK_n ?_
 refine W_block ?_
 refine W_loop (ι := Nat) 9 (fun k => ⟨[(2, .p 4 0), (3, .p 5 0), (5, .p 6 0), (24, .r 1), (25, .v (.int .i64 (f.blocks.length : Int))), (26, .v (.int .i64 (k : Int)))], [(1, .fz 5 (f.blocks.map eBlock)), (2, .fz 1 (li.map eBs)), (3, .fz 1 (lo.map eBs)), (4, .box 29 [.v (.int .i64 f.regs), .r 1]), (5, .box 57 [.r 2, .r 3]), (6, .box 117 [.r 7, .r 8]), (7, .map ((ofC f li lo k).1)), (8, .row 4 1 ((ofC f li lo k).2.map eB))]⟩) (fun k => k ≤ f.blocks.length) (fun k => f.blocks.length - k) (0) (by exact Nat.zero_le _) ?_ (fun k hK => ?_)
 ·exact ⟨[(4, 4), (5, 20), (6, 132), (7, 52), (8, 100)], .same rfl rfl (.same rfl rfl (.same rfl rfl (.same rfl rfl (.eq rfl (.eq rfl (.nil) (by rfl)) (by rfl))))), .fzE rfl (.fzE rfl (.fzE rfl (.box (by rfl) (.box (by rfl) (.box (by rfl) (.mapE rfl (.rowE rfl (.nil) (by rfl)) (by rfl))))) (by rfl)) (by rfl)) (by rfl), rfl⟩
 have hcl := ofC_len f li lo k
 refine W_seq ?_
 refine W_seqK (b' := 25) rfl rfl ?_
 refine q0 27 9 1 rfl rfl (T_cmp rfl rfl rfl rfl) rfl ?_
 refine k_done rfl ?_
 refine thenK_n ?_
 refine W_seq ?_
 refine W_cond rfl (fun g1 => ?_) (fun g1 => ?_)
 ·have h1 := c_lss_t g1
  refine W_skip ?_
  refine thenK_n ?_
  refine W_seq ?_
  refine W_block ?_
  refine W_seq ?_
  refine W_seqK (b' := 121) rfl rfl ?_
  refine q0 28 25 1 rfl rfl (T_move rfl rfl) rfl ?_
  refine q0 29 41 2 rfl rfl (T_indexAddr D rfl rfl rfl rfl rfl rfl rfl rfl (by omega)) rfl ?_
  refine q1 30 57 3 rfl rfl (T_ldEA D (l := [.r 57, .v _, .v _, .v _, .v _]) (nn := 1) (upd := [(57, .fz 8 _)]) rfl rfl rfl rfl rfl (by omega) rfl rfl rfl rfl rfl) rfl ?_
  refine qn 7 73 4 rfl rfl (T_nilbox [(70, 8)] (T_alloc D rfl rfl rfl) rfl (.cons (.nil rfl) <| .cons (.same _) <| .cons (.same _) <| .cons (.same _) <| .cons (.same _) <| .nil) (upd' := [(73, .box 72 [.r 74, .v (.int .i64 0), .v (.int .i64 0), .v (.int .i64 0), .v (.int .i64 0)]), (74, .row 70 8 (List.map eTac ([] : List (GTac))))]) (nn' := 2) rfl rfl) rfl ?_
  refine q0 6 89 5 rfl rfl (T_assign rfl rfl) rfl ?_
  refine s1 105 6 rfl rfl (T_stB D (cs' := [_, _, _, _, _]) rfl rfl rfl rfl flat_agg rfl rfl (Nat.le_of_ble_eq_true rfl) rfl) rfl ?_
  refine k_done rfl ?_
  refine thenK_n ?_
  refine W_seq ?_
  refine W_seqK (b' := 201) rfl rfl ?_
  refine q0 31 121 1 rfl rfl (T_load_bA D (l := [_, _]) rfl rfl rfl rfl rfl rfl rfl) rfl ?_
  refine q0 32 137 2 rfl rfl (T_load_bA D (l := [_, _]) rfl rfl rfl rfl rfl rfl rfl) rfl ?_
  refine q0 33 153 3 rfl rfl (T_move rfl rfl) rfl ?_
  refine q1 34 169 4 rfl rfl (T_call (lvs := [_, _, _]) (L := [(1, 1), (2, 2), (3, 3)]) (lv := .r 169) (upd := [(169, .fz 1 _)]) (nn := 1) false (beh_spec f li lo (k : Int) hF ⟨by omega, by omega⟩ ho) body58 rfl rfl rfl rfl (.fz rfl (.fz rfl (.fz rfl (.nil)))) rfl (.inl rfl) rfl rfl rfl) rfl ?_
  refine q0 8 185 5 rfl rfl (T_assign rfl rfl) rfl ?_
  refine k_done rfl ?_
  refine thenK_n ?_
  refine W_seq ?_
  refine W_seqK (b' := 265) rfl rfl ?_
  refine q0 35 201 1 rfl rfl (T_fa D (m := 0) rfl rfl rfl rfl rfl rfl) rfl ?_
  refine q0 36 217 2 rfl rfl (T_load_b D rfl rfl rfl rfl rfl rfl) rfl ?_
  refine q0 37 233 3 rfl rfl (T_len D rfl rfl rfl rfl rfl rfl) rfl ?_
  refine q0 38 249 4 rfl rfl (T_move rfl rfl) rfl ?_
  refine k_done rfl ?_
  refine thenK_n ?_
  refine W_block ?_
  have hkb : k < f.blocks.length := by omega
  have hins := hF.ins (f.blocks.getD k default) (getD_mem hkb)
  have hok := ho.at hkb
  have hbl := behL_len (f.blocks.getD k default) (lo.getD k default)
  refine W_loop (ι := Nat) 11 (fun j => ⟨[(2, .p 4 0), (3, .p 5 0), (5, .p 6 0), (8, .r 9), (24, .r 1), (25, .v (.int .i64 (f.blocks.length : Int))), (26, .v (.int .i64 (k : Int))), (36, .r 10), (37, .v (.int .i64 ((f.blocks.getD k default).ins.length : Int))), (38, .v (.int .i64 (j : Int)))], [(1, .fz 5 (f.blocks.map eBlock)), (2, .fz 1 (li.map eBs)), (3, .fz 1 (lo.map eBs)), (4, .box 29 [.v (.int .i64 f.regs), .r 1]), (5, .box 57 [.r 2, .r 3]), (6, .box 117 [.r 7, .r 8]), (7, .map ((blkC (f.blocks.getD k default) (lo.getD k default) (ofC f li lo k) j).1)), (8, .row 4 1 ((blkC (f.blocks.getD k default) (lo.getD k default) (ofC f li lo k) j).2.map eB)), (9, .fz 1 ((behL (f.blocks.getD k default) (lo.getD k default)).map eBs)), (10, .fz 8 ((f.blocks.getD k default).ins.map eTac))]⟩) (fun j => j ≤ (f.blocks.getD k default).ins.length) (fun j => (f.blocks.getD k default).ins.length - j) (0) (by exact Nat.zero_le _) ?_ (fun j hJ => ?_)
  ·exact ⟨[(4, 4), (5, 5), (6, 6), (7, 7), (8, 8), (9, 169), (10, 57)], .same rfl rfl (.same rfl rfl (.same rfl rfl (.same rfl rfl (.same rfl rfl (.eq rfl (.eq rfl (.same rfl rfl (.eq rfl (.eq rfl (.nil) (by rfl)) (by rfl))) (by rfl)) (by rfl)))))), .fzE rfl (.fzE rfl (.fzE rfl (.box (by rfl) (.box (by rfl) (.box (by rfl) (.mapE rfl (.rowE rfl (.fzE rfl (.fzE rfl (.nil) (by rfl)) (by rfl)) (by rfl)) (by rfl))))) (by rfl)) (by rfl)) (by rfl), rfl⟩
  have hbc := blkC_len (f.blocks.getD k default) (lo.getD k default) (ofC f li lo k) j
  have hbd : j < (f.blocks.getD k default).ins.length → ((behL (f.blocks.getD k default) (lo.getD k default)).getD j default).length = f.regs.toNat := fun h => by rw [behL_getD _ _ h, thrK_len]; exact hok
  refine W_seq ?_
  refine W_seqK (b' := 27) rfl rfl ?_
  refine q0 39 11 1 rfl rfl (T_cmp rfl rfl rfl rfl) rfl ?_
  refine k_done rfl ?_
  refine thenK_n ?_
  refine W_seq ?_
  refine W_cond rfl (fun g2 => ?_) (fun g2 => ?_)
  ·have h2 := c_lss_t g2
   refine W_skip ?_
   refine thenK_n ?_
   refine W_seq ?_
   refine W_block ?_
   refine W_seq ?_
   refine W_seqK (b' := 123) rfl rfl ?_
   refine q0 40 27 1 rfl rfl (T_move rfl rfl) rfl ?_
   refine q0 41 43 2 rfl rfl (T_indexAddr D rfl rfl rfl rfl rfl rfl rfl rfl (by omega)) rfl ?_
   refine q0 42 59 3 rfl rfl (T_ldEA D (l := [.v _, .v _, .v _, .v _, .v _, .v _, .v _, .v _]) (nn := 0) (upd := []) rfl rfl rfl rfl rfl (by omega) rfl rfl rfl rfl rfl) rfl ?_
   refine q1 10 75 4 rfl rfl (T_alloc D rfl rfl rfl) rfl ?_
   refine q0 9 91 5 rfl rfl (T_assign rfl rfl) rfl ?_
   refine s1 107 6 rfl rfl (T_stB D (cs' := [_, _, _, _, _, _, _, _]) rfl rfl rfl rfl flat_agg rfl rfl (Nat.le_of_ble_eq_true rfl) rfl) rfl ?_
   refine k_done rfl ?_
   refine thenK_n ?_
   refine W_anyK (b' := 235) rfl rfl rfl ?_
   refine q0 43 123 1 rfl rfl (T_move rfl rfl) rfl ?_
   refine q0 44 139 2 rfl rfl (T_load_bA D (l := [_, _, _, _, _, _, _, _]) rfl rfl rfl rfl rfl rfl rfl) rfl ?_
   refine q0 45 155 3 rfl rfl (T_move rfl rfl) rfl ?_
   refine q0 46 171 4 rfl rfl (T_move rfl rfl) rfl ?_
   refine q0 47 187 5 rfl rfl (T_indexAddr D rfl rfl rfl rfl rfl rfl rfl rfl (by omega)) rfl ?_
   refine q1 48 203 6 rfl rfl (T_ldE D (lv := .r 203) (nn := 1) (upd := [(203, .fz 1 _)]) rfl rfl rfl rfl rfl (by omega) rfl rfl rfl rfl) rfl ?_
   refine qn 49 219 7 rfl rfl (T_call (lvs := [_, _, _]) (L := [(1, 6), (2, 7), (3, 8), (4, 203)]) (lv := .tup []) (upd := [(6, .box 117 [.r 7, .r 8]), (7, .map _), (8, .row 4 1 _)]) (nn := 0) false (onec_spec (blkC (f.blocks.getD k default) (lo.getD k default) (ofC f li lo k) j).1 (blkC (f.blocks.getD k default) (lo.getD k default) (ofC f li lo k) j).2 ((behL (f.blocks.getD k default) (lo.getD k default)).getD j default) ((f.blocks.getD k default).ins.getD j default) (by have q := hbd (by omega); omega) (by have q := hbd (by omega); omega)) body123 rfl rfl rfl rfl (.box rfl (.map rfl (.row rfl (.fz rfl (.nil))))) rfl (.inl rfl) rfl rfl rfl) rfl ?_
   refine k_done rfl ?_
   refine ⟨rfl, ?_⟩
   refine blockK_n ?_
   refine thenK_n ?_
   refine W_seqK (b' := 267) rfl rfl ?_
   refine q0 50 235 1 rfl rfl (T_add64 rfl rfl rfl (by omega)) rfl ?_
   refine q0 38 251 2 rfl rfl (T_move rfl rfl) rfl ?_
   refine k_done rfl ?_
   refine thenK_n ?_
   refine ⟨j + 1, by (try dsimp only); omega, by (try dsimp only); omega, ?_⟩
   exact ⟨[(4, 4), (5, 5), (6, 6), (7, 7), (8, 8), (9, 9), (10, 10)], .same rfl rfl (.same rfl rfl (.same rfl rfl (.same rfl rfl (.same rfl rfl (.eq rfl (.eq rfl (.same rfl rfl (.eq rfl (.eq rfl (.nil) (by rfl)) rfl)) rfl) rfl))))), .fzE rfl (.fzE rfl (.fzE rfl (.box (by rfl) (.box (by rfl) (.box (by rfl) (.mapE rfl (.rowE rfl (.fzE rfl (.fzE rfl (.nil) rfl) rfl) (by rfl)) (by rfl))))) rfl) rfl) rfl, rfl⟩
  ·have h2 := c_lss_f g2
   refine W_exit ?_
   refine thenK_e ?_
   refine thenK_e ?_
   refine blockK_hit ?_
   refine blockK_n ?_
   refine thenK_n ?_
   refine W_seqK (b' := 59) rfl rfl ?_
   refine q0 51 27 1 rfl rfl (T_add64 rfl rfl rfl (by omega)) rfl ?_
   refine q0 26 43 2 rfl rfl (T_move rfl rfl) rfl ?_
   refine k_done rfl ?_
   refine thenK_n ?_
   refine ⟨k + 1, by (try dsimp only); omega, by (try dsimp only); omega, ?_⟩
   exact ⟨[(4, 4), (5, 5), (6, 6), (7, 7), (8, 8)], .same rfl rfl (.same rfl rfl (.same rfl rfl (.same rfl rfl (.eq rfl (.eq rfl (.nil) (by rfl)) rfl)))), .fzE rfl (.fzE rfl (.fzE rfl (.box (by rfl) (.box (by rfl) (.box (by rfl) (.mapE rfl (.rowE rfl (.nil) (by (have ej : j = (f.blocks.getD k default).ins.length := (by omega); subst ej; rfl))) (by (have ej : j = (f.blocks.getD k default).ins.length := (by omega); subst ej; rfl)))))) rfl) rfl) rfl, rfl⟩
 ·have h1 := c_lss_f g1
  refine W_exit ?_
  refine thenK_e ?_
  refine thenK_e ?_
  refine blockK_hit ?_
  refine thenK_n ?_
  refine W_seq ?_
  refine W_seqK (b' := 57) rfl rfl ?_
  refine q0 52 25 1 rfl rfl (T_move rfl rfl) rfl ?_
  refine q0 4 41 2 rfl rfl (T_assign rfl rfl) rfl ?_
  refine k_done rfl ?_
  refine thenK_n ?_
  refine W_ret ?_
  exact .mk [(4, 6), (5, 7), (6, 8)] (.inr rfl) (.tmp rfl (.nil)) rfl (.box (by rfl) (.mapE rfl (.rowE rfl (.nil) (by (have ek : k = f.blocks.length := (by omega); subst ek; rfl))) (by (have ek : k = f.blocks.length := (by omega); subst ek; rfl)))) rfl
theorem body85 : (Try.prog.funcs[85]?).map (fun fn => (fn.name == "runtime.NumGoroutine" || fn.body.isNone)) = some false := by kernel_rfl
theorem fits28_spec (w k : Int) : Spec Try.prog 85 [.v (.int .i64 w), .v (.int .i64 k)] 1 [] (.v (.bool (fitsP k w))) 1 [] := by
 refine spec_of D (fn := Try.f85) rfl rfl (Nat.le_of_ble_eq_true rfl) ?_
 refine W_seq ?_
 refine W_seqK (b' := 17) rfl rfl ?_
 refine q0 4 1 1 rfl rfl (T_assign rfl rfl) rfl ?_
 refine k_done rfl ?_
 refine thenK_n ?_
 refine W_seq ?_
 refine W_seqK (b' := 273) rfl rfl ?_
 refine q0 5 17 1 rfl rfl (T_move rfl rfl) rfl ?_
 refine q0 6 33 2 rfl rfl (T_cmp rfl rfl rfl rfl) rfl ?_
 refine q0 7 49 3 rfl rfl (T_move rfl rfl) rfl ?_
 refine k_split (d := 7) rfl (fun g1 => ?_) (fun g1 => ?_)
 ·have h1 := c_geq_t g1
  refine k_op0 (d := 8) (b := 65) (j' := 4) rfl rfl rfl rfl (g_tt rfl rfl rfl g1) (T_move rfl rfl) rfl ?_
  refine k_op0 (d := 9) (b := 81) (j' := 5) rfl rfl rfl rfl (g_tt rfl rfl rfl g1) (T_move rfl rfl) rfl ?_
  refine k_op0 (d := 10) (b := 97) (j' := 6) rfl rfl rfl rfl (g_tt rfl rfl rfl g1) (T_cmp rfl rfl rfl rfl) rfl ?_
  refine q0 11 113 7 rfl rfl (T_pick_t rfl rfl rfl g1) rfl ?_
  refine q0 12 129 8 rfl rfl (T_move rfl rfl) rfl ?_
  refine k_split (d := 12) rfl (fun g2 => ?_) (fun g2 => ?_)
  ·have h2 := c_leq_t g2
   refine k_no (d := 13) (j' := 9) rfl rfl rfl (g_ft rfl rfl rfl g2) ?_
   refine k_no (d := 14) (j' := 10) rfl rfl rfl (g_ft rfl rfl rfl g2) ?_
   refine k_no (d := 15) (j' := 11) rfl rfl rfl (g_ft rfl rfl rfl g2) ?_
   refine k_no (d := 16) (j' := 12) rfl rfl rfl (.und rfl rfl rfl) ?_
   refine k_no (d := 17) (j' := 13) rfl rfl rfl (.und rfl rfl rfl) ?_
   refine k_no (d := 18) (j' := 14) rfl rfl rfl (g_ft rfl rfl rfl g2) ?_
   refine q0 19 241 15 rfl rfl (T_pick_t rfl rfl rfl g2) rfl ?_
   refine q0 4 257 16 rfl rfl (T_assign rfl rfl) rfl ?_
   refine k_done rfl ?_
   refine thenK_n ?_
   refine W_ret ?_
   exact .mk [] (.inr rfl) (.tmp rfl (.nil)) (by (simp only [resLV, LV.ren, LV.v.injEq, Value.bool.injEq]; rw [Bool.eq_iff_iff]; simp only [fitsP, cmpB, Bool.or_eq_true, Bool.and_eq_true, decide_eq_true_eq, true_iff, false_iff, Bool.false_eq_true]; omega)) (.nil) rfl
  ·have h2 := c_leq_f g2
   refine k_op0 (d := 13) (b := 145) (j' := 9) rfl rfl rfl rfl (g_ff rfl rfl rfl g2) (T_move rfl rfl) rfl ?_
   refine k_op0 (d := 14) (b := 161) (j' := 10) rfl rfl rfl rfl (g_ff rfl rfl rfl g2) (T_cmp rfl rfl rfl rfl) rfl ?_
   refine k_op0 (d := 15) (b := 177) (j' := 11) rfl rfl rfl rfl (g_ff rfl rfl rfl g2) (T_move rfl rfl) rfl ?_
   refine k_split (d := 15) rfl (fun g3 => ?_) (fun g3 => ?_)
   ·have h3 := c_leq_t g3
    refine k_op0 (d := 16) (b := 193) (j' := 12) rfl rfl rfl rfl (g_tt rfl rfl rfl g3) (T_move rfl rfl) rfl ?_
    refine k_op0 (d := 17) (b := 209) (j' := 13) rfl rfl rfl rfl (g_tt rfl rfl rfl g3) (T_cmp rfl rfl rfl rfl) rfl ?_
    refine k_op0 (d := 18) (b := 225) (j' := 14) rfl rfl rfl rfl (g_ff rfl rfl rfl g2) (T_pick_t rfl rfl rfl g3) rfl ?_
    refine q0 19 241 15 rfl rfl (T_pick_f rfl rfl rfl g2) rfl ?_
    refine q0 4 257 16 rfl rfl (T_assign rfl rfl) rfl ?_
    refine k_done rfl ?_
    refine thenK_n ?_
    refine W_ret ?_
    exact .mk [] (.inr rfl) (.tmp rfl (.nil)) (by (simp only [resLV, LV.ren, LV.v.injEq, Value.bool.injEq]; rw [Bool.eq_iff_iff]; simp only [fitsP, cmpB, Bool.or_eq_true, Bool.and_eq_true, decide_eq_true_eq, true_iff, false_iff, Bool.false_eq_true]; omega)) (.nil) rfl
   ·have h3 := c_leq_f g3
    refine k_no (d := 16) (j' := 12) rfl rfl rfl (g_tf rfl rfl rfl g3) ?_
    refine k_no (d := 17) (j' := 13) rfl rfl rfl (g_tf rfl rfl rfl g3) ?_
    refine k_op0 (d := 18) (b := 225) (j' := 14) rfl rfl rfl rfl (g_ff rfl rfl rfl g2) (T_pick_f rfl rfl rfl g3) rfl ?_
    refine q0 19 241 15 rfl rfl (T_pick_f rfl rfl rfl g2) rfl ?_
    refine q0 4 257 16 rfl rfl (T_assign rfl rfl) rfl ?_
    refine k_done rfl ?_
    refine thenK_n ?_
    refine W_ret ?_
    exact .mk [] (.inr rfl) (.tmp rfl (.nil)) (by (simp only [resLV, LV.ren, LV.v.injEq, Value.bool.injEq]; rw [Bool.eq_iff_iff]; simp only [fitsP, cmpB, Bool.or_eq_true, Bool.and_eq_true, decide_eq_true_eq, true_iff, false_iff, Bool.false_eq_true]; omega)) (.nil) rfl
 ·have h1 := c_geq_f g1
  refine k_no (d := 8) (j' := 4) rfl rfl rfl (g_tf rfl rfl rfl g1) ?_
  refine k_no (d := 9) (j' := 5) rfl rfl rfl (g_tf rfl rfl rfl g1) ?_
  refine k_no (d := 10) (j' := 6) rfl rfl rfl (g_tf rfl rfl rfl g1) ?_
  refine q0 11 113 7 rfl rfl (T_pick_f rfl rfl rfl g1) rfl ?_
  refine q0 12 129 8 rfl rfl (T_move rfl rfl) rfl ?_
  refine k_op0 (d := 13) (b := 145) (j' := 9) rfl rfl rfl rfl (g_ff rfl rfl rfl rfl) (T_move rfl rfl) rfl ?_
  refine k_op0 (d := 14) (b := 161) (j' := 10) rfl rfl rfl rfl (g_ff rfl rfl rfl rfl) (T_cmp rfl rfl rfl rfl) rfl ?_
  refine k_op0 (d := 15) (b := 177) (j' := 11) rfl rfl rfl rfl (g_ff rfl rfl rfl rfl) (T_move rfl rfl) rfl ?_
  refine k_split (d := 15) rfl (fun g4 => ?_) (fun g4 => ?_)
  ·have h4 := c_leq_t g4
   refine k_op0 (d := 16) (b := 193) (j' := 12) rfl rfl rfl rfl (g_tt rfl rfl rfl g4) (T_move rfl rfl) rfl ?_
   refine k_op0 (d := 17) (b := 209) (j' := 13) rfl rfl rfl rfl (g_tt rfl rfl rfl g4) (T_cmp rfl rfl rfl rfl) rfl ?_
   refine k_op0 (d := 18) (b := 225) (j' := 14) rfl rfl rfl rfl (g_ff rfl rfl rfl rfl) (T_pick_t rfl rfl rfl g4) rfl ?_
   refine q0 19 241 15 rfl rfl (T_pick_f rfl rfl rfl rfl) rfl ?_
   refine q0 4 257 16 rfl rfl (T_assign rfl rfl) rfl ?_
   refine k_done rfl ?_
   refine thenK_n ?_
   refine W_ret ?_
   exact .mk [] (.inr rfl) (.tmp rfl (.nil)) (by (simp only [resLV, LV.ren, LV.v.injEq, Value.bool.injEq]; rw [Bool.eq_iff_iff]; simp only [fitsP, cmpB, Bool.or_eq_true, Bool.and_eq_true, decide_eq_true_eq, true_iff, false_iff, Bool.false_eq_true]; omega)) (.nil) rfl
  ·have h4 := c_leq_f g4
   refine k_no (d := 16) (j' := 12) rfl rfl rfl (g_tf rfl rfl rfl g4) ?_
   refine k_no (d := 17) (j' := 13) rfl rfl rfl (g_tf rfl rfl rfl g4) ?_
   refine k_op0 (d := 18) (b := 225) (j' := 14) rfl rfl rfl rfl (g_ff rfl rfl rfl rfl) (T_pick_f rfl rfl rfl g4) rfl ?_
   refine q0 19 241 15 rfl rfl (T_pick_f rfl rfl rfl rfl) rfl ?_
   refine q0 4 257 16 rfl rfl (T_assign rfl rfl) rfl ?_
   refine k_done rfl ?_
   refine thenK_n ?_
   refine W_ret ?_
   exact .mk [] (.inr rfl) (.tmp rfl (.nil)) (by (simp only [resLV, LV.ren, LV.v.injEq, Value.bool.injEq]; rw [Bool.eq_iff_iff]; simp only [fitsP, cmpB, Bool.or_eq_true, Bool.and_eq_true, decide_eq_true_eq, true_iff, false_iff, Bool.false_eq_true]; omega)) (.nil) rfl
theorem body84 : (Try.prog.funcs[84]?).map (fun fn => (fn.name == "runtime.NumGoroutine" || fn.body.isNone)) = some false := by kernel_rfl
theorem nofit_spec (w k : Int) : Spec Try.prog 84 [.v (.int .i64 w), .p 1 0] 2 [(1, .box 3 [.v (.int .i64 k)])] (.v (.bool (nofit k w))) 2 [(1, .box 3 [.v (.int .i64 k)])] := by
 refine spec_of D (fn := Try.f84) rfl rfl (Nat.le_of_ble_eq_true rfl) ?_
 refine W_seq ?_
 refine W_seqK (b' := 18) rfl rfl ?_
 refine q0 3 2 1 rfl rfl (T_assign rfl rfl) rfl ?_
 refine k_done rfl ?_
 refine thenK_n ?_
 refine W_seq ?_
 refine W_seqK (b' := 98) rfl rfl ?_
 refine q0 4 18 1 rfl rfl (T_move rfl rfl) rfl ?_
 refine q0 5 34 2 rfl rfl (T_load_b D rfl rfl rfl rfl rfl rfl) rfl ?_
 refine q0 6 50 3 rfl rfl (T_callV (lvs := [_, _]) (L := []) (fits28_spec w k) body85 rfl rfl rfl rfl (.nil) rfl) rfl ?_
 refine q0 7 66 4 rfl rfl (T_not rfl rfl) rfl ?_
 refine q0 3 82 5 rfl rfl (T_assign rfl rfl) rfl ?_
 refine k_done rfl ?_
 refine thenK_n ?_
 refine W_ret ?_
 exact .mk [] (.inr rfl) (.tmp rfl (.nil)) (by rfl) (.box (by rfl) (.nil)) rfl
theorem body116 : (Try.prog.funcs[116]?).map (fun fn => (fn.name == "runtime.NumGoroutine" || fn.body.isNone)) = some false := by kernel_rfl
theorem idxF_spec (l : List Int) (n : Int) (hl : l.length ≤ 1000000000) : Spec Try.prog 116 [.r 1, .fn 84 [.p 2 0]] 3 [(1, .fz 1 (l.map eI)), (2, .box 3 [.v (.int .i64 n)])] (.v (.int .i64 (fstIdx (nofit n) l))) 3 [(2, .box 3 [.v (.int .i64 n)])] := by
 refine spec_of D (fn := Try.f116) rfl rfl (Nat.le_of_ble_eq_true rfl) ?_
 refine W_seq ?_
 refine W_seqK (b' := 19) rfl rfl ?_
 refine q0 4 3 1 rfl rfl (T_assign rfl rfl) rfl ?_
 refine k_done rfl ?_
 refine thenK_n ?_
 refine W_seq ?_
 refine W_seq ?_
 refine W_seqK (b' := 67) rfl rfl ?_
 refine q0 6 19 1 rfl rfl (T_move rfl rfl) rfl ?_
 refine q0 7 35 2 rfl rfl (T_len D rfl rfl rfl rfl rfl rfl) rfl ?_
 refine q0 8 51 3 rfl rfl (T_move rfl rfl) rfl ?_
 refine k_done rfl ?_
 refine thenK_n ?_
 refine W_block ?_
 refine W_loop (ι := Nat) 3 (fun j => ⟨[(0, .r 1), (1, .fn 84 [.p 2 0]), (7, .v (.int .i64 (l.length : Int))), (8, .v (.int .i64 (j : Int)))], [(1, .fz 1 (l.map eI)), (2, .box 3 [.v (.int .i64 n)])]⟩) (fun j => j ≤ l.length ∧ ∀ i, i < j → nofit n (l.getD i default) = false) (fun j => l.length - j) (0) (by exact ⟨Nat.zero_le _, fun i h => absurd h (Nat.not_lt_zero _)⟩) ?_ (fun j hJ => ?_)
 ·exact ⟨[], .same rfl rfl (.same rfl rfl (.eq rfl (.eq rfl (.nil) (by rfl)) (by rfl))), .fzE rfl (.box (by rfl) (.nil)) (by rfl), rfl⟩
 refine W_seq ?_
 refine W_seqK (b' := 19) rfl rfl ?_
 refine q0 9 3 1 rfl rfl (T_cmp rfl rfl rfl rfl) rfl ?_
 refine k_done rfl ?_
 refine thenK_n ?_
 refine W_seq ?_
 refine W_cond rfl (fun g1 => ?_) (fun g1 => ?_)
 ·have h1 := c_lss_t g1
  refine W_skip ?_
  refine thenK_n ?_
  refine W_seq ?_
  refine W_block ?_
  refine W_seq ?_
  refine W_seqK (b' := 51) rfl rfl ?_
  refine q0 10 19 1 rfl rfl (T_move rfl rfl) rfl ?_
  refine q0 5 35 2 rfl rfl (T_assign rfl rfl) rfl ?_
  refine k_done rfl ?_
  refine thenK_n ?_
  refine W_seq ?_
  refine W_seqK (b' := 147) rfl rfl ?_
  refine q0 11 51 1 rfl rfl (T_move rfl rfl) rfl ?_
  refine q0 12 67 2 rfl rfl (T_move rfl rfl) rfl ?_
  refine q0 13 83 3 rfl rfl (T_move rfl rfl) rfl ?_
  refine q0 14 99 4 rfl rfl (T_indexAddr D rfl rfl rfl rfl rfl rfl rfl rfl (by omega)) rfl ?_
  refine q0 15 115 5 rfl rfl (T_ldE D (lv := .v _) (nn := 0) (upd := []) rfl rfl rfl rfl rfl (by omega) rfl rfl rfl rfl) rfl ?_
  refine q1 16 131 6 rfl rfl (T_call (lvs := [_]) (L := [(1, 2)]) (lv := .v _) (upd := [(2, .box 3 [.v _])]) (nn := 0) false (nofit_spec _ _) body84 rfl rfl rfl rfl (.box rfl (.nil)) rfl (.inl rfl) rfl rfl rfl) rfl ?_
  refine k_done rfl ?_
  refine thenK_n ?_
  refine W_cond rfl (fun g2 => ?_) (fun g2 => ?_)
  ·have h2 := g2; (try simp only [cmpB, decide_eq_true_eq, decide_eq_false_iff_not, beq_iff_eq, beq_eq_false_iff_ne, bne_iff_ne, ne_eq, bne_eq_false_iff_eq, Bool.not_eq_true', Bool.not_eq_false', Int.not_lt, Int.not_le] at h2)
   refine W_seq ?_
   refine W_seqK (b' := 179) rfl rfl ?_
   refine q0 17 147 1 rfl rfl (T_move rfl rfl) rfl ?_
   refine q0 4 163 2 rfl rfl (T_assign rfl rfl) rfl ?_
   refine k_done rfl ?_
   refine thenK_n ?_
   refine W_ret ?_
   refine blockK_r ?_
   refine thenK_r ?_
   refine thenK_r ?_
   refine blockK_r ?_
   refine thenK_r ?_
   exact .mk [] (.inr rfl) (.tmp rfl (.nil)) (by (simp only [resLV, LV.ren, LV.v.injEq, Value.int.injEq, true_and]; exact (fstIdx_hit _ _ (by omega) (by assumption) (fun i hi => hJ.2 i hi)).symm)) (.box (by rfl) (.nil)) rfl
  ·have h2 := g2; (try simp only [cmpB, decide_eq_true_eq, decide_eq_false_iff_not, beq_iff_eq, beq_eq_false_iff_ne, bne_iff_ne, ne_eq, bne_eq_false_iff_eq, Bool.not_eq_true', Bool.not_eq_false', Int.not_lt, Int.not_le] at h2)
   refine W_skip ?_
   refine blockK_n ?_
   refine thenK_n ?_
   refine W_seqK (b' := 179) rfl rfl ?_
   refine q0 18 147 1 rfl rfl (T_add64 rfl rfl rfl (by omega)) rfl ?_
   refine q0 8 163 2 rfl rfl (T_move rfl rfl) rfl ?_
   refine k_done rfl ?_
   refine thenK_n ?_
   refine ⟨j + 1, by (try dsimp only); exact ⟨by omega, fun i hi => by rcases Nat.lt_or_ge i j with h | h; exact hJ.2 i h; rw [show i = j by omega]; assumption⟩, by (try dsimp only); omega, ?_⟩
   exact ⟨[], .same rfl rfl (.same rfl rfl (.eq rfl (.eq rfl (.nil) (by rfl)) rfl)), .fzE rfl (.box (by rfl) (.nil)) rfl, rfl⟩
 ·have h1 := c_lss_f g1
  refine W_exit ?_
  refine thenK_e ?_
  refine thenK_e ?_
  refine blockK_hit ?_
  refine thenK_n ?_
  refine W_seq ?_
  refine W_seqK (b' := 35) rfl rfl ?_
  refine q0 4 19 1 rfl rfl (T_assign rfl rfl) rfl ?_
  refine k_done rfl ?_
  refine thenK_n ?_
  refine W_ret ?_
  exact .mk [] (.inr rfl) (.tmp rfl (.nil)) (by (simp only [resLV, LV.ren, LV.v.injEq, Value.int.injEq, true_and]; exact (fstIdx_none _ _ (fun i hi => hJ.2 i (by omega))).symm)) (.box (by rfl) (.nil)) rfl
theorem body73 : (Try.prog.funcs[73]?).map (fun fn => (fn.name == "runtime.NumGoroutine" || fn.body.isNone)) = some false := by kernel_rfl
theorem contF_spec (l : List Int) (n : Int) (hl : l.length ≤ 1000000000) : Spec Try.prog 73 [.r 1, .fn 84 [.p 2 0]] 3 [(1, .fz 1 (l.map eI)), (2, .box 3 [.v (.int .i64 n)])] (.v (.bool (l.any (nofit n)))) 3 [(2, .box 3 [.v (.int .i64 n)])] := by
 refine spec_of D (fn := Try.f73) rfl rfl (Nat.le_of_ble_eq_true rfl) ?_
 refine W_seq ?_
 refine W_seqK (b' := 19) rfl rfl ?_
 refine q0 4 3 1 rfl rfl (T_assign rfl rfl) rfl ?_
 refine k_done rfl ?_
 refine thenK_n ?_
 refine W_seq ?_
 refine W_seqK (b' := 99) rfl rfl ?_
 refine q0 5 19 1 rfl rfl (T_move rfl rfl) rfl ?_
 refine q0 6 35 2 rfl rfl (T_move rfl rfl) rfl ?_
 refine q1 7 51 3 rfl rfl (T_call (lvs := [_, _]) (L := [(1, 1), (2, 2)]) (lv := .v _) (upd := [(2, .box 3 [.v _])]) (nn := 0) false (idxF_spec l n hl) body116 rfl rfl rfl rfl (.fz rfl (.box rfl (.nil))) rfl (.inl rfl) rfl rfl rfl) rfl ?_
 refine q0 8 67 4 rfl rfl (T_cmp rfl rfl rfl rfl) rfl ?_
 refine q0 4 83 5 rfl rfl (T_assign rfl rfl) rfl ?_
 refine k_done rfl ?_
 refine thenK_n ?_
 refine W_ret ?_
 exact .mk [] (.inr rfl) (.tmp rfl (.nil)) (by (simp only [resLV, LV.ren, LV.v.injEq, Value.bool.injEq]; exact fstIdx_any _ _)) (.box (by rfl) (.nil)) rfl
end Lg
end Go.Proofs.Ytpfhmodjjljpjaa

namespace Go.Proofs.Ytpfhmodjjljpjaa
open Go.RowKit
namespace Lg
set_option maxRecDepth 100000
set_option linter.unusedVariables false
set_option linter.unusedSimpArgs false
theorem body44 : (Try.prog.funcs[44]?).map (fun fn => (fn.name == "runtime.NumGoroutine" || fn.body.isNone)) = some false := by kernel_rfl
theorem acheck_spec (f : GFn) (li lo : List (List Bool)) (ps : List Int) (k : Int) (hF : LF f) (hb1 : li.length ≤ 1000000000000000) (hb2 : lo.length ≤ 1000000000000000) (hb : 0 < f.blocks.length) (hp : ps.length ≤ 1000000000) : Spec Try.prog 44 [.agg [.v (.int .i64 f.regs), .r 1], .agg [.r 2, .r 3], .agg [.r 4], .v (.int .i64 k)] 5 [(1, .fz 5 (f.blocks.map eBlock)), (2, .fz 1 (li.map eBs)), (3, .fz 1 (lo.map eBs)), (4, .fz 1 (ps.map eI))] (.v (.bool (acheck f li lo ps k))) 5 [] := by
 refine spec_of D (fn := Try.f44) rfl rfl (Nat.le_of_ble_eq_true rfl) ?_
 refine W_seq ?_
 refine W_seqK (b' := 85) rfl rfl ?_
 refine q1 4 5 1 rfl rfl (T_box rfl rfl flat_agg) rfl ?_
 refine q1 5 21 2 rfl rfl (T_box rfl rfl flat_agg) rfl ?_
 refine q1 6 37 3 rfl rfl (T_box rfl rfl flat_agg) rfl ?_
 refine q1 7 53 4 rfl rfl (T_box rfl rfl (flat_v rfl)) rfl ?_
 refine q0 8 69 5 rfl rfl (T_assign rfl rfl) rfl ?_
 refine k_done rfl ?_
 refine thenK_n ?_
 refine W_seq ?_
 refine W_seq ?_
 refine W_seqK (b' := 373) rfl rfl ?_
 refine q0 12 85 1 rfl rfl (T_load_bA D (l := [_, _]) rfl rfl rfl rfl rfl rfl rfl) rfl ?_
 refine q0 13 101 2 rfl rfl (T_load_bA D (l := [_, _]) rfl rfl rfl rfl rfl rfl rfl) rfl ?_
 refine q0 14 117 3 rfl rfl (T_callV (lvs := [_, _]) (L := [(1, 1), (2, 2), (3, 3)]) (lcheck_spec f li lo hF hb1 hb2) body53 rfl rfl rfl rfl (.fz rfl (.fz rfl (.fz rfl (.nil)))) rfl) rfl ?_
 refine q0 15 133 4 rfl rfl (T_not rfl rfl) rfl ?_
 refine q0 16 149 5 rfl rfl (T_move rfl rfl) rfl ?_
 refine k_split (d := 16) rfl (fun g1 => ?_) (fun g1 => ?_)
 ·have h1 := g1; (try simp only [cmpB, decide_eq_true_eq, decide_eq_false_iff_not, beq_iff_eq, beq_eq_false_iff_ne, bne_iff_ne, ne_eq, bne_eq_false_iff_eq, Bool.not_eq_true', Bool.not_eq_false', Int.not_lt, Int.not_le] at h1)
  refine k_no (d := 17) (j' := 6) rfl rfl rfl (g_ft rfl rfl rfl g1) ?_
  refine k_no (d := 18) (j' := 7) rfl rfl rfl (g_ft rfl rfl rfl g1) ?_
  refine k_no (d := 19) (j' := 8) rfl rfl rfl (g_ft rfl rfl rfl g1) ?_
  refine k_no (d := 20) (j' := 9) rfl rfl rfl (g_ft rfl rfl rfl g1) ?_
  refine k_no (d := 21) (j' := 10) rfl rfl rfl (g_ft rfl rfl rfl g1) ?_
  refine k_no (d := 22) (j' := 11) rfl rfl rfl (g_ft rfl rfl rfl g1) ?_
  refine q0 23 261 12 rfl rfl (T_pick_t rfl rfl rfl g1) rfl ?_
  refine q0 24 277 13 rfl rfl (T_move rfl rfl) rfl ?_
  refine k_no (d := 25) (j' := 14) rfl rfl rfl (g_ft rfl rfl rfl rfl) ?_
  refine k_no (d := 26) (j' := 15) rfl rfl rfl (g_ft rfl rfl rfl rfl) ?_
  refine k_no (d := 27) (j' := 16) rfl rfl rfl (g_ft rfl rfl rfl rfl) ?_
  refine k_no (d := 28) (j' := 17) rfl rfl rfl (g_ft rfl rfl rfl rfl) ?_
  refine q0 29 357 18 rfl rfl (T_pick_t rfl rfl rfl rfl) rfl ?_
  refine k_done rfl ?_
  refine thenK_n ?_
  refine W_cond rfl (fun g2 => ?_) (fun g2 => ?_)
  ·skip
   refine W_seq ?_
   refine W_seqK (b' := 389) rfl rfl ?_
   refine q0 8 373 1 rfl rfl (T_assign rfl rfl) rfl ?_
   refine k_done rfl ?_
   refine thenK_n ?_
   refine W_ret ?_
   refine thenK_r ?_
   exact .mk [] (.inr rfl) (.tmp rfl (.nil)) (by (simp only [resLV, LV.ren, LV.v.injEq, Value.bool.injEq]; exact acheck_no1 (by assumption))) (.nil) rfl
  ·exact absurd (g2.symm.trans rfl) (by decide)
 ·have h1 := g1; (try simp only [cmpB, decide_eq_true_eq, decide_eq_false_iff_not, beq_iff_eq, beq_eq_false_iff_ne, bne_iff_ne, ne_eq, bne_eq_false_iff_eq, Bool.not_eq_true', Bool.not_eq_false', Int.not_lt, Int.not_le] at h1)
  refine k_op0 (d := 17) (b := 165) (j' := 6) rfl rfl rfl rfl (g_ff rfl rfl rfl g1) (T_fa D (m := 0) rfl rfl rfl rfl rfl rfl) rfl ?_
  refine k_op0 (d := 18) (b := 181) (j' := 7) rfl rfl rfl rfl (g_ff rfl rfl rfl g1) (T_load_b D rfl rfl rfl rfl rfl rfl) rfl ?_
  refine k_op0 (d := 19) (b := 197) (j' := 8) rfl rfl rfl rfl (g_ff rfl rfl rfl g1) (T_len D rfl rfl rfl rfl rfl rfl) rfl ?_
  refine k_op0 (d := 20) (b := 213) (j' := 9) rfl rfl rfl rfl (g_ff rfl rfl rfl g1) (T_fa D (m := 0) rfl rfl rfl rfl rfl rfl) rfl ?_
  refine k_op0 (d := 21) (b := 229) (j' := 10) rfl rfl rfl rfl (g_ff rfl rfl rfl g1) (T_load_b D rfl rfl rfl rfl rfl rfl) rfl ?_
  refine k_op0 (d := 22) (b := 245) (j' := 11) rfl rfl rfl rfl (g_ff rfl rfl rfl g1) (T_cmp rfl rfl rfl rfl) rfl ?_
  refine q0 23 261 12 rfl rfl (T_pick_f rfl rfl rfl g1) rfl ?_
  refine q0 24 277 13 rfl rfl (T_move rfl rfl) rfl ?_
  refine k_split (d := 24) rfl (fun g3 => ?_) (fun g3 => ?_)
  ·have h3 := c_neq_t g3
   refine k_no (d := 25) (j' := 14) rfl rfl rfl (g_ft rfl rfl rfl g3) ?_
   refine k_no (d := 26) (j' := 15) rfl rfl rfl (g_ft rfl rfl rfl g3) ?_
   refine k_no (d := 27) (j' := 16) rfl rfl rfl (g_ft rfl rfl rfl g3) ?_
   refine k_no (d := 28) (j' := 17) rfl rfl rfl (g_ft rfl rfl rfl g3) ?_
   refine q0 29 357 18 rfl rfl (T_pick_t rfl rfl rfl g3) rfl ?_
   refine k_done rfl ?_
   refine thenK_n ?_
   refine W_cond rfl (fun g4 => ?_) (fun g4 => ?_)
   ·skip
    refine W_seq ?_
    refine W_seqK (b' := 389) rfl rfl ?_
    refine q0 8 373 1 rfl rfl (T_assign rfl rfl) rfl ?_
    refine k_done rfl ?_
    refine thenK_n ?_
    refine W_ret ?_
    refine thenK_r ?_
    exact .mk [] (.inr rfl) (.tmp rfl (.nil)) (by (simp only [resLV, LV.ren, LV.v.injEq, Value.bool.injEq]; exact acheck_no2 (by omega))) (.nil) rfl
   ·exact absurd (g4.symm.trans rfl) (by decide)
  ·have h3 := c_neq_f g3
   refine k_op0 (d := 25) (b := 293) (j' := 14) rfl rfl rfl rfl (g_ff rfl rfl rfl g3) (T_fa D (m := 0) rfl rfl rfl rfl rfl rfl) rfl ?_
   refine k_op0 (d := 26) (b := 309) (j' := 15) rfl rfl rfl rfl (g_ff rfl rfl rfl g3) (T_load_b D rfl rfl rfl rfl rfl rfl) rfl ?_
   refine k_op0 (d := 27) (b := 325) (j' := 16) rfl rfl rfl rfl (g_ff rfl rfl rfl g3) (T_makeFunc (l := [_]) rfl rfl) rfl ?_
   refine k_op1 (d := 28) (b := 341) (j' := 17) rfl rfl rfl rfl (g_ff rfl rfl rfl g3) (T_call (lvs := [_, _]) (L := [(1, 4), (2, 53)]) (lv := .v _) (upd := [(53, .box 3 [.v _])]) (nn := 0) false (contF_spec ps k hp) body73 rfl rfl rfl rfl (.fz rfl (.box rfl (.nil))) rfl (.inl rfl) rfl rfl rfl) rfl ?_
   refine q0 29 357 18 rfl rfl (T_pick_f rfl rfl rfl g3) rfl ?_
   refine k_done rfl ?_
   refine thenK_n ?_
   refine W_cond rfl (fun g5 => ?_) (fun g5 => ?_)
   ·have h5 := g5; (try simp only [cmpB, decide_eq_true_eq, decide_eq_false_iff_not, beq_iff_eq, beq_eq_false_iff_ne, bne_iff_ne, ne_eq, bne_eq_false_iff_eq, Bool.not_eq_true', Bool.not_eq_false', Int.not_lt, Int.not_le] at h5)
    refine W_seq ?_
    refine W_seqK (b' := 389) rfl rfl ?_
    refine q0 8 373 1 rfl rfl (T_assign rfl rfl) rfl ?_
    refine k_done rfl ?_
    refine thenK_n ?_
    refine W_ret ?_
    refine thenK_r ?_
    exact .mk [] (.inr rfl) (.tmp rfl (.nil)) (by (simp only [resLV, LV.ren, LV.v.injEq, Value.bool.injEq]; exact acheck_no3 (by assumption))) (.nil) rfl
   ·have h5 := g5; (try simp only [cmpB, decide_eq_true_eq, decide_eq_false_iff_not, beq_iff_eq, beq_eq_false_iff_ne, bne_iff_ne, ne_eq, bne_eq_false_iff_eq, Bool.not_eq_true', Bool.not_eq_false', Int.not_lt, Int.not_le] at h5)
    refine W_skip ?_
    refine thenK_n ?_
    refine W_seq ?_
    refine W_seqK (b' := 437) rfl rfl ?_
    refine q0 30 373 1 rfl rfl (T_load_bA D (l := [_, _]) rfl rfl rfl rfl rfl rfl rfl) rfl ?_
    refine q0 31 389 2 rfl rfl (T_load_bA D (l := [_, _]) rfl rfl rfl rfl rfl rfl rfl) rfl ?_
    refine qn 32 405 3 rfl rfl (T_call (lvs := [_, _]) (L := [(1, 1), (2, 2), (3, 3)]) (lv := .p 405 0) (upd := [(405, .box 117 [.r 406, .r 407]), (406, .map _), (407, .row 4 1 _)]) (nn := 3) false (of28_spec f li lo hF (closed_iff (by assumption : checkL f li lo = true)).1 (closed_iff (by assumption : checkL f li lo = true)).2.1 hb) body82 rfl rfl rfl rfl (.fz rfl (.fz rfl (.fz rfl (.nil)))) rfl (.inl rfl) rfl rfl rfl) rfl ?_
    refine q0 9 421 4 rfl rfl (T_assign rfl rfl) rfl ?_
    refine k_done rfl ?_
    refine thenK_n ?_
    refine W_seq ?_
    refine W_seq ?_
    refine W_seqK (b' := 501) rfl rfl ?_
    refine q0 33 437 1 rfl rfl (T_fa D (m := 0) rfl rfl rfl rfl rfl rfl) rfl ?_
    refine q0 34 453 2 rfl rfl (T_load_b D rfl rfl rfl rfl rfl rfl) rfl ?_
    refine q0 35 469 3 rfl rfl (T_len D rfl rfl rfl rfl rfl rfl) rfl ?_
    refine q0 36 485 4 rfl rfl (T_move rfl rfl) rfl ?_
    refine k_done rfl ?_
    refine thenK_n ?_
    refine W_block ?_
    have hcl : (confl f li lo).2.length = f.regs.toNat := ofC_len f li lo _
    have hFr := hF.regs
    have hpl : (ps.length : Int) = f.regs := by omega
    refine W_loop (ι := Nat) 9 (fun i => ⟨[(6, .p 5 0), (9, .p 6 0), (34, .r 4), (35, .v (.int .i64 (ps.length : Int))), (36, .v (.int .i64 (i : Int)))], [(1, .fz 5 (f.blocks.map eBlock)), (2, .fz 1 (li.map eBs)), (3, .fz 1 (lo.map eBs)), (4, .fz 1 (ps.map eI)), (5, .box 60 [.r 4]), (6, .box 117 [.r 7, .r 8]), (7, .map ((confl f li lo).1)), (8, .row 4 1 ((confl f li lo).2.map eB))]⟩) (fun i => i ≤ ps.length ∧ ∀ j, j < i → okP (confl f li lo) ps j = true) (fun i => ps.length - i) (0) (by exact ⟨Nat.zero_le _, fun i h => absurd h (Nat.not_lt_zero _)⟩) ?_ (fun i hJ => ?_)
    ·exact ⟨[(5, 37), (6, 405), (7, 406), (8, 407)], .same rfl rfl (.same rfl rfl (.same rfl rfl (.eq rfl (.eq rfl (.nil) (by rfl)) (by rfl)))), .fzE rfl (.fzE rfl (.fzE rfl (.fzE rfl (.box (by rfl) (.box (by rfl) (.mapE rfl (.rowE rfl (.nil) (by rfl)) (by rfl)))) (by rfl)) (by rfl)) (by rfl)) (by rfl), rfl⟩
    refine W_seq ?_
    refine W_seqK (b' := 25) rfl rfl ?_
    refine q0 37 9 1 rfl rfl (T_cmp rfl rfl rfl rfl) rfl ?_
    refine k_done rfl ?_
    refine thenK_n ?_
    refine W_seq ?_
    refine W_cond rfl (fun g6 => ?_) (fun g6 => ?_)
    ·have h6 := c_lss_t g6
     refine W_skip ?_
     refine thenK_n ?_
     refine W_seq ?_
     refine W_block ?_
     refine W_seq ?_
     refine W_seqK (b' := 105) rfl rfl ?_
     refine q0 38 25 1 rfl rfl (T_move rfl rfl) rfl ?_
     refine q0 39 41 2 rfl rfl (T_indexAddr D rfl rfl rfl rfl rfl rfl rfl rfl (by omega)) rfl ?_
     refine q0 40 57 3 rfl rfl (T_ldE D (lv := .v _) (nn := 0) (upd := []) rfl rfl rfl rfl rfl (by omega) rfl rfl rfl rfl) rfl ?_
     refine q0 10 73 4 rfl rfl (T_assign rfl rfl) rfl ?_
     refine q0 11 89 5 rfl rfl (T_assign rfl rfl) rfl ?_
     refine k_done rfl ?_
     refine thenK_n ?_
     refine W_seq ?_
     refine W_seqK (b' := 457) rfl rfl ?_
     refine q0 41 105 1 rfl rfl (T_move rfl rfl) rfl ?_
     refine q0 42 121 2 rfl rfl (T_nilCheck rfl rfl) rfl ?_
     refine q0 43 137 3 rfl rfl (T_fa D (m := 1) rfl rfl rfl rfl rfl rfl) rfl ?_
     refine q0 44 153 4 rfl rfl (T_load_b D rfl rfl rfl rfl rfl rfl) rfl ?_
     refine q0 45 169 5 rfl rfl (T_move rfl rfl) rfl ?_
     refine q0 46 185 6 rfl rfl (T_indexAddr D rfl rfl rfl rfl rfl rfl rfl rfl (by omega)) rfl ?_
     refine q0 47 201 7 rfl rfl (T_ldE D (lv := .v _) (nn := 0) (upd := []) rfl rfl rfl rfl rfl (by omega) rfl rfl rfl rfl) rfl ?_
     refine q0 48 217 8 rfl rfl (T_move rfl rfl) rfl ?_
     refine k_split (d := 48) rfl (fun g7 => ?_) (fun g7 => ?_)
     ·have h7 := g7; (try simp only [cmpB, decide_eq_true_eq, decide_eq_false_iff_not, beq_iff_eq, beq_eq_false_iff_ne, bne_iff_ne, ne_eq, bne_eq_false_iff_eq, Bool.not_eq_true', Bool.not_eq_false', Int.not_lt, Int.not_le] at h7)
      refine k_op0 (d := 49) (b := 233) (j' := 9) rfl rfl rfl rfl (g_tt rfl rfl rfl g7) (T_move rfl rfl) rfl ?_
      refine k_op0 (d := 50) (b := 249) (j' := 10) rfl rfl rfl rfl (g_tt rfl rfl rfl g7) (T_cmp rfl rfl rfl rfl) rfl ?_
      refine q0 51 265 11 rfl rfl (T_pick_t rfl rfl rfl g7) rfl ?_
      refine q0 52 281 12 rfl rfl (T_move rfl rfl) rfl ?_
      refine k_split (d := 52) rfl (fun g8 => ?_) (fun g8 => ?_)
      ·have h8 := c_gtr_t g8
       refine k_no (d := 53) (j' := 13) rfl rfl rfl (g_ft rfl rfl rfl g8) ?_
       refine k_no (d := 54) (j' := 14) rfl rfl rfl (g_ft rfl rfl rfl g8) ?_
       refine k_no (d := 55) (j' := 15) rfl rfl rfl (g_ft rfl rfl rfl g8) ?_
       refine k_no (d := 56) (j' := 16) rfl rfl rfl (g_ft rfl rfl rfl g8) ?_
       refine k_no (d := 57) (j' := 17) rfl rfl rfl (g_ft rfl rfl rfl g8) ?_
       refine k_no (d := 58) (j' := 18) rfl rfl rfl (g_ft rfl rfl rfl g8) ?_
       refine k_no (d := 59) (j' := 19) rfl rfl rfl (g_ft rfl rfl rfl g8) ?_
       refine k_no (d := 60) (j' := 20) rfl rfl rfl (g_ft rfl rfl rfl g8) ?_
       refine k_no (d := 61) (j' := 21) rfl rfl rfl (g_ft rfl rfl rfl g8) ?_
       refine q0 62 441 22 rfl rfl (T_pick_t rfl rfl rfl g8) rfl ?_
       refine k_done rfl ?_
       refine thenK_n ?_
       refine W_cond rfl (fun g9 => ?_) (fun g9 => ?_)
       ·skip
        refine W_seq ?_
        refine W_seqK (b' := 473) rfl rfl ?_
        refine q0 8 457 1 rfl rfl (T_assign rfl rfl) rfl ?_
        refine k_done rfl ?_
        refine thenK_n ?_
        refine W_ret ?_
        refine blockK_r ?_
        refine thenK_r ?_
        refine thenK_r ?_
        refine blockK_r ?_
        refine thenK_r ?_
        exact .mk [] (.inr rfl) (.tmp rfl (.nil)) (by (simp only [resLV, LV.ren, LV.v.injEq, Value.bool.injEq]; exact acheck_no4 (i := i) (by omega) (okP_no1 (by assumption) (by omega)))) (.nil) rfl
       ·exact absurd (g9.symm.trans rfl) (by decide)
      ·have h8 := c_gtr_f g8
       refine k_op0 (d := 53) (b := 297) (j' := 13) rfl rfl rfl rfl (g_ff rfl rfl rfl g8) (T_move rfl rfl) rfl ?_
       refine k_op0 (d := 54) (b := 313) (j' := 14) rfl rfl rfl rfl (g_ff rfl rfl rfl g8) (T_fa D (m := 0) rfl rfl rfl rfl rfl rfl) rfl ?_
       refine k_op0 (d := 55) (b := 329) (j' := 15) rfl rfl rfl rfl (g_ff rfl rfl rfl g8) (T_load_b D rfl rfl rfl rfl rfl rfl) rfl ?_
       refine k_op0 (d := 56) (b := 345) (j' := 16) rfl rfl rfl rfl (g_ff rfl rfl rfl g8) (T_move rfl rfl) rfl ?_
       refine k_op1 (d := 57) (b := 361) (j' := 17) rfl rfl rfl rfl (g_ff rfl rfl rfl g8) (T_slF D (vl := none) (vh := some _) (vm := none) (l := 0) (h := _) rfl rfl rfl rfl rfl rfl rfl rfl rfl rfl (by omega) (by omega) (slb_h (by omega))) rfl ?_
       refine k_op0 (d := 58) (b := 377) (j' := 18) rfl rfl rfl rfl (g_ff rfl rfl rfl g8) (T_move rfl rfl) rfl ?_
       refine k_op0 (d := 59) (b := 393) (j' := 19) rfl rfl rfl rfl (g_ff rfl rfl rfl g8) (T_move rfl rfl) rfl ?_
       refine k_opn (d := 60) (b := 409) (j' := 20) rfl rfl rfl rfl (g_ff rfl rfl rfl g8) (T_call (lvs := [_, _, _, _]) (L := [(1, 6), (2, 7), (3, 8), (4, 361)]) (lv := .v _) (upd := [(6, .box 117 [.r 7, .r 8]), (7, .map _), (8, .row 4 1 _)]) (nn := 0) false (free_spec (confl f li lo).1 (confl f li lo).2 (ps.take i) (i : Int) (ps.getD i default) (by simp; omega)) body83 rfl rfl rfl rfl (.box rfl (.map rfl (.row rfl (.fz rfl (.nil))))) rfl (.inl rfl) rfl rfl rfl) rfl ?_
       refine k_op0 (d := 61) (b := 425) (j' := 21) rfl rfl rfl rfl (g_ff rfl rfl rfl g8) (T_not rfl rfl) rfl ?_
       refine q0 62 441 22 rfl rfl (T_pick_f rfl rfl rfl g8) rfl ?_
       refine k_done rfl ?_
       refine thenK_n ?_
       refine W_cond rfl (fun g10 => ?_) (fun g10 => ?_)
       ·have h10 := g10; (try simp only [cmpB, decide_eq_true_eq, decide_eq_false_iff_not, beq_iff_eq, beq_eq_false_iff_ne, bne_iff_ne, ne_eq, bne_eq_false_iff_eq, Bool.not_eq_true', Bool.not_eq_false', Int.not_lt, Int.not_le] at h10)
        refine W_seq ?_
        refine W_seqK (b' := 473) rfl rfl ?_
        refine q0 8 457 1 rfl rfl (T_assign rfl rfl) rfl ?_
        refine k_done rfl ?_
        refine thenK_n ?_
        refine W_ret ?_
        refine blockK_r ?_
        refine thenK_r ?_
        refine thenK_r ?_
        refine blockK_r ?_
        refine thenK_r ?_
        exact .mk [] (.inr rfl) (.tmp rfl (.nil)) (by (simp only [resLV, LV.ren, LV.v.injEq, Value.bool.injEq]; exact acheck_no4 (i := i) (by omega) (okP_no2 (by assumption)))) (.nil) rfl
       ·have h10 := g10; (try simp only [cmpB, decide_eq_true_eq, decide_eq_false_iff_not, beq_iff_eq, beq_eq_false_iff_ne, bne_iff_ne, ne_eq, bne_eq_false_iff_eq, Bool.not_eq_true', Bool.not_eq_false', Int.not_lt, Int.not_le] at h10)
        refine W_skip ?_
        refine blockK_n ?_
        refine thenK_n ?_
        refine W_seqK (b' := 489) rfl rfl ?_
        refine q0 63 457 1 rfl rfl (T_add64 rfl rfl rfl (by omega)) rfl ?_
        refine q0 36 473 2 rfl rfl (T_move rfl rfl) rfl ?_
        refine k_done rfl ?_
        refine thenK_n ?_
        refine ⟨i + 1, by (try dsimp only); exact ⟨by omega, fun j hj => by rcases Nat.lt_or_ge j i with h | h; exact hJ.2 j h; rw [show j = i by omega]; exact okP_yes2 (by omega) (by assumption)⟩, by (try dsimp only); omega, ?_⟩
        exact ⟨[(5, 5), (6, 6), (7, 7), (8, 8)], .same rfl rfl (.same rfl rfl (.same rfl rfl (.eq rfl (.eq rfl (.nil) (by rfl)) rfl))), .fzE rfl (.fzE rfl (.fzE rfl (.fzE rfl (.box (by rfl) (.box (by rfl) (.mapE rfl (.rowE rfl (.nil) (by rfl)) (by rfl)))) rfl) rfl) rfl) rfl, rfl⟩
     ·have h7 := g7; (try simp only [cmpB, decide_eq_true_eq, decide_eq_false_iff_not, beq_iff_eq, beq_eq_false_iff_ne, bne_iff_ne, ne_eq, bne_eq_false_iff_eq, Bool.not_eq_true', Bool.not_eq_false', Int.not_lt, Int.not_le] at h7)
      refine k_no (d := 49) (j' := 9) rfl rfl rfl (g_tf rfl rfl rfl g7) ?_
      refine k_no (d := 50) (j' := 10) rfl rfl rfl (g_tf rfl rfl rfl g7) ?_
      refine q0 51 265 11 rfl rfl (T_pick_f rfl rfl rfl g7) rfl ?_
      refine q0 52 281 12 rfl rfl (T_move rfl rfl) rfl ?_
      refine k_op0 (d := 53) (b := 297) (j' := 13) rfl rfl rfl rfl (g_ff rfl rfl rfl rfl) (T_move rfl rfl) rfl ?_
      refine k_op0 (d := 54) (b := 313) (j' := 14) rfl rfl rfl rfl (g_ff rfl rfl rfl rfl) (T_fa D (m := 0) rfl rfl rfl rfl rfl rfl) rfl ?_
      refine k_op0 (d := 55) (b := 329) (j' := 15) rfl rfl rfl rfl (g_ff rfl rfl rfl rfl) (T_load_b D rfl rfl rfl rfl rfl rfl) rfl ?_
      refine k_op0 (d := 56) (b := 345) (j' := 16) rfl rfl rfl rfl (g_ff rfl rfl rfl rfl) (T_move rfl rfl) rfl ?_
      refine k_op1 (d := 57) (b := 361) (j' := 17) rfl rfl rfl rfl (g_ff rfl rfl rfl rfl) (T_slF D (vl := none) (vh := some _) (vm := none) (l := 0) (h := _) rfl rfl rfl rfl rfl rfl rfl rfl rfl rfl (by omega) (by omega) (slb_h (by omega))) rfl ?_
      refine k_op0 (d := 58) (b := 377) (j' := 18) rfl rfl rfl rfl (g_ff rfl rfl rfl rfl) (T_move rfl rfl) rfl ?_
      refine k_op0 (d := 59) (b := 393) (j' := 19) rfl rfl rfl rfl (g_ff rfl rfl rfl rfl) (T_move rfl rfl) rfl ?_
      refine k_opn (d := 60) (b := 409) (j' := 20) rfl rfl rfl rfl (g_ff rfl rfl rfl rfl) (T_call (lvs := [_, _, _, _]) (L := [(1, 6), (2, 7), (3, 8), (4, 361)]) (lv := .v _) (upd := [(6, .box 117 [.r 7, .r 8]), (7, .map _), (8, .row 4 1 _)]) (nn := 0) false (free_spec (confl f li lo).1 (confl f li lo).2 (ps.take i) (i : Int) (ps.getD i default) (by simp; omega)) body83 rfl rfl rfl rfl (.box rfl (.map rfl (.row rfl (.fz rfl (.nil))))) rfl (.inl rfl) rfl rfl rfl) rfl ?_
      refine k_op0 (d := 61) (b := 425) (j' := 21) rfl rfl rfl rfl (g_ff rfl rfl rfl rfl) (T_not rfl rfl) rfl ?_
      refine q0 62 441 22 rfl rfl (T_pick_f rfl rfl rfl rfl) rfl ?_
      refine k_done rfl ?_
      refine thenK_n ?_
      refine W_cond rfl (fun g11 => ?_) (fun g11 => ?_)
      ·have h11 := g11; (try simp only [cmpB, decide_eq_true_eq, decide_eq_false_iff_not, beq_iff_eq, beq_eq_false_iff_ne, bne_iff_ne, ne_eq, bne_eq_false_iff_eq, Bool.not_eq_true', Bool.not_eq_false', Int.not_lt, Int.not_le] at h11)
       refine W_seq ?_
       refine W_seqK (b' := 473) rfl rfl ?_
       refine q0 8 457 1 rfl rfl (T_assign rfl rfl) rfl ?_
       refine k_done rfl ?_
       refine thenK_n ?_
       refine W_ret ?_
       refine blockK_r ?_
       refine thenK_r ?_
       refine thenK_r ?_
       refine blockK_r ?_
       refine thenK_r ?_
       exact .mk [] (.inr rfl) (.tmp rfl (.nil)) (by (simp only [resLV, LV.ren, LV.v.injEq, Value.bool.injEq]; exact acheck_no4 (i := i) (by omega) (okP_no2 (by assumption)))) (.nil) rfl
      ·have h11 := g11; (try simp only [cmpB, decide_eq_true_eq, decide_eq_false_iff_not, beq_iff_eq, beq_eq_false_iff_ne, bne_iff_ne, ne_eq, bne_eq_false_iff_eq, Bool.not_eq_true', Bool.not_eq_false', Int.not_lt, Int.not_le] at h11)
       refine W_skip ?_
       refine blockK_n ?_
       refine thenK_n ?_
       refine W_seqK (b' := 489) rfl rfl ?_
       refine q0 63 457 1 rfl rfl (T_add64 rfl rfl rfl (by omega)) rfl ?_
       refine q0 36 473 2 rfl rfl (T_move rfl rfl) rfl ?_
       refine k_done rfl ?_
       refine thenK_n ?_
       refine ⟨i + 1, by (try dsimp only); exact ⟨by omega, fun j hj => by rcases Nat.lt_or_ge j i with h | h; exact hJ.2 j h; rw [show j = i by omega]; exact okP_yes1 (by assumption) (by assumption)⟩, by (try dsimp only); omega, ?_⟩
       exact ⟨[(5, 5), (6, 6), (7, 7), (8, 8)], .same rfl rfl (.same rfl rfl (.same rfl rfl (.eq rfl (.eq rfl (.nil) (by rfl)) rfl))), .fzE rfl (.fzE rfl (.fzE rfl (.fzE rfl (.box (by rfl) (.box (by rfl) (.mapE rfl (.rowE rfl (.nil) (by rfl)) (by rfl)))) rfl) rfl) rfl) rfl, rfl⟩
    ·have h6 := c_lss_f g6
     refine W_exit ?_
     refine thenK_e ?_
     refine thenK_e ?_
     refine blockK_hit ?_
     refine thenK_n ?_
     refine W_seq ?_
     refine W_seqK (b' := 41) rfl rfl ?_
     refine q0 8 25 1 rfl rfl (T_assign rfl rfl) rfl ?_
     refine k_done rfl ?_
     refine thenK_n ?_
     refine W_ret ?_
     exact .mk [] (.inr rfl) (.tmp rfl (.nil)) (by (simp only [resLV, LV.ren, LV.v.injEq, Value.bool.injEq]; exact acheck_yes (by assumption) (by omega) (by assumption) (fun i h => hJ.2 i (by omega)))) (.nil) rfl
end Lg
end Go.Proofs.Ytpfhmodjjljpjaa

namespace Go.Proofs.Ytpfhmodjjljpjaa
open Go.RowKit
namespace Lg
set_option linter.unusedSimpArgs false
set_option linter.unusedVariables false
def wordsJ (ps : List Int) : Nat → Int
  | 0 => 0
  | j + 1 => mxI (wordsJ ps j) (-(ps.getD j default))
def wordsP (ps : List Int) : Int := wordsJ ps ps.length
def badP (k x : Int) : Bool := decide (x < -4000) || (decide (x = 0) || (decide (x > 0) && decide (x > k)))
def placesP (ps : List Int) (regs k : Int) : Bool := decide ((ps.length : Int) = regs) && (List.range ps.length).all fun i => !badP k (ps.getD i default)
def apartP (ps : List Int) (s : List Bool) : Bool := (List.range s.length).all fun i => (List.range i).all fun j => !(s.getD i default && (s.getD j default && decide (ps.getD i default = ps.getD j default)))
def clash (t : GTac) (ps : List Int) (i : Nat) : Bool := (decide (0 ≤ setsT t) && (decide ((i : Int) ≠ setsT t) && decide (ps.getD i default = ps.getD (setsT t).toNat default))) || (decide (t.op = 10) && decide (ps.getD i default > 0))
def rone (t : GTac) (ps : List Int) (s : List Bool) : Bool := (List.range s.length).all fun i => !(s.getD i default && clash t ps i)
def roneB (b : GBlock) (out : List Bool) (ps : List Int) : Bool := (List.range b.ins.length).all fun i => rone (b.ins.getD i default) ps ((behL b out).getD i default)
def rcheckP (f : GFn) (li lo : List (List Bool)) (ps : List Int) (k : Int) : Bool := checkL f li lo && (placesP ps f.regs k && (apartP ps (li.getD 0 default) && (List.range f.blocks.length).all fun b => roneB (f.blocks.getD b default) (lo.getD b default) ps))
theorem all_no {n i : Nat} {q : Nat → Bool} (hi : i < n) (h : q i = false) : (List.range n).all q = false := by
  cases h1 : (List.range n).all q
  · rfl
  · have := List.all_eq_true.1 h1 i (List.mem_range.2 hi)
    rw [h] at this; cases this
theorem all_yes {n : Nat} {q : Nat → Bool} (h : ∀ i, i < n → q i = true) : (List.range n).all q = true := List.all_eq_true.2 fun i hi => h i (List.mem_range.1 hi)
section
variable {ps : List Int} {regs k : Int} {s : List Bool} {t : GTac} {i j : Nat}
theorem places_no1 (h : ¬ (ps.length : Int) = regs) : false = placesP ps regs k := by unfold placesP; rw [decide_eq_false h]; rfl
theorem bad_t {x : Int} (h : x < -4000 ∨ x = 0 ∨ (x > 0 ∧ x > k)) : badP k x = true := by
  unfold badP; simp only [Bool.or_eq_true, Bool.and_eq_true, decide_eq_true_eq]; exact h
theorem bad_f {x : Int} (h : ¬ (x < -4000 ∨ x = 0 ∨ (x > 0 ∧ x > k))) : badP k x = false := by
  cases h1 : badP k x
  · rfl
  · unfold badP at h1; simp only [Bool.or_eq_true, Bool.and_eq_true, decide_eq_true_eq] at h1; exact absurd h1 h
theorem places_no2 (hi : i < ps.length) (h : badP k (ps.getD i default) = true) : false = placesP ps regs k := by unfold placesP; rw [all_no hi (by rw [h]; rfl), Bool.and_false]
theorem places_yes (h : (ps.length : Int) = regs) (h2 : ∀ i, i < ps.length → badP k (ps.getD i default) = false) : true = placesP ps regs k := by unfold placesP; rw [decide_eq_true h, all_yes (fun i hi => by rw [h2 i hi]; rfl)]; rfl
theorem apart_no (hi : i < s.length) (hj : j < i) (h1 : s.getD i default = true) (h2 : s.getD j default = true) (h3 : ps.getD i default = ps.getD j default) : false = apartP ps s := by
  unfold apartP; rw [all_no hi (all_no hj (by rw [h1, h2, decide_eq_true h3]; rfl))]
def apartI (ps : List Int) (s : List Bool) (i j : Nat) : Bool := !(s.getD i default && (s.getD j default && decide (ps.getD i default = ps.getD j default)))
theorem apart_yes (h : ∀ i, i < s.length → ∀ j, j < i → apartI ps s i j = true) : true = apartP ps s := (all_yes (fun i hi => all_yes (fun j hj => h i hi j hj))).symm
theorem apartI_f1 (h : s.getD i default = false) : apartI ps s i j = true := by unfold apartI; rw [h]; rfl
theorem apartI_f2 (h : s.getD j default = false) : apartI ps s i j = true := by unfold apartI; rw [h]; simp
theorem apartI_f3 (h : ¬ ps.getD i default = ps.getD j default) : apartI ps s i j = true := by unfold apartI; rw [decide_eq_false h]; simp
theorem clash_t (h : (0 ≤ setsT t ∧ (i : Int) ≠ setsT t ∧ ps.getD i default = ps.getD (setsT t).toNat default) ∨ (t.op = 10 ∧ ps.getD i default > 0)) : clash t ps i = true := by
  unfold clash; simp only [Bool.or_eq_true, Bool.and_eq_true, decide_eq_true_eq]; exact h
theorem clash_f (h : ¬ ((0 ≤ setsT t ∧ (i : Int) ≠ setsT t ∧ ps.getD i default = ps.getD (setsT t).toNat default) ∨ (t.op = 10 ∧ ps.getD i default > 0))) : clash t ps i = false := by
  cases h1 : clash t ps i
  · rfl
  · unfold clash at h1; simp only [Bool.or_eq_true, Bool.and_eq_true, decide_eq_true_eq] at h1; exact absurd h1 h
theorem rone_no (hi : i < s.length) (h1 : s.getD i default = true) (h2 : clash t ps i = true) : false = rone t ps s := by unfold rone; rw [all_no hi (by rw [h1, h2]; rfl)]
theorem rone_yes (h : ∀ i, i < s.length → (s.getD i default && clash t ps i) = false) : true = rone t ps s := by unfold rone; rw [all_yes (fun i hi => by rw [h i hi]; rfl)]
end
section
variable {f : GFn} {li lo : List (List Bool)} {ps : List Int} {k : Int}
theorem rck_no1 (h : checkL f li lo = false) : false = rcheckP f li lo ps k := by unfold rcheckP; rw [h]; rfl
theorem rck_no2 (h : placesP ps f.regs k = false) : false = rcheckP f li lo ps k := by unfold rcheckP; rw [h]; simp
theorem rck_no3 (h : apartP ps (li.getD 0 default) = false) : false = rcheckP f li lo ps k := by unfold rcheckP; rw [h]; simp
theorem rck_no4 {b i : Nat} (hb : b < f.blocks.length) (hi : i < (f.blocks.getD b default).ins.length) (h : rone ((f.blocks.getD b default).ins.getD i default) ps ((behL (f.blocks.getD b default) (lo.getD b default)).getD i default) = false) : false = rcheckP f li lo ps k := by
  unfold rcheckP
  rw [all_no (q := fun b => roneB (f.blocks.getD b default) (lo.getD b default) ps) hb (by unfold roneB; rw [all_no hi h])]; simp
theorem rck_yes (h1 : checkL f li lo = true) (h2 : placesP ps f.regs k = true) (h3 : apartP ps (li.getD 0 default) = true) (h4 : ∀ b, b < f.blocks.length → roneB (f.blocks.getD b default) (lo.getD b default) ps = true) : true = rcheckP f li lo ps k := by
  unfold rcheckP; rw [h1, h2, h3, all_yes h4]; rfl
end
def small28 (f : GFn) : Bool := decide ((f.blocks.length : Int) ≤ 12) && (decide (f.regs ≤ 20) && (decide ((f.blocks.length : Int) + sumLen (insOf f) ≤ 120) && oneB f 64 2000))
theorem small28_no {f : GFn} (h : ¬ ((f.blocks.length : Int) ≤ 12 ∧ f.regs ≤ 20 ∧ (f.blocks.length : Int) + sumLen (insOf f) ≤ 120)) : false = small28 f := by
  cases h1 : small28 f
  · rfl
  · unfold small28 at h1
    simp only [Bool.and_eq_true, decide_eq_true_eq] at h1
    exact absurd ⟨h1.1, h1.2.1, h1.2.2.1⟩ h
theorem small28_eq {f : GFn} (h1 : (f.blocks.length : Int) ≤ 12) (h2 : f.regs ≤ 20) (h3 : (f.blocks.length : Int) + sumLen (insOf f) ≤ 120) : oneB f 64 2000 = small28 f := by
  unfold small28; rw [decide_eq_true h1, decide_eq_true h2, decide_eq_true h3]; rfl
structure S28 (f : GFn) : Prop where
  lf : LF f
  len : f.blocks.length ≤ 12
  regs : 0 ≤ f.regs ∧ f.regs ≤ 20
  ins : ∀ b ∈ f.blocks, b.ins.length ≤ 120
  one : oneB f 64 2000 = true
  pos : 0 < f.blocks.length
theorem s28 {f : GFn} (h : small28 f = true) : S28 f := by
  unfold small28 at h
  simp only [Bool.and_eq_true, decide_eq_true_eq] at h
  obtain ⟨h1, h2, h3, h4⟩ := h
  have hi : ∀ b ∈ f.blocks, b.ins.length ≤ 120 := fun b hb => by have := insOf_le hb; omega
  obtain ⟨o1, o2⟩ := one_all h4
  exact ⟨lf_of h4 (by omega) (fun b hb => by have := hi b hb; omega), by omega, ⟨o1.1, h2⟩, hi, h4, List.length_pos_iff.2 o1.2.2⟩
def evL (f : GFn) : List (List Bool) := List.replicate f.blocks.length (List.replicate f.regs.toNat true)
end Lg
end Go.Proofs.Ytpfhmodjjljpjaa

namespace Go.Proofs.Ytpfhmodjjljpjaa
end Go.Proofs.Ytpfhmodjjljpjaa

namespace Go.Proofs.Ytpfhmodjjljpjaa
open Go.RowKit
namespace Lg
set_option maxRecDepth 100000
set_option linter.unusedVariables false
set_option linter.unusedSimpArgs false
theorem body65 : (Try.prog.funcs[65]?).map (fun fn => (fn.name == "runtime.NumGoroutine" || fn.body.isNone)) = some false := by kernel_rfl
theorem words_spec (ps : List Int) (hl : ps.length ≤ 1000000000) (h : ∀ x ∈ ps, -9223372036854775807 ≤ x ∧ x ≤ 9223372036854775807) : Spec Try.prog 65 [.agg [.r 1]] 2 [(1, .fz 1 (ps.map eI))] (.v (.int .i64 (wordsP ps))) 2 [] := by
 refine spec_of D (fn := Try.f65) rfl rfl (Nat.le_of_ble_eq_true rfl) ?_
 refine W_seq ?_
 refine W_seqK (b' := 34) rfl rfl ?_
 refine q1 1 2 1 rfl rfl (T_box rfl rfl flat_agg) rfl ?_
 refine q0 2 18 2 rfl rfl (T_assign rfl rfl) rfl ?_
 refine k_done rfl ?_
 refine thenK_n ?_
 refine W_seq ?_
 refine W_seqK (b' := 50) rfl rfl ?_
 refine q0 3 34 1 rfl rfl (T_assign rfl rfl) rfl ?_
 refine k_done rfl ?_
 refine thenK_n ?_
 refine W_seq ?_
 refine W_seq ?_
 refine W_seqK (b' := 114) rfl rfl ?_
 refine q0 6 50 1 rfl rfl (T_fa D (m := 0) rfl rfl rfl rfl rfl rfl) rfl ?_
 refine q0 7 66 2 rfl rfl (T_load_b D rfl rfl rfl rfl rfl rfl) rfl ?_
 refine q0 8 82 3 rfl rfl (T_len D rfl rfl rfl rfl rfl rfl) rfl ?_
 refine q0 9 98 4 rfl rfl (T_move rfl rfl) rfl ?_
 refine k_done rfl ?_
 refine thenK_n ?_
 refine W_block ?_
 refine W_loop (ι := Nat) 2 (fun j => ⟨[(3, .v (.int .i64 (wordsJ ps j))), (7, .r 1), (8, .v (.int .i64 (ps.length : Int))), (9, .v (.int .i64 (j : Int)))], [(1, .fz 1 (ps.map eI))]⟩) (fun j => j ≤ ps.length) (fun j => ps.length - j) (0) (by exact Nat.zero_le _) ?_ (fun j hJ => ?_)
 ·exact ⟨[], .eq rfl (.same rfl rfl (.eq rfl (.eq rfl (.nil) (by rfl)) (by rfl))) (by rfl), .fzE rfl (.nil) (by rfl), rfl⟩
 have hj := fun q : j < ps.length => h _ (getD_mem q)
 refine W_seq ?_
 refine W_seqK (b' := 18) rfl rfl ?_
 refine q0 10 2 1 rfl rfl (T_cmp rfl rfl rfl rfl) rfl ?_
 refine k_done rfl ?_
 refine thenK_n ?_
 refine W_seq ?_
 refine W_cond rfl (fun g1 => ?_) (fun g1 => ?_)
 ·have h1 := c_lss_t g1
  refine W_skip ?_
  refine thenK_n ?_
  refine W_seq ?_
  refine W_block ?_
  refine W_seq ?_
  refine W_seqK (b' := 66) rfl rfl ?_
  refine q0 11 18 1 rfl rfl (T_indexAddr D rfl rfl rfl rfl rfl rfl rfl rfl (by omega)) rfl ?_
  refine q0 12 34 2 rfl rfl (T_ldE D (lv := .v _) (nn := 0) (upd := []) rfl rfl rfl rfl rfl (by omega) rfl rfl rfl rfl) rfl ?_
  refine q0 5 50 3 rfl rfl (T_assign rfl rfl) rfl ?_
  refine k_done rfl ?_
  refine thenK_n ?_
  refine W_seqK (b' := 146) rfl rfl ?_
  refine q0 13 66 1 rfl rfl (T_move rfl rfl) rfl ?_
  refine q0 14 82 2 rfl rfl (T_move rfl rfl) rfl ?_
  refine q0 15 98 3 rfl rfl (T_neg64 rfl rfl (by omega)) rfl ?_
  refine q0 16 114 4 rfl rfl (T_max rfl rfl rfl) rfl ?_
  refine q0 3 130 5 rfl rfl (T_assign rfl rfl) rfl ?_
  refine k_done rfl ?_
  refine blockK_n ?_
  refine thenK_n ?_
  refine W_seqK (b' := 178) rfl rfl ?_
  refine q0 17 146 1 rfl rfl (T_add64 rfl rfl rfl (by omega)) rfl ?_
  refine q0 9 162 2 rfl rfl (T_move rfl rfl) rfl ?_
  refine k_done rfl ?_
  refine thenK_n ?_
  refine ⟨j + 1, by (try dsimp only); omega, by (try dsimp only); omega, ?_⟩
  exact ⟨[], .eq rfl (.same rfl rfl (.eq rfl (.eq rfl (.nil) (by rfl)) rfl)) (by rfl), .fzE rfl (.nil) rfl, rfl⟩
 ·have h1 := c_lss_f g1
  refine W_exit ?_
  refine thenK_e ?_
  refine thenK_e ?_
  refine blockK_hit ?_
  refine thenK_n ?_
  refine W_seq ?_
  refine W_seqK (b' := 50) rfl rfl ?_
  refine q0 18 18 1 rfl rfl (T_move rfl rfl) rfl ?_
  refine q0 2 34 2 rfl rfl (T_assign rfl rfl) rfl ?_
  refine k_done rfl ?_
  refine thenK_n ?_
  refine W_ret ?_
  exact .mk [] (.inr rfl) (.tmp rfl (.nil)) (by (have e : j = ps.length := (by omega); subst e; rfl)) (.nil) rfl
theorem body108 : (Try.prog.funcs[108]?).map (fun fn => (fn.name == "runtime.NumGoroutine" || fn.body.isNone)) = some false := by kernel_rfl
theorem places_spec (ps : List Int) (regs k : Int) (hl : ps.length ≤ 1000000000) : Spec Try.prog 108 [.agg [.r 1], .v (.int .i64 regs), .v (.int .i64 k)] 2 [(1, .fz 1 (ps.map eI))] (.v (.bool (placesP ps regs k))) 2 [] := by
 refine spec_of D (fn := Try.f108) rfl rfl (Nat.le_of_ble_eq_true rfl) ?_
 refine W_seq ?_
 refine W_seqK (b' := 34) rfl rfl ?_
 refine q1 3 2 1 rfl rfl (T_box rfl rfl flat_agg) rfl ?_
 refine q0 6 18 2 rfl rfl (T_assign rfl rfl) rfl ?_
 refine k_done rfl ?_
 refine thenK_n ?_
 refine W_seq ?_
 refine W_seq ?_
 refine W_seqK (b' := 114) rfl rfl ?_
 refine q0 9 34 1 rfl rfl (T_fa D (m := 0) rfl rfl rfl rfl rfl rfl) rfl ?_
 refine q0 10 50 2 rfl rfl (T_load_b D rfl rfl rfl rfl rfl rfl) rfl ?_
 refine q0 11 66 3 rfl rfl (T_len D rfl rfl rfl rfl rfl rfl) rfl ?_
 refine q0 12 82 4 rfl rfl (T_move rfl rfl) rfl ?_
 refine q0 13 98 5 rfl rfl (T_cmp rfl rfl rfl rfl) rfl ?_
 refine k_done rfl ?_
 refine thenK_n ?_
 refine W_cond rfl (fun g1 => ?_) (fun g1 => ?_)
 ·have h1 := c_neq_t g1
  refine W_seq ?_
  refine W_seqK (b' := 130) rfl rfl ?_
  refine q0 6 114 1 rfl rfl (T_assign rfl rfl) rfl ?_
  refine k_done rfl ?_
  refine thenK_n ?_
  refine W_ret ?_
  refine thenK_r ?_
  exact .mk [] (.inr rfl) (.tmp rfl (.nil)) (by (simp only [resLV, LV.ren, LV.v.injEq, Value.bool.injEq]; exact places_no1 (by omega))) (.nil) rfl
 ·have h1 := c_neq_f g1
  refine W_skip ?_
  refine thenK_n ?_
  refine W_seq ?_
  refine W_seq ?_
  refine W_seqK (b' := 130) rfl rfl ?_
  refine q0 7 114 1 rfl rfl (T_assign rfl rfl) rfl ?_
  refine k_done rfl ?_
  refine thenK_n ?_
  refine W_block ?_
  refine W_loop (ι := Nat) 3 (fun j => ⟨[(2, .v (.int .i64 k)), (3, .p 2 0), (7, .v (.int .i64 (j : Int)))], [(1, .fz 1 (ps.map eI)), (2, .box 60 [.r 1])]⟩) (fun j => j ≤ ps.length ∧ ∀ i, i < j → badP k (ps.getD i default) = false) (fun j => ps.length - j) (0) (by exact ⟨Nat.zero_le _, fun i h => absurd h (Nat.not_lt_zero _)⟩) ?_ (fun j hJ => ?_)
  ·exact ⟨[(2, 2)], .eq rfl (.same rfl rfl (.eq rfl (.nil) (by rfl))) (by rfl), .fzE rfl (.box (by rfl) (.nil)) (by rfl), rfl⟩
  refine W_seq ?_
  refine W_seq ?_
  refine W_seqK (b' := 83) rfl rfl ?_
  refine q0 14 3 1 rfl rfl (T_move rfl rfl) rfl ?_
  refine q0 15 19 2 rfl rfl (T_fa D (m := 0) rfl rfl rfl rfl rfl rfl) rfl ?_
  refine q0 16 35 3 rfl rfl (T_load_b D rfl rfl rfl rfl rfl rfl) rfl ?_
  refine q0 17 51 4 rfl rfl (T_len D rfl rfl rfl rfl rfl rfl) rfl ?_
  refine q0 18 67 5 rfl rfl (T_cmp rfl rfl rfl rfl) rfl ?_
  refine k_done rfl ?_
  refine thenK_n ?_
  refine W_cond rfl (fun g2 => ?_) (fun g2 => ?_)
  ·have h2 := c_lss_t g2
   refine W_skip ?_
   refine thenK_n ?_
   refine W_seq ?_
   refine W_block ?_
   refine W_seq ?_
   refine W_seqK (b' := 179) rfl rfl ?_
   refine q0 21 83 1 rfl rfl (T_fa D (m := 0) rfl rfl rfl rfl rfl rfl) rfl ?_
   refine q0 22 99 2 rfl rfl (T_load_b D rfl rfl rfl rfl rfl rfl) rfl ?_
   refine q0 23 115 3 rfl rfl (T_move rfl rfl) rfl ?_
   refine q0 24 131 4 rfl rfl (T_indexAddr D rfl rfl rfl rfl rfl rfl rfl rfl (by omega)) rfl ?_
   refine q0 25 147 5 rfl rfl (T_ldE D (lv := .v _) (nn := 0) (upd := []) rfl rfl rfl rfl rfl (by omega) rfl rfl rfl rfl) rfl ?_
   refine q0 8 163 6 rfl rfl (T_assign rfl rfl) rfl ?_
   refine k_done rfl ?_
   refine thenK_n ?_
   refine W_seq ?_
   refine W_seqK (b' := 419) rfl rfl ?_
   refine q0 26 179 1 rfl rfl (T_move rfl rfl) rfl ?_
   refine q0 27 195 2 rfl rfl (T_cmp rfl rfl rfl rfl) rfl ?_
   refine q0 28 211 3 rfl rfl (T_move rfl rfl) rfl ?_
   refine k_split (d := 28) rfl (fun g3 => ?_) (fun g3 => ?_)
   ·have h3 := c_lss_t g3
    refine k_no (d := 29) (j' := 4) rfl rfl rfl (g_ft rfl rfl rfl g3) ?_
    refine k_no (d := 30) (j' := 5) rfl rfl rfl (g_ft rfl rfl rfl g3) ?_
    refine q0 31 259 6 rfl rfl (T_pick_t rfl rfl rfl g3) rfl ?_
    refine q0 32 275 7 rfl rfl (T_move rfl rfl) rfl ?_
    refine k_no (d := 33) (j' := 8) rfl rfl rfl (g_ft rfl rfl rfl rfl) ?_
    refine k_no (d := 34) (j' := 9) rfl rfl rfl (g_ft rfl rfl rfl rfl) ?_
    refine k_no (d := 35) (j' := 10) rfl rfl rfl (g_ft rfl rfl rfl rfl) ?_
    refine k_no (d := 36) (j' := 11) rfl rfl rfl (.und rfl rfl rfl) ?_
    refine k_no (d := 37) (j' := 12) rfl rfl rfl (.und rfl rfl rfl) ?_
    refine k_no (d := 38) (j' := 13) rfl rfl rfl (.und rfl rfl rfl) ?_
    refine k_no (d := 39) (j' := 14) rfl rfl rfl (g_ft rfl rfl rfl rfl) ?_
    refine q0 40 403 15 rfl rfl (T_pick_t rfl rfl rfl rfl) rfl ?_
    refine k_done rfl ?_
    refine thenK_n ?_
    refine W_cond rfl (fun g4 => ?_) (fun g4 => ?_)
    ·skip
     refine W_seq ?_
     refine W_seqK (b' := 435) rfl rfl ?_
     refine q0 6 419 1 rfl rfl (T_assign rfl rfl) rfl ?_
     refine k_done rfl ?_
     refine thenK_n ?_
     refine W_ret ?_
     refine blockK_r ?_
     refine thenK_r ?_
     refine thenK_r ?_
     refine blockK_r ?_
     refine thenK_r ?_
     exact .mk [] (.inr rfl) (.tmp rfl (.nil)) (by (simp only [resLV, LV.ren, LV.v.injEq, Value.bool.injEq]; exact places_no2 (i := j) (by omega) (bad_t (by omega)))) (.nil) rfl
    ·exact absurd (g4.symm.trans rfl) (by decide)
   ·have h3 := c_lss_f g3
    refine k_op0 (d := 29) (b := 227) (j' := 4) rfl rfl rfl rfl (g_ff rfl rfl rfl g3) (T_move rfl rfl) rfl ?_
    refine k_op0 (d := 30) (b := 243) (j' := 5) rfl rfl rfl rfl (g_ff rfl rfl rfl g3) (T_cmp rfl rfl rfl rfl) rfl ?_
    refine q0 31 259 6 rfl rfl (T_pick_f rfl rfl rfl g3) rfl ?_
    refine q0 32 275 7 rfl rfl (T_move rfl rfl) rfl ?_
    refine k_split (d := 32) rfl (fun g5 => ?_) (fun g5 => ?_)
    ·have h5 := c_eql_t g5
     refine k_no (d := 33) (j' := 8) rfl rfl rfl (g_ft rfl rfl rfl g5) ?_
     refine k_no (d := 34) (j' := 9) rfl rfl rfl (g_ft rfl rfl rfl g5) ?_
     refine k_no (d := 35) (j' := 10) rfl rfl rfl (g_ft rfl rfl rfl g5) ?_
     refine k_no (d := 36) (j' := 11) rfl rfl rfl (.und rfl rfl rfl) ?_
     refine k_no (d := 37) (j' := 12) rfl rfl rfl (.und rfl rfl rfl) ?_
     refine k_no (d := 38) (j' := 13) rfl rfl rfl (.und rfl rfl rfl) ?_
     refine k_no (d := 39) (j' := 14) rfl rfl rfl (g_ft rfl rfl rfl g5) ?_
     refine q0 40 403 15 rfl rfl (T_pick_t rfl rfl rfl g5) rfl ?_
     refine k_done rfl ?_
     refine thenK_n ?_
     refine W_cond rfl (fun g6 => ?_) (fun g6 => ?_)
     ·skip
      refine W_seq ?_
      refine W_seqK (b' := 435) rfl rfl ?_
      refine q0 6 419 1 rfl rfl (T_assign rfl rfl) rfl ?_
      refine k_done rfl ?_
      refine thenK_n ?_
      refine W_ret ?_
      refine blockK_r ?_
      refine thenK_r ?_
      refine thenK_r ?_
      refine blockK_r ?_
      refine thenK_r ?_
      exact .mk [] (.inr rfl) (.tmp rfl (.nil)) (by (simp only [resLV, LV.ren, LV.v.injEq, Value.bool.injEq]; exact places_no2 (i := j) (by omega) (bad_t (by omega)))) (.nil) rfl
     ·exact absurd (g6.symm.trans rfl) (by decide)
    ·have h5 := c_eql_f g5
     refine k_op0 (d := 33) (b := 291) (j' := 8) rfl rfl rfl rfl (g_ff rfl rfl rfl g5) (T_move rfl rfl) rfl ?_
     refine k_op0 (d := 34) (b := 307) (j' := 9) rfl rfl rfl rfl (g_ff rfl rfl rfl g5) (T_cmp rfl rfl rfl rfl) rfl ?_
     refine k_op0 (d := 35) (b := 323) (j' := 10) rfl rfl rfl rfl (g_ff rfl rfl rfl g5) (T_move rfl rfl) rfl ?_
     refine k_split (d := 35) rfl (fun g7 => ?_) (fun g7 => ?_)
     ·have h7 := c_gtr_t g7
      refine k_op0 (d := 36) (b := 339) (j' := 11) rfl rfl rfl rfl (g_tt rfl rfl rfl g7) (T_move rfl rfl) rfl ?_
      refine k_op0 (d := 37) (b := 355) (j' := 12) rfl rfl rfl rfl (g_tt rfl rfl rfl g7) (T_move rfl rfl) rfl ?_
      refine k_op0 (d := 38) (b := 371) (j' := 13) rfl rfl rfl rfl (g_tt rfl rfl rfl g7) (T_cmp rfl rfl rfl rfl) rfl ?_
      refine k_op0 (d := 39) (b := 387) (j' := 14) rfl rfl rfl rfl (g_ff rfl rfl rfl g5) (T_pick_t rfl rfl rfl g7) rfl ?_
      refine q0 40 403 15 rfl rfl (T_pick_f rfl rfl rfl g5) rfl ?_
      refine k_done rfl ?_
      refine thenK_n ?_
      refine W_cond rfl (fun g8 => ?_) (fun g8 => ?_)
      ·have h8 := c_gtr_t g8
       refine W_seq ?_
       refine W_seqK (b' := 435) rfl rfl ?_
       refine q0 6 419 1 rfl rfl (T_assign rfl rfl) rfl ?_
       refine k_done rfl ?_
       refine thenK_n ?_
       refine W_ret ?_
       refine blockK_r ?_
       refine thenK_r ?_
       refine thenK_r ?_
       refine blockK_r ?_
       refine thenK_r ?_
       exact .mk [] (.inr rfl) (.tmp rfl (.nil)) (by (simp only [resLV, LV.ren, LV.v.injEq, Value.bool.injEq]; exact places_no2 (i := j) (by omega) (bad_t (by omega)))) (.nil) rfl
      ·have h8 := c_gtr_f g8
       refine W_skip ?_
       refine blockK_n ?_
       refine thenK_n ?_
       refine W_seqK (b' := 467) rfl rfl ?_
       refine q0 19 419 1 rfl rfl (T_move rfl rfl) rfl ?_
       refine q0 20 435 2 rfl rfl (T_add64 rfl rfl rfl (by omega)) rfl ?_
       refine q0 7 451 3 rfl rfl (T_assign rfl rfl) rfl ?_
       refine k_done rfl ?_
       refine thenK_n ?_
       refine ⟨j + 1, by (try dsimp only); exact ⟨by omega, fun i hi => by rcases Nat.lt_or_ge i j with h | h; exact hJ.2 i h; rw [show i = j by omega]; exact bad_f (by omega)⟩, by (try dsimp only); omega, ?_⟩
       exact ⟨[(2, 2)], .eq rfl (.same rfl rfl (.eq rfl (.nil) (by rfl))) rfl, .fzE rfl (.box (by rfl) (.nil)) rfl, rfl⟩
     ·have h7 := c_gtr_f g7
      refine k_no (d := 36) (j' := 11) rfl rfl rfl (g_tf rfl rfl rfl g7) ?_
      refine k_no (d := 37) (j' := 12) rfl rfl rfl (g_tf rfl rfl rfl g7) ?_
      refine k_no (d := 38) (j' := 13) rfl rfl rfl (g_tf rfl rfl rfl g7) ?_
      refine k_op0 (d := 39) (b := 387) (j' := 14) rfl rfl rfl rfl (g_ff rfl rfl rfl g5) (T_pick_f rfl rfl rfl g7) rfl ?_
      refine q0 40 403 15 rfl rfl (T_pick_f rfl rfl rfl g5) rfl ?_
      refine k_done rfl ?_
      refine thenK_n ?_
      refine W_cond rfl (fun g9 => ?_) (fun g9 => ?_)
      ·exact absurd (g9.symm.trans rfl) (by decide)
      ·skip
       refine W_skip ?_
       refine blockK_n ?_
       refine thenK_n ?_
       refine W_seqK (b' := 467) rfl rfl ?_
       refine q0 19 419 1 rfl rfl (T_move rfl rfl) rfl ?_
       refine q0 20 435 2 rfl rfl (T_add64 rfl rfl rfl (by omega)) rfl ?_
       refine q0 7 451 3 rfl rfl (T_assign rfl rfl) rfl ?_
       refine k_done rfl ?_
       refine thenK_n ?_
       refine ⟨j + 1, by (try dsimp only); exact ⟨by omega, fun i hi => by rcases Nat.lt_or_ge i j with h | h; exact hJ.2 i h; rw [show i = j by omega]; exact bad_f (by omega)⟩, by (try dsimp only); omega, ?_⟩
       exact ⟨[(2, 2)], .eq rfl (.same rfl rfl (.eq rfl (.nil) (by rfl))) rfl, .fzE rfl (.box (by rfl) (.nil)) rfl, rfl⟩
  ·have h2 := c_lss_f g2
   refine W_exit ?_
   refine thenK_e ?_
   refine thenK_e ?_
   refine blockK_hit ?_
   refine thenK_n ?_
   refine W_seq ?_
   refine W_seqK (b' := 99) rfl rfl ?_
   refine q0 6 83 1 rfl rfl (T_assign rfl rfl) rfl ?_
   refine k_done rfl ?_
   refine thenK_n ?_
   refine W_ret ?_
   exact .mk [] (.inr rfl) (.tmp rfl (.nil)) (by (simp only [resLV, LV.ren, LV.v.injEq, Value.bool.injEq]; exact places_yes (by omega) (fun i h => hJ.2 i (by omega)))) (.nil) rfl
theorem body109 : (Try.prog.funcs[109]?).map (fun fn => (fn.name == "runtime.NumGoroutine" || fn.body.isNone)) = some false := by kernel_rfl
theorem apart_spec (ps : List Int) (s : List Bool) (hl : s.length ≤ ps.length) (hp : ps.length ≤ 1000000000) : Spec Try.prog 109 [.agg [.r 1], .r 2] 3 [(1, .fz 1 (ps.map eI)), (2, .fz 1 (s.map eB))] (.v (.bool (apartP ps s))) 3 [] := by
 refine spec_of D (fn := Try.f109) rfl rfl (Nat.le_of_ble_eq_true rfl) ?_
 refine W_seq ?_
 refine W_seqK (b' := 35) rfl rfl ?_
 refine q1 2 3 1 rfl rfl (T_box rfl rfl flat_agg) rfl ?_
 refine q0 4 19 2 rfl rfl (T_assign rfl rfl) rfl ?_
 refine k_done rfl ?_
 refine thenK_n ?_
 refine W_seq ?_
 refine W_seq ?_
 refine W_seqK (b' := 51) rfl rfl ?_
 refine q0 5 35 1 rfl rfl (T_assign rfl rfl) rfl ?_
 refine k_done rfl ?_
 refine thenK_n ?_
 refine W_block ?_
 refine W_loop (ι := Nat) 4 (fun i => ⟨[(1, .r 2), (2, .p 3 0), (5, .v (.int .i64 (i : Int)))], [(1, .fz 1 (ps.map eI)), (2, .fz 1 (s.map eB)), (3, .box 60 [.r 1])]⟩) (fun i => i ≤ s.length ∧ ∀ a, a < i → ∀ c, c < a → apartI ps s a c = true) (fun i => s.length - i) (0) (by exact ⟨Nat.zero_le _, fun i h => absurd h (Nat.not_lt_zero _)⟩) ?_ (fun i hI => ?_)
 ·exact ⟨[(3, 3)], .same rfl rfl (.same rfl rfl (.eq rfl (.nil) (by rfl))), .fzE rfl (.fzE rfl (.box (by rfl) (.nil)) (by rfl)) (by rfl), rfl⟩
 refine W_seq ?_
 refine W_seq ?_
 refine W_seqK (b' := 68) rfl rfl ?_
 refine q0 7 4 1 rfl rfl (T_move rfl rfl) rfl ?_
 refine q0 8 20 2 rfl rfl (T_move rfl rfl) rfl ?_
 refine q0 9 36 3 rfl rfl (T_len D rfl rfl rfl rfl rfl rfl) rfl ?_
 refine q0 10 52 4 rfl rfl (T_cmp rfl rfl rfl rfl) rfl ?_
 refine k_done rfl ?_
 refine thenK_n ?_
 refine W_cond rfl (fun g1 => ?_) (fun g1 => ?_)
 ·have h1 := c_lss_t g1
  refine W_skip ?_
  refine thenK_n ?_
  refine W_seq ?_
  refine W_block ?_
  refine W_seq ?_
  refine W_seqK (b' := 84) rfl rfl ?_
  refine q0 6 68 1 rfl rfl (T_assign rfl rfl) rfl ?_
  refine k_done rfl ?_
  refine thenK_n ?_
  refine W_block ?_
  refine W_loop (ι := Nat) 4 (fun j => ⟨[(1, .r 2), (2, .p 3 0), (5, .v (.int .i64 (i : Int))), (6, .v (.int .i64 (j : Int)))], [(1, .fz 1 (ps.map eI)), (2, .fz 1 (s.map eB)), (3, .box 60 [.r 1])]⟩) (fun j => j ≤ i ∧ ∀ c, c < j → apartI ps s i c = true) (fun j => i - j) (0) (by exact ⟨Nat.zero_le _, fun i h => absurd h (Nat.not_lt_zero _)⟩) ?_ (fun j hJ => ?_)
  ·exact ⟨[(3, 3)], .same rfl rfl (.same rfl rfl (.eq rfl (.eq rfl (.nil) (by rfl)) (by rfl))), .fzE rfl (.fzE rfl (.box (by rfl) (.nil)) (by rfl)) (by rfl), rfl⟩
  refine W_seq ?_
  refine W_seq ?_
  refine W_seqK (b' := 52) rfl rfl ?_
  refine q0 13 4 1 rfl rfl (T_move rfl rfl) rfl ?_
  refine q0 14 20 2 rfl rfl (T_move rfl rfl) rfl ?_
  refine q0 15 36 3 rfl rfl (T_cmp rfl rfl rfl rfl) rfl ?_
  refine k_done rfl ?_
  refine thenK_n ?_
  refine W_cond rfl (fun g2 => ?_) (fun g2 => ?_)
  ·have h2 := c_lss_t g2
   refine W_skip ?_
   refine thenK_n ?_
   refine W_seq ?_
   refine W_block ?_
   refine W_seq ?_
   refine W_anyK (b' := 420) rfl rfl rfl ?_
   refine q0 18 52 1 rfl rfl (T_move rfl rfl) rfl ?_
   refine q0 19 68 2 rfl rfl (T_move rfl rfl) rfl ?_
   refine q0 20 84 3 rfl rfl (T_indexAddr D rfl rfl rfl rfl rfl rfl rfl rfl (by omega)) rfl ?_
   refine q0 21 100 4 rfl rfl (T_ldE D (lv := .v _) (nn := 0) (upd := []) rfl rfl rfl rfl rfl (by omega) rfl rfl rfl rfl) rfl ?_
   refine q0 22 116 5 rfl rfl (T_move rfl rfl) rfl ?_
   refine k_split (d := 22) rfl (fun g3 => ?_) (fun g3 => ?_)
   ·have h3 := g3; (try simp only [cmpB, decide_eq_true_eq, decide_eq_false_iff_not, beq_iff_eq, beq_eq_false_iff_ne, bne_iff_ne, ne_eq, bne_eq_false_iff_eq, Bool.not_eq_true', Bool.not_eq_false', Int.not_lt, Int.not_le] at h3)
    refine k_op0 (d := 23) (b := 132) (j' := 6) rfl rfl rfl rfl (g_tt rfl rfl rfl g3) (T_move rfl rfl) rfl ?_
    refine k_op0 (d := 24) (b := 148) (j' := 7) rfl rfl rfl rfl (g_tt rfl rfl rfl g3) (T_move rfl rfl) rfl ?_
    refine k_op0 (d := 25) (b := 164) (j' := 8) rfl rfl rfl rfl (g_tt rfl rfl rfl g3) (T_indexAddr D rfl rfl rfl rfl rfl rfl rfl rfl (by omega)) rfl ?_
    refine k_op0 (d := 26) (b := 180) (j' := 9) rfl rfl rfl rfl (g_tt rfl rfl rfl g3) (T_ldE D (lv := .v _) (nn := 0) (upd := []) rfl rfl rfl rfl rfl (by omega) rfl rfl rfl rfl) rfl ?_
    refine q0 27 196 10 rfl rfl (T_pick_t rfl rfl rfl g3) rfl ?_
    refine q0 28 212 11 rfl rfl (T_move rfl rfl) rfl ?_
    refine k_split (d := 28) rfl (fun g4 => ?_) (fun g4 => ?_)
    ·have h4 := g4; (try simp only [cmpB, decide_eq_true_eq, decide_eq_false_iff_not, beq_iff_eq, beq_eq_false_iff_ne, bne_iff_ne, ne_eq, bne_eq_false_iff_eq, Bool.not_eq_true', Bool.not_eq_false', Int.not_lt, Int.not_le] at h4)
     refine k_op0 (d := 29) (b := 228) (j' := 12) rfl rfl rfl rfl (g_tt rfl rfl rfl g4) (T_fa D (m := 0) rfl rfl rfl rfl rfl rfl) rfl ?_
     refine k_op0 (d := 30) (b := 244) (j' := 13) rfl rfl rfl rfl (g_tt rfl rfl rfl g4) (T_load_b D rfl rfl rfl rfl rfl rfl) rfl ?_
     refine k_op0 (d := 31) (b := 260) (j' := 14) rfl rfl rfl rfl (g_tt rfl rfl rfl g4) (T_move rfl rfl) rfl ?_
     refine k_op0 (d := 32) (b := 276) (j' := 15) rfl rfl rfl rfl (g_tt rfl rfl rfl g4) (T_indexAddr D rfl rfl rfl rfl rfl rfl rfl rfl (by omega)) rfl ?_
     refine k_op0 (d := 33) (b := 292) (j' := 16) rfl rfl rfl rfl (g_tt rfl rfl rfl g4) (T_ldE D (lv := .v _) (nn := 0) (upd := []) rfl rfl rfl rfl rfl (by omega) rfl rfl rfl rfl) rfl ?_
     refine k_op0 (d := 34) (b := 308) (j' := 17) rfl rfl rfl rfl (g_tt rfl rfl rfl g4) (T_fa D (m := 0) rfl rfl rfl rfl rfl rfl) rfl ?_
     refine k_op0 (d := 35) (b := 324) (j' := 18) rfl rfl rfl rfl (g_tt rfl rfl rfl g4) (T_load_b D rfl rfl rfl rfl rfl rfl) rfl ?_
     refine k_op0 (d := 36) (b := 340) (j' := 19) rfl rfl rfl rfl (g_tt rfl rfl rfl g4) (T_move rfl rfl) rfl ?_
     refine k_op0 (d := 37) (b := 356) (j' := 20) rfl rfl rfl rfl (g_tt rfl rfl rfl g4) (T_indexAddr D rfl rfl rfl rfl rfl rfl rfl rfl (by omega)) rfl ?_
     refine k_op0 (d := 38) (b := 372) (j' := 21) rfl rfl rfl rfl (g_tt rfl rfl rfl g4) (T_ldE D (lv := .v _) (nn := 0) (upd := []) rfl rfl rfl rfl rfl (by omega) rfl rfl rfl rfl) rfl ?_
     refine k_op0 (d := 39) (b := 388) (j' := 22) rfl rfl rfl rfl (g_tt rfl rfl rfl g4) (T_cmp rfl rfl rfl rfl) rfl ?_
     refine q0 40 404 23 rfl rfl (T_pick_t rfl rfl rfl g4) rfl ?_
     refine k_done rfl ?_
     refine ⟨rfl, ?_⟩
     refine thenK_n ?_
     refine W_cond rfl (fun g5 => ?_) (fun g5 => ?_)
     ·have h5 := c_eql_t g5
      refine W_seq ?_
      refine W_seqK (b' := 436) rfl rfl ?_
      refine q0 4 420 1 rfl rfl (T_assign rfl rfl) rfl ?_
      refine k_done rfl ?_
      refine thenK_n ?_
      refine W_ret ?_
      refine blockK_r ?_
      refine thenK_r ?_
      refine thenK_r ?_
      refine blockK_r ?_
      refine blockK_r ?_
      refine thenK_r ?_
      refine thenK_r ?_
      refine blockK_r ?_
      refine thenK_r ?_
      exact .mk [] (.inr rfl) (.tmp rfl (.nil)) (by (simp only [resLV, LV.ren, LV.v.injEq, Value.bool.injEq]; exact apart_no (i := i) (j := j) (by omega) (by omega) (by assumption) (by assumption) (by omega))) (.nil) rfl
     ·have h5 := c_eql_f g5
      refine W_skip ?_
      refine blockK_n ?_
      refine thenK_n ?_
      refine W_seqK (b' := 468) rfl rfl ?_
      refine q0 16 420 1 rfl rfl (T_move rfl rfl) rfl ?_
      refine q0 17 436 2 rfl rfl (T_add64 rfl rfl rfl (by omega)) rfl ?_
      refine q0 6 452 3 rfl rfl (T_assign rfl rfl) rfl ?_
      refine k_done rfl ?_
      refine thenK_n ?_
      refine ⟨j + 1, by (try dsimp only); exact ⟨by omega, fun c hc => by rcases Nat.lt_or_ge c j with h | h; exact hJ.2 c h; rw [show c = j by omega]; exact apartI_f3 (by omega)⟩, by (try dsimp only); omega, ?_⟩
      exact ⟨[(3, 3)], .same rfl rfl (.same rfl rfl (.eq rfl (.eq rfl (.nil) (by rfl)) rfl)), .fzE rfl (.fzE rfl (.box (by rfl) (.nil)) rfl) rfl, rfl⟩
    ·have h4 := g4; (try simp only [cmpB, decide_eq_true_eq, decide_eq_false_iff_not, beq_iff_eq, beq_eq_false_iff_ne, bne_iff_ne, ne_eq, bne_eq_false_iff_eq, Bool.not_eq_true', Bool.not_eq_false', Int.not_lt, Int.not_le] at h4)
     refine k_no (d := 29) (j' := 12) rfl rfl rfl (g_tf rfl rfl rfl g4) ?_
     refine k_no (d := 30) (j' := 13) rfl rfl rfl (g_tf rfl rfl rfl g4) ?_
     refine k_no (d := 31) (j' := 14) rfl rfl rfl (g_tf rfl rfl rfl g4) ?_
     refine k_no (d := 32) (j' := 15) rfl rfl rfl (g_tf rfl rfl rfl g4) ?_
     refine k_no (d := 33) (j' := 16) rfl rfl rfl (g_tf rfl rfl rfl g4) ?_
     refine k_no (d := 34) (j' := 17) rfl rfl rfl (g_tf rfl rfl rfl g4) ?_
     refine k_no (d := 35) (j' := 18) rfl rfl rfl (g_tf rfl rfl rfl g4) ?_
     refine k_no (d := 36) (j' := 19) rfl rfl rfl (g_tf rfl rfl rfl g4) ?_
     refine k_no (d := 37) (j' := 20) rfl rfl rfl (g_tf rfl rfl rfl g4) ?_
     refine k_no (d := 38) (j' := 21) rfl rfl rfl (g_tf rfl rfl rfl g4) ?_
     refine k_no (d := 39) (j' := 22) rfl rfl rfl (g_tf rfl rfl rfl g4) ?_
     refine q0 40 404 23 rfl rfl (T_pick_f rfl rfl rfl g4) rfl ?_
     refine k_done rfl ?_
     refine ⟨rfl, ?_⟩
     refine thenK_n ?_
     refine W_cond rfl (fun g6 => ?_) (fun g6 => ?_)
     ·exact absurd (g6.symm.trans rfl) (by decide)
     ·skip
      refine W_skip ?_
      refine blockK_n ?_
      refine thenK_n ?_
      refine W_seqK (b' := 468) rfl rfl ?_
      refine q0 16 420 1 rfl rfl (T_move rfl rfl) rfl ?_
      refine q0 17 436 2 rfl rfl (T_add64 rfl rfl rfl (by omega)) rfl ?_
      refine q0 6 452 3 rfl rfl (T_assign rfl rfl) rfl ?_
      refine k_done rfl ?_
      refine thenK_n ?_
      refine ⟨j + 1, by (try dsimp only); exact ⟨by omega, fun c hc => by rcases Nat.lt_or_ge c j with h | h; exact hJ.2 c h; rw [show c = j by omega]; exact apartI_f2 (by assumption)⟩, by (try dsimp only); omega, ?_⟩
      exact ⟨[(3, 3)], .same rfl rfl (.same rfl rfl (.eq rfl (.eq rfl (.nil) (by rfl)) rfl)), .fzE rfl (.fzE rfl (.box (by rfl) (.nil)) rfl) rfl, rfl⟩
   ·have h3 := g3; (try simp only [cmpB, decide_eq_true_eq, decide_eq_false_iff_not, beq_iff_eq, beq_eq_false_iff_ne, bne_iff_ne, ne_eq, bne_eq_false_iff_eq, Bool.not_eq_true', Bool.not_eq_false', Int.not_lt, Int.not_le] at h3)
    refine k_no (d := 23) (j' := 6) rfl rfl rfl (g_tf rfl rfl rfl g3) ?_
    refine k_no (d := 24) (j' := 7) rfl rfl rfl (g_tf rfl rfl rfl g3) ?_
    refine k_no (d := 25) (j' := 8) rfl rfl rfl (g_tf rfl rfl rfl g3) ?_
    refine k_no (d := 26) (j' := 9) rfl rfl rfl (g_tf rfl rfl rfl g3) ?_
    refine q0 27 196 10 rfl rfl (T_pick_f rfl rfl rfl g3) rfl ?_
    refine q0 28 212 11 rfl rfl (T_move rfl rfl) rfl ?_
    refine k_no (d := 29) (j' := 12) rfl rfl rfl (g_tf rfl rfl rfl rfl) ?_
    refine k_no (d := 30) (j' := 13) rfl rfl rfl (g_tf rfl rfl rfl rfl) ?_
    refine k_no (d := 31) (j' := 14) rfl rfl rfl (g_tf rfl rfl rfl rfl) ?_
    refine k_no (d := 32) (j' := 15) rfl rfl rfl (g_tf rfl rfl rfl rfl) ?_
    refine k_no (d := 33) (j' := 16) rfl rfl rfl (g_tf rfl rfl rfl rfl) ?_
    refine k_no (d := 34) (j' := 17) rfl rfl rfl (g_tf rfl rfl rfl rfl) ?_
    refine k_no (d := 35) (j' := 18) rfl rfl rfl (g_tf rfl rfl rfl rfl) ?_
    refine k_no (d := 36) (j' := 19) rfl rfl rfl (g_tf rfl rfl rfl rfl) ?_
    refine k_no (d := 37) (j' := 20) rfl rfl rfl (g_tf rfl rfl rfl rfl) ?_
    refine k_no (d := 38) (j' := 21) rfl rfl rfl (g_tf rfl rfl rfl rfl) ?_
    refine k_no (d := 39) (j' := 22) rfl rfl rfl (g_tf rfl rfl rfl rfl) ?_
    refine q0 40 404 23 rfl rfl (T_pick_f rfl rfl rfl rfl) rfl ?_
    refine k_done rfl ?_
    refine ⟨rfl, ?_⟩
    refine thenK_n ?_
    refine W_cond rfl (fun g7 => ?_) (fun g7 => ?_)
    ·exact absurd (g7.symm.trans rfl) (by decide)
    ·skip
     refine W_skip ?_
     refine blockK_n ?_
     refine thenK_n ?_
     refine W_seqK (b' := 468) rfl rfl ?_
     refine q0 16 420 1 rfl rfl (T_move rfl rfl) rfl ?_
     refine q0 17 436 2 rfl rfl (T_add64 rfl rfl rfl (by omega)) rfl ?_
     refine q0 6 452 3 rfl rfl (T_assign rfl rfl) rfl ?_
     refine k_done rfl ?_
     refine thenK_n ?_
     refine ⟨j + 1, by (try dsimp only); exact ⟨by omega, fun c hc => by rcases Nat.lt_or_ge c j with h | h; exact hJ.2 c h; rw [show c = j by omega]; exact apartI_f1 (by assumption)⟩, by (try dsimp only); omega, ?_⟩
     exact ⟨[(3, 3)], .same rfl rfl (.same rfl rfl (.eq rfl (.eq rfl (.nil) (by rfl)) rfl)), .fzE rfl (.fzE rfl (.box (by rfl) (.nil)) rfl) rfl, rfl⟩
  ·have h2 := c_lss_f g2
   refine W_exit ?_
   refine thenK_e ?_
   refine thenK_e ?_
   refine blockK_hit ?_
   refine blockK_n ?_
   refine thenK_n ?_
   refine W_seqK (b' := 100) rfl rfl ?_
   refine q0 11 52 1 rfl rfl (T_move rfl rfl) rfl ?_
   refine q0 12 68 2 rfl rfl (T_add64 rfl rfl rfl (by omega)) rfl ?_
   refine q0 5 84 3 rfl rfl (T_assign rfl rfl) rfl ?_
   refine k_done rfl ?_
   refine thenK_n ?_
   refine ⟨i + 1, by (try dsimp only); exact ⟨by omega, fun a ha => by rcases Nat.lt_or_ge a i with h | h; exact hI.2 a h; rw [show a = i by omega]; exact fun c hc => hJ.2 c (by omega)⟩, by (try dsimp only); omega, ?_⟩
   exact ⟨[(3, 3)], .same rfl rfl (.same rfl rfl (.eq rfl (.nil) (by rfl))), .fzE rfl (.fzE rfl (.box (by rfl) (.nil)) rfl) rfl, rfl⟩
 ·have h1 := c_lss_f g1
  refine W_exit ?_
  refine thenK_e ?_
  refine thenK_e ?_
  refine blockK_hit ?_
  refine thenK_n ?_
  refine W_seq ?_
  refine W_seqK (b' := 84) rfl rfl ?_
  refine q0 4 68 1 rfl rfl (T_assign rfl rfl) rfl ?_
  refine k_done rfl ?_
  refine thenK_n ?_
  refine W_ret ?_
  exact .mk [] (.inr rfl) (.tmp rfl (.nil)) (by (simp only [resLV, LV.ren, LV.v.injEq, Value.bool.injEq]; exact apart_yes (fun a ha => hI.2 a (by omega)))) (.nil) rfl
theorem body110 : (Try.prog.funcs[110]?).map (fun fn => (fn.name == "runtime.NumGoroutine" || fn.body.isNone)) = some false := by kernel_rfl
theorem rone_spec (t : GTac) (ps : List Int) (s : List Bool) (hl : s.length ≤ ps.length) (hp : ps.length ≤ 1000000000) (hT : 0 ≤ setsT t → setsT t < (ps.length : Int)) : Spec Try.prog 110 [.agg [.v (.int .i64 t.op), .v (.int .i64 t.d), .v (.int .i64 t.a), .v (.int .i64 t.b), .v (.int .i64 t.k), .v (.int .i64 t.base), .v (.int .i64 t.size), .v (.int .u32 t.n)], .agg [.r 1], .r 2] 3 [(1, .fz 1 (ps.map eI)), (2, .fz 1 (s.map eB))] (.v (.bool (rone t ps s))) 3 [] := by
 refine spec_of D (fn := Try.f110) rfl rfl (Nat.le_of_ble_eq_true rfl) ?_
 refine W_seq ?_
 refine W_seqK (b' := 51) rfl rfl ?_
 refine q1 3 3 1 rfl rfl (T_box rfl rfl flat_agg) rfl ?_
 refine q1 4 19 2 rfl rfl (T_box rfl rfl flat_agg) rfl ?_
 refine q0 6 35 3 rfl rfl (T_assign rfl rfl) rfl ?_
 refine k_done rfl ?_
 refine thenK_n ?_
 refine W_seq ?_
 refine W_seqK (b' := 99) rfl rfl ?_
 refine q0 9 51 1 rfl rfl (T_load_bA D (l := [_, _, _, _, _, _, _, _]) rfl rfl rfl rfl rfl rfl rfl) rfl ?_
 refine q0 10 67 2 rfl rfl (T_callV (lvs := [_]) (L := []) (sets_spec t) body86 rfl rfl rfl rfl (.nil) rfl) rfl ?_
 refine q0 7 83 3 rfl rfl (T_assign rfl rfl) rfl ?_
 refine k_done rfl ?_
 refine thenK_n ?_
 refine W_seq ?_
 refine W_seq ?_
 refine W_seqK (b' := 115) rfl rfl ?_
 refine q0 8 99 1 rfl rfl (T_assign rfl rfl) rfl ?_
 refine k_done rfl ?_
 refine thenK_n ?_
 refine W_block ?_
 refine W_loop (ι := Nat) 5 (fun i => ⟨[(2, .r 2), (3, .p 3 0), (4, .p 4 0), (7, .v (.int .i64 (setsT t))), (8, .v (.int .i64 (i : Int)))], [(1, .fz 1 (ps.map eI)), (2, .fz 1 (s.map eB)), (3, .box 70 [.v (.int .i64 t.op), .v (.int .i64 t.d), .v (.int .i64 t.a), .v (.int .i64 t.b), .v (.int .i64 t.k), .v (.int .i64 t.base), .v (.int .i64 t.size), .v (.int .u32 t.n)]), (4, .box 60 [.r 1])]⟩) (fun i => i ≤ s.length ∧ ∀ a, a < i → (s.getD a default && clash t ps a) = false) (fun i => s.length - i) (0) (by exact ⟨Nat.zero_le _, fun i h => absurd h (Nat.not_lt_zero _)⟩) ?_ (fun i hI => ?_)
 ·exact ⟨[(3, 3), (4, 19)], .same rfl rfl (.same rfl rfl (.same rfl rfl (.eq rfl (.eq rfl (.nil) (by rfl)) (by rfl)))), .fzE rfl (.fzE rfl (.box (by rfl) (.box (by rfl) (.nil))) (by rfl)) (by rfl), rfl⟩
 refine W_seq ?_
 refine W_seq ?_
 refine W_seqK (b' := 69) rfl rfl ?_
 refine q0 11 5 1 rfl rfl (T_move rfl rfl) rfl ?_
 refine q0 12 21 2 rfl rfl (T_move rfl rfl) rfl ?_
 refine q0 13 37 3 rfl rfl (T_len D rfl rfl rfl rfl rfl rfl) rfl ?_
 refine q0 14 53 4 rfl rfl (T_cmp rfl rfl rfl rfl) rfl ?_
 refine k_done rfl ?_
 refine thenK_n ?_
 refine W_cond rfl (fun g1 => ?_) (fun g1 => ?_)
 ·have h1 := c_lss_t g1
  refine W_skip ?_
  refine thenK_n ?_
  refine W_seq ?_
  refine W_block ?_
  refine W_seq ?_
  refine W_seq ?_
  refine W_seqK (b' := 149) rfl rfl ?_
  refine q0 17 69 1 rfl rfl (T_move rfl rfl) rfl ?_
  refine q0 18 85 2 rfl rfl (T_move rfl rfl) rfl ?_
  refine q0 19 101 3 rfl rfl (T_indexAddr D rfl rfl rfl rfl rfl rfl rfl rfl (by omega)) rfl ?_
  refine q0 20 117 4 rfl rfl (T_ldE D (lv := .v _) (nn := 0) (upd := []) rfl rfl rfl rfl rfl (by omega) rfl rfl rfl rfl) rfl ?_
  refine q0 21 133 5 rfl rfl (T_not rfl rfl) rfl ?_
  refine k_done rfl ?_
  refine thenK_n ?_
  refine W_cond rfl (fun g2 => ?_) (fun g2 => ?_)
  ·have h2 := g2; (try simp only [cmpB, decide_eq_true_eq, decide_eq_false_iff_not, beq_iff_eq, beq_eq_false_iff_ne, bne_iff_ne, ne_eq, bne_eq_false_iff_eq, Bool.not_eq_true', Bool.not_eq_false', Int.not_lt, Int.not_le] at h2)
   refine W_exit ?_
   refine thenK_e ?_
   refine blockK_hit ?_
   refine thenK_n ?_
   refine W_seqK (b' := 197) rfl rfl ?_
   refine q0 15 149 1 rfl rfl (T_move rfl rfl) rfl ?_
   refine q0 16 165 2 rfl rfl (T_add64 rfl rfl rfl (by omega)) rfl ?_
   refine q0 8 181 3 rfl rfl (T_assign rfl rfl) rfl ?_
   refine k_done rfl ?_
   refine thenK_n ?_
   refine ⟨i + 1, by (try dsimp only); exact ⟨by omega, fun a ha => by rcases Nat.lt_or_ge a i with h | h; exact hI.2 a h; rw [show a = i by omega]; (rw [(by assumption : s.getD i default = false)]; rfl)⟩, by (try dsimp only); omega, ?_⟩
   exact ⟨[(3, 3), (4, 4)], .same rfl rfl (.same rfl rfl (.same rfl rfl (.eq rfl (.eq rfl (.nil) (by rfl)) rfl))), .fzE rfl (.fzE rfl (.box (by rfl) (.box (by rfl) (.nil))) rfl) rfl, rfl⟩
  ·have h2 := g2; (try simp only [cmpB, decide_eq_true_eq, decide_eq_false_iff_not, beq_iff_eq, beq_eq_false_iff_ne, bne_iff_ne, ne_eq, bne_eq_false_iff_eq, Bool.not_eq_true', Bool.not_eq_false', Int.not_lt, Int.not_le] at h2)
   refine W_skip ?_
   refine thenK_n ?_
   refine W_seq ?_
   refine W_anyK (b' := 677) rfl rfl rfl ?_
   refine q0 22 149 1 rfl rfl (T_move rfl rfl) rfl ?_
   refine q0 23 165 2 rfl rfl (T_cmp rfl rfl rfl rfl) rfl ?_
   refine q0 24 181 3 rfl rfl (T_move rfl rfl) rfl ?_
   refine k_split (d := 24) rfl (fun g3 => ?_) (fun g3 => ?_)
   ·have h3 := c_geq_t g3
    refine k_op0 (d := 25) (b := 197) (j' := 4) rfl rfl rfl rfl (g_tt rfl rfl rfl g3) (T_move rfl rfl) rfl ?_
    refine k_op0 (d := 26) (b := 213) (j' := 5) rfl rfl rfl rfl (g_tt rfl rfl rfl g3) (T_move rfl rfl) rfl ?_
    refine k_op0 (d := 27) (b := 229) (j' := 6) rfl rfl rfl rfl (g_tt rfl rfl rfl g3) (T_cmp rfl rfl rfl rfl) rfl ?_
    refine q0 28 245 7 rfl rfl (T_pick_t rfl rfl rfl g3) rfl ?_
    refine q0 29 261 8 rfl rfl (T_move rfl rfl) rfl ?_
    refine k_split (d := 29) rfl (fun g4 => ?_) (fun g4 => ?_)
    ·have h4 := c_neq_t g4
     refine k_op0 (d := 30) (b := 277) (j' := 9) rfl rfl rfl rfl (g_tt rfl rfl rfl g4) (T_fa D (m := 0) rfl rfl rfl rfl rfl rfl) rfl ?_
     refine k_op0 (d := 31) (b := 293) (j' := 10) rfl rfl rfl rfl (g_tt rfl rfl rfl g4) (T_load_b D rfl rfl rfl rfl rfl rfl) rfl ?_
     refine k_op0 (d := 32) (b := 309) (j' := 11) rfl rfl rfl rfl (g_tt rfl rfl rfl g4) (T_move rfl rfl) rfl ?_
     refine k_op0 (d := 33) (b := 325) (j' := 12) rfl rfl rfl rfl (g_tt rfl rfl rfl g4) (T_indexAddr D rfl rfl rfl rfl rfl rfl rfl rfl (by omega)) rfl ?_
     refine k_op0 (d := 34) (b := 341) (j' := 13) rfl rfl rfl rfl (g_tt rfl rfl rfl g4) (T_ldE D (lv := .v _) (nn := 0) (upd := []) rfl rfl rfl rfl rfl (by omega) rfl rfl rfl rfl) rfl ?_
     refine k_op0 (d := 35) (b := 357) (j' := 14) rfl rfl rfl rfl (g_tt rfl rfl rfl g4) (T_fa D (m := 0) rfl rfl rfl rfl rfl rfl) rfl ?_
     refine k_op0 (d := 36) (b := 373) (j' := 15) rfl rfl rfl rfl (g_tt rfl rfl rfl g4) (T_load_b D rfl rfl rfl rfl rfl rfl) rfl ?_
     refine k_op0 (d := 37) (b := 389) (j' := 16) rfl rfl rfl rfl (g_tt rfl rfl rfl g4) (T_move rfl rfl) rfl ?_
     refine k_op0 (d := 38) (b := 405) (j' := 17) rfl rfl rfl rfl (g_tt rfl rfl rfl g4) (T_indexAddrZ D rfl rfl rfl rfl rfl rfl rfl rfl (by assumption) (by omega)) rfl ?_
     refine k_op0 (d := 39) (b := 421) (j' := 18) rfl rfl rfl rfl (g_tt rfl rfl rfl g4) (T_ldE D (lv := .v _) (nn := 0) (upd := []) rfl rfl rfl rfl rfl (by omega) rfl rfl rfl rfl) rfl ?_
     refine k_op0 (d := 40) (b := 437) (j' := 19) rfl rfl rfl rfl (g_tt rfl rfl rfl g4) (T_cmp rfl rfl rfl rfl) rfl ?_
     refine q0 41 453 20 rfl rfl (T_pick_t rfl rfl rfl g4) rfl ?_
     refine q0 42 469 21 rfl rfl (T_move rfl rfl) rfl ?_
     refine k_split (d := 42) rfl (fun g5 => ?_) (fun g5 => ?_)
     ·have h5 := c_eql_t g5
      refine k_no (d := 43) (j' := 22) rfl rfl rfl (g_ft rfl rfl rfl g5) ?_
      refine k_no (d := 44) (j' := 23) rfl rfl rfl (g_ft rfl rfl rfl g5) ?_
      refine k_no (d := 45) (j' := 24) rfl rfl rfl (g_ft rfl rfl rfl g5) ?_
      refine k_no (d := 46) (j' := 25) rfl rfl rfl (g_ft rfl rfl rfl g5) ?_
      refine k_no (d := 47) (j' := 26) rfl rfl rfl (.und rfl rfl rfl) ?_
      refine k_no (d := 48) (j' := 27) rfl rfl rfl (.und rfl rfl rfl) ?_
      refine k_no (d := 49) (j' := 28) rfl rfl rfl (.und rfl rfl rfl) ?_
      refine k_no (d := 50) (j' := 29) rfl rfl rfl (.und rfl rfl rfl) ?_
      refine k_no (d := 51) (j' := 30) rfl rfl rfl (.und rfl rfl rfl) ?_
      refine k_no (d := 52) (j' := 31) rfl rfl rfl (.und rfl rfl rfl) ?_
      refine k_no (d := 53) (j' := 32) rfl rfl rfl (g_ft rfl rfl rfl g5) ?_
      refine q0 54 661 33 rfl rfl (T_pick_t rfl rfl rfl g5) rfl ?_
      refine k_done rfl ?_
      refine ⟨rfl, ?_⟩
      refine thenK_n ?_
      refine W_cond rfl (fun g6 => ?_) (fun g6 => ?_)
      ·skip
       refine W_seq ?_
       refine W_seqK (b' := 693) rfl rfl ?_
       refine q0 6 677 1 rfl rfl (T_assign rfl rfl) rfl ?_
       refine k_done rfl ?_
       refine thenK_n ?_
       refine W_ret ?_
       refine blockK_r ?_
       refine thenK_r ?_
       refine thenK_r ?_
       refine blockK_r ?_
       refine thenK_r ?_
       exact .mk [] (.inr rfl) (.tmp rfl (.nil)) (by (simp only [resLV, LV.ren, LV.v.injEq, Value.bool.injEq]; exact rone_no (i := i) (by omega) (by assumption) (clash_t (by omega)))) (.nil) rfl
      ·exact absurd (g6.symm.trans rfl) (by decide)
     ·have h5 := c_eql_f g5
      refine k_op0 (d := 43) (b := 485) (j' := 22) rfl rfl rfl rfl (g_ff rfl rfl rfl g5) (T_fa D (m := 0) rfl rfl rfl rfl rfl rfl) rfl ?_
      refine k_op0 (d := 44) (b := 501) (j' := 23) rfl rfl rfl rfl (g_ff rfl rfl rfl g5) (T_load_b D rfl rfl rfl rfl rfl rfl) rfl ?_
      refine k_op0 (d := 45) (b := 517) (j' := 24) rfl rfl rfl rfl (g_ff rfl rfl rfl g5) (T_cmp rfl rfl rfl rfl) rfl ?_
      refine k_op0 (d := 46) (b := 533) (j' := 25) rfl rfl rfl rfl (g_ff rfl rfl rfl g5) (T_move rfl rfl) rfl ?_
      refine k_split (d := 46) rfl (fun g7 => ?_) (fun g7 => ?_)
      ·have h7 := c_eql_t g7
       refine k_op0 (d := 47) (b := 549) (j' := 26) rfl rfl rfl rfl (g_tt rfl rfl rfl g7) (T_fa D (m := 0) rfl rfl rfl rfl rfl rfl) rfl ?_
       refine k_op0 (d := 48) (b := 565) (j' := 27) rfl rfl rfl rfl (g_tt rfl rfl rfl g7) (T_load_b D rfl rfl rfl rfl rfl rfl) rfl ?_
       refine k_op0 (d := 49) (b := 581) (j' := 28) rfl rfl rfl rfl (g_tt rfl rfl rfl g7) (T_move rfl rfl) rfl ?_
       refine k_op0 (d := 50) (b := 597) (j' := 29) rfl rfl rfl rfl (g_tt rfl rfl rfl g7) (T_indexAddr D rfl rfl rfl rfl rfl rfl rfl rfl (by omega)) rfl ?_
       refine k_op0 (d := 51) (b := 613) (j' := 30) rfl rfl rfl rfl (g_tt rfl rfl rfl g7) (T_ldE D (lv := .v _) (nn := 0) (upd := []) rfl rfl rfl rfl rfl (by omega) rfl rfl rfl rfl) rfl ?_
       refine k_op0 (d := 52) (b := 629) (j' := 31) rfl rfl rfl rfl (g_tt rfl rfl rfl g7) (T_cmp rfl rfl rfl rfl) rfl ?_
       refine k_op0 (d := 53) (b := 645) (j' := 32) rfl rfl rfl rfl (g_ff rfl rfl rfl g5) (T_pick_t rfl rfl rfl g7) rfl ?_
       refine q0 54 661 33 rfl rfl (T_pick_f rfl rfl rfl g5) rfl ?_
       refine k_done rfl ?_
       refine ⟨rfl, ?_⟩
       refine thenK_n ?_
       refine W_cond rfl (fun g8 => ?_) (fun g8 => ?_)
       ·have h8 := c_gtr_t g8
        refine W_seq ?_
        refine W_seqK (b' := 693) rfl rfl ?_
        refine q0 6 677 1 rfl rfl (T_assign rfl rfl) rfl ?_
        refine k_done rfl ?_
        refine thenK_n ?_
        refine W_ret ?_
        refine blockK_r ?_
        refine thenK_r ?_
        refine thenK_r ?_
        refine blockK_r ?_
        refine thenK_r ?_
        exact .mk [] (.inr rfl) (.tmp rfl (.nil)) (by (simp only [resLV, LV.ren, LV.v.injEq, Value.bool.injEq]; exact rone_no (i := i) (by omega) (by assumption) (clash_t (by omega)))) (.nil) rfl
       ·have h8 := c_gtr_f g8
        refine W_skip ?_
        refine blockK_n ?_
        refine thenK_n ?_
        refine W_seqK (b' := 725) rfl rfl ?_
        refine q0 15 677 1 rfl rfl (T_move rfl rfl) rfl ?_
        refine q0 16 693 2 rfl rfl (T_add64 rfl rfl rfl (by omega)) rfl ?_
        refine q0 8 709 3 rfl rfl (T_assign rfl rfl) rfl ?_
        refine k_done rfl ?_
        refine thenK_n ?_
        refine ⟨i + 1, by (try dsimp only); exact ⟨by omega, fun a ha => by rcases Nat.lt_or_ge a i with h | h; exact hI.2 a h; rw [show a = i by omega]; (rw [clash_f (by omega), Bool.and_false])⟩, by (try dsimp only); omega, ?_⟩
        exact ⟨[(3, 3), (4, 4)], .same rfl rfl (.same rfl rfl (.same rfl rfl (.eq rfl (.eq rfl (.nil) (by rfl)) rfl))), .fzE rfl (.fzE rfl (.box (by rfl) (.box (by rfl) (.nil))) rfl) rfl, rfl⟩
      ·have h7 := c_eql_f g7
       refine k_no (d := 47) (j' := 26) rfl rfl rfl (g_tf rfl rfl rfl g7) ?_
       refine k_no (d := 48) (j' := 27) rfl rfl rfl (g_tf rfl rfl rfl g7) ?_
       refine k_no (d := 49) (j' := 28) rfl rfl rfl (g_tf rfl rfl rfl g7) ?_
       refine k_no (d := 50) (j' := 29) rfl rfl rfl (g_tf rfl rfl rfl g7) ?_
       refine k_no (d := 51) (j' := 30) rfl rfl rfl (g_tf rfl rfl rfl g7) ?_
       refine k_no (d := 52) (j' := 31) rfl rfl rfl (g_tf rfl rfl rfl g7) ?_
       refine k_op0 (d := 53) (b := 645) (j' := 32) rfl rfl rfl rfl (g_ff rfl rfl rfl g5) (T_pick_f rfl rfl rfl g7) rfl ?_
       refine q0 54 661 33 rfl rfl (T_pick_f rfl rfl rfl g5) rfl ?_
       refine k_done rfl ?_
       refine ⟨rfl, ?_⟩
       refine thenK_n ?_
       refine W_cond rfl (fun g9 => ?_) (fun g9 => ?_)
       ·exact absurd (g9.symm.trans rfl) (by decide)
       ·skip
        refine W_skip ?_
        refine blockK_n ?_
        refine thenK_n ?_
        refine W_seqK (b' := 725) rfl rfl ?_
        refine q0 15 677 1 rfl rfl (T_move rfl rfl) rfl ?_
        refine q0 16 693 2 rfl rfl (T_add64 rfl rfl rfl (by omega)) rfl ?_
        refine q0 8 709 3 rfl rfl (T_assign rfl rfl) rfl ?_
        refine k_done rfl ?_
        refine thenK_n ?_
        refine ⟨i + 1, by (try dsimp only); exact ⟨by omega, fun a ha => by rcases Nat.lt_or_ge a i with h | h; exact hI.2 a h; rw [show a = i by omega]; (rw [clash_f (by omega), Bool.and_false])⟩, by (try dsimp only); omega, ?_⟩
        exact ⟨[(3, 3), (4, 4)], .same rfl rfl (.same rfl rfl (.same rfl rfl (.eq rfl (.eq rfl (.nil) (by rfl)) rfl))), .fzE rfl (.fzE rfl (.box (by rfl) (.box (by rfl) (.nil))) rfl) rfl, rfl⟩
    ·have h4 := c_neq_f g4
     refine k_no (d := 30) (j' := 9) rfl rfl rfl (g_tf rfl rfl rfl g4) ?_
     refine k_no (d := 31) (j' := 10) rfl rfl rfl (g_tf rfl rfl rfl g4) ?_
     refine k_no (d := 32) (j' := 11) rfl rfl rfl (g_tf rfl rfl rfl g4) ?_
     refine k_no (d := 33) (j' := 12) rfl rfl rfl (g_tf rfl rfl rfl g4) ?_
     refine k_no (d := 34) (j' := 13) rfl rfl rfl (g_tf rfl rfl rfl g4) ?_
     refine k_no (d := 35) (j' := 14) rfl rfl rfl (g_tf rfl rfl rfl g4) ?_
     refine k_no (d := 36) (j' := 15) rfl rfl rfl (g_tf rfl rfl rfl g4) ?_
     refine k_no (d := 37) (j' := 16) rfl rfl rfl (g_tf rfl rfl rfl g4) ?_
     refine k_no (d := 38) (j' := 17) rfl rfl rfl (g_tf rfl rfl rfl g4) ?_
     refine k_no (d := 39) (j' := 18) rfl rfl rfl (g_tf rfl rfl rfl g4) ?_
     refine k_no (d := 40) (j' := 19) rfl rfl rfl (g_tf rfl rfl rfl g4) ?_
     refine q0 41 453 20 rfl rfl (T_pick_f rfl rfl rfl g4) rfl ?_
     refine q0 42 469 21 rfl rfl (T_move rfl rfl) rfl ?_
     refine k_op0 (d := 43) (b := 485) (j' := 22) rfl rfl rfl rfl (g_ff rfl rfl rfl rfl) (T_fa D (m := 0) rfl rfl rfl rfl rfl rfl) rfl ?_
     refine k_op0 (d := 44) (b := 501) (j' := 23) rfl rfl rfl rfl (g_ff rfl rfl rfl rfl) (T_load_b D rfl rfl rfl rfl rfl rfl) rfl ?_
     refine k_op0 (d := 45) (b := 517) (j' := 24) rfl rfl rfl rfl (g_ff rfl rfl rfl rfl) (T_cmp rfl rfl rfl rfl) rfl ?_
     refine k_op0 (d := 46) (b := 533) (j' := 25) rfl rfl rfl rfl (g_ff rfl rfl rfl rfl) (T_move rfl rfl) rfl ?_
     refine k_split (d := 46) rfl (fun g10 => ?_) (fun g10 => ?_)
     ·have h10 := c_eql_t g10
      refine k_op0 (d := 47) (b := 549) (j' := 26) rfl rfl rfl rfl (g_tt rfl rfl rfl g10) (T_fa D (m := 0) rfl rfl rfl rfl rfl rfl) rfl ?_
      refine k_op0 (d := 48) (b := 565) (j' := 27) rfl rfl rfl rfl (g_tt rfl rfl rfl g10) (T_load_b D rfl rfl rfl rfl rfl rfl) rfl ?_
      refine k_op0 (d := 49) (b := 581) (j' := 28) rfl rfl rfl rfl (g_tt rfl rfl rfl g10) (T_move rfl rfl) rfl ?_
      refine k_op0 (d := 50) (b := 597) (j' := 29) rfl rfl rfl rfl (g_tt rfl rfl rfl g10) (T_indexAddr D rfl rfl rfl rfl rfl rfl rfl rfl (by omega)) rfl ?_
      refine k_op0 (d := 51) (b := 613) (j' := 30) rfl rfl rfl rfl (g_tt rfl rfl rfl g10) (T_ldE D (lv := .v _) (nn := 0) (upd := []) rfl rfl rfl rfl rfl (by omega) rfl rfl rfl rfl) rfl ?_
      refine k_op0 (d := 52) (b := 629) (j' := 31) rfl rfl rfl rfl (g_tt rfl rfl rfl g10) (T_cmp rfl rfl rfl rfl) rfl ?_
      refine k_op0 (d := 53) (b := 645) (j' := 32) rfl rfl rfl rfl (g_ff rfl rfl rfl rfl) (T_pick_t rfl rfl rfl g10) rfl ?_
      refine q0 54 661 33 rfl rfl (T_pick_f rfl rfl rfl rfl) rfl ?_
      refine k_done rfl ?_
      refine ⟨rfl, ?_⟩
      refine thenK_n ?_
      refine W_cond rfl (fun g11 => ?_) (fun g11 => ?_)
      ·have h11 := c_gtr_t g11
       refine W_seq ?_
       refine W_seqK (b' := 693) rfl rfl ?_
       refine q0 6 677 1 rfl rfl (T_assign rfl rfl) rfl ?_
       refine k_done rfl ?_
       refine thenK_n ?_
       refine W_ret ?_
       refine blockK_r ?_
       refine thenK_r ?_
       refine thenK_r ?_
       refine blockK_r ?_
       refine thenK_r ?_
       exact .mk [] (.inr rfl) (.tmp rfl (.nil)) (by (simp only [resLV, LV.ren, LV.v.injEq, Value.bool.injEq]; exact rone_no (i := i) (by omega) (by assumption) (clash_t (by omega)))) (.nil) rfl
      ·have h11 := c_gtr_f g11
       refine W_skip ?_
       refine blockK_n ?_
       refine thenK_n ?_
       refine W_seqK (b' := 725) rfl rfl ?_
       refine q0 15 677 1 rfl rfl (T_move rfl rfl) rfl ?_
       refine q0 16 693 2 rfl rfl (T_add64 rfl rfl rfl (by omega)) rfl ?_
       refine q0 8 709 3 rfl rfl (T_assign rfl rfl) rfl ?_
       refine k_done rfl ?_
       refine thenK_n ?_
       refine ⟨i + 1, by (try dsimp only); exact ⟨by omega, fun a ha => by rcases Nat.lt_or_ge a i with h | h; exact hI.2 a h; rw [show a = i by omega]; (rw [clash_f (by omega), Bool.and_false])⟩, by (try dsimp only); omega, ?_⟩
       exact ⟨[(3, 3), (4, 4)], .same rfl rfl (.same rfl rfl (.same rfl rfl (.eq rfl (.eq rfl (.nil) (by rfl)) rfl))), .fzE rfl (.fzE rfl (.box (by rfl) (.box (by rfl) (.nil))) rfl) rfl, rfl⟩
     ·have h10 := c_eql_f g10
      refine k_no (d := 47) (j' := 26) rfl rfl rfl (g_tf rfl rfl rfl g10) ?_
      refine k_no (d := 48) (j' := 27) rfl rfl rfl (g_tf rfl rfl rfl g10) ?_
      refine k_no (d := 49) (j' := 28) rfl rfl rfl (g_tf rfl rfl rfl g10) ?_
      refine k_no (d := 50) (j' := 29) rfl rfl rfl (g_tf rfl rfl rfl g10) ?_
      refine k_no (d := 51) (j' := 30) rfl rfl rfl (g_tf rfl rfl rfl g10) ?_
      refine k_no (d := 52) (j' := 31) rfl rfl rfl (g_tf rfl rfl rfl g10) ?_
      refine k_op0 (d := 53) (b := 645) (j' := 32) rfl rfl rfl rfl (g_ff rfl rfl rfl rfl) (T_pick_f rfl rfl rfl g10) rfl ?_
      refine q0 54 661 33 rfl rfl (T_pick_f rfl rfl rfl rfl) rfl ?_
      refine k_done rfl ?_
      refine ⟨rfl, ?_⟩
      refine thenK_n ?_
      refine W_cond rfl (fun g12 => ?_) (fun g12 => ?_)
      ·exact absurd (g12.symm.trans rfl) (by decide)
      ·skip
       refine W_skip ?_
       refine blockK_n ?_
       refine thenK_n ?_
       refine W_seqK (b' := 725) rfl rfl ?_
       refine q0 15 677 1 rfl rfl (T_move rfl rfl) rfl ?_
       refine q0 16 693 2 rfl rfl (T_add64 rfl rfl rfl (by omega)) rfl ?_
       refine q0 8 709 3 rfl rfl (T_assign rfl rfl) rfl ?_
       refine k_done rfl ?_
       refine thenK_n ?_
       refine ⟨i + 1, by (try dsimp only); exact ⟨by omega, fun a ha => by rcases Nat.lt_or_ge a i with h | h; exact hI.2 a h; rw [show a = i by omega]; (rw [clash_f (by omega), Bool.and_false])⟩, by (try dsimp only); omega, ?_⟩
       exact ⟨[(3, 3), (4, 4)], .same rfl rfl (.same rfl rfl (.same rfl rfl (.eq rfl (.eq rfl (.nil) (by rfl)) rfl))), .fzE rfl (.fzE rfl (.box (by rfl) (.box (by rfl) (.nil))) rfl) rfl, rfl⟩
   ·have h3 := c_geq_f g3
    refine k_no (d := 25) (j' := 4) rfl rfl rfl (g_tf rfl rfl rfl g3) ?_
    refine k_no (d := 26) (j' := 5) rfl rfl rfl (g_tf rfl rfl rfl g3) ?_
    refine k_no (d := 27) (j' := 6) rfl rfl rfl (g_tf rfl rfl rfl g3) ?_
    refine q0 28 245 7 rfl rfl (T_pick_f rfl rfl rfl g3) rfl ?_
    refine q0 29 261 8 rfl rfl (T_move rfl rfl) rfl ?_
    refine k_no (d := 30) (j' := 9) rfl rfl rfl (g_tf rfl rfl rfl rfl) ?_
    refine k_no (d := 31) (j' := 10) rfl rfl rfl (g_tf rfl rfl rfl rfl) ?_
    refine k_no (d := 32) (j' := 11) rfl rfl rfl (g_tf rfl rfl rfl rfl) ?_
    refine k_no (d := 33) (j' := 12) rfl rfl rfl (g_tf rfl rfl rfl rfl) ?_
    refine k_no (d := 34) (j' := 13) rfl rfl rfl (g_tf rfl rfl rfl rfl) ?_
    refine k_no (d := 35) (j' := 14) rfl rfl rfl (g_tf rfl rfl rfl rfl) ?_
    refine k_no (d := 36) (j' := 15) rfl rfl rfl (g_tf rfl rfl rfl rfl) ?_
    refine k_no (d := 37) (j' := 16) rfl rfl rfl (g_tf rfl rfl rfl rfl) ?_
    refine k_no (d := 38) (j' := 17) rfl rfl rfl (g_tf rfl rfl rfl rfl) ?_
    refine k_no (d := 39) (j' := 18) rfl rfl rfl (g_tf rfl rfl rfl rfl) ?_
    refine k_no (d := 40) (j' := 19) rfl rfl rfl (g_tf rfl rfl rfl rfl) ?_
    refine q0 41 453 20 rfl rfl (T_pick_f rfl rfl rfl rfl) rfl ?_
    refine q0 42 469 21 rfl rfl (T_move rfl rfl) rfl ?_
    refine k_op0 (d := 43) (b := 485) (j' := 22) rfl rfl rfl rfl (g_ff rfl rfl rfl rfl) (T_fa D (m := 0) rfl rfl rfl rfl rfl rfl) rfl ?_
    refine k_op0 (d := 44) (b := 501) (j' := 23) rfl rfl rfl rfl (g_ff rfl rfl rfl rfl) (T_load_b D rfl rfl rfl rfl rfl rfl) rfl ?_
    refine k_op0 (d := 45) (b := 517) (j' := 24) rfl rfl rfl rfl (g_ff rfl rfl rfl rfl) (T_cmp rfl rfl rfl rfl) rfl ?_
    refine k_op0 (d := 46) (b := 533) (j' := 25) rfl rfl rfl rfl (g_ff rfl rfl rfl rfl) (T_move rfl rfl) rfl ?_
    refine k_split (d := 46) rfl (fun g13 => ?_) (fun g13 => ?_)
    ·have h13 := c_eql_t g13
     refine k_op0 (d := 47) (b := 549) (j' := 26) rfl rfl rfl rfl (g_tt rfl rfl rfl g13) (T_fa D (m := 0) rfl rfl rfl rfl rfl rfl) rfl ?_
     refine k_op0 (d := 48) (b := 565) (j' := 27) rfl rfl rfl rfl (g_tt rfl rfl rfl g13) (T_load_b D rfl rfl rfl rfl rfl rfl) rfl ?_
     refine k_op0 (d := 49) (b := 581) (j' := 28) rfl rfl rfl rfl (g_tt rfl rfl rfl g13) (T_move rfl rfl) rfl ?_
     refine k_op0 (d := 50) (b := 597) (j' := 29) rfl rfl rfl rfl (g_tt rfl rfl rfl g13) (T_indexAddr D rfl rfl rfl rfl rfl rfl rfl rfl (by omega)) rfl ?_
     refine k_op0 (d := 51) (b := 613) (j' := 30) rfl rfl rfl rfl (g_tt rfl rfl rfl g13) (T_ldE D (lv := .v _) (nn := 0) (upd := []) rfl rfl rfl rfl rfl (by omega) rfl rfl rfl rfl) rfl ?_
     refine k_op0 (d := 52) (b := 629) (j' := 31) rfl rfl rfl rfl (g_tt rfl rfl rfl g13) (T_cmp rfl rfl rfl rfl) rfl ?_
     refine k_op0 (d := 53) (b := 645) (j' := 32) rfl rfl rfl rfl (g_ff rfl rfl rfl rfl) (T_pick_t rfl rfl rfl g13) rfl ?_
     refine q0 54 661 33 rfl rfl (T_pick_f rfl rfl rfl rfl) rfl ?_
     refine k_done rfl ?_
     refine ⟨rfl, ?_⟩
     refine thenK_n ?_
     refine W_cond rfl (fun g14 => ?_) (fun g14 => ?_)
     ·have h14 := c_gtr_t g14
      refine W_seq ?_
      refine W_seqK (b' := 693) rfl rfl ?_
      refine q0 6 677 1 rfl rfl (T_assign rfl rfl) rfl ?_
      refine k_done rfl ?_
      refine thenK_n ?_
      refine W_ret ?_
      refine blockK_r ?_
      refine thenK_r ?_
      refine thenK_r ?_
      refine blockK_r ?_
      refine thenK_r ?_
      exact .mk [] (.inr rfl) (.tmp rfl (.nil)) (by (simp only [resLV, LV.ren, LV.v.injEq, Value.bool.injEq]; exact rone_no (i := i) (by omega) (by assumption) (clash_t (by omega)))) (.nil) rfl
     ·have h14 := c_gtr_f g14
      refine W_skip ?_
      refine blockK_n ?_
      refine thenK_n ?_
      refine W_seqK (b' := 725) rfl rfl ?_
      refine q0 15 677 1 rfl rfl (T_move rfl rfl) rfl ?_
      refine q0 16 693 2 rfl rfl (T_add64 rfl rfl rfl (by omega)) rfl ?_
      refine q0 8 709 3 rfl rfl (T_assign rfl rfl) rfl ?_
      refine k_done rfl ?_
      refine thenK_n ?_
      refine ⟨i + 1, by (try dsimp only); exact ⟨by omega, fun a ha => by rcases Nat.lt_or_ge a i with h | h; exact hI.2 a h; rw [show a = i by omega]; (rw [clash_f (by omega), Bool.and_false])⟩, by (try dsimp only); omega, ?_⟩
      exact ⟨[(3, 3), (4, 4)], .same rfl rfl (.same rfl rfl (.same rfl rfl (.eq rfl (.eq rfl (.nil) (by rfl)) rfl))), .fzE rfl (.fzE rfl (.box (by rfl) (.box (by rfl) (.nil))) rfl) rfl, rfl⟩
    ·have h13 := c_eql_f g13
     refine k_no (d := 47) (j' := 26) rfl rfl rfl (g_tf rfl rfl rfl g13) ?_
     refine k_no (d := 48) (j' := 27) rfl rfl rfl (g_tf rfl rfl rfl g13) ?_
     refine k_no (d := 49) (j' := 28) rfl rfl rfl (g_tf rfl rfl rfl g13) ?_
     refine k_no (d := 50) (j' := 29) rfl rfl rfl (g_tf rfl rfl rfl g13) ?_
     refine k_no (d := 51) (j' := 30) rfl rfl rfl (g_tf rfl rfl rfl g13) ?_
     refine k_no (d := 52) (j' := 31) rfl rfl rfl (g_tf rfl rfl rfl g13) ?_
     refine k_op0 (d := 53) (b := 645) (j' := 32) rfl rfl rfl rfl (g_ff rfl rfl rfl rfl) (T_pick_f rfl rfl rfl g13) rfl ?_
     refine q0 54 661 33 rfl rfl (T_pick_f rfl rfl rfl rfl) rfl ?_
     refine k_done rfl ?_
     refine ⟨rfl, ?_⟩
     refine thenK_n ?_
     refine W_cond rfl (fun g15 => ?_) (fun g15 => ?_)
     ·exact absurd (g15.symm.trans rfl) (by decide)
     ·skip
      refine W_skip ?_
      refine blockK_n ?_
      refine thenK_n ?_
      refine W_seqK (b' := 725) rfl rfl ?_
      refine q0 15 677 1 rfl rfl (T_move rfl rfl) rfl ?_
      refine q0 16 693 2 rfl rfl (T_add64 rfl rfl rfl (by omega)) rfl ?_
      refine q0 8 709 3 rfl rfl (T_assign rfl rfl) rfl ?_
      refine k_done rfl ?_
      refine thenK_n ?_
      refine ⟨i + 1, by (try dsimp only); exact ⟨by omega, fun a ha => by rcases Nat.lt_or_ge a i with h | h; exact hI.2 a h; rw [show a = i by omega]; (rw [clash_f (by omega), Bool.and_false])⟩, by (try dsimp only); omega, ?_⟩
      exact ⟨[(3, 3), (4, 4)], .same rfl rfl (.same rfl rfl (.same rfl rfl (.eq rfl (.eq rfl (.nil) (by rfl)) rfl))), .fzE rfl (.fzE rfl (.box (by rfl) (.box (by rfl) (.nil))) rfl) rfl, rfl⟩
 ·have h1 := c_lss_f g1
  refine W_exit ?_
  refine thenK_e ?_
  refine thenK_e ?_
  refine blockK_hit ?_
  refine thenK_n ?_
  refine W_seq ?_
  refine W_seqK (b' := 85) rfl rfl ?_
  refine q0 6 69 1 rfl rfl (T_assign rfl rfl) rfl ?_
  refine k_done rfl ?_
  refine thenK_n ?_
  refine W_ret ?_
  exact .mk [] (.inr rfl) (.tmp rfl (.nil)) (by (simp only [resLV, LV.ren, LV.v.injEq, Value.bool.injEq]; exact rone_yes (fun a ha => hI.2 a (by omega)))) (.nil) rfl
theorem body79 : (Try.prog.funcs[79]?).map (fun fn => (fn.name == "runtime.NumGoroutine" || fn.body.isNone)) = some false := by kernel_rfl
theorem sizef_spec (f : GFn) (hf : FnOk f) (hs : ∀ j, sumLen ((insOf f).take j) ≤ 4000000000000000000) : Spec Try.prog 79 [.agg [.v (.int .i64 f.regs), .r 1]] 2 [(1, .fz 5 (f.blocks.map eBlock))] (.v (.int .i64 ((f.blocks.length : Int) + (sumLen (insOf f) : Int)))) 2 [] := by
 have hf1 := hf.1
 refine spec_of D (fn := Try.f79) rfl rfl (Nat.le_of_ble_eq_true rfl) ?_
 refine W_seq ?_
 refine W_seqK (b' := 34) rfl rfl ?_
 refine q1 1 2 1 rfl rfl (T_box rfl rfl flat_agg) rfl ?_
 refine q0 2 18 2 rfl rfl (T_assign rfl rfl) rfl ?_
 refine k_done rfl ?_
 refine thenK_n ?_
 refine W_seq ?_
 refine W_seqK (b' := 98) rfl rfl ?_
 refine q0 5 34 1 rfl rfl (T_fa D (m := 1) rfl rfl rfl rfl rfl rfl) rfl ?_
 refine q0 6 50 2 rfl rfl (T_load_b D rfl rfl rfl rfl rfl rfl) rfl ?_
 refine q0 7 66 3 rfl rfl (T_len D rfl rfl rfl rfl rfl rfl) rfl ?_
 refine q0 3 82 4 rfl rfl (T_assign rfl rfl) rfl ?_
 refine k_done rfl ?_
 refine thenK_n ?_
 refine W_seq ?_
 refine W_seq ?_
 refine W_seqK (b' := 114) rfl rfl ?_
 refine q0 4 98 1 rfl rfl (T_assign rfl rfl) rfl ?_
 refine k_done rfl ?_
 refine thenK_n ?_
 refine W_block ?_
 refine W_loop (ι := Nat) 3 (fun j => ⟨[(1, .p 2 0), (3, .v (.int .i64 ((f.blocks.length : Int) + (sumLen ((insOf f).take j) : Int)))), (4, .v (.int .i64 (j : Int)))], [(1, .fz 5 (f.blocks.map eBlock)), (2, .box 29 [.v (.int .i64 f.regs), .r 1])]⟩) (fun j => j ≤ f.blocks.length) (fun j => f.blocks.length - j) (0) (by exact Nat.zero_le _) ?_ (fun j hJ => ?_)
 ·exact ⟨[(2, 2)], .same rfl rfl (.eq rfl (.eq rfl (.nil) (by rfl)) (by rfl)), .fzE rfl (.box (by rfl) (.nil)) (by rfl), rfl⟩
 have hq := fun h : j < f.blocks.length => insOf_take_len h
 have hs1 := hs (j + 1)
 have hs2 := hs j
 refine W_seq ?_
 refine W_seq ?_
 refine W_seqK (b' := 83) rfl rfl ?_
 refine q0 8 3 1 rfl rfl (T_move rfl rfl) rfl ?_
 refine q0 9 19 2 rfl rfl (T_fa D (m := 1) rfl rfl rfl rfl rfl rfl) rfl ?_
 refine q0 10 35 3 rfl rfl (T_load_b D rfl rfl rfl rfl rfl rfl) rfl ?_
 refine q0 11 51 4 rfl rfl (T_len D rfl rfl rfl rfl rfl rfl) rfl ?_
 refine q0 12 67 5 rfl rfl (T_cmp rfl rfl rfl rfl) rfl ?_
 refine k_done rfl ?_
 refine thenK_n ?_
 refine W_cond rfl (fun g1 => ?_) (fun g1 => ?_)
 ·have h1 := c_lss_t g1
  refine W_skip ?_
  refine thenK_n ?_
  refine W_seq ?_
  refine W_block ?_
  refine W_seqK (b' := 243) rfl rfl ?_
  refine q0 15 83 1 rfl rfl (T_move rfl rfl) rfl ?_
  refine q0 16 99 2 rfl rfl (T_fa D (m := 1) rfl rfl rfl rfl rfl rfl) rfl ?_
  refine q0 17 115 3 rfl rfl (T_load_b D rfl rfl rfl rfl rfl rfl) rfl ?_
  refine q0 18 131 4 rfl rfl (T_move rfl rfl) rfl ?_
  refine q0 19 147 5 rfl rfl (T_indexAddr D rfl rfl rfl rfl rfl rfl rfl rfl (by omega)) rfl ?_
  refine q0 20 163 6 rfl rfl (T_fae D (m := 0) rfl rfl rfl rfl rfl rfl) rfl ?_
  refine q1 21 179 7 rfl rfl (T_ldE D (lv := .r 179) (nn := 1) (upd := [(179, .fz 8 _)]) rfl rfl rfl rfl rfl (by omega) rfl rfl rfl rfl) rfl ?_
  refine q0 22 195 8 rfl rfl (T_len D rfl rfl rfl rfl rfl rfl) rfl ?_
  refine q0 23 211 9 rfl rfl (T_add64 rfl rfl rfl (by omega)) rfl ?_
  refine q0 3 227 10 rfl rfl (T_assign rfl rfl) rfl ?_
  refine k_done rfl ?_
  refine blockK_n ?_
  refine thenK_n ?_
  refine W_seqK (b' := 291) rfl rfl ?_
  refine q0 13 243 1 rfl rfl (T_move rfl rfl) rfl ?_
  refine q0 14 259 2 rfl rfl (T_add64 rfl rfl rfl (by omega)) rfl ?_
  refine q0 4 275 3 rfl rfl (T_assign rfl rfl) rfl ?_
  refine k_done rfl ?_
  refine thenK_n ?_
  refine ⟨j + 1, by (try dsimp only); omega, by (try dsimp only); omega, ?_⟩
  exact ⟨[(2, 2)], .same rfl rfl (.eq rfl (.eq rfl (.nil) (by rfl)) (by (have k := hq (by omega); have e : (f.blocks.length : Int) + (sumLen ((insOf f).take (j + 1)) : Int) = (f.blocks.length : Int) + (sumLen ((insOf f).take j) : Int) + ((f.blocks.getD j default).ins.length : Int) := (by omega); rw [e]; done))), .fzE rfl (.box (by rfl) (.nil)) rfl, rfl⟩
 ·have h1 := c_lss_f g1
  refine W_exit ?_
  refine thenK_e ?_
  refine thenK_e ?_
  refine blockK_hit ?_
  refine thenK_n ?_
  refine W_seq ?_
  refine W_seqK (b' := 115) rfl rfl ?_
  refine q0 24 83 1 rfl rfl (T_move rfl rfl) rfl ?_
  refine q0 2 99 2 rfl rfl (T_assign rfl rfl) rfl ?_
  refine k_done rfl ?_
  refine thenK_n ?_
  refine W_ret ?_
  exact .mk [] (.inr rfl) (.tmp rfl (.nil)) (by (have e : j = f.blocks.length := (by omega); subst e; rw [List.take_of_length_le (by simp [insOf])]; rfl)) (.nil) rfl
end Lg
end Go.Proofs.Ytpfhmodjjljpjaa

namespace Go.Proofs.Ytpfhmodjjljpjaa
open Go.RowKit
namespace Lg
set_option linter.unusedSimpArgs false
set_option linter.unusedVariables false
theorem W_fz {i e sz : Nat} {rows : List (List Cell)} {ro : Option Nat} {P : Program} {N n b : Nat} {st : St} {K : Exit → Nat → St → Prop} {c : Code} (hob : st.o.lookup i = some (.row e sz rows))
    (h : W ro P N n c b ⟨st.s, (i, .fz sz rows) :: st.o⟩ K) : W ro P N n c b st K := by
  intro w0 M Q a w hn hq hr
  obtain ⟨M', h1, h2, h3⟩ := hr.via
  obtain ⟨ρ, own, fr, hh, hd⟩ := h2
  exact h w0 M Q a w hn hq (h3 _ _ _ _ ⟨ρ, thaw own i, fr, hh.freeze hob, hd⟩)
theorem places_len {ps : List Int} {regs k : Int} (h : placesP ps regs k = true) : (ps.length : Int) = regs := by
  unfold placesP at h
  rw [Bool.and_eq_true] at h
  exact of_decide_eq_true h.1
theorem sum28 {f : GFn} (hf : FnOk f) (h : (f.blocks.length : Int) ≤ 12) (j : Nat) : sumLen ((insOf f).take j) ≤ 4000000000000000000 := by
  have h1 : ∀ (j : Nat), j ≤ f.blocks.length → sumLen ((insOf f).take j) ≤ j * 140737488351232 := by
    intro j
    induction j with
    | zero => intro _; simp [sumLen]
    | succ j ih =>
      intro hj
      have := insOf_take_len (f := f) (j := j) (by omega)
      have h3 := hf.2 _ (getD_mem (by omega : j < f.blocks.length))
      have := ih (by omega)
      omega
  rcases Nat.lt_or_ge f.blocks.length j with hj | hj
  · rw [List.take_of_length_le (by simp [insOf]; omega)]
    have h2 := h1 f.blocks.length (Nat.le_refl _)
    rw [List.take_of_length_le (by simp [insOf])] at h2
    omega
  · have := h1 j hj; omega
end Lg
end Go.Proofs.Ytpfhmodjjljpjaa
