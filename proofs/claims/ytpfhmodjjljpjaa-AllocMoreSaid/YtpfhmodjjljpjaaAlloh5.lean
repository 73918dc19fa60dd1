import Derived.Test.YtpfhmodjjljpjaaAlloh4
set_option linter.unusedVariables false
set_option linter.unusedSimpArgs false
namespace Go.Proofs.Ytpfhmodjjljpjaa
open Go.RowKit
namespace Lg
set_option maxRecDepth 100000
set_option linter.unusedVariables false
set_option linter.unusedSimpArgs false
theorem body80 : (Try.prog.funcs[80]?).map (fun fn => (fn.name == "runtime.NumGoroutine" || fn.body.isNone)) = some false := by kernel_rfl
theorem none_spec (n m : Int) (hn : 0 ≤ n ∧ n ≤ 1000) (hm : 0 ≤ m ∧ m ≤ 1000000) : Spec Try.prog 80 [.v (.int .i64 n), .v (.int .i64 m)] 1 [] (.r 1) 2 [(1, .nest 48 4 1 ((List.replicate n.toNat (List.replicate m.toNat false)).map (List.map eB)) none)] := by
  refine spec_of D (fn := Try.f80) rfl rfl (Nat.le_of_ble_eq_true rfl) ?_
  refine W_seq ?_
  refine W_seqK (b' := 17) rfl rfl ?_
  refine q1 4 1 1 rfl rfl (T_nils [(48, 1)] (T_assign rfl rfl) rfl (.inr ⟨rfl, rfl⟩) (.cons (.nil rfl) .nil) (lv' := .r 1) (upd' := [(1, .row 48 1 (List.map eBs ([] : List (List Bool))))]) (nn' := 1) rfl rfl) rfl ?_
  refine k_done rfl ?_
  refine thenK_n ?_
  refine W_seq ?_
  refine W_seqC (b' := 33) rfl rfl ?_
  refine q1 5 17 1 rfl rfl (T_nils [(48, 1)] (T_assign rfl rfl) rfl (.inr ⟨rfl, rfl⟩) (.cons (.nil rfl) .nil) (lv' := .r 17) (upd' := [(17, .row 48 1 (List.map eBs ([] : List (List Bool))))]) (nn' := 1) rfl rfl) rfl ?_
  refine k_done rfl ?_
  refine ⟨_, .nil (i := 17) (α := Bool) (enc := eB) (e2 := 4) (sz2 := 1) rfl (by simp) (.refl), ?_⟩
  refine thenK_n ?_
  refine W_seq ?_
  refine W_seq ?_
  refine W_seqK (b' := 49) rfl rfl ?_
  refine q0 6 33 1 rfl rfl (T_assign rfl rfl) rfl ?_
  refine k_done rfl ?_
  refine thenK_n ?_
  refine W_block ?_
  refine W_loop (ι := Nat) 2 (fun j => ⟨[(0, .v (.int .i64 n)), (1, .v (.int .i64 m)), (5, .r 1), (6, .v (.int .i64 (j : Int)))], [(1, .nest 48 4 1 ((List.replicate j (List.replicate m.toNat false)).map (List.map eB)) none)]⟩) (fun j => (j : Int) ≤ n) (fun j => n.toNat - j) (0) (by show ((0 : Nat) : Int) ≤ n; omega) ?_ (fun j hJ => ?_)
  · exact ⟨[(1, 17)], .eq rfl (.eq rfl (.same rfl rfl (.eq rfl (.nil) (by first | rfl | simp))) (by first | rfl | simp)) (by first | rfl | simp), .nestE rfl (.nil) (by first | rfl | simp), rfl⟩
  refine W_seq ?_
  refine W_seq ?_
  refine W_seqK (b' := 50) rfl rfl ?_
  refine q0 7 2 1 rfl rfl (T_move rfl rfl) rfl ?_
  refine q0 8 18 2 rfl rfl (T_move rfl rfl) rfl ?_
  refine q0 9 34 3 rfl rfl (T_cmp rfl rfl rfl rfl) rfl ?_
  refine k_done rfl ?_
  refine thenK_n ?_
  refine W_cond rfl (fun g1 => ?_) (fun g1 => ?_)
  · have h1 := c_lss_t g1
    refine W_skip ?_
    refine thenK_n ?_
    refine W_seq ?_
    refine W_block ?_
    refine W_seqK (b' := 146) rfl rfl ?_
    refine q0 12 50 1 rfl rfl (T_move rfl rfl) rfl ?_
    refine q0 13 66 2 rfl rfl (T_move rfl rfl) rfl ?_
    refine q1 14 82 3 rfl rfl (T_makeZ (x := .tmp 13) (y := .tmp 13) (m := m.toNat) (by omega) rfl rfl (fun k1 k2 => T_make D (zx := false) (enc := eB) rfl k1 k2 rfl rfl rfl rfl (.v rfl (.nil)) rfl (by (try simp only [ty4]); first | assumption | omega | (simp only [List.length_replicate, List.length_cons, List.length_nil]; omega)) (by (try simp only [ty4]); first | assumption | omega | (simp only [List.length_replicate, List.length_cons, List.length_nil]; omega)))) rfl ?_
    refine qn 15 98 4 rfl rfl (T_bsN D rfl rfl rfl rfl rfl rfl rfl rfl) rfl ?_
    refine qn 16 114 5 rfl rfl (T_appendN D rfl rfl rfl rfl rfl rfl rfl rfl rfl rfl rfl rfl (by (try simp only [ty48]); first | assumption | omega | (simp only [List.length_replicate, List.length_cons, List.length_nil]; omega)) (by (try simp only [ty48]); first | assumption | omega | (simp only [List.length_replicate, List.length_cons, List.length_nil]; omega))) rfl ?_
    refine q0 5 130 6 rfl rfl (T_assign rfl rfl) rfl ?_
    refine k_done rfl ?_
    refine blockK_n ?_
    refine thenK_n ?_
    refine W_seqK (b' := 194) rfl rfl ?_
    refine q0 10 146 1 rfl rfl (T_move rfl rfl) rfl ?_
    refine q0 11 162 2 rfl rfl (T_add64 rfl rfl rfl (by first | assumption | omega | (simp only [List.length_replicate, List.length_cons, List.length_nil]; omega))) rfl ?_
    refine q0 6 178 3 rfl rfl (T_assign rfl rfl) rfl ?_
    refine k_done rfl ?_
    refine thenK_n ?_
    refine ⟨j + 1, by (try dsimp only); omega, by (try dsimp only); omega, ?_⟩
    exact ⟨[(1, 114)], .eq rfl (.eq rfl (.same rfl rfl (.eq rfl (.nil) (by first | rfl | (exact congrArg (List.map (List.map eB)) List.replicate_succ'.symm)))) rfl) rfl, .nestE rfl (.nil) (by first | rfl | (exact congrArg (List.map (List.map eB)) List.replicate_succ'.symm)), rfl⟩
  · have h1 := c_lss_f g1
    refine W_exit ?_
    refine thenK_e ?_
    refine thenK_e ?_
    refine blockK_hit ?_
    refine thenK_n ?_
    refine W_seq ?_
    refine W_seqK (b' := 82) rfl rfl ?_
    refine q0 17 50 1 rfl rfl (T_move rfl rfl) rfl ?_
    refine q0 4 66 2 rfl rfl (T_assign rfl rfl) rfl ?_
    refine k_done rfl ?_
    refine thenK_n ?_
    refine W_ret ?_
    exact .mk [(1, 1)] (.inr rfl) (.tmp rfl (.nil)) rfl (.nestE rfl (.nil) (by first | rfl | (have e : j = n.toNat := (by omega); rw [e]; first | done | rfl))) rfl
theorem body42 : (Try.prog.funcs[42]?).map (fun fn => (fn.name == "runtime.NumGoroutine" || fn.body.isNone)) = some false := by kernel_rfl
theorem rlive_spec (f : GFn) (hF : LF f) : Spec Try.prog 42 [.agg [.v (.int .i64 f.regs), .r 1]] 2 [(1, .fz 5 (f.blocks.map eBlock))] (.agg [.r 2, .r 3]) 4 [(2, .fz 1 ((liveL f).1.map eBs)), (3, .fz 1 ((liveL f).2.map eBs))] := by
  have hFl := hF.len
  have hFr := hF.regs
  have hnl := nextL_length f
  have hfl := follows_le f
  refine spec_of D (fn := Try.f42) rfl rfl (Nat.le_of_ble_eq_true rfl) ?_
  refine W_seq ?_
  refine W_seqK (b' := 34) rfl rfl ?_
  refine q1 1 2 1 rfl rfl (T_box rfl rfl flat_agg) rfl ?_
  refine qn 2 18 2 rfl rfl (T_nilbox [(48, 1), (48, 1)] (T_alloc D rfl rfl rfl) rfl (.cons (.nil rfl) <| .cons (.nil rfl) <| .nil) (upd' := [(18, .box 57 [.r 19, .r 20]), (19, .row 48 1 (List.map eBs ([] : List (List Bool)))), (20, .row 48 1 (List.map eBs ([] : List (List Bool))))]) (nn' := 3) rfl rfl) rfl ?_
  refine k_done rfl ?_
  refine thenK_n ?_
  refine W_seq ?_
  refine W_seqK (b' := 98) rfl rfl ?_
  refine q0 12 34 1 rfl rfl (T_fa D (m := 1) rfl rfl rfl rfl rfl rfl) rfl ?_
  refine q0 13 50 2 rfl rfl (T_load_b D rfl rfl rfl rfl rfl rfl) rfl ?_
  refine q0 14 66 3 rfl rfl (T_len D rfl rfl rfl rfl rfl rfl) rfl ?_
  refine q0 3 82 4 rfl rfl (T_assign rfl rfl) rfl ?_
  refine k_done rfl ?_
  refine thenK_n ?_
  refine W_seq ?_
  refine W_anyK (b' := 274) rfl rfl rfl ?_
  refine q0 15 98 1 rfl rfl (T_move rfl rfl) rfl ?_
  refine q0 16 114 2 rfl rfl (T_fa D (m := 0) rfl rfl rfl rfl rfl rfl) rfl ?_
  refine q0 17 130 3 rfl rfl (T_load_b D rfl rfl rfl rfl rfl rfl) rfl ?_
  refine q1 18 146 4 rfl rfl (T_call (lvs := [_, _]) (L := []) (lv := .r 146) (upd := [(146, .nest 48 4 1 _ none)]) (nn := 1) false (none_spec (f.blocks.length : Int) f.regs (by omega) (by omega)) body80 rfl rfl rfl rfl (.nil) rfl (.inl rfl) rfl rfl rfl) rfl ?_
  refine q0 19 162 5 rfl rfl (T_move rfl rfl) rfl ?_
  refine q0 20 178 6 rfl rfl (T_fa D (m := 0) rfl rfl rfl rfl rfl rfl) rfl ?_
  refine q0 21 194 7 rfl rfl (T_load_b D rfl rfl rfl rfl rfl rfl) rfl ?_
  refine q1 22 210 8 rfl rfl (T_call (lvs := [_, _]) (L := []) (lv := .r 210) (upd := [(210, .nest 48 4 1 _ none)]) (nn := 1) false (none_spec (f.blocks.length : Int) f.regs (by omega) (by omega)) body80 rfl rfl rfl rfl (.nil) rfl (.inl rfl) rfl rfl rfl) rfl ?_
  refine q0 23 226 9 rfl rfl (T_build D (l := [_, _]) rfl rfl rfl rfl (.cons rfl (flat_nest rfl) (.cons rfl (flat_nest rfl) (.nil))) rfl rfl) rfl ?_
  refine qn 4 242 10 rfl rfl (T_nilbox [(48, 1), (48, 1)] (T_alloc D rfl rfl rfl) rfl (.cons (.nil rfl) <| .cons (.nil rfl) <| .nil) (upd' := [(242, .box 57 [.r 243, .r 244]), (243, .row 48 1 (List.map eBs ([] : List (List Bool)))), (244, .row 48 1 (List.map eBs ([] : List (List Bool))))]) (nn' := 3) rfl rfl) rfl ?_
  refine s1 258 11 rfl rfl (T_stB D (cs' := [_, _]) rfl rfl rfl rfl flat_agg rfl rfl (Nat.le_of_ble_eq_true rfl) rfl) rfl ?_
  refine k_done rfl ?_
  refine ⟨rfl, ?_⟩
  refine thenK_n ?_
  refine W_seq ?_
  refine W_seqK (b' := 322) rfl rfl ?_
  refine q0 24 274 1 rfl rfl (T_load_bA D (l := [_, _]) rfl rfl rfl rfl rfl rfl rfl) rfl ?_
  refine q1 25 290 2 rfl rfl (T_call (lvs := [_]) (L := [(1, 1)]) (lv := .r 290) (upd := [(290, .row 52 1 _)]) (nn := 1) false (rnext_spec f (by omega)) body38 rfl rfl rfl rfl (.fz rfl (.nil)) rfl (.inl rfl) rfl rfl rfl) rfl ?_
  refine q0 5 306 3 rfl rfl (T_assign rfl rfl) rfl ?_
  refine k_done rfl ?_
  refine thenK_n ?_
  refine W_seq ?_
  refine W_seq ?_
  refine W_seqK (b' := 338) rfl rfl ?_
  refine q0 6 322 1 rfl rfl (T_assign rfl rfl) rfl ?_
  refine k_done rfl ?_
  refine thenK_n ?_
  refine W_block ?_
  refine W_loop (ι := Nat × IO2 × Bool) 10 (fun x => ⟨[(1, .p 2 0), (2, .p 3 0), (3, .v (.int .i64 (f.blocks.length : Int))), (4, .p 6 0), (5, .r 9), (6, .v (.bool x.2.2))], [(1, .fz 5 (f.blocks.map eBlock)), (2, .box 29 [.v (.int .i64 f.regs), .r 1]), (3, .box 57 [.r 4, .r 5]), (4, .row 48 1 (([] : List (List Bool)).map eBs)), (5, .row 48 1 (([] : List (List Bool)).map eBs)), (6, .box 57 [.r 7, .r 8]), (7, .nest 48 4 1 (x.2.1.1.map (List.map eB)) none), (8, .nest 48 4 1 (x.2.1.2.map (List.map eB)) none), (9, .row 52 1 ((nextL f).map eIs))]⟩) (fun x => RndI f x) (muR) ((f.blocks.length * f.regs.toNat + 1, zeroL f, true)) (by exact rndI_start f) ?_ (fun x hX => ?_)
  · exact ⟨[(2, 2), (3, 18), (4, 19), (5, 20), (6, 242), (7, 146), (8, 210), (9, 290)], .same rfl rfl (.same rfl rfl (.eq rfl (.same rfl rfl (.same rfl rfl (.eq rfl (.nil) (by first | rfl | simp)))) (by first | rfl | simp))), .fzE rfl (.box (by first | rfl | simp) (.box (by first | rfl | simp) (.rowE rfl (.rowE rfl (.box (by first | rfl | simp) (.nestE rfl (.nestE rfl (.rowE rfl (.nil) (by first | rfl | simp)) (by first | rfl | simp)) (by first | rfl | simp))) (by first | rfl | simp)) (by first | rfl | simp)))) (by first | rfl | simp), rfl⟩
  refine W_seq ?_
  refine W_seq ?_
  refine W_seqK (b' := 26) rfl rfl ?_
  refine q0 26 10 1 rfl rfl (T_move rfl rfl) rfl ?_
  refine k_done rfl ?_
  refine thenK_n ?_
  refine W_cond rfl (fun g1 => ?_) (fun g1 => ?_)
  · have h1 := g1; (try simp only [cmpB, decide_eq_true_eq, decide_eq_false_iff_not, beq_iff_eq, beq_eq_false_iff_ne, bne_iff_ne, ne_eq, bne_eq_false_iff_eq, Bool.not_eq_true', Bool.not_eq_false', Int.not_lt, Int.not_le] at h1)
    refine W_skip ?_
    refine thenK_n ?_
    refine W_block ?_
    refine W_seq ?_
    refine W_seqK (b' := 42) rfl rfl ?_
    refine q0 6 26 1 rfl rfl (T_assign rfl rfl) rfl ?_
    refine k_done rfl ?_
    refine thenK_n ?_
    refine W_seq ?_
    refine W_seqK (b' := 90) rfl rfl ?_
    refine q0 27 42 1 rfl rfl (T_move rfl rfl) rfl ?_
    refine q0 28 58 2 rfl rfl (T_sub64 rfl rfl rfl (by first | assumption | omega | (have q := hm (by omega); omega) | (simp only [List.length_set]; omega) | (simp only [List.length_set]; have q := hm (by omega); omega) | (simp; omega))) rfl ?_
    refine q0 7 74 3 rfl rfl (T_assign rfl rfl) rfl ?_
    refine k_done rfl ?_
    refine thenK_n ?_
    refine W_block ?_
    refine W_loop (ι := Nat) 10 (fun k => ⟨[(1, .p 2 0), (2, .p 3 0), (3, .v (.int .i64 (f.blocks.length : Int))), (4, .p 6 0), (5, .r 9), (6, .v (.bool (rndK f x.2.1 k).2)), (7, .v (.int .i64 ((k : Int) - 1)))], [(1, .fz 5 (f.blocks.map eBlock)), (2, .box 29 [.v (.int .i64 f.regs), .r 1]), (3, .box 57 [.r 4, .r 5]), (4, .row 48 1 (([] : List (List Bool)).map eBs)), (5, .row 48 1 (([] : List (List Bool)).map eBs)), (6, .box 57 [.r 7, .r 8]), (7, .nest 48 4 1 ((rndK f x.2.1 k).1.1.map (List.map eB)) none), (8, .nest 48 4 1 ((rndK f x.2.1 k).1.2.map (List.map eB)) none), (9, .row 52 1 ((nextL f).map eIs))]⟩) (fun k => k ≤ f.blocks.length) (fun k => k) (f.blocks.length) (by exact Nat.le_refl _) ?_ (fun k hK => ?_)
    · exact ⟨[(2, 2), (3, 3), (4, 4), (5, 5), (6, 6), (7, 7), (8, 8), (9, 9)], .same rfl rfl (.same rfl rfl (.eq rfl (.same rfl rfl (.same rfl rfl (.eq rfl (.eq rfl (.nil) (by first | rfl | (rw [rndK_end]; first | done | rfl))) (by first | rfl | (rw [rndK_end]; first | done | rfl))))) (by first | rfl | (rw [rndK_end]; first | done | rfl)))), .fzE rfl (.box (by first | rfl | (rw [rndK_end]; first | done | rfl)) (.box (by first | rfl | (rw [rndK_end]; first | done | rfl)) (.rowE rfl (.rowE rfl (.box (by first | rfl | (rw [rndK_end]; first | done | rfl)) (.nestE rfl (.nestE rfl (.rowE rfl (.nil) (by first | rfl | (rw [rndK_end]; first | done | rfl))) (by first | rfl | (rw [rndK_end]; first | done | rfl))) (by first | rfl | (rw [rndK_end]; first | done | rfl)))) (by first | rfl | (rw [rndK_end]; first | done | rfl))) (by first | rfl | (rw [rndK_end]; first | done | rfl))))) (by first | rfl | (rw [rndK_end]; first | done | rfl)), rfl⟩
    refine W_seq ?_
    refine W_seq ?_
    refine W_seqK (b' := 42) rfl rfl ?_
    refine q0 29 10 1 rfl rfl (T_move rfl rfl) rfl ?_
    refine q0 30 26 2 rfl rfl (T_cmp rfl rfl rfl rfl) rfl ?_
    refine k_done rfl ?_
    refine thenK_n ?_
    refine W_cond rfl (fun g2 => ?_) (fun g2 => ?_)
    · have h2 := c_geq_t g2
      refine W_skip ?_
      refine thenK_n ?_
      refine W_seq ?_
      refine W_block ?_
      refine W_seq ?_
      refine W_seq ?_
      refine W_seqK (b' := 58) rfl rfl ?_
      refine q0 8 42 1 rfl rfl (T_assign rfl rfl) rfl ?_
      refine k_done rfl ?_
      refine thenK_n ?_
      refine W_block ?_
      obtain ⟨q, rfl⟩ : ∃ q, k = q + 1 := ⟨k - 1, by omega⟩
      have e7 : ((q + 1 : Nat) : Int) - 1 = (q : Int) := by omega
      rw [e7]
      have hR := hX.sz.rndk (k := q + 1) (by omega)
      have hRi := hR.i.len
      have hRo := hR.o.len
      have hO : ∀ m, SzL f ((rndK f x.2.1 (q + 1)).1.2.set q (outJ f (rndK f x.2.1 (q + 1)).1.1 (rndK f x.2.1 (q + 1)).1.2 q m)) := fun m => hR.o.set (by rw [outJ_len]; exact hR.o.at (by omega))
      have hOl : ∀ m, (outJ f (rndK f x.2.1 (q + 1)).1.1 (rndK f x.2.1 (q + 1)).1.2 q m).length = f.regs.toNat := fun m => by rw [outJ_len]; exact hR.o.at (by omega)
      have hql := hfl ((nextL f).getD q default) (getD_mem (by omega))
      refine W_loop (ι := Nat) 10 (fun m => ⟨[(1, .p 2 0), (2, .p 3 0), (3, .v (.int .i64 (f.blocks.length : Int))), (4, .p 6 0), (5, .r 9), (6, .v (.bool (rndK f x.2.1 (q + 1)).2)), (7, .v (.int .i64 (q : Int))), (8, .v (.int .i64 (m : Int)))], [(1, .fz 5 (f.blocks.map eBlock)), (2, .box 29 [.v (.int .i64 f.regs), .r 1]), (3, .box 57 [.r 4, .r 5]), (4, .row 48 1 (([] : List (List Bool)).map eBs)), (5, .row 48 1 (([] : List (List Bool)).map eBs)), (6, .box 57 [.r 7, .r 8]), (7, .nest 48 4 1 ((rndK f x.2.1 (q + 1)).1.1.map (List.map eB)) none), (8, .nest 48 4 1 (((rndK f x.2.1 (q + 1)).1.2.set q (outJ f (rndK f x.2.1 (q + 1)).1.1 (rndK f x.2.1 (q + 1)).1.2 q m)).map (List.map eB)) none), (9, .row 52 1 ((nextL f).map eIs))]⟩) (fun m => m ≤ ((nextL f).getD q default).length) (fun m => ((nextL f).getD q default).length - m) (0) (by exact Nat.zero_le _) ?_ (fun m hM => ?_)
      · exact ⟨[(2, 2), (3, 3), (4, 4), (5, 5), (6, 6), (7, 7), (8, 8), (9, 9)], .same rfl rfl (.same rfl rfl (.eq rfl (.same rfl rfl (.same rfl rfl (.eq rfl (.eq rfl (.eq rfl (.nil) (by first | rfl | (rw [outJ_zero, set_self (by omega)]; first | done | rfl))) (by first | rfl | (rw [outJ_zero, set_self (by omega)]; first | done | rfl))) (by first | rfl | (rw [outJ_zero, set_self (by omega)]; first | done | rfl))))) (by first | rfl | (rw [outJ_zero, set_self (by omega)]; first | done | rfl)))), .fzE rfl (.box (by first | rfl | (rw [outJ_zero, set_self (by omega)]; first | done | rfl)) (.box (by first | rfl | (rw [outJ_zero, set_self (by omega)]; first | done | rfl)) (.rowE rfl (.rowE rfl (.box (by first | rfl | (rw [outJ_zero, set_self (by omega)]; first | done | rfl)) (.nestE rfl (.nestE rfl (.rowE rfl (.nil) (by first | rfl | (rw [outJ_zero, set_self (by omega)]; first | done | rfl))) (by first | rfl | (rw [outJ_zero, set_self (by omega)]; first | done | rfl))) (by first | rfl | (rw [outJ_zero, set_self (by omega)]; first | done | rfl)))) (by first | rfl | (rw [outJ_zero, set_self (by omega)]; first | done | rfl))) (by first | rfl | (rw [outJ_zero, set_self (by omega)]; first | done | rfl))))) (by first | rfl | (rw [outJ_zero, set_self (by omega)]; first | done | rfl)), rfl⟩
      have hm := fun h => hF.follow (j := q) (m := m) (by omega) h
      have hOlm := hOl m
      have hOm := (hO m).at (k := q) (by omega)
      refine W_seq ?_
      refine W_seq ?_
      refine W_seqK (b' := 122) rfl rfl ?_
      refine q0 33 10 1 rfl rfl (T_move rfl rfl) rfl ?_
      refine q0 34 26 2 rfl rfl (T_move rfl rfl) rfl ?_
      refine q0 35 42 3 rfl rfl (T_move rfl rfl) rfl ?_
      first | refine q0 36 58 4 rfl rfl (T_indexAddr D rfl rfl rfl rfl rfl rfl rfl rfl (by first | assumption | omega | (have q := hm (by omega); omega) | (simp only [List.length_set]; omega) | (simp only [List.length_set]; have q := hm (by omega); omega) | (simp; omega))) rfl ?_ | refine q0 36 58 4 rfl rfl (T_indexAddrZ D rfl rfl rfl rfl rfl rfl rfl rfl (by first | assumption | omega | (have q := hm (by omega); omega) | (simp only [List.length_set]; omega) | (simp only [List.length_set]; have q := hm (by omega); omega) | (simp; omega)) (by first | assumption | omega | (have q := hm (by omega); omega) | (simp only [List.length_set]; omega) | (simp only [List.length_set]; have q := hm (by omega); omega) | (simp; omega))) rfl ?_
      refine q1 37 74 5 rfl rfl (T_ldE D (lv := .r 74) (nn := 1) (upd := [(74, .fz 1 _)]) rfl rfl rfl rfl rfl (by first | assumption | omega | (have q := hm (by omega); omega) | (simp only [List.length_set]; omega) | (simp only [List.length_set]; have q := hm (by omega); omega) | (simp; omega)) rfl rfl rfl rfl) rfl ?_
      refine q0 38 90 6 rfl rfl (T_len D rfl rfl rfl rfl rfl rfl) rfl ?_
      refine q0 39 106 7 rfl rfl (T_cmp rfl rfl rfl rfl) rfl ?_
      refine k_done rfl ?_
      refine thenK_n ?_
      refine W_cond rfl (fun g3 => ?_) (fun g3 => ?_)
      · have h3 := c_lss_t g3
        refine W_skip ?_
        refine thenK_n ?_
        refine W_seq ?_
        refine W_block ?_
        refine W_seq ?_
        refine W_seqK (b' := 138) rfl rfl ?_
        refine q0 9 122 1 rfl rfl (T_assign rfl rfl) rfl ?_
        refine k_done rfl ?_
        refine thenK_n ?_
        refine W_block ?_
        have hLl := hR.i.at (k := (((nextL f).getD q default).getD m default).toNat) (by have := hm (by omega); omega)
        refine W_loop (ι := Nat) 10 (fun v => ⟨[(1, .p 2 0), (2, .p 3 0), (3, .v (.int .i64 (f.blocks.length : Int))), (4, .p 6 0), (5, .r 9), (6, .v (.bool (rndK f x.2.1 (q + 1)).2)), (7, .v (.int .i64 (q : Int))), (8, .v (.int .i64 (m : Int))), (9, .v (.int .i64 (v : Int)))], [(1, .fz 5 (f.blocks.map eBlock)), (2, .box 29 [.v (.int .i64 f.regs), .r 1]), (3, .box 57 [.r 4, .r 5]), (4, .row 48 1 (([] : List (List Bool)).map eBs)), (5, .row 48 1 (([] : List (List Bool)).map eBs)), (6, .box 57 [.r 7, .r 8]), (7, .nest 48 4 1 ((rndK f x.2.1 (q + 1)).1.1.map (List.map eB)) none), (8, .nest 48 4 1 (((rndK f x.2.1 (q + 1)).1.2.set q (orJ (outJ f (rndK f x.2.1 (q + 1)).1.1 (rndK f x.2.1 (q + 1)).1.2 q m) ((rndK f x.2.1 (q + 1)).1.1.getD (((nextL f).getD q default).getD m default).toNat default) v)).map (List.map eB)) none), (9, .row 52 1 ((nextL f).map eIs))]⟩) (fun v => v ≤ f.regs.toNat) (fun v => f.regs.toNat - v) (0) (by exact Nat.zero_le _) ?_ (fun v hV => ?_)
        · exact ⟨[(2, 2), (3, 3), (4, 4), (5, 5), (6, 6), (7, 7), (8, 8), (9, 9)], .same rfl rfl (.same rfl rfl (.eq rfl (.same rfl rfl (.same rfl rfl (.eq rfl (.eq rfl (.eq rfl (.eq rfl (.nil) (by first | rfl | simp)) (by first | rfl | simp)) (by first | rfl | simp)) (by first | rfl | simp)))) (by first | rfl | simp))), .fzE rfl (.box (by first | rfl | simp) (.box (by first | rfl | simp) (.rowE rfl (.rowE rfl (.box (by first | rfl | simp) (.nestE rfl (.nestE rfl (.rowE rfl (.nil) (by first | rfl | simp)) (by first | rfl | simp)) (by first | rfl | simp))) (by first | rfl | simp)) (by first | rfl | simp)))) (by first | rfl | simp), rfl⟩
        have hol := orJ_len (outJ f (rndK f x.2.1 (q + 1)).1.1 (rndK f x.2.1 (q + 1)).1.2 q m) ((rndK f x.2.1 (q + 1)).1.1.getD (((nextL f).getD q default).getD m default).toNat default) v
        have hod : ((((rndK f x.2.1 (q + 1)).1.2.set q (orJ (outJ f (rndK f x.2.1 (q + 1)).1.1 (rndK f x.2.1 (q + 1)).1.2 q m) ((rndK f x.2.1 (q + 1)).1.1.getD (((nextL f).getD q default).getD m default).toNat default) v))).getD q default).length = f.regs.toNat := by rw [getD_set_self (by omega)]; omega
        refine W_seq ?_
        refine W_seq ?_
        refine W_seqK (b' := 74) rfl rfl ?_
        refine q0 42 10 1 rfl rfl (T_move rfl rfl) rfl ?_
        refine q0 43 26 2 rfl rfl (T_fa D (m := 0) rfl rfl rfl rfl rfl rfl) rfl ?_
        refine q0 44 42 3 rfl rfl (T_load_b D rfl rfl rfl rfl rfl rfl) rfl ?_
        refine q0 45 58 4 rfl rfl (T_cmp rfl rfl rfl rfl) rfl ?_
        refine k_done rfl ?_
        refine thenK_n ?_
        refine W_cond rfl (fun g4 => ?_) (fun g4 => ?_)
        · have h4 := c_lss_t g4
          refine W_skip ?_
          refine thenK_n ?_
          refine W_seq ?_
          refine W_block ?_
          refine W_open (i := 8) (j := q) (b' := 75) rfl (by (simp; omega)) rfl ?_
          refine W_anyC (b' := 587) rfl rfl rfl ?_
          refine q0 48 75 1 rfl rfl (T_fa D (m := 1) rfl rfl rfl rfl rfl rfl) rfl ?_
          refine q0 49 91 2 rfl rfl (T_load_b D rfl rfl rfl rfl rfl rfl) rfl ?_
          refine q0 50 107 3 rfl rfl (T_move rfl rfl) rfl ?_
          first | refine q0 51 123 4 rfl rfl (T_indexAddrM D rfl rfl rfl rfl rfl rfl rfl rfl (by first | assumption | omega | (have q := hm (by omega); omega) | (simp only [List.length_set]; omega) | (simp only [List.length_set]; have q := hm (by omega); omega) | (simp; omega))) rfl ?_ | refine q0 51 123 4 rfl rfl (T_indexAddrN D rfl rfl rfl rfl rfl rfl rfl rfl (by first | assumption | omega | (have q := hm (by omega); omega) | (simp only [List.length_set]; omega) | (simp only [List.length_set]; have q := hm (by omega); omega) | (simp; omega)) (by first | assumption | omega | (have q := hm (by omega); omega) | (simp only [List.length_set]; omega) | (simp only [List.length_set]; have q := hm (by omega); omega) | (simp; omega))) rfl ?_
          refine q0 52 139 5 rfl rfl (T_ldN2 D rfl rfl rfl rfl rfl (by first | rfl | omega)) rfl ?_
          refine q0 53 155 6 rfl rfl (T_move rfl rfl) rfl ?_
          refine q0 54 171 7 rfl rfl (T_fa D (m := 1) rfl rfl rfl rfl rfl rfl) rfl ?_
          refine q0 55 187 8 rfl rfl (T_load_b D rfl rfl rfl rfl rfl rfl) rfl ?_
          refine q0 56 203 9 rfl rfl (T_move rfl rfl) rfl ?_
          first | refine q0 57 219 10 rfl rfl (T_indexAddrM D rfl rfl rfl rfl rfl rfl rfl rfl (by first | assumption | omega | (have q := hm (by omega); omega) | (simp only [List.length_set]; omega) | (simp only [List.length_set]; have q := hm (by omega); omega) | (simp; omega))) rfl ?_ | refine q0 57 219 10 rfl rfl (T_indexAddrN D rfl rfl rfl rfl rfl rfl rfl rfl (by first | assumption | omega | (have q := hm (by omega); omega) | (simp only [List.length_set]; omega) | (simp only [List.length_set]; have q := hm (by omega); omega) | (simp; omega)) (by first | assumption | omega | (have q := hm (by omega); omega) | (simp only [List.length_set]; omega) | (simp only [List.length_set]; have q := hm (by omega); omega) | (simp; omega))) rfl ?_
          refine q0 58 235 11 rfl rfl (T_ldN2 D rfl rfl rfl rfl rfl (by first | rfl | omega)) rfl ?_
          refine q0 59 251 12 rfl rfl (T_move rfl rfl) rfl ?_
          first | refine q0 60 267 13 rfl rfl (T_indexAddr D rfl rfl rfl rfl rfl rfl rfl rfl (by first | assumption | omega | (have q := hm (by omega); omega) | (simp only [List.length_set]; omega) | (simp only [List.length_set]; have q := hm (by omega); omega) | (simp; omega))) rfl ?_ | refine q0 60 267 13 rfl rfl (T_indexAddrZ D rfl rfl rfl rfl rfl rfl rfl rfl (by first | assumption | omega | (have q := hm (by omega); omega) | (simp only [List.length_set]; omega) | (simp only [List.length_set]; have q := hm (by omega); omega) | (simp; omega)) (by first | assumption | omega | (have q := hm (by omega); omega) | (simp only [List.length_set]; omega) | (simp only [List.length_set]; have q := hm (by omega); omega) | (simp; omega))) rfl ?_
          refine q0 61 283 14 rfl rfl (T_ldE D (lv := .v _) (nn := 0) (upd := []) rfl rfl rfl rfl rfl (by first | assumption | omega | (have q := hm (by omega); omega) | (simp only [List.length_set]; omega) | (simp only [List.length_set]; have q := hm (by omega); omega) | (simp; omega)) rfl rfl rfl rfl) rfl ?_
          refine q0 62 299 15 rfl rfl (T_move rfl rfl) rfl ?_
          refine k_split (d := 62) rfl (fun g5 => ?_) (fun g5 => ?_)
          · have h5 := g5; (try simp only [cmpB, decide_eq_true_eq, decide_eq_false_iff_not, beq_iff_eq, beq_eq_false_iff_ne, bne_iff_ne, ne_eq, bne_eq_false_iff_eq, Bool.not_eq_true', Bool.not_eq_false', Int.not_lt, Int.not_le] at h5)
            refine k_no (d := 63) (j' := 16) rfl rfl rfl (g_ft rfl rfl rfl g5) ?_
            refine k_no (d := 64) (j' := 17) rfl rfl rfl (g_ft rfl rfl rfl g5) ?_
            refine k_no (d := 65) (j' := 18) rfl rfl rfl (g_ft rfl rfl rfl g5) ?_
            refine k_no (d := 66) (j' := 19) rfl rfl rfl (g_ft rfl rfl rfl g5) ?_
            refine k_no (d := 67) (j' := 20) rfl rfl rfl (g_ft rfl rfl rfl g5) ?_
            refine k_no (d := 68) (j' := 21) rfl rfl rfl (g_ft rfl rfl rfl g5) ?_
            refine k_no (d := 69) (j' := 22) rfl rfl rfl (g_ft rfl rfl rfl g5) ?_
            refine k_no (d := 70) (j' := 23) rfl rfl rfl (g_ft rfl rfl rfl g5) ?_
            refine k_no (d := 71) (j' := 24) rfl rfl rfl (g_ft rfl rfl rfl g5) ?_
            refine k_no (d := 72) (j' := 25) rfl rfl rfl (g_ft rfl rfl rfl g5) ?_
            refine k_no (d := 73) (j' := 26) rfl rfl rfl (g_ft rfl rfl rfl g5) ?_
            refine k_no (d := 74) (j' := 27) rfl rfl rfl (g_ft rfl rfl rfl g5) ?_
            refine k_no (d := 75) (j' := 28) rfl rfl rfl (g_ft rfl rfl rfl g5) ?_
            refine k_no (d := 76) (j' := 29) rfl rfl rfl (g_ft rfl rfl rfl g5) ?_
            refine q0 77 539 30 rfl rfl (T_pick_t rfl rfl rfl g5) rfl ?_
            first | refine q0 78 555 31 rfl rfl (T_indexAddr D rfl rfl rfl rfl rfl rfl rfl rfl (by first | assumption | omega | (have q := hm (by omega); omega) | (simp only [List.length_set]; omega) | (simp only [List.length_set]; have q := hm (by omega); omega) | (simp; omega))) rfl ?_ | refine q0 78 555 31 rfl rfl (T_indexAddrZ D rfl rfl rfl rfl rfl rfl rfl rfl (by first | assumption | omega | (have q := hm (by omega); omega) | (simp only [List.length_set]; omega) | (simp only [List.length_set]; have q := hm (by omega); omega) | (simp; omega)) (by first | assumption | omega | (have q := hm (by omega); omega) | (simp only [List.length_set]; omega) | (simp only [List.length_set]; have q := hm (by omega); omega) | (simp; omega))) rfl ?_
            refine s1 571 32 rfl rfl (T_store_e D (z := _) rfl rfl rfl rfl (flat_v rfl) rfl rfl (by first | assumption | omega | (have q := hm (by omega); omega) | (simp only [List.length_set]; omega) | (simp only [List.length_set]; have q := hm (by omega); omega) | (simp; omega)) (.v rfl (.nil)) rfl (Nat.le_of_ble_eq_true rfl) rfl) rfl ?_
            refine k_done rfl ?_
            refine ⟨rfl, ?_⟩
            refine ⟨_, .step (i := 8) (q := 74) rfl rfl (.refl), ?_⟩
            refine blockK_n ?_
            refine thenK_n ?_
            refine W_seqK (b' := 635) rfl rfl ?_
            refine q0 46 587 1 rfl rfl (T_move rfl rfl) rfl ?_
            refine q0 47 603 2 rfl rfl (T_add64 rfl rfl rfl (by first | assumption | omega | (have q := hm (by omega); omega) | (simp only [List.length_set]; omega) | (simp only [List.length_set]; have q := hm (by omega); omega) | (simp; omega))) rfl ?_
            refine q0 9 619 3 rfl rfl (T_assign rfl rfl) rfl ?_
            refine k_done rfl ?_
            refine thenK_n ?_
            refine ⟨v + 1, by (try dsimp only); omega, by (try dsimp only); omega, ?_⟩
            exact ⟨[(2, 2), (3, 3), (4, 4), (5, 5), (6, 6), (7, 7), (8, 8), (9, 9)], .same rfl rfl (.same rfl rfl (.eq rfl (.same rfl rfl (.same rfl rfl (.eq rfl (.eq rfl (.eq rfl (.eq rfl (.nil) (by first | rfl | (exact congrArg (List.map (List.map eB)) (or_round_t (by omega) (by assumption))) | (exact congrArg (List.map (List.map eB)) (or_round_f (by omega) (by assumption))) | (exact congrArg (List.map (List.map eB)) (set_self (by have := hm (by omega); omega))))) rfl) rfl) rfl))) rfl)), .fzE rfl (.box (by first | rfl | (exact congrArg (List.map (List.map eB)) (or_round_t (by omega) (by assumption))) | (exact congrArg (List.map (List.map eB)) (or_round_f (by omega) (by assumption))) | (exact congrArg (List.map (List.map eB)) (set_self (by have := hm (by omega); omega)))) (.box (by first | rfl | (exact congrArg (List.map (List.map eB)) (or_round_t (by omega) (by assumption))) | (exact congrArg (List.map (List.map eB)) (or_round_f (by omega) (by assumption))) | (exact congrArg (List.map (List.map eB)) (set_self (by have := hm (by omega); omega)))) (.rowE rfl (.rowE rfl (.box (by first | rfl | (exact congrArg (List.map (List.map eB)) (or_round_t (by omega) (by assumption))) | (exact congrArg (List.map (List.map eB)) (or_round_f (by omega) (by assumption))) | (exact congrArg (List.map (List.map eB)) (set_self (by have := hm (by omega); omega)))) (.nestE rfl (.nestE rfl (.rowE rfl (.nil) (by first | rfl | (exact congrArg (List.map (List.map eB)) (or_round_t (by omega) (by assumption))) | (exact congrArg (List.map (List.map eB)) (or_round_f (by omega) (by assumption))) | (exact congrArg (List.map (List.map eB)) (set_self (by have := hm (by omega); omega))))) (by first | rfl | (exact congrArg (List.map (List.map eB)) (or_round_t (by omega) (by assumption))) | (exact congrArg (List.map (List.map eB)) (or_round_f (by omega) (by assumption))) | (exact congrArg (List.map (List.map eB)) (set_self (by have := hm (by omega); omega))))) (by first | rfl | (exact congrArg (List.map (List.map eB)) (or_round_t (by omega) (by assumption))) | (exact congrArg (List.map (List.map eB)) (or_round_f (by omega) (by assumption))) | (exact congrArg (List.map (List.map eB)) (set_self (by have := hm (by omega); omega)))))) (by first | rfl | (exact congrArg (List.map (List.map eB)) (or_round_t (by omega) (by assumption))) | (exact congrArg (List.map (List.map eB)) (or_round_f (by omega) (by assumption))) | (exact congrArg (List.map (List.map eB)) (set_self (by have := hm (by omega); omega))))) (by first | rfl | (exact congrArg (List.map (List.map eB)) (or_round_t (by omega) (by assumption))) | (exact congrArg (List.map (List.map eB)) (or_round_f (by omega) (by assumption))) | (exact congrArg (List.map (List.map eB)) (set_self (by have := hm (by omega); omega))))))) rfl, rfl⟩
          · have h5 := g5; (try simp only [cmpB, decide_eq_true_eq, decide_eq_false_iff_not, beq_iff_eq, beq_eq_false_iff_ne, bne_iff_ne, ne_eq, bne_eq_false_iff_eq, Bool.not_eq_true', Bool.not_eq_false', Int.not_lt, Int.not_le] at h5)
            refine k_op0 (d := 63) (b := 315) (j' := 16) rfl rfl rfl rfl (g_ff rfl rfl rfl g5) (T_fa D (m := 0) rfl rfl rfl rfl rfl rfl) rfl ?_
            refine k_op0 (d := 64) (b := 331) (j' := 17) rfl rfl rfl rfl (g_ff rfl rfl rfl g5) (T_load_b D rfl rfl rfl rfl rfl rfl) rfl ?_
            refine k_op0 (d := 65) (b := 347) (j' := 18) rfl rfl rfl rfl (g_ff rfl rfl rfl g5) (T_move rfl rfl) rfl ?_
            refine k_op0 (d := 66) (b := 363) (j' := 19) rfl rfl rfl rfl (g_ff rfl rfl rfl g5) (T_move rfl rfl) rfl ?_
            first | refine k_op0 (d := 67) (b := 379) (j' := 20) rfl rfl rfl rfl (g_ff rfl rfl rfl g5) (T_indexAddr D rfl rfl rfl rfl rfl rfl rfl rfl (by first | assumption | omega | (have q := hm (by omega); omega) | (simp only [List.length_set]; omega) | (simp only [List.length_set]; have q := hm (by omega); omega) | (simp; omega))) rfl ?_ | refine k_op0 (d := 67) (b := 379) (j' := 20) rfl rfl rfl rfl (g_ff rfl rfl rfl g5) (T_indexAddrZ D rfl rfl rfl rfl rfl rfl rfl rfl (by first | assumption | omega | (have q := hm (by omega); omega) | (simp only [List.length_set]; omega) | (simp only [List.length_set]; have q := hm (by omega); omega) | (simp; omega)) (by first | assumption | omega | (have q := hm (by omega); omega) | (simp only [List.length_set]; omega) | (simp only [List.length_set]; have q := hm (by omega); omega) | (simp; omega))) rfl ?_
            refine k_op1 (d := 68) (b := 395) (j' := 21) rfl rfl rfl rfl (g_ff rfl rfl rfl g5) (T_ldE D (lv := .r 395) (nn := 1) (upd := [(395, .fz 1 _)]) rfl rfl rfl rfl rfl (by first | assumption | omega | (have q := hm (by omega); omega) | (simp only [List.length_set]; omega) | (simp only [List.length_set]; have q := hm (by omega); omega) | (simp; omega)) rfl rfl rfl rfl) rfl ?_
            refine k_op0 (d := 69) (b := 411) (j' := 22) rfl rfl rfl rfl (g_ff rfl rfl rfl g5) (T_move rfl rfl) rfl ?_
            first | refine k_op0 (d := 70) (b := 427) (j' := 23) rfl rfl rfl rfl (g_ff rfl rfl rfl g5) (T_indexAddr D rfl rfl rfl rfl rfl rfl rfl rfl (by first | assumption | omega | (have q := hm (by omega); omega) | (simp only [List.length_set]; omega) | (simp only [List.length_set]; have q := hm (by omega); omega) | (simp; omega))) rfl ?_ | refine k_op0 (d := 70) (b := 427) (j' := 23) rfl rfl rfl rfl (g_ff rfl rfl rfl g5) (T_indexAddrZ D rfl rfl rfl rfl rfl rfl rfl rfl (by first | assumption | omega | (have q := hm (by omega); omega) | (simp only [List.length_set]; omega) | (simp only [List.length_set]; have q := hm (by omega); omega) | (simp; omega)) (by first | assumption | omega | (have q := hm (by omega); omega) | (simp only [List.length_set]; omega) | (simp only [List.length_set]; have q := hm (by omega); omega) | (simp; omega))) rfl ?_
            refine k_op0 (d := 71) (b := 443) (j' := 24) rfl rfl rfl rfl (g_ff rfl rfl rfl g5) (T_ldE D (lv := .v _) (nn := 0) (upd := []) rfl rfl rfl rfl rfl (by first | assumption | omega | (have q := hm (by omega); omega) | (simp only [List.length_set]; omega) | (simp only [List.length_set]; have q := hm (by omega); omega) | (simp; omega)) rfl rfl rfl rfl) rfl ?_
            first | refine k_op0 (d := 72) (b := 459) (j' := 25) rfl rfl rfl rfl (g_ff rfl rfl rfl g5) (T_indexAddrM D rfl rfl rfl rfl rfl rfl rfl rfl (by first | assumption | omega | (have q := hm (by omega); omega) | (simp only [List.length_set]; omega) | (simp only [List.length_set]; have q := hm (by omega); omega) | (simp; omega))) rfl ?_ | refine k_op0 (d := 72) (b := 459) (j' := 25) rfl rfl rfl rfl (g_ff rfl rfl rfl g5) (T_indexAddrN D rfl rfl rfl rfl rfl rfl rfl rfl (by first | assumption | omega | (have q := hm (by omega); omega) | (simp only [List.length_set]; omega) | (simp only [List.length_set]; have q := hm (by omega); omega) | (simp; omega)) (by first | assumption | omega | (have q := hm (by omega); omega) | (simp only [List.length_set]; omega) | (simp only [List.length_set]; have q := hm (by omega); omega) | (simp; omega))) rfl ?_
            refine k_opn (d := 73) (b := 475) (j' := 26) rfl rfl rfl rfl (g_ff rfl rfl rfl g5) (T_ldN D rfl rfl rfl rfl rfl (by first | assumption | omega | (have q := hm (by omega); omega) | (simp only [List.length_set]; omega) | (simp only [List.length_set]; have q := hm (by omega); omega) | (simp; omega))) rfl ?_
            refine k_op0 (d := 74) (b := 491) (j' := 27) rfl rfl rfl rfl (g_ff rfl rfl rfl g5) (T_move rfl rfl) rfl ?_
            first | refine k_op0 (d := 75) (b := 507) (j' := 28) rfl rfl rfl rfl (g_ff rfl rfl rfl g5) (T_indexAddr D rfl rfl rfl rfl rfl rfl rfl rfl (by first | assumption | omega | (have q := hm (by omega); omega) | (simp only [List.length_set]; omega) | (simp only [List.length_set]; have q := hm (by omega); omega) | (simp; omega))) rfl ?_ | refine k_op0 (d := 75) (b := 507) (j' := 28) rfl rfl rfl rfl (g_ff rfl rfl rfl g5) (T_indexAddrZ D rfl rfl rfl rfl rfl rfl rfl rfl (by first | assumption | omega | (have q := hm (by omega); omega) | (simp only [List.length_set]; omega) | (simp only [List.length_set]; have q := hm (by omega); omega) | (simp; omega)) (by first | assumption | omega | (have q := hm (by omega); omega) | (simp only [List.length_set]; omega) | (simp only [List.length_set]; have q := hm (by omega); omega) | (simp; omega))) rfl ?_
            refine k_op0 (d := 76) (b := 523) (j' := 29) rfl rfl rfl rfl (g_ff rfl rfl rfl g5) (T_ldE D (lv := .v _) (nn := 0) (upd := []) rfl rfl rfl rfl rfl (by first | assumption | omega | (have q := hm (by omega); omega) | (simp only [List.length_set]; omega) | (simp only [List.length_set]; have q := hm (by omega); omega) | (simp; omega)) rfl rfl rfl rfl) rfl ?_
            refine q0 77 539 30 rfl rfl (T_pick_f rfl rfl rfl g5) rfl ?_
            first | refine q0 78 555 31 rfl rfl (T_indexAddr D rfl rfl rfl rfl rfl rfl rfl rfl (by first | assumption | omega | (have q := hm (by omega); omega) | (simp only [List.length_set]; omega) | (simp only [List.length_set]; have q := hm (by omega); omega) | (simp; omega))) rfl ?_ | refine q0 78 555 31 rfl rfl (T_indexAddrZ D rfl rfl rfl rfl rfl rfl rfl rfl (by first | assumption | omega | (have q := hm (by omega); omega) | (simp only [List.length_set]; omega) | (simp only [List.length_set]; have q := hm (by omega); omega) | (simp; omega)) (by first | assumption | omega | (have q := hm (by omega); omega) | (simp only [List.length_set]; omega) | (simp only [List.length_set]; have q := hm (by omega); omega) | (simp; omega))) rfl ?_
            refine s1 571 32 rfl rfl (T_store_e D (z := _) rfl rfl rfl rfl (flat_v rfl) rfl rfl (by first | assumption | omega | (have q := hm (by omega); omega) | (simp only [List.length_set]; omega) | (simp only [List.length_set]; have q := hm (by omega); omega) | (simp; omega)) (.v rfl (.nil)) rfl (Nat.le_of_ble_eq_true rfl) rfl) rfl ?_
            refine k_done rfl ?_
            refine ⟨rfl, ?_⟩
            refine ⟨_, .step (i := 7) (q := 475) rfl rfl (.step (i := 8) (q := 74) rfl rfl (.refl)), ?_⟩
            refine blockK_n ?_
            refine thenK_n ?_
            refine W_seqK (b' := 635) rfl rfl ?_
            refine q0 46 587 1 rfl rfl (T_move rfl rfl) rfl ?_
            refine q0 47 603 2 rfl rfl (T_add64 rfl rfl rfl (by first | assumption | omega | (have q := hm (by omega); omega) | (simp only [List.length_set]; omega) | (simp only [List.length_set]; have q := hm (by omega); omega) | (simp; omega))) rfl ?_
            refine q0 9 619 3 rfl rfl (T_assign rfl rfl) rfl ?_
            refine k_done rfl ?_
            refine thenK_n ?_
            refine ⟨v + 1, by (try dsimp only); omega, by (try dsimp only); omega, ?_⟩
            exact ⟨[(2, 2), (3, 3), (4, 4), (5, 5), (6, 6), (7, 7), (8, 8), (9, 9)], .same rfl rfl (.same rfl rfl (.eq rfl (.same rfl rfl (.same rfl rfl (.eq rfl (.eq rfl (.eq rfl (.eq rfl (.nil) (by first | rfl | (exact congrArg (List.map (List.map eB)) (or_round_t (by omega) (by assumption))) | (exact congrArg (List.map (List.map eB)) (or_round_f (by omega) (by assumption))) | (exact congrArg (List.map (List.map eB)) (set_self (by have := hm (by omega); omega))))) rfl) rfl) rfl))) rfl)), .fzE rfl (.box (by first | rfl | (exact congrArg (List.map (List.map eB)) (or_round_t (by omega) (by assumption))) | (exact congrArg (List.map (List.map eB)) (or_round_f (by omega) (by assumption))) | (exact congrArg (List.map (List.map eB)) (set_self (by have := hm (by omega); omega)))) (.box (by first | rfl | (exact congrArg (List.map (List.map eB)) (or_round_t (by omega) (by assumption))) | (exact congrArg (List.map (List.map eB)) (or_round_f (by omega) (by assumption))) | (exact congrArg (List.map (List.map eB)) (set_self (by have := hm (by omega); omega)))) (.rowE rfl (.rowE rfl (.box (by first | rfl | (exact congrArg (List.map (List.map eB)) (or_round_t (by omega) (by assumption))) | (exact congrArg (List.map (List.map eB)) (or_round_f (by omega) (by assumption))) | (exact congrArg (List.map (List.map eB)) (set_self (by have := hm (by omega); omega)))) (.nestE rfl (.nestE rfl (.rowE rfl (.nil) (by first | rfl | (exact congrArg (List.map (List.map eB)) (or_round_t (by omega) (by assumption))) | (exact congrArg (List.map (List.map eB)) (or_round_f (by omega) (by assumption))) | (exact congrArg (List.map (List.map eB)) (set_self (by have := hm (by omega); omega))))) (by first | rfl | (exact congrArg (List.map (List.map eB)) (or_round_t (by omega) (by assumption))) | (exact congrArg (List.map (List.map eB)) (or_round_f (by omega) (by assumption))) | (exact congrArg (List.map (List.map eB)) (set_self (by have := hm (by omega); omega))))) (by first | rfl | (exact congrArg (List.map (List.map eB)) (or_round_t (by omega) (by assumption))) | (exact congrArg (List.map (List.map eB)) (or_round_f (by omega) (by assumption))) | (exact congrArg (List.map (List.map eB)) (set_self (by have := hm (by omega); omega)))))) (by first | rfl | (exact congrArg (List.map (List.map eB)) (or_round_t (by omega) (by assumption))) | (exact congrArg (List.map (List.map eB)) (or_round_f (by omega) (by assumption))) | (exact congrArg (List.map (List.map eB)) (set_self (by have := hm (by omega); omega))))) (by first | rfl | (exact congrArg (List.map (List.map eB)) (or_round_t (by omega) (by assumption))) | (exact congrArg (List.map (List.map eB)) (or_round_f (by omega) (by assumption))) | (exact congrArg (List.map (List.map eB)) (set_self (by have := hm (by omega); omega))))))) rfl, rfl⟩
        · have h4 := c_lss_f g4
          refine W_exit ?_
          refine thenK_e ?_
          refine thenK_e ?_
          refine blockK_hit ?_
          refine blockK_n ?_
          refine thenK_n ?_
          refine W_seqK (b' := 122) rfl rfl ?_
          refine q0 40 74 1 rfl rfl (T_move rfl rfl) rfl ?_
          refine q0 41 90 2 rfl rfl (T_add64 rfl rfl rfl (by first | assumption | omega | (have q := hm (by omega); omega) | (simp only [List.length_set]; omega) | (simp only [List.length_set]; have q := hm (by omega); omega) | (simp; omega))) rfl ?_
          refine q0 8 106 3 rfl rfl (T_assign rfl rfl) rfl ?_
          refine k_done rfl ?_
          refine thenK_n ?_
          refine ⟨m + 1, by (try dsimp only); omega, by (try dsimp only); omega, ?_⟩
          exact ⟨[(2, 2), (3, 3), (4, 4), (5, 5), (6, 6), (7, 7), (8, 8), (9, 9)], .same rfl rfl (.same rfl rfl (.eq rfl (.same rfl rfl (.same rfl rfl (.eq rfl (.eq rfl (.eq rfl (.nil) (by first | rfl | (exact congrArg (List.map (List.map eB)) (or_fin (m := m) (v := v) (by omega) (by omega) (by have q2 := hR.i.at (k := (((nextL f).getD q default).getD m default).toNat) (by have := hm (by omega); omega); omega))))) rfl) rfl))) rfl)), .fzE rfl (.box (by first | rfl | (exact congrArg (List.map (List.map eB)) (or_fin (m := m) (v := v) (by omega) (by omega) (by have q2 := hR.i.at (k := (((nextL f).getD q default).getD m default).toNat) (by have := hm (by omega); omega); omega)))) (.box (by first | rfl | (exact congrArg (List.map (List.map eB)) (or_fin (m := m) (v := v) (by omega) (by omega) (by have q2 := hR.i.at (k := (((nextL f).getD q default).getD m default).toNat) (by have := hm (by omega); omega); omega)))) (.rowE rfl (.rowE rfl (.box (by first | rfl | (exact congrArg (List.map (List.map eB)) (or_fin (m := m) (v := v) (by omega) (by omega) (by have q2 := hR.i.at (k := (((nextL f).getD q default).getD m default).toNat) (by have := hm (by omega); omega); omega)))) (.nestE rfl (.nestE rfl (.rowE rfl (.nil) (by first | rfl | (exact congrArg (List.map (List.map eB)) (or_fin (m := m) (v := v) (by omega) (by omega) (by have q2 := hR.i.at (k := (((nextL f).getD q default).getD m default).toNat) (by have := hm (by omega); omega); omega))))) (by first | rfl | (exact congrArg (List.map (List.map eB)) (or_fin (m := m) (v := v) (by omega) (by omega) (by have q2 := hR.i.at (k := (((nextL f).getD q default).getD m default).toNat) (by have := hm (by omega); omega); omega))))) (by first | rfl | (exact congrArg (List.map (List.map eB)) (or_fin (m := m) (v := v) (by omega) (by omega) (by have q2 := hR.i.at (k := (((nextL f).getD q default).getD m default).toNat) (by have := hm (by omega); omega); omega)))))) (by first | rfl | (exact congrArg (List.map (List.map eB)) (or_fin (m := m) (v := v) (by omega) (by omega) (by have q2 := hR.i.at (k := (((nextL f).getD q default).getD m default).toNat) (by have := hm (by omega); omega); omega))))) (by first | rfl | (exact congrArg (List.map (List.map eB)) (or_fin (m := m) (v := v) (by omega) (by omega) (by have q2 := hR.i.at (k := (((nextL f).getD q default).getD m default).toNat) (by have := hm (by omega); omega); omega))))))) rfl, rfl⟩
      · have h3 := c_lss_f g3
        refine W_exit ?_
        refine thenK_e ?_
        refine thenK_e ?_
        refine blockK_hit ?_
        refine thenK_n ?_
        refine W_seq ?_
        refine W_anyC (b' := 314) rfl rfl rfl ?_
        refine q0 79 122 1 rfl rfl (T_fa D (m := 1) rfl rfl rfl rfl rfl rfl) rfl ?_
        refine q0 80 138 2 rfl rfl (T_load_b D rfl rfl rfl rfl rfl rfl) rfl ?_
        refine q0 81 154 3 rfl rfl (T_move rfl rfl) rfl ?_
        first | refine q0 82 170 4 rfl rfl (T_indexAddr D rfl rfl rfl rfl rfl rfl rfl rfl (by first | assumption | omega | (have q := hm (by omega); omega) | (simp only [List.length_set]; omega) | (simp only [List.length_set]; have q := hm (by omega); omega) | (simp; omega))) rfl ?_ | refine q0 82 170 4 rfl rfl (T_indexAddrZ D rfl rfl rfl rfl rfl rfl rfl rfl (by first | assumption | omega | (have q := hm (by omega); omega) | (simp only [List.length_set]; omega) | (simp only [List.length_set]; have q := hm (by omega); omega) | (simp; omega)) (by first | assumption | omega | (have q := hm (by omega); omega) | (simp only [List.length_set]; omega) | (simp only [List.length_set]; have q := hm (by omega); omega) | (simp; omega))) rfl ?_
        refine q1 83 186 5 rfl rfl (T_ldEA D (l := [.r 186, .v _, .v _, .v _, .v _]) (nn := 1) (upd := [(186, .fz 8 _)]) rfl rfl rfl rfl rfl (by first | assumption | omega | (have q := hm (by omega); omega) | (simp only [List.length_set]; omega) | (simp only [List.length_set]; have q := hm (by omega); omega) | (simp; omega)) rfl rfl rfl rfl rfl) rfl ?_
        refine q0 84 202 6 rfl rfl (T_fa D (m := 1) rfl rfl rfl rfl rfl rfl) rfl ?_
        refine q0 85 218 7 rfl rfl (T_load_b D rfl rfl rfl rfl rfl rfl) rfl ?_
        refine q0 86 234 8 rfl rfl (T_move rfl rfl) rfl ?_
        first | refine q0 87 250 9 rfl rfl (T_indexAddrM D rfl rfl rfl rfl rfl rfl rfl rfl (by first | assumption | omega | (have q := hm (by omega); omega) | (simp only [List.length_set]; omega) | (simp only [List.length_set]; have q := hm (by omega); omega) | (simp; omega))) rfl ?_ | refine q0 87 250 9 rfl rfl (T_indexAddrN D rfl rfl rfl rfl rfl rfl rfl rfl (by first | assumption | omega | (have q := hm (by omega); omega) | (simp only [List.length_set]; omega) | (simp only [List.length_set]; have q := hm (by omega); omega) | (simp; omega)) (by first | assumption | omega | (have q := hm (by omega); omega) | (simp only [List.length_set]; omega) | (simp only [List.length_set]; have q := hm (by omega); omega) | (simp; omega))) rfl ?_
        refine qn 88 266 10 rfl rfl (T_ldN D rfl rfl rfl rfl rfl (by first | assumption | omega | (have q := hm (by omega); omega) | (simp only [List.length_set]; omega) | (simp only [List.length_set]; have q := hm (by omega); omega) | (simp; omega))) rfl ?_
        refine q1 89 282 11 rfl rfl (T_callR (lvs := [_, _]) (L := [(1, 186), (2, 266)]) (keep := true) (rahead_spec (f.blocks.getD q default) (((rndK f x.2.1 (q + 1)).1.2.set q (outJ f (rndK f x.2.1 (q + 1)).1.1 (rndK f x.2.1 (q + 1)).1.2 q m)).getD q default) (by have q1 := (hO m).at (k := q) (by omega); omega) (by have := hF.ins _ (getD_mem (by omega : q < f.blocks.length)); omega) (by rw [(hO m).at (k := q) (by omega)]; exact hF.ok _ (getD_mem (by omega)))) body81 rfl rfl rfl rfl (.fz rfl (.lend rfl (.nil))) rfl (.inr (flat_eB _)) rfl) rfl ?_
        refine q0 10 298 12 rfl rfl (T_assign rfl rfl) rfl ?_
        refine k_done rfl ?_
        refine ⟨rfl, ?_⟩
        refine ⟨_, .step (i := 8) (q := 266) rfl rfl (.refl), ?_⟩
        refine thenK_n ?_
        refine W_seq ?_
        refine W_seqK (b' := 330) rfl rfl ?_
        refine q0 11 314 1 rfl rfl (T_assign rfl rfl) rfl ?_
        refine k_done rfl ?_
        refine thenK_n ?_
        refine W_block ?_
        have hTl : (thrS (f.blocks.getD q default) (((rndK f x.2.1 (q + 1)).1.2.set q (outJ f (rndK f x.2.1 (q + 1)).1.1 (rndK f x.2.1 (q + 1)).1.2 q m)).getD q default)).length = f.regs.toNat := by rw [thrS_len]; exact hOm
        refine W_loop (ι := Nat) 11 (fun v => ⟨[(1, .p 2 0), (2, .p 3 0), (3, .v (.int .i64 (f.blocks.length : Int))), (4, .p 6 0), (5, .r 9), (6, .v (.bool ((addJ ((rndK f x.2.1 (q + 1)).1.1.getD q default) (thrS (f.blocks.getD q default) (((rndK f x.2.1 (q + 1)).1.2.set q (outJ f (rndK f x.2.1 (q + 1)).1.1 (rndK f x.2.1 (q + 1)).1.2 q m)).getD q default)) v).2 || (rndK f x.2.1 (q + 1)).2))), (7, .v (.int .i64 (q : Int))), (10, .r 10), (11, .v (.int .i64 (v : Int)))], [(1, .fz 5 (f.blocks.map eBlock)), (2, .box 29 [.v (.int .i64 f.regs), .r 1]), (3, .box 57 [.r 4, .r 5]), (4, .row 48 1 (([] : List (List Bool)).map eBs)), (5, .row 48 1 (([] : List (List Bool)).map eBs)), (6, .box 57 [.r 7, .r 8]), (7, .nest 48 4 1 (((rndK f x.2.1 (q + 1)).1.1.set q (addJ ((rndK f x.2.1 (q + 1)).1.1.getD q default) (thrS (f.blocks.getD q default) (((rndK f x.2.1 (q + 1)).1.2.set q (outJ f (rndK f x.2.1 (q + 1)).1.1 (rndK f x.2.1 (q + 1)).1.2 q m)).getD q default)) v).1).map (List.map eB)) none), (8, .nest 48 4 1 (((rndK f x.2.1 (q + 1)).1.2.set q (outJ f (rndK f x.2.1 (q + 1)).1.1 (rndK f x.2.1 (q + 1)).1.2 q m)).map (List.map eB)) none), (9, .row 52 1 ((nextL f).map eIs)), (10, .row 4 1 ((thrS (f.blocks.getD q default) (((rndK f x.2.1 (q + 1)).1.2.set q (outJ f (rndK f x.2.1 (q + 1)).1.1 (rndK f x.2.1 (q + 1)).1.2 q m)).getD q default)).map eB))]⟩) (fun v => v ≤ f.regs.toNat) (fun v => f.regs.toNat - v) (0) (by exact Nat.zero_le _) ?_ (fun v hV => ?_)
        · exact ⟨[(2, 2), (3, 3), (4, 4), (5, 5), (6, 6), (7, 7), (8, 8), (9, 9), (10, 282)], .same rfl rfl (.same rfl rfl (.eq rfl (.same rfl rfl (.same rfl rfl (.eq rfl (.eq rfl (.same rfl rfl (.eq rfl (.nil) (by first | rfl | (exact congrArg (List.map (List.map eB)) ((set_self (by omega)).symm)) | (exact congrArg (List.map (List.map eB)) (set_self (by simp; omega))) | (simp [addJ]; done)))) (by first | rfl | (exact congrArg (List.map (List.map eB)) ((set_self (by omega)).symm)) | (exact congrArg (List.map (List.map eB)) (set_self (by simp; omega))) | (simp [addJ]; done))) (by first | rfl | (exact congrArg (List.map (List.map eB)) ((set_self (by omega)).symm)) | (exact congrArg (List.map (List.map eB)) (set_self (by simp; omega))) | (simp [addJ]; done))))) (by first | rfl | (exact congrArg (List.map (List.map eB)) ((set_self (by omega)).symm)) | (exact congrArg (List.map (List.map eB)) (set_self (by simp; omega))) | (simp [addJ]; done)))), .fzE rfl (.box (by first | rfl | (exact congrArg (List.map (List.map eB)) ((set_self (by omega)).symm)) | (exact congrArg (List.map (List.map eB)) (set_self (by simp; omega))) | (simp [addJ]; done)) (.box (by first | rfl | (exact congrArg (List.map (List.map eB)) ((set_self (by omega)).symm)) | (exact congrArg (List.map (List.map eB)) (set_self (by simp; omega))) | (simp [addJ]; done)) (.rowE rfl (.rowE rfl (.box (by first | rfl | (exact congrArg (List.map (List.map eB)) ((set_self (by omega)).symm)) | (exact congrArg (List.map (List.map eB)) (set_self (by simp; omega))) | (simp [addJ]; done)) (.nestE rfl (.nestE rfl (.rowE rfl (.rowE rfl (.nil) (by first | rfl | (exact congrArg (List.map (List.map eB)) ((set_self (by omega)).symm)) | (exact congrArg (List.map (List.map eB)) (set_self (by simp; omega))) | (simp [addJ]; done))) (by first | rfl | (exact congrArg (List.map (List.map eB)) ((set_self (by omega)).symm)) | (exact congrArg (List.map (List.map eB)) (set_self (by simp; omega))) | (simp [addJ]; done))) (by first | rfl | (exact congrArg (List.map (List.map eB)) ((set_self (by omega)).symm)) | (exact congrArg (List.map (List.map eB)) (set_self (by simp; omega))) | (simp [addJ]; done))) (by first | rfl | (exact congrArg (List.map (List.map eB)) ((set_self (by omega)).symm)) | (exact congrArg (List.map (List.map eB)) (set_self (by simp; omega))) | (simp [addJ]; done)))) (by first | rfl | (exact congrArg (List.map (List.map eB)) ((set_self (by omega)).symm)) | (exact congrArg (List.map (List.map eB)) (set_self (by simp; omega))) | (simp [addJ]; done))) (by first | rfl | (exact congrArg (List.map (List.map eB)) ((set_self (by omega)).symm)) | (exact congrArg (List.map (List.map eB)) (set_self (by simp; omega))) | (simp [addJ]; done))))) (by first | rfl | (exact congrArg (List.map (List.map eB)) ((set_self (by omega)).symm)) | (exact congrArg (List.map (List.map eB)) (set_self (by simp; omega))) | (simp [addJ]; done)), rfl⟩
        have hal := addJ_len ((rndK f x.2.1 (q + 1)).1.1.getD q default) (thrS (f.blocks.getD q default) (((rndK f x.2.1 (q + 1)).1.2.set q (outJ f (rndK f x.2.1 (q + 1)).1.1 (rndK f x.2.1 (q + 1)).1.2 q m)).getD q default)) v
        have hil := hR.i.at (k := q) (by omega)
        have had : (((rndK f x.2.1 (q + 1)).1.1.set q (addJ ((rndK f x.2.1 (q + 1)).1.1.getD q default) (thrS (f.blocks.getD q default) (((rndK f x.2.1 (q + 1)).1.2.set q (outJ f (rndK f x.2.1 (q + 1)).1.1 (rndK f x.2.1 (q + 1)).1.2 q m)).getD q default)) v).1).getD q default).length = f.regs.toNat := by rw [getD_set_self (by omega)]; omega
        have had2 : ((((rndK f x.2.1 (q + 1)).1.1.set q (addJ ((rndK f x.2.1 (q + 1)).1.1.getD q default) (thrS (f.blocks.getD q default) (((rndK f x.2.1 (q + 1)).1.2.set q (outJ f (rndK f x.2.1 (q + 1)).1.1 (rndK f x.2.1 (q + 1)).1.2 q m)).getD q default)) v).1).set q (((rndK f x.2.1 (q + 1)).1.1.set q (addJ ((rndK f x.2.1 (q + 1)).1.1.getD q default) (thrS (f.blocks.getD q default) (((rndK f x.2.1 (q + 1)).1.2.set q (outJ f (rndK f x.2.1 (q + 1)).1.1 (rndK f x.2.1 (q + 1)).1.2 q m)).getD q default)) v).1).getD q default)).getD q default).length = f.regs.toNat := by rw [getD_set_self (by simp; omega)]; exact had
        refine W_seq ?_
        refine W_seq ?_
        refine W_seqK (b' := 75) rfl rfl ?_
        refine q0 90 11 1 rfl rfl (T_move rfl rfl) rfl ?_
        refine q0 91 27 2 rfl rfl (T_fa D (m := 0) rfl rfl rfl rfl rfl rfl) rfl ?_
        refine q0 92 43 3 rfl rfl (T_load_b D rfl rfl rfl rfl rfl rfl) rfl ?_
        refine q0 93 59 4 rfl rfl (T_cmp rfl rfl rfl rfl) rfl ?_
        refine k_done rfl ?_
        refine thenK_n ?_
        refine W_cond rfl (fun g6 => ?_) (fun g6 => ?_)
        · have h6 := c_lss_t g6
          refine W_skip ?_
          refine thenK_n ?_
          refine W_seq ?_
          refine W_block ?_
          refine W_seq ?_
          refine W_seqC (b' := 315) rfl rfl ?_
          refine q0 96 75 1 rfl rfl (T_move rfl rfl) rfl ?_
          refine q0 97 91 2 rfl rfl (T_move rfl rfl) rfl ?_
          first | refine q0 98 107 3 rfl rfl (T_indexAddr D rfl rfl rfl rfl rfl rfl rfl rfl (by first | assumption | omega | (have q := hm (by omega); omega) | (simp only [List.length_set]; omega) | (simp only [List.length_set]; have q := hm (by omega); omega) | (simp; omega))) rfl ?_ | refine q0 98 107 3 rfl rfl (T_indexAddrZ D rfl rfl rfl rfl rfl rfl rfl rfl (by first | assumption | omega | (have q := hm (by omega); omega) | (simp only [List.length_set]; omega) | (simp only [List.length_set]; have q := hm (by omega); omega) | (simp; omega)) (by first | assumption | omega | (have q := hm (by omega); omega) | (simp only [List.length_set]; omega) | (simp only [List.length_set]; have q := hm (by omega); omega) | (simp; omega))) rfl ?_
          refine q0 99 123 4 rfl rfl (T_ldE D (lv := .v _) (nn := 0) (upd := []) rfl rfl rfl rfl rfl (by first | assumption | omega | (have q := hm (by omega); omega) | (simp only [List.length_set]; omega) | (simp only [List.length_set]; have q := hm (by omega); omega) | (simp; omega)) rfl rfl rfl rfl) rfl ?_
          refine q0 100 139 5 rfl rfl (T_move rfl rfl) rfl ?_
          refine k_split (d := 100) rfl (fun g7 => ?_) (fun g7 => ?_)
          · have h7 := g7; (try simp only [cmpB, decide_eq_true_eq, decide_eq_false_iff_not, beq_iff_eq, beq_eq_false_iff_ne, bne_iff_ne, ne_eq, bne_eq_false_iff_eq, Bool.not_eq_true', Bool.not_eq_false', Int.not_lt, Int.not_le] at h7)
            refine k_op0 (d := 101) (b := 155) (j' := 6) rfl rfl rfl rfl (g_tt rfl rfl rfl g7) (T_fa D (m := 0) rfl rfl rfl rfl rfl rfl) rfl ?_
            refine k_op0 (d := 102) (b := 171) (j' := 7) rfl rfl rfl rfl (g_tt rfl rfl rfl g7) (T_load_b D rfl rfl rfl rfl rfl rfl) rfl ?_
            refine k_op0 (d := 103) (b := 187) (j' := 8) rfl rfl rfl rfl (g_tt rfl rfl rfl g7) (T_move rfl rfl) rfl ?_
            first | refine k_op0 (d := 104) (b := 203) (j' := 9) rfl rfl rfl rfl (g_tt rfl rfl rfl g7) (T_indexAddrM D rfl rfl rfl rfl rfl rfl rfl rfl (by first | assumption | omega | (have q := hm (by omega); omega) | (simp only [List.length_set]; omega) | (simp only [List.length_set]; have q := hm (by omega); omega) | (simp; omega))) rfl ?_ | refine k_op0 (d := 104) (b := 203) (j' := 9) rfl rfl rfl rfl (g_tt rfl rfl rfl g7) (T_indexAddrN D rfl rfl rfl rfl rfl rfl rfl rfl (by first | assumption | omega | (have q := hm (by omega); omega) | (simp only [List.length_set]; omega) | (simp only [List.length_set]; have q := hm (by omega); omega) | (simp; omega)) (by first | assumption | omega | (have q := hm (by omega); omega) | (simp only [List.length_set]; omega) | (simp only [List.length_set]; have q := hm (by omega); omega) | (simp; omega))) rfl ?_
            refine k_opn (d := 105) (b := 219) (j' := 10) rfl rfl rfl rfl (g_tt rfl rfl rfl g7) (T_ldN D rfl rfl rfl rfl rfl (by first | assumption | omega | (have q := hm (by omega); omega) | (simp only [List.length_set]; omega) | (simp only [List.length_set]; have q := hm (by omega); omega) | (simp; omega))) rfl ?_
            refine k_op0 (d := 106) (b := 235) (j' := 11) rfl rfl rfl rfl (g_tt rfl rfl rfl g7) (T_move rfl rfl) rfl ?_
            first | refine k_op0 (d := 107) (b := 251) (j' := 12) rfl rfl rfl rfl (g_tt rfl rfl rfl g7) (T_indexAddr D rfl rfl rfl rfl rfl rfl rfl rfl (by first | assumption | omega | (have q := hm (by omega); omega) | (simp only [List.length_set]; omega) | (simp only [List.length_set]; have q := hm (by omega); omega) | (simp; omega))) rfl ?_ | refine k_op0 (d := 107) (b := 251) (j' := 12) rfl rfl rfl rfl (g_tt rfl rfl rfl g7) (T_indexAddrZ D rfl rfl rfl rfl rfl rfl rfl rfl (by first | assumption | omega | (have q := hm (by omega); omega) | (simp only [List.length_set]; omega) | (simp only [List.length_set]; have q := hm (by omega); omega) | (simp; omega)) (by first | assumption | omega | (have q := hm (by omega); omega) | (simp only [List.length_set]; omega) | (simp only [List.length_set]; have q := hm (by omega); omega) | (simp; omega))) rfl ?_
            refine k_op0 (d := 108) (b := 267) (j' := 13) rfl rfl rfl rfl (g_tt rfl rfl rfl g7) (T_ldE D (lv := .v _) (nn := 0) (upd := []) rfl rfl rfl rfl rfl (by first | assumption | omega | (have q := hm (by omega); omega) | (simp only [List.length_set]; omega) | (simp only [List.length_set]; have q := hm (by omega); omega) | (simp; omega)) rfl rfl rfl rfl) rfl ?_
            refine k_op0 (d := 109) (b := 283) (j' := 14) rfl rfl rfl rfl (g_tt rfl rfl rfl g7) (T_not rfl rfl) rfl ?_
            refine q0 110 299 15 rfl rfl (T_pick_t rfl rfl rfl g7) rfl ?_
            refine k_done rfl ?_
            refine ⟨_, .step (i := 7) (q := 219) rfl rfl (.refl), ?_⟩
            refine thenK_n ?_
            refine W_cond rfl (fun g8 => ?_) (fun g8 => ?_)
            · have h8 := g8; (try simp only [cmpB, decide_eq_true_eq, decide_eq_false_iff_not, beq_iff_eq, beq_eq_false_iff_ne, bne_iff_ne, ne_eq, bne_eq_false_iff_eq, Bool.not_eq_true', Bool.not_eq_false', Int.not_lt, Int.not_le] at h8)
              refine W_seq ?_
              refine W_seqC (b' := 443) rfl rfl ?_
              refine q0 111 315 1 rfl rfl (T_fa D (m := 0) rfl rfl rfl rfl rfl rfl) rfl ?_
              refine q0 112 331 2 rfl rfl (T_load_b D rfl rfl rfl rfl rfl rfl) rfl ?_
              refine q0 113 347 3 rfl rfl (T_move rfl rfl) rfl ?_
              first | refine q0 114 363 4 rfl rfl (T_indexAddrM D rfl rfl rfl rfl rfl rfl rfl rfl (by first | assumption | omega | (have q := hm (by omega); omega) | (simp only [List.length_set]; omega) | (simp only [List.length_set]; have q := hm (by omega); omega) | (simp; omega))) rfl ?_ | refine q0 114 363 4 rfl rfl (T_indexAddrN D rfl rfl rfl rfl rfl rfl rfl rfl (by first | assumption | omega | (have q := hm (by omega); omega) | (simp only [List.length_set]; omega) | (simp only [List.length_set]; have q := hm (by omega); omega) | (simp; omega)) (by first | assumption | omega | (have q := hm (by omega); omega) | (simp only [List.length_set]; omega) | (simp only [List.length_set]; have q := hm (by omega); omega) | (simp; omega))) rfl ?_
              refine qn 115 379 5 rfl rfl (T_ldN D rfl rfl rfl rfl rfl (by first | assumption | omega | (have q := hm (by omega); omega) | (simp only [List.length_set]; omega) | (simp only [List.length_set]; have q := hm (by omega); omega) | (simp; omega))) rfl ?_
              refine q0 116 395 6 rfl rfl (T_move rfl rfl) rfl ?_
              first | refine q0 117 411 7 rfl rfl (T_indexAddr D rfl rfl rfl rfl rfl rfl rfl rfl (by first | assumption | omega | (have q := hm (by omega); omega) | (simp only [List.length_set]; omega) | (simp only [List.length_set]; have q := hm (by omega); omega) | (simp; omega))) rfl ?_ | refine q0 117 411 7 rfl rfl (T_indexAddrZ D rfl rfl rfl rfl rfl rfl rfl rfl (by first | assumption | omega | (have q := hm (by omega); omega) | (simp only [List.length_set]; omega) | (simp only [List.length_set]; have q := hm (by omega); omega) | (simp; omega)) (by first | assumption | omega | (have q := hm (by omega); omega) | (simp only [List.length_set]; omega) | (simp only [List.length_set]; have q := hm (by omega); omega) | (simp; omega))) rfl ?_
              refine s1 427 8 rfl rfl (T_store_e D (z := _) rfl rfl rfl rfl (flat_v rfl) rfl rfl (by first | assumption | omega | (have q := hm (by omega); omega) | (simp only [List.length_set]; omega) | (simp only [List.length_set]; have q := hm (by omega); omega) | (simp; omega)) (.v rfl (.nil)) rfl (Nat.le_of_ble_eq_true rfl) rfl) rfl ?_
              refine k_done rfl ?_
              refine ⟨_, .step (i := 7) (q := 379) rfl rfl (.refl), ?_⟩
              refine thenK_n ?_
              refine W_seqK (b' := 459) rfl rfl ?_
              refine q0 6 443 1 rfl rfl (T_assign rfl rfl) rfl ?_
              refine k_done rfl ?_
              refine blockK_n ?_
              refine thenK_n ?_
              refine W_seqK (b' := 507) rfl rfl ?_
              refine q0 94 459 1 rfl rfl (T_move rfl rfl) rfl ?_
              refine q0 95 475 2 rfl rfl (T_add64 rfl rfl rfl (by first | assumption | omega | (have q := hm (by omega); omega) | (simp only [List.length_set]; omega) | (simp only [List.length_set]; have q := hm (by omega); omega) | (simp; omega))) rfl ?_
              refine q0 11 491 3 rfl rfl (T_assign rfl rfl) rfl ?_
              refine k_done rfl ?_
              refine thenK_n ?_
              refine ⟨v + 1, by (try dsimp only); omega, by (try dsimp only); omega, ?_⟩
              exact ⟨[(2, 2), (3, 3), (4, 4), (5, 5), (6, 6), (7, 7), (8, 8), (9, 9), (10, 10)], .same rfl rfl (.same rfl rfl (.eq rfl (.same rfl rfl (.same rfl rfl (.eq rfl (.eq rfl (.same rfl rfl (.eq rfl (.nil) (by first | rfl | (exact congrArg (List.map (List.map eB)) (in_yes (by omega) (by assumption) (by assumption))) | (exact congrArg (List.map (List.map eB)) (in_no1 (by assumption))) | (exact congrArg (List.map (List.map eB)) (in_no2 (by omega) (by assumption))) | (rw [fl_yes (o := (rndK f x.2.1 (q + 1)).1.1) (q := q) (by omega) (by assumption) (by assumption)]; first | done | rfl) | (rw [fl_no1 (by assumption)]; first | done | rfl) | (rw [fl_no2 (o := (rndK f x.2.1 (q + 1)).1.1) (q := q) (by omega) (by assumption)]; first | done | rfl)))) rfl) (by first | rfl | (exact congrArg (List.map (List.map eB)) (in_yes (by omega) (by assumption) (by assumption))) | (exact congrArg (List.map (List.map eB)) (in_no1 (by assumption))) | (exact congrArg (List.map (List.map eB)) (in_no2 (by omega) (by assumption))) | (rw [fl_yes (o := (rndK f x.2.1 (q + 1)).1.1) (q := q) (by omega) (by assumption) (by assumption)]; first | done | rfl) | (rw [fl_no1 (by assumption)]; first | done | rfl) | (rw [fl_no2 (o := (rndK f x.2.1 (q + 1)).1.1) (q := q) (by omega) (by assumption)]; first | done | rfl))))) rfl)), .fzE rfl (.box (by first | rfl | (exact congrArg (List.map (List.map eB)) (in_yes (by omega) (by assumption) (by assumption))) | (exact congrArg (List.map (List.map eB)) (in_no1 (by assumption))) | (exact congrArg (List.map (List.map eB)) (in_no2 (by omega) (by assumption))) | (rw [fl_yes (o := (rndK f x.2.1 (q + 1)).1.1) (q := q) (by omega) (by assumption) (by assumption)]; first | done | rfl) | (rw [fl_no1 (by assumption)]; first | done | rfl) | (rw [fl_no2 (o := (rndK f x.2.1 (q + 1)).1.1) (q := q) (by omega) (by assumption)]; first | done | rfl)) (.box (by first | rfl | (exact congrArg (List.map (List.map eB)) (in_yes (by omega) (by assumption) (by assumption))) | (exact congrArg (List.map (List.map eB)) (in_no1 (by assumption))) | (exact congrArg (List.map (List.map eB)) (in_no2 (by omega) (by assumption))) | (rw [fl_yes (o := (rndK f x.2.1 (q + 1)).1.1) (q := q) (by omega) (by assumption) (by assumption)]; first | done | rfl) | (rw [fl_no1 (by assumption)]; first | done | rfl) | (rw [fl_no2 (o := (rndK f x.2.1 (q + 1)).1.1) (q := q) (by omega) (by assumption)]; first | done | rfl)) (.rowE rfl (.rowE rfl (.box (by first | rfl | (exact congrArg (List.map (List.map eB)) (in_yes (by omega) (by assumption) (by assumption))) | (exact congrArg (List.map (List.map eB)) (in_no1 (by assumption))) | (exact congrArg (List.map (List.map eB)) (in_no2 (by omega) (by assumption))) | (rw [fl_yes (o := (rndK f x.2.1 (q + 1)).1.1) (q := q) (by omega) (by assumption) (by assumption)]; first | done | rfl) | (rw [fl_no1 (by assumption)]; first | done | rfl) | (rw [fl_no2 (o := (rndK f x.2.1 (q + 1)).1.1) (q := q) (by omega) (by assumption)]; first | done | rfl)) (.nestE rfl (.nestE rfl (.rowE rfl (.rowE rfl (.nil) (by first | rfl | (exact congrArg (List.map (List.map eB)) (in_yes (by omega) (by assumption) (by assumption))) | (exact congrArg (List.map (List.map eB)) (in_no1 (by assumption))) | (exact congrArg (List.map (List.map eB)) (in_no2 (by omega) (by assumption))) | (rw [fl_yes (o := (rndK f x.2.1 (q + 1)).1.1) (q := q) (by omega) (by assumption) (by assumption)]; first | done | rfl) | (rw [fl_no1 (by assumption)]; first | done | rfl) | (rw [fl_no2 (o := (rndK f x.2.1 (q + 1)).1.1) (q := q) (by omega) (by assumption)]; first | done | rfl))) (by first | rfl | (exact congrArg (List.map (List.map eB)) (in_yes (by omega) (by assumption) (by assumption))) | (exact congrArg (List.map (List.map eB)) (in_no1 (by assumption))) | (exact congrArg (List.map (List.map eB)) (in_no2 (by omega) (by assumption))) | (rw [fl_yes (o := (rndK f x.2.1 (q + 1)).1.1) (q := q) (by omega) (by assumption) (by assumption)]; first | done | rfl) | (rw [fl_no1 (by assumption)]; first | done | rfl) | (rw [fl_no2 (o := (rndK f x.2.1 (q + 1)).1.1) (q := q) (by omega) (by assumption)]; first | done | rfl))) (by first | rfl | (exact congrArg (List.map (List.map eB)) (in_yes (by omega) (by assumption) (by assumption))) | (exact congrArg (List.map (List.map eB)) (in_no1 (by assumption))) | (exact congrArg (List.map (List.map eB)) (in_no2 (by omega) (by assumption))) | (rw [fl_yes (o := (rndK f x.2.1 (q + 1)).1.1) (q := q) (by omega) (by assumption) (by assumption)]; first | done | rfl) | (rw [fl_no1 (by assumption)]; first | done | rfl) | (rw [fl_no2 (o := (rndK f x.2.1 (q + 1)).1.1) (q := q) (by omega) (by assumption)]; first | done | rfl))) (by first | rfl | (exact congrArg (List.map (List.map eB)) (in_yes (by omega) (by assumption) (by assumption))) | (exact congrArg (List.map (List.map eB)) (in_no1 (by assumption))) | (exact congrArg (List.map (List.map eB)) (in_no2 (by omega) (by assumption))) | (rw [fl_yes (o := (rndK f x.2.1 (q + 1)).1.1) (q := q) (by omega) (by assumption) (by assumption)]; first | done | rfl) | (rw [fl_no1 (by assumption)]; first | done | rfl) | (rw [fl_no2 (o := (rndK f x.2.1 (q + 1)).1.1) (q := q) (by omega) (by assumption)]; first | done | rfl)))) (by first | rfl | (exact congrArg (List.map (List.map eB)) (in_yes (by omega) (by assumption) (by assumption))) | (exact congrArg (List.map (List.map eB)) (in_no1 (by assumption))) | (exact congrArg (List.map (List.map eB)) (in_no2 (by omega) (by assumption))) | (rw [fl_yes (o := (rndK f x.2.1 (q + 1)).1.1) (q := q) (by omega) (by assumption) (by assumption)]; first | done | rfl) | (rw [fl_no1 (by assumption)]; first | done | rfl) | (rw [fl_no2 (o := (rndK f x.2.1 (q + 1)).1.1) (q := q) (by omega) (by assumption)]; first | done | rfl))) (by first | rfl | (exact congrArg (List.map (List.map eB)) (in_yes (by omega) (by assumption) (by assumption))) | (exact congrArg (List.map (List.map eB)) (in_no1 (by assumption))) | (exact congrArg (List.map (List.map eB)) (in_no2 (by omega) (by assumption))) | (rw [fl_yes (o := (rndK f x.2.1 (q + 1)).1.1) (q := q) (by omega) (by assumption) (by assumption)]; first | done | rfl) | (rw [fl_no1 (by assumption)]; first | done | rfl) | (rw [fl_no2 (o := (rndK f x.2.1 (q + 1)).1.1) (q := q) (by omega) (by assumption)]; first | done | rfl))))) rfl, rfl⟩
            · have h8 := g8; (try simp only [cmpB, decide_eq_true_eq, decide_eq_false_iff_not, beq_iff_eq, beq_eq_false_iff_ne, bne_iff_ne, ne_eq, bne_eq_false_iff_eq, Bool.not_eq_true', Bool.not_eq_false', Int.not_lt, Int.not_le] at h8)
              refine W_skip ?_
              refine blockK_n ?_
              refine thenK_n ?_
              refine W_seqK (b' := 363) rfl rfl ?_
              refine q0 94 315 1 rfl rfl (T_move rfl rfl) rfl ?_
              refine q0 95 331 2 rfl rfl (T_add64 rfl rfl rfl (by first | assumption | omega | (have q := hm (by omega); omega) | (simp only [List.length_set]; omega) | (simp only [List.length_set]; have q := hm (by omega); omega) | (simp; omega))) rfl ?_
              refine q0 11 347 3 rfl rfl (T_assign rfl rfl) rfl ?_
              refine k_done rfl ?_
              refine thenK_n ?_
              refine ⟨v + 1, by (try dsimp only); omega, by (try dsimp only); omega, ?_⟩
              exact ⟨[(2, 2), (3, 3), (4, 4), (5, 5), (6, 6), (7, 7), (8, 8), (9, 9), (10, 10)], .same rfl rfl (.same rfl rfl (.eq rfl (.same rfl rfl (.same rfl rfl (.eq rfl (.eq rfl (.same rfl rfl (.eq rfl (.nil) (by first | rfl | (exact congrArg (List.map (List.map eB)) (in_yes (by omega) (by assumption) (by assumption))) | (exact congrArg (List.map (List.map eB)) (in_no1 (by assumption))) | (exact congrArg (List.map (List.map eB)) (in_no2 (by omega) (by assumption))) | (rw [fl_yes (o := (rndK f x.2.1 (q + 1)).1.1) (q := q) (by omega) (by assumption) (by assumption)]; first | done | rfl) | (rw [fl_no1 (by assumption)]; first | done | rfl) | (rw [fl_no2 (o := (rndK f x.2.1 (q + 1)).1.1) (q := q) (by omega) (by assumption)]; first | done | rfl)))) rfl) (by first | rfl | (exact congrArg (List.map (List.map eB)) (in_yes (by omega) (by assumption) (by assumption))) | (exact congrArg (List.map (List.map eB)) (in_no1 (by assumption))) | (exact congrArg (List.map (List.map eB)) (in_no2 (by omega) (by assumption))) | (rw [fl_yes (o := (rndK f x.2.1 (q + 1)).1.1) (q := q) (by omega) (by assumption) (by assumption)]; first | done | rfl) | (rw [fl_no1 (by assumption)]; first | done | rfl) | (rw [fl_no2 (o := (rndK f x.2.1 (q + 1)).1.1) (q := q) (by omega) (by assumption)]; first | done | rfl))))) rfl)), .fzE rfl (.box (by first | rfl | (exact congrArg (List.map (List.map eB)) (in_yes (by omega) (by assumption) (by assumption))) | (exact congrArg (List.map (List.map eB)) (in_no1 (by assumption))) | (exact congrArg (List.map (List.map eB)) (in_no2 (by omega) (by assumption))) | (rw [fl_yes (o := (rndK f x.2.1 (q + 1)).1.1) (q := q) (by omega) (by assumption) (by assumption)]; first | done | rfl) | (rw [fl_no1 (by assumption)]; first | done | rfl) | (rw [fl_no2 (o := (rndK f x.2.1 (q + 1)).1.1) (q := q) (by omega) (by assumption)]; first | done | rfl)) (.box (by first | rfl | (exact congrArg (List.map (List.map eB)) (in_yes (by omega) (by assumption) (by assumption))) | (exact congrArg (List.map (List.map eB)) (in_no1 (by assumption))) | (exact congrArg (List.map (List.map eB)) (in_no2 (by omega) (by assumption))) | (rw [fl_yes (o := (rndK f x.2.1 (q + 1)).1.1) (q := q) (by omega) (by assumption) (by assumption)]; first | done | rfl) | (rw [fl_no1 (by assumption)]; first | done | rfl) | (rw [fl_no2 (o := (rndK f x.2.1 (q + 1)).1.1) (q := q) (by omega) (by assumption)]; first | done | rfl)) (.rowE rfl (.rowE rfl (.box (by first | rfl | (exact congrArg (List.map (List.map eB)) (in_yes (by omega) (by assumption) (by assumption))) | (exact congrArg (List.map (List.map eB)) (in_no1 (by assumption))) | (exact congrArg (List.map (List.map eB)) (in_no2 (by omega) (by assumption))) | (rw [fl_yes (o := (rndK f x.2.1 (q + 1)).1.1) (q := q) (by omega) (by assumption) (by assumption)]; first | done | rfl) | (rw [fl_no1 (by assumption)]; first | done | rfl) | (rw [fl_no2 (o := (rndK f x.2.1 (q + 1)).1.1) (q := q) (by omega) (by assumption)]; first | done | rfl)) (.nestE rfl (.nestE rfl (.rowE rfl (.rowE rfl (.nil) (by first | rfl | (exact congrArg (List.map (List.map eB)) (in_yes (by omega) (by assumption) (by assumption))) | (exact congrArg (List.map (List.map eB)) (in_no1 (by assumption))) | (exact congrArg (List.map (List.map eB)) (in_no2 (by omega) (by assumption))) | (rw [fl_yes (o := (rndK f x.2.1 (q + 1)).1.1) (q := q) (by omega) (by assumption) (by assumption)]; first | done | rfl) | (rw [fl_no1 (by assumption)]; first | done | rfl) | (rw [fl_no2 (o := (rndK f x.2.1 (q + 1)).1.1) (q := q) (by omega) (by assumption)]; first | done | rfl))) (by first | rfl | (exact congrArg (List.map (List.map eB)) (in_yes (by omega) (by assumption) (by assumption))) | (exact congrArg (List.map (List.map eB)) (in_no1 (by assumption))) | (exact congrArg (List.map (List.map eB)) (in_no2 (by omega) (by assumption))) | (rw [fl_yes (o := (rndK f x.2.1 (q + 1)).1.1) (q := q) (by omega) (by assumption) (by assumption)]; first | done | rfl) | (rw [fl_no1 (by assumption)]; first | done | rfl) | (rw [fl_no2 (o := (rndK f x.2.1 (q + 1)).1.1) (q := q) (by omega) (by assumption)]; first | done | rfl))) (by first | rfl | (exact congrArg (List.map (List.map eB)) (in_yes (by omega) (by assumption) (by assumption))) | (exact congrArg (List.map (List.map eB)) (in_no1 (by assumption))) | (exact congrArg (List.map (List.map eB)) (in_no2 (by omega) (by assumption))) | (rw [fl_yes (o := (rndK f x.2.1 (q + 1)).1.1) (q := q) (by omega) (by assumption) (by assumption)]; first | done | rfl) | (rw [fl_no1 (by assumption)]; first | done | rfl) | (rw [fl_no2 (o := (rndK f x.2.1 (q + 1)).1.1) (q := q) (by omega) (by assumption)]; first | done | rfl))) (by first | rfl | (exact congrArg (List.map (List.map eB)) (in_yes (by omega) (by assumption) (by assumption))) | (exact congrArg (List.map (List.map eB)) (in_no1 (by assumption))) | (exact congrArg (List.map (List.map eB)) (in_no2 (by omega) (by assumption))) | (rw [fl_yes (o := (rndK f x.2.1 (q + 1)).1.1) (q := q) (by omega) (by assumption) (by assumption)]; first | done | rfl) | (rw [fl_no1 (by assumption)]; first | done | rfl) | (rw [fl_no2 (o := (rndK f x.2.1 (q + 1)).1.1) (q := q) (by omega) (by assumption)]; first | done | rfl)))) (by first | rfl | (exact congrArg (List.map (List.map eB)) (in_yes (by omega) (by assumption) (by assumption))) | (exact congrArg (List.map (List.map eB)) (in_no1 (by assumption))) | (exact congrArg (List.map (List.map eB)) (in_no2 (by omega) (by assumption))) | (rw [fl_yes (o := (rndK f x.2.1 (q + 1)).1.1) (q := q) (by omega) (by assumption) (by assumption)]; first | done | rfl) | (rw [fl_no1 (by assumption)]; first | done | rfl) | (rw [fl_no2 (o := (rndK f x.2.1 (q + 1)).1.1) (q := q) (by omega) (by assumption)]; first | done | rfl))) (by first | rfl | (exact congrArg (List.map (List.map eB)) (in_yes (by omega) (by assumption) (by assumption))) | (exact congrArg (List.map (List.map eB)) (in_no1 (by assumption))) | (exact congrArg (List.map (List.map eB)) (in_no2 (by omega) (by assumption))) | (rw [fl_yes (o := (rndK f x.2.1 (q + 1)).1.1) (q := q) (by omega) (by assumption) (by assumption)]; first | done | rfl) | (rw [fl_no1 (by assumption)]; first | done | rfl) | (rw [fl_no2 (o := (rndK f x.2.1 (q + 1)).1.1) (q := q) (by omega) (by assumption)]; first | done | rfl))))) rfl, rfl⟩
          · have h7 := g7; (try simp only [cmpB, decide_eq_true_eq, decide_eq_false_iff_not, beq_iff_eq, beq_eq_false_iff_ne, bne_iff_ne, ne_eq, bne_eq_false_iff_eq, Bool.not_eq_true', Bool.not_eq_false', Int.not_lt, Int.not_le] at h7)
            refine k_no (d := 101) (j' := 6) rfl rfl rfl (g_tf rfl rfl rfl g7) ?_
            refine k_no (d := 102) (j' := 7) rfl rfl rfl (g_tf rfl rfl rfl g7) ?_
            refine k_no (d := 103) (j' := 8) rfl rfl rfl (g_tf rfl rfl rfl g7) ?_
            refine k_no (d := 104) (j' := 9) rfl rfl rfl (g_tf rfl rfl rfl g7) ?_
            refine k_no (d := 105) (j' := 10) rfl rfl rfl (g_tf rfl rfl rfl g7) ?_
            refine k_no (d := 106) (j' := 11) rfl rfl rfl (g_tf rfl rfl rfl g7) ?_
            refine k_no (d := 107) (j' := 12) rfl rfl rfl (g_tf rfl rfl rfl g7) ?_
            refine k_no (d := 108) (j' := 13) rfl rfl rfl (g_tf rfl rfl rfl g7) ?_
            refine k_no (d := 109) (j' := 14) rfl rfl rfl (g_tf rfl rfl rfl g7) ?_
            refine q0 110 299 15 rfl rfl (T_pick_f rfl rfl rfl g7) rfl ?_
            refine k_done rfl ?_
            refine ⟨_, .refl, ?_⟩
            refine thenK_n ?_
            refine W_cond rfl (fun g9 => ?_) (fun g9 => ?_)
            · exact absurd (g9.symm.trans rfl) (by decide)
            · skip
              refine W_skip ?_
              refine blockK_n ?_
              refine thenK_n ?_
              refine W_seqK (b' := 363) rfl rfl ?_
              refine q0 94 315 1 rfl rfl (T_move rfl rfl) rfl ?_
              refine q0 95 331 2 rfl rfl (T_add64 rfl rfl rfl (by first | assumption | omega | (have q := hm (by omega); omega) | (simp only [List.length_set]; omega) | (simp only [List.length_set]; have q := hm (by omega); omega) | (simp; omega))) rfl ?_
              refine q0 11 347 3 rfl rfl (T_assign rfl rfl) rfl ?_
              refine k_done rfl ?_
              refine thenK_n ?_
              refine ⟨v + 1, by (try dsimp only); omega, by (try dsimp only); omega, ?_⟩
              exact ⟨[(2, 2), (3, 3), (4, 4), (5, 5), (6, 6), (7, 7), (8, 8), (9, 9), (10, 10)], .same rfl rfl (.same rfl rfl (.eq rfl (.same rfl rfl (.same rfl rfl (.eq rfl (.eq rfl (.same rfl rfl (.eq rfl (.nil) (by first | rfl | (exact congrArg (List.map (List.map eB)) (in_yes (by omega) (by assumption) (by assumption))) | (exact congrArg (List.map (List.map eB)) (in_no1 (by assumption))) | (exact congrArg (List.map (List.map eB)) (in_no2 (by omega) (by assumption))) | (rw [fl_yes (o := (rndK f x.2.1 (q + 1)).1.1) (q := q) (by omega) (by assumption) (by assumption)]; first | done | rfl) | (rw [fl_no1 (by assumption)]; first | done | rfl) | (rw [fl_no2 (o := (rndK f x.2.1 (q + 1)).1.1) (q := q) (by omega) (by assumption)]; first | done | rfl)))) rfl) (by first | rfl | (exact congrArg (List.map (List.map eB)) (in_yes (by omega) (by assumption) (by assumption))) | (exact congrArg (List.map (List.map eB)) (in_no1 (by assumption))) | (exact congrArg (List.map (List.map eB)) (in_no2 (by omega) (by assumption))) | (rw [fl_yes (o := (rndK f x.2.1 (q + 1)).1.1) (q := q) (by omega) (by assumption) (by assumption)]; first | done | rfl) | (rw [fl_no1 (by assumption)]; first | done | rfl) | (rw [fl_no2 (o := (rndK f x.2.1 (q + 1)).1.1) (q := q) (by omega) (by assumption)]; first | done | rfl))))) rfl)), .fzE rfl (.box (by first | rfl | (exact congrArg (List.map (List.map eB)) (in_yes (by omega) (by assumption) (by assumption))) | (exact congrArg (List.map (List.map eB)) (in_no1 (by assumption))) | (exact congrArg (List.map (List.map eB)) (in_no2 (by omega) (by assumption))) | (rw [fl_yes (o := (rndK f x.2.1 (q + 1)).1.1) (q := q) (by omega) (by assumption) (by assumption)]; first | done | rfl) | (rw [fl_no1 (by assumption)]; first | done | rfl) | (rw [fl_no2 (o := (rndK f x.2.1 (q + 1)).1.1) (q := q) (by omega) (by assumption)]; first | done | rfl)) (.box (by first | rfl | (exact congrArg (List.map (List.map eB)) (in_yes (by omega) (by assumption) (by assumption))) | (exact congrArg (List.map (List.map eB)) (in_no1 (by assumption))) | (exact congrArg (List.map (List.map eB)) (in_no2 (by omega) (by assumption))) | (rw [fl_yes (o := (rndK f x.2.1 (q + 1)).1.1) (q := q) (by omega) (by assumption) (by assumption)]; first | done | rfl) | (rw [fl_no1 (by assumption)]; first | done | rfl) | (rw [fl_no2 (o := (rndK f x.2.1 (q + 1)).1.1) (q := q) (by omega) (by assumption)]; first | done | rfl)) (.rowE rfl (.rowE rfl (.box (by first | rfl | (exact congrArg (List.map (List.map eB)) (in_yes (by omega) (by assumption) (by assumption))) | (exact congrArg (List.map (List.map eB)) (in_no1 (by assumption))) | (exact congrArg (List.map (List.map eB)) (in_no2 (by omega) (by assumption))) | (rw [fl_yes (o := (rndK f x.2.1 (q + 1)).1.1) (q := q) (by omega) (by assumption) (by assumption)]; first | done | rfl) | (rw [fl_no1 (by assumption)]; first | done | rfl) | (rw [fl_no2 (o := (rndK f x.2.1 (q + 1)).1.1) (q := q) (by omega) (by assumption)]; first | done | rfl)) (.nestE rfl (.nestE rfl (.rowE rfl (.rowE rfl (.nil) (by first | rfl | (exact congrArg (List.map (List.map eB)) (in_yes (by omega) (by assumption) (by assumption))) | (exact congrArg (List.map (List.map eB)) (in_no1 (by assumption))) | (exact congrArg (List.map (List.map eB)) (in_no2 (by omega) (by assumption))) | (rw [fl_yes (o := (rndK f x.2.1 (q + 1)).1.1) (q := q) (by omega) (by assumption) (by assumption)]; first | done | rfl) | (rw [fl_no1 (by assumption)]; first | done | rfl) | (rw [fl_no2 (o := (rndK f x.2.1 (q + 1)).1.1) (q := q) (by omega) (by assumption)]; first | done | rfl))) (by first | rfl | (exact congrArg (List.map (List.map eB)) (in_yes (by omega) (by assumption) (by assumption))) | (exact congrArg (List.map (List.map eB)) (in_no1 (by assumption))) | (exact congrArg (List.map (List.map eB)) (in_no2 (by omega) (by assumption))) | (rw [fl_yes (o := (rndK f x.2.1 (q + 1)).1.1) (q := q) (by omega) (by assumption) (by assumption)]; first | done | rfl) | (rw [fl_no1 (by assumption)]; first | done | rfl) | (rw [fl_no2 (o := (rndK f x.2.1 (q + 1)).1.1) (q := q) (by omega) (by assumption)]; first | done | rfl))) (by first | rfl | (exact congrArg (List.map (List.map eB)) (in_yes (by omega) (by assumption) (by assumption))) | (exact congrArg (List.map (List.map eB)) (in_no1 (by assumption))) | (exact congrArg (List.map (List.map eB)) (in_no2 (by omega) (by assumption))) | (rw [fl_yes (o := (rndK f x.2.1 (q + 1)).1.1) (q := q) (by omega) (by assumption) (by assumption)]; first | done | rfl) | (rw [fl_no1 (by assumption)]; first | done | rfl) | (rw [fl_no2 (o := (rndK f x.2.1 (q + 1)).1.1) (q := q) (by omega) (by assumption)]; first | done | rfl))) (by first | rfl | (exact congrArg (List.map (List.map eB)) (in_yes (by omega) (by assumption) (by assumption))) | (exact congrArg (List.map (List.map eB)) (in_no1 (by assumption))) | (exact congrArg (List.map (List.map eB)) (in_no2 (by omega) (by assumption))) | (rw [fl_yes (o := (rndK f x.2.1 (q + 1)).1.1) (q := q) (by omega) (by assumption) (by assumption)]; first | done | rfl) | (rw [fl_no1 (by assumption)]; first | done | rfl) | (rw [fl_no2 (o := (rndK f x.2.1 (q + 1)).1.1) (q := q) (by omega) (by assumption)]; first | done | rfl)))) (by first | rfl | (exact congrArg (List.map (List.map eB)) (in_yes (by omega) (by assumption) (by assumption))) | (exact congrArg (List.map (List.map eB)) (in_no1 (by assumption))) | (exact congrArg (List.map (List.map eB)) (in_no2 (by omega) (by assumption))) | (rw [fl_yes (o := (rndK f x.2.1 (q + 1)).1.1) (q := q) (by omega) (by assumption) (by assumption)]; first | done | rfl) | (rw [fl_no1 (by assumption)]; first | done | rfl) | (rw [fl_no2 (o := (rndK f x.2.1 (q + 1)).1.1) (q := q) (by omega) (by assumption)]; first | done | rfl))) (by first | rfl | (exact congrArg (List.map (List.map eB)) (in_yes (by omega) (by assumption) (by assumption))) | (exact congrArg (List.map (List.map eB)) (in_no1 (by assumption))) | (exact congrArg (List.map (List.map eB)) (in_no2 (by omega) (by assumption))) | (rw [fl_yes (o := (rndK f x.2.1 (q + 1)).1.1) (q := q) (by omega) (by assumption) (by assumption)]; first | done | rfl) | (rw [fl_no1 (by assumption)]; first | done | rfl) | (rw [fl_no2 (o := (rndK f x.2.1 (q + 1)).1.1) (q := q) (by omega) (by assumption)]; first | done | rfl))))) rfl, rfl⟩
        · have h6 := c_lss_f g6
          refine W_exit ?_
          refine thenK_e ?_
          refine thenK_e ?_
          refine blockK_hit ?_
          refine blockK_n ?_
          refine thenK_n ?_
          refine W_seqK (b' := 123) rfl rfl ?_
          refine q0 31 75 1 rfl rfl (T_move rfl rfl) rfl ?_
          refine q0 32 91 2 rfl rfl (T_sub64 rfl rfl rfl (by first | assumption | omega | (have q := hm (by omega); omega) | (simp only [List.length_set]; omega) | (simp only [List.length_set]; have q := hm (by omega); omega) | (simp; omega))) rfl ?_
          refine q0 7 107 3 rfl rfl (T_assign rfl rfl) rfl ?_
          refine k_done rfl ?_
          refine thenK_n ?_
          refine ⟨q, by (try dsimp only); omega, by (try dsimp only); omega, ?_⟩
          exact ⟨[(2, 2), (3, 3), (4, 4), (5, 5), (6, 6), (7, 7), (8, 8), (9, 9)], .same rfl rfl (.same rfl rfl (.eq rfl (.same rfl rfl (.same rfl rfl (.eq rfl (.eq rfl (.nil) (by first | rfl | (exact congrArg (List.map (List.map eB)) (in_fin (m := m) (v := v) (by omega) (by omega) (by omega) (by rw [thrS_len]; omega))) | (exact congrArg (List.map (List.map eB)) (out_fin (m := m) (by omega) (by omega))) | (rw [fl_fin (q := q) (x := x.2.1) (m := m) (v := v) (by omega) (by omega) (by omega) (by rw [thrS_len]; omega)]; first | done | rfl))) (by first | rfl | (exact congrArg (List.map (List.map eB)) (in_fin (m := m) (v := v) (by omega) (by omega) (by omega) (by rw [thrS_len]; omega))) | (exact congrArg (List.map (List.map eB)) (out_fin (m := m) (by omega) (by omega))) | (rw [fl_fin (q := q) (x := x.2.1) (m := m) (v := v) (by omega) (by omega) (by omega) (by rw [thrS_len]; omega)]; first | done | rfl))))) rfl)), .fzE rfl (.box (by first | rfl | (exact congrArg (List.map (List.map eB)) (in_fin (m := m) (v := v) (by omega) (by omega) (by omega) (by rw [thrS_len]; omega))) | (exact congrArg (List.map (List.map eB)) (out_fin (m := m) (by omega) (by omega))) | (rw [fl_fin (q := q) (x := x.2.1) (m := m) (v := v) (by omega) (by omega) (by omega) (by rw [thrS_len]; omega)]; first | done | rfl)) (.box (by first | rfl | (exact congrArg (List.map (List.map eB)) (in_fin (m := m) (v := v) (by omega) (by omega) (by omega) (by rw [thrS_len]; omega))) | (exact congrArg (List.map (List.map eB)) (out_fin (m := m) (by omega) (by omega))) | (rw [fl_fin (q := q) (x := x.2.1) (m := m) (v := v) (by omega) (by omega) (by omega) (by rw [thrS_len]; omega)]; first | done | rfl)) (.rowE rfl (.rowE rfl (.box (by first | rfl | (exact congrArg (List.map (List.map eB)) (in_fin (m := m) (v := v) (by omega) (by omega) (by omega) (by rw [thrS_len]; omega))) | (exact congrArg (List.map (List.map eB)) (out_fin (m := m) (by omega) (by omega))) | (rw [fl_fin (q := q) (x := x.2.1) (m := m) (v := v) (by omega) (by omega) (by omega) (by rw [thrS_len]; omega)]; first | done | rfl)) (.nestE rfl (.nestE rfl (.rowE rfl (.nil) (by first | rfl | (exact congrArg (List.map (List.map eB)) (in_fin (m := m) (v := v) (by omega) (by omega) (by omega) (by rw [thrS_len]; omega))) | (exact congrArg (List.map (List.map eB)) (out_fin (m := m) (by omega) (by omega))) | (rw [fl_fin (q := q) (x := x.2.1) (m := m) (v := v) (by omega) (by omega) (by omega) (by rw [thrS_len]; omega)]; first | done | rfl))) (by first | rfl | (exact congrArg (List.map (List.map eB)) (in_fin (m := m) (v := v) (by omega) (by omega) (by omega) (by rw [thrS_len]; omega))) | (exact congrArg (List.map (List.map eB)) (out_fin (m := m) (by omega) (by omega))) | (rw [fl_fin (q := q) (x := x.2.1) (m := m) (v := v) (by omega) (by omega) (by omega) (by rw [thrS_len]; omega)]; first | done | rfl))) (by first | rfl | (exact congrArg (List.map (List.map eB)) (in_fin (m := m) (v := v) (by omega) (by omega) (by omega) (by rw [thrS_len]; omega))) | (exact congrArg (List.map (List.map eB)) (out_fin (m := m) (by omega) (by omega))) | (rw [fl_fin (q := q) (x := x.2.1) (m := m) (v := v) (by omega) (by omega) (by omega) (by rw [thrS_len]; omega)]; first | done | rfl)))) (by first | rfl | (exact congrArg (List.map (List.map eB)) (in_fin (m := m) (v := v) (by omega) (by omega) (by omega) (by rw [thrS_len]; omega))) | (exact congrArg (List.map (List.map eB)) (out_fin (m := m) (by omega) (by omega))) | (rw [fl_fin (q := q) (x := x.2.1) (m := m) (v := v) (by omega) (by omega) (by omega) (by rw [thrS_len]; omega)]; first | done | rfl))) (by first | rfl | (exact congrArg (List.map (List.map eB)) (in_fin (m := m) (v := v) (by omega) (by omega) (by omega) (by rw [thrS_len]; omega))) | (exact congrArg (List.map (List.map eB)) (out_fin (m := m) (by omega) (by omega))) | (rw [fl_fin (q := q) (x := x.2.1) (m := m) (v := v) (by omega) (by omega) (by omega) (by rw [thrS_len]; omega)]; first | done | rfl))))) rfl, rfl⟩
    · have h2 := c_geq_f g2
      refine W_exit ?_
      refine thenK_e ?_
      refine thenK_e ?_
      refine blockK_hit ?_
      refine blockK_n ?_
      refine thenK_n ?_
      refine ⟨(x.1 - 1, (rndK f x.2.1 0).1, (rndK f x.2.1 0).2), by (try dsimp only); (have e : k = 0 := (by omega); subst e; exact hX.round (by assumption)), by (try dsimp only); exact hX.mu (by assumption), ?_⟩
      exact ⟨[(2, 2), (3, 3), (4, 4), (5, 5), (6, 6), (7, 7), (8, 8), (9, 9)], .same rfl rfl (.same rfl rfl (.eq rfl (.same rfl rfl (.same rfl rfl (.eq rfl (.nil) (by first | rfl | (have e : k = 0 := (by omega); subst e; first | done | rfl))))) rfl)), .fzE rfl (.box (by first | rfl | (have e : k = 0 := (by omega); subst e; first | done | rfl)) (.box (by first | rfl | (have e : k = 0 := (by omega); subst e; first | done | rfl)) (.rowE rfl (.rowE rfl (.box (by first | rfl | (have e : k = 0 := (by omega); subst e; first | done | rfl)) (.nestE rfl (.nestE rfl (.rowE rfl (.nil) (by first | rfl | (have e : k = 0 := (by omega); subst e; first | done | rfl))) (by first | rfl | (have e : k = 0 := (by omega); subst e; first | done | rfl))) (by first | rfl | (have e : k = 0 := (by omega); subst e; first | done | rfl)))) (by first | rfl | (have e : k = 0 := (by omega); subst e; first | done | rfl))) (by first | rfl | (have e : k = 0 := (by omega); subst e; first | done | rfl))))) rfl, rfl⟩
  · have h1 := g1; (try simp only [cmpB, decide_eq_true_eq, decide_eq_false_iff_not, beq_iff_eq, beq_eq_false_iff_ne, bne_iff_ne, ne_eq, bne_eq_false_iff_eq, Bool.not_eq_true', Bool.not_eq_false', Int.not_lt, Int.not_le] at h1)
    refine W_exit ?_
    refine thenK_e ?_
    refine thenK_e ?_
    refine blockK_hit ?_
    refine thenK_n ?_
    refine W_seq ?_
    refine W_seqK (b' := 58) rfl rfl ?_
    refine q0 118 26 1 rfl rfl (T_load_bA D (l := [_, _]) rfl rfl rfl rfl rfl rfl rfl) rfl ?_
    refine s1 42 2 rfl rfl (T_stB D (cs' := [_, _]) rfl rfl rfl rfl flat_agg rfl rfl (Nat.le_of_ble_eq_true rfl) rfl) rfl ?_
    refine k_done rfl ?_
    refine thenK_n ?_
    refine W_ret ?_
    exact .mk [(2, 7), (3, 8)] (.inr rfl) (.cellA rfl rfl rfl rfl rfl (.nil)) (by first | rfl | (rw [hX.fin (by assumption)]; exact nestRows_eBs _) | (rw [hX.fin (by assumption)]; first | done | rfl)) (.lendNE rfl (.lendNE rfl (.nil) (by first | rfl | (rw [hX.fin (by assumption)]; exact nestRows_eBs _) | (rw [hX.fin (by assumption)]; first | done | rfl))) (by first | rfl | (rw [hX.fin (by assumption)]; exact nestRows_eBs _) | (rw [hX.fin (by assumption)]; first | done | rfl))) rfl
end Lg
end Go.Proofs.Ytpfhmodjjljpjaa

namespace Go.Proofs.Ytpfhmodjjljpjaa
open Go.RowKit
namespace Lg
set_option linter.unusedSimpArgs false
set_option linter.unusedVariables false
theorem withinB_iff {i n : Int} : withinB i n = true ↔ 0 ≤ i ∧ i < n := by unfold withinB; simp
theorem one_all {f : GFn} {i w : Int} (h : oneB f i w = true) : (0 ≤ f.regs ∧ f.regs ≤ 4000 ∧ f.blocks ≠ []) ∧ ∀ b ∈ f.blocks, endsB b f.blocks.length f.regs = true ∧ ∀ t ∈ b.ins, FitsP t i f.regs w := by
  unfold oneB at h
  simp only [Bool.and_eq_true, decide_eq_true_eq, List.all_eq_true] at h
  refine ⟨h.1, fun b hb => ?_⟩
  have h1 := h.2 b hb
  unfold blockB at h1
  simp only [Bool.and_eq_true, List.all_eq_true] at h1
  exact ⟨h1.1, fun t ht => of_decide_eq_true (h1.2 t ht)⟩
theorem tok_of {t : GTac} {i r w : Int} (h : FitsP t i r w) (hr : 0 ≤ r) : TOk r.toNat t := by
  refine ⟨fun hs => ?_, fun u hu => ?_⟩
  · have h1 := setsT_ge hs
    have h2 := withinB_iff.1 (h.2.1 h1)
    unfold setsT
    rw [if_pos h1]; omega
  · have h2 := withinB_iff.1 (h.2.2.1 u hu)
    omega
theorem follows_in {b : GBlock} {n r : Int} (h : endsB b n r = true) : (∀ x ∈ follows b, 0 ≤ x ∧ x < n) ∧ (b.fin = 2 → 0 ≤ b.v ∧ b.v < r) ∧ (b.fin = 1 ∨ b.fin = 2 ∨ b.fin = 3) := by
  unfold endsB at h
  unfold follows
  by_cases h1 : b.fin = 1
  · rw [if_pos h1] at h ⊢
    simp only [Bool.and_eq_true] at h
    exact ⟨fun x hx => by simp at hx; subst hx; exact withinB_iff.1 h.1.1, fun h2 => by omega, .inl h1⟩
  · rw [if_neg h1] at h ⊢
    by_cases h2 : b.fin = 2
    · rw [if_pos h2] at h ⊢
      simp only [Bool.and_eq_true] at h
      exact ⟨fun x hx => by
        simp at hx
        rcases hx with rfl | rfl
        · exact withinB_iff.1 h.1.1
        · exact withinB_iff.1 h.1.2, fun _ => withinB_iff.1 h.2, .inr (.inl h2)⟩
    · rw [if_neg h2] at h ⊢
      simp only [Bool.and_eq_true, beq_iff_eq] at h
      exact ⟨fun x hx => (by cases hx), fun h => absurd h h2, .inr (.inr h.1.1.1)⟩
theorem lf_of {f : GFn} {i w : Int} (h : oneB f i w = true) (hl : f.blocks.length ≤ 1000) (hi : ∀ b ∈ f.blocks, b.ins.length ≤ 1000) : LF f := by
  obtain ⟨h1, h2⟩ := one_all h
  refine ⟨hl, ⟨h1.1, h1.2.1⟩, hi, fun b hb => ⟨fun t ht => tok_of ((h2 b hb).2 t ht) h1.1, fun hf => ?_⟩, fun b hb => (follows_in (h2 b hb).1).1⟩
  have := (follows_in (h2 b hb).1).2.1 hf
  omega
def aloneP (f : GFn) : GProg := ⟨16, [f]⟩
theorem alone_ok {f : GFn} (h : FnOk f) : PgOk (aloneP f) := ⟨by simp [aloneP], fun g hg => by simp [aloneP] at hg; subst hg; exact h⟩
theorem alone_one {f : GFn} (h : rightB (aloneP f) = true) : oneB f 0 16 = true := by
  unfold rightB at h
  simp only [Bool.and_eq_true, List.all_eq_true] at h
  have := h.2 0 (by simp [aloneP])
  simpa [aloneP] using this
def small27 (f : GFn) (x y : Int) : Bool := decide ((f.blocks.length : Int) ≤ x) && (decide (f.regs ≤ 40) && (decide (0 ≤ f.regs) && (decide ((sumLen (insOf f) : Int) ≤ y) && rightB (aloneP f))))
theorem small27_iff {f : GFn} {x y : Int} : small27 f x y = true ↔ (f.blocks.length : Int) ≤ x ∧ f.regs ≤ 40 ∧ 0 ≤ f.regs ∧ (sumLen (insOf f) : Int) ≤ y ∧ rightB (aloneP f) = true := by
  unfold small27
  simp only [Bool.and_eq_true, decide_eq_true_eq]
theorem small27_no {f : GFn} {x y : Int} (h : ¬ ((f.blocks.length : Int) ≤ x ∧ f.regs ≤ 40 ∧ 0 ≤ f.regs ∧ (sumLen (insOf f) : Int) ≤ y)) : false = small27 f x y := by
  cases h1 : small27 f x y
  · rfl
  · have := small27_iff.1 h1
    exact absurd ⟨this.1, this.2.1, this.2.2.1, this.2.2.2.1⟩ h
theorem small27_eq {f : GFn} {x y : Int} (h1 : (f.blocks.length : Int) ≤ x) (h2 : f.regs ≤ 40) (h3 : 0 ≤ f.regs) (h4 : (sumLen (insOf f) : Int) ≤ y) : rightB (aloneP f) = small27 f x y := by
  unfold small27
  rw [decide_eq_true h1, decide_eq_true h2, decide_eq_true h3, decide_eq_true h4]; rfl
theorem insOf_take_len {f : GFn} {j : Nat} (h : j < f.blocks.length) : sumLen ((insOf f).take (j + 1)) = sumLen ((insOf f).take j) + (f.blocks.getD j default).ins.length := by
  rw [sumLen_take _ j (by simpa [insOf] using h)]
  simp [insOf, List.getD_eq_getElem?_getD, h]
theorem insOf_le {f : GFn} {b : GBlock} (hb : b ∈ f.blocks) : b.ins.length ≤ sumLen (insOf f) := by
  obtain ⟨k, hk, rfl⟩ := mem_getD hb
  have h1 := insOf_take_len hk
  have h2 := sumLen_take_le (insOf f) (k + 1)
  omega
structure S27 (f : GFn) : Prop where
  lf : LF f
  len : f.blocks.length ≤ 12
  regs : 0 ≤ f.regs ∧ f.regs ≤ 40
  sum : sumLen (insOf f) ≤ 60
  ins : ∀ b ∈ f.blocks, b.ins.length ≤ 60
  one : oneB f 0 16 = true
  pos : 0 < f.blocks.length
theorem s27 {f : GFn} (h : small27 f 12 60 = true) : S27 f := by
  obtain ⟨h1, h2, h3, h4, h5⟩ := small27_iff.1 h
  have h6 := alone_one h5
  have hi : ∀ b ∈ f.blocks, b.ins.length ≤ 60 := fun b hb => by have := insOf_le hb; omega
  exact ⟨lf_of h6 (by omega) (fun b hb => by have := hi b hb; omega), by omega, ⟨h3, h2⟩, by omega, hi, h6, List.length_pos_iff.2 (one_all h6).1.2.2⟩
theorem fill_back' {α : Type} [Inhabited α] (L : List α) (d z : α) {q : Nat} (h0 : 0 < q) (h : q ≤ L.length) (hz : z = L.getD (q - 1) default) : (List.replicate q d ++ L.drop q).set ((q : Int) - 1).toNat z = List.replicate (q - 1) d ++ L.drop (q - 1) := by
  obtain ⟨p, rfl⟩ : ∃ p, q = p + 1 := ⟨q - 1, by omega⟩
  rw [show (((p + 1 : Nat) : Int) - 1).toNat = p by omega]
  exact fill_back L d z (by omega) (by simpa using hz)
end Lg
end Go.Proofs.Ytpfhmodjjljpjaa

namespace Go.Proofs.Ytpfhmodjjljpjaa
end Go.Proofs.Ytpfhmodjjljpjaa

namespace Go.Proofs.Ytpfhmodjjljpjaa
open Go.RowKit
namespace Lg
set_option maxRecDepth 100000
set_option linter.unusedVariables false
set_option linter.unusedSimpArgs false
theorem body58 : (Try.prog.funcs[58]?).map (fun fn => (fn.name == "runtime.NumGoroutine" || fn.body.isNone)) = some false := by kernel_rfl
theorem beh_spec (f : GFn) (li lo : List (List Bool)) (k : Int) (hF : LF f) (hkk : 0 ≤ k ∧ k < (f.blocks.length : Int)) (hS : SzL f lo) : Spec Try.prog 58 [.agg [.v (.int .i64 f.regs), .r 1], .agg [.r 2, .r 3], .v (.int .i64 k)] 4 [(1, .fz 5 (f.blocks.map eBlock)), (2, .fz 1 (li.map eBs)), (3, .fz 1 (lo.map eBs))] (.r 4) 5 [(4, .fz 1 ((behL (f.blocks.getD k.toNat default) (lo.getD k.toNat default)).map eBs))] := by
  have hFr := hF.regs
  have hSl := hS.len
  have hob : (lo.getD k.toNat default).length = f.regs.toNat := hS.at (k := k.toNat) (by omega)
  have hBi := hF.ins (f.blocks.getD k.toNat default) (getD_mem (by omega))
  have hBo : BOk (lo.getD k.toNat default).length (f.blocks.getD k.toNat default) := by rw [hob]; exact hF.ok _ (getD_mem (by omega))
  have hbl := behL_len (f.blocks.getD k.toNat default) (lo.getD k.toNat default)
  refine spec_of D (fn := Try.f58) rfl rfl (Nat.le_of_ble_eq_true rfl) ?_
  refine W_seq ?_
  refine W_seqK (b' := 52) rfl rfl ?_
  refine q1 3 4 1 rfl rfl (T_box rfl rfl flat_agg) rfl ?_
  refine q1 4 20 2 rfl rfl (T_box rfl rfl flat_agg) rfl ?_
  refine q1 6 36 3 rfl rfl (T_nils [(48, 1)] (T_assign rfl rfl) rfl (.inr ⟨rfl, rfl⟩) (.cons (.nil rfl) .nil) (lv' := .r 36) (upd' := [(36, .row 48 1 (List.map eBs ([] : List (List Bool))))]) (nn' := 1) rfl rfl) rfl ?_
  refine k_done rfl ?_
  refine thenK_n ?_
  refine W_seq ?_
  refine W_seqK (b' := 164) rfl rfl ?_
  refine q0 12 52 1 rfl rfl (T_fa D (m := 1) rfl rfl rfl rfl rfl rfl) rfl ?_
  refine q0 13 68 2 rfl rfl (T_load_b D rfl rfl rfl rfl rfl rfl) rfl ?_
  refine q0 14 84 3 rfl rfl (T_move rfl rfl) rfl ?_
  first | refine q0 15 100 4 rfl rfl (T_indexAddr D rfl rfl rfl rfl rfl rfl rfl rfl (by first | assumption | omega | (simp; omega))) rfl ?_ | refine q0 15 100 4 rfl rfl (T_indexAddrZ D rfl rfl rfl rfl rfl rfl rfl rfl (by first | assumption | omega | (simp; omega)) (by first | assumption | omega | (simp; omega))) rfl ?_
  refine q1 16 116 5 rfl rfl (T_ldEA D (l := [.r 116, .v _, .v _, .v _, .v _]) (nn := 1) (upd := [(116, .fz 8 _)]) rfl rfl rfl rfl rfl (by first | assumption | omega | (simp; omega)) rfl rfl rfl rfl rfl) rfl ?_
  refine qn 7 132 6 rfl rfl (T_nilbox [(70, 8)] (T_alloc D rfl rfl rfl) rfl (.cons (.nil rfl) <| .cons (.same _) <| .cons (.same _) <| .cons (.same _) <| .cons (.same _) <| .nil) (upd' := [(132, .box 72 [.r 133, .v (.int .i64 0), .v (.int .i64 0), .v (.int .i64 0), .v (.int .i64 0)]), (133, .row 70 8 (List.map eTac ([] : List (GTac))))]) (nn' := 2) rfl rfl) rfl ?_
  refine s1 148 7 rfl rfl (T_stB D (cs' := [_, _, _, _, _]) rfl rfl rfl rfl flat_agg rfl rfl (Nat.le_of_ble_eq_true rfl) rfl) rfl ?_
  refine k_done rfl ?_
  refine thenK_n ?_
  refine W_seq ?_
  refine W_anyK (b' := 308) rfl rfl rfl ?_
  refine q0 17 164 1 rfl rfl (T_load_bA D (l := [_, _, _, _, _]) rfl rfl rfl rfl rfl rfl rfl) rfl ?_
  refine q0 18 180 2 rfl rfl (T_fa D (m := 1) rfl rfl rfl rfl rfl rfl) rfl ?_
  refine q0 19 196 3 rfl rfl (T_load_b D rfl rfl rfl rfl rfl rfl) rfl ?_
  refine q0 20 212 4 rfl rfl (T_move rfl rfl) rfl ?_
  first | refine q0 21 228 5 rfl rfl (T_indexAddr D rfl rfl rfl rfl rfl rfl rfl rfl (by first | assumption | omega | (simp; omega))) rfl ?_ | refine q0 21 228 5 rfl rfl (T_indexAddrZ D rfl rfl rfl rfl rfl rfl rfl rfl (by first | assumption | omega | (simp; omega)) (by first | assumption | omega | (simp; omega))) rfl ?_
  refine q1 22 244 6 rfl rfl (T_ldE D (lv := .r 244) (nn := 1) (upd := [(244, .fz 1 _)]) rfl rfl rfl rfl rfl (by first | assumption | omega | (simp; omega)) rfl rfl rfl rfl) rfl ?_
  refine q1 23 260 7 rfl rfl (T_callR (lvs := [_, _]) (L := [(1, 116), (2, 244)]) (keep := false) (end_spec (f.blocks.getD k.toNat default) (lo.getD k.toNat default) (by omega) hBo.2) body102 rfl rfl rfl rfl (.fz rfl (.fz rfl (.nil))) rfl (.inl rfl) rfl) rfl ?_
  refine qn 8 276 8 rfl rfl (T_nilbox [(4, 1)] (T_alloc D rfl rfl rfl) rfl (.cons (.nil rfl) <| .nil) (upd' := [(276, .box 124 [.r 277]), (277, .row 4 1 (List.map eB ([] : List (Bool))))]) (nn' := 2) rfl rfl) rfl ?_
  refine s1 292 9 rfl rfl (T_stB D (cs' := [_]) rfl rfl rfl rfl (flat_sl rfl) rfl rfl (Nat.le_of_ble_eq_true rfl) rfl) rfl ?_
  refine k_done rfl ?_
  refine ⟨rfl, ?_⟩
  refine thenK_n ?_
  refine W_seq ?_
  refine W_seqK (b' := 404) rfl rfl ?_
  refine q0 24 308 1 rfl rfl (T_fa D (m := 0) rfl rfl rfl rfl rfl rfl) rfl ?_
  refine q0 25 324 2 rfl rfl (T_load_b D rfl rfl rfl rfl rfl rfl) rfl ?_
  refine q0 26 340 3 rfl rfl (T_len D rfl rfl rfl rfl rfl rfl) rfl ?_
  refine q1 27 356 4 rfl rfl (T_makeN D (e2 := 4) (sz2 := 1) rfl rfl rfl rfl rfl rfl rfl rfl (by simp) (by (try simp only [ty48]); first | assumption | omega | (simp; omega)) (by (try simp only [ty48]); first | assumption | omega | (simp; omega))) rfl ?_
  refine qn 9 372 5 rfl rfl (T_nilbox [(48, 1)] (T_alloc D rfl rfl rfl) rfl (.cons (.nil rfl) <| .nil) (upd' := [(372, .box 55 [.r 373]), (373, .row 48 1 (List.map eBs ([] : List (List Bool))))]) (nn' := 2) rfl rfl) rfl ?_
  refine s1 388 6 rfl rfl (T_stB D (cs' := [_]) rfl rfl rfl rfl (flat_nest rfl) rfl rfl (Nat.le_of_ble_eq_true rfl) rfl) rfl ?_
  refine k_done rfl ?_
  refine thenK_n ?_
  refine W_seq ?_
  refine W_seq ?_
  refine W_seqK (b' := 452) rfl rfl ?_
  refine q0 28 404 1 rfl rfl (T_fa D (m := 0) rfl rfl rfl rfl rfl rfl) rfl ?_
  refine q0 29 420 2 rfl rfl (T_load_b D rfl rfl rfl rfl rfl rfl) rfl ?_
  refine q1 30 436 3 rfl rfl (T_call (lvs := [_]) (L := [(1, 116)]) (lv := .fn 129 [.p 436 0]) (upd := [(436, .box 67 [.r 116])]) (nn := 1) false (backt_spec (f.blocks.getD k.toNat default).ins) body103 rfl rfl rfl rfl (.fz rfl (.nil)) rfl (.inl rfl) rfl rfl rfl) rfl ?_
  refine k_done rfl ?_
  refine thenK_n ?_
  refine W_block ?_
  refine W_range (b0 := 10) iter129 (ι := Nat) (enc := eTac) (xs := (f.blocks.getD k.toNat default).ins) 67 8 9 [(8, .p 4 0), (9, .p 6 0), (30, .fn 129 [.p 8 0])] (fun i => [(1, .fz 5 (f.blocks.map eBlock)), (2, .fz 1 (li.map eBs)), (3, .fz 1 (lo.map eBs)), (4, .box 124 [.r 5]), (5, .row 4 1 ((thrK (f.blocks.getD k.toNat default) (lo.getD k.toNat default) i).map eB)), (6, .box 55 [.r 7]), (7, .nest 48 4 1 ((List.replicate i [] ++ (behL (f.blocks.getD k.toNat default) (lo.getD k.toNat default)).drop i).map (List.map eB)) none), (8, .box 67 [.r 9]), (9, .fz 8 ((f.blocks.getD k.toNat default).ins.map eTac))]) (fun q i => i = q) ((f.blocks.getD k.toNat default).ins.length) (by rfl) ?_ rfl rfl (by simp only [maxLen]; omega) (fun _ _ => ⟨rfl, Nat.le_of_ble_eq_true rfl⟩) (fun _ => rfl) (fun _ => rfl) rfl rfl (fun args w => by rfl) (fun q i l hk hJ => ?_) (fun i hJ => ?_)
  · exact ⟨[(4, 276), (5, 260), (6, 372), (7, 356), (8, 436), (9, 116)], .same rfl rfl (.same rfl rfl (.same rfl rfl (.nil))), .fzE rfl (.fzE rfl (.fzE rfl (.box (by first | rfl | (rw [thrK_end _ _ (Nat.le_refl _)]; first | done | rfl) | (rw [List.drop_of_length_le (by omega)]; simp; done)) (.rowE rfl (.box (by first | rfl | (rw [thrK_end _ _ (Nat.le_refl _)]; first | done | rfl) | (rw [List.drop_of_length_le (by omega)]; simp; done)) (.nestE rfl (.box (by first | rfl | (rw [thrK_end _ _ (Nat.le_refl _)]; first | done | rfl) | (rw [List.drop_of_length_le (by omega)]; simp; done)) (.fzE rfl (.nil) (by first | rfl | (rw [thrK_end _ _ (Nat.le_refl _)]; first | done | rfl) | (rw [List.drop_of_length_le (by omega)]; simp; done)))) (by first | rfl | (rw [thrK_end _ _ (Nat.le_refl _)]; first | done | rfl) | (rw [List.drop_of_length_le (by omega)]; simp; done)))) (by first | rfl | (rw [thrK_end _ _ (Nat.le_refl _)]; first | done | rfl) | (rw [List.drop_of_length_le (by omega)]; simp; done)))) (by first | rfl | (rw [thrK_end _ _ (Nat.le_refl _)]; first | done | rfl) | (rw [List.drop_of_length_le (by omega)]; simp; done))) (by first | rfl | (rw [thrK_end _ _ (Nat.le_refl _)]; first | done | rfl) | (rw [List.drop_of_length_le (by omega)]; simp; done))) (by first | rfl | (rw [thrK_end _ _ (Nat.le_refl _)]; first | done | rfl) | (rw [List.drop_of_length_le (by omega)]; simp; done)), rfl⟩
  · skip
    show W (some l) _ _ _ _ 106 ⟨[(32, .agg [.v (.int .i64 ((f.blocks.getD k.toNat default).ins.getD q default).op), .v (.int .i64 ((f.blocks.getD k.toNat default).ins.getD q default).d), .v (.int .i64 ((f.blocks.getD k.toNat default).ins.getD q default).a), .v (.int .i64 ((f.blocks.getD k.toNat default).ins.getD q default).b), .v (.int .i64 ((f.blocks.getD k.toNat default).ins.getD q default).k), .v (.int .i64 ((f.blocks.getD k.toNat default).ins.getD q default).base), .v (.int .i64 ((f.blocks.getD k.toNat default).ins.getD q default).size), .v (.int .u32 ((f.blocks.getD k.toNat default).ins.getD q default).n)]), (31, .v (.int .i64 (q : Int))), (8, .p 4 0), (9, .p 6 0), (30, .fn 129 [.p 8 0])], [(1, .fz 5 (f.blocks.map eBlock)), (2, .fz 1 (li.map eBs)), (3, .fz 1 (lo.map eBs)), (4, .box 124 [.r 5]), (5, .row 4 1 ((thrK (f.blocks.getD k.toNat default) (lo.getD k.toNat default) i).map eB)), (6, .box 55 [.r 7]), (7, .nest 48 4 1 ((List.replicate i [] ++ (behL (f.blocks.getD k.toNat default) (lo.getD k.toNat default)).drop i).map (List.map eB)) none), (8, .box 67 [.r 9]), (9, .fz 8 ((f.blocks.getD k.toNat default).ins.map eTac))]⟩ _
    subst hJ
    refine W_seq ?_
    refine W_seqK (b' := 122) rfl rfl ?_
    refine q0 10 106 1 rfl rfl (T_assign rfl rfl) rfl ?_
    refine k_done rfl ?_
    refine thenK_n ?_
    refine W_seqK (b' := 154) rfl rfl ?_
    refine q1 11 122 1 rfl rfl (T_alloc D rfl rfl rfl) rfl ?_
    refine s1 138 2 rfl rfl (T_stB D (cs' := [_, _, _, _, _, _, _, _]) rfl rfl rfl rfl flat_agg rfl rfl (Nat.le_of_ble_eq_true rfl) rfl) rfl ?_
    refine k_done rfl ?_
    refine ⟨rfl, ?_⟩
    refine W_block ?_
    refine W_seq ?_
    refine W_anyK (b' := 250) rfl rfl rfl ?_
    refine q0 33 154 1 rfl rfl (T_load_b D rfl rfl rfl rfl rfl rfl) rfl ?_
    refine q0 34 170 2 rfl rfl (T_move rfl rfl) rfl ?_
    refine q0 35 186 3 rfl rfl (T_load_b D rfl rfl rfl rfl rfl rfl) rfl ?_
    refine q1 36 202 4 rfl rfl (T_callR (lvs := [_]) (L := [(1, 5)]) (keep := true) (clone_spec (thrK (f.blocks.getD k.toNat default) (lo.getD k.toNat default) (q + 1)) (by rw [thrK_len]; omega)) body104 rfl rfl rfl rfl (.lend rfl (.nil)) rfl (.inr (flat_eB _)) rfl) rfl ?_
    first | refine q0 37 218 5 rfl rfl (T_indexAddrM D rfl rfl rfl rfl rfl rfl rfl rfl (by first | assumption | omega | (simp; omega))) rfl ?_ | refine q0 37 218 5 rfl rfl (T_indexAddrN D rfl rfl rfl rfl rfl rfl rfl rfl (by first | assumption | omega | (simp; omega)) (by first | assumption | omega | (simp; omega))) rfl ?_
    refine sn 234 6 rfl rfl (T_stN D rfl rfl rfl rfl rfl rfl rfl rfl (by first | assumption | omega | (simp; omega)) (.inl rfl)) rfl ?_
    refine k_done rfl ?_
    refine ⟨rfl, ?_⟩
    refine thenK_n ?_
    refine W_seqK (b' := 298) rfl rfl ?_
    refine q0 38 250 1 rfl rfl (T_load_b D rfl rfl rfl rfl rfl rfl) rfl ?_
    refine q0 39 266 2 rfl rfl (T_load_bA D (l := [_, _, _, _, _, _, _, _]) rfl rfl rfl rfl rfl rfl rfl) rfl ?_
    refine q1 40 282 3 rfl rfl (T_call (lvs := [_, _]) (L := [(1, 5)]) (lv := .tup []) (upd := [(5, .row 4 1 _)]) (nn := 0) false (ahead_spec (thrK (f.blocks.getD k.toNat default) (lo.getD k.toNat default) (q + 1)) ((f.blocks.getD k.toNat default).ins.getD q default) (by rw [thrK_len]; omega) (by rw [thrK_len]; exact hBo.1 _ (getD_mem hk))) body105 rfl rfl rfl rfl (.row rfl (.nil)) rfl (.inl rfl) rfl rfl rfl) rfl ?_
    refine k_done rfl ?_
    refine blockK_n ?_
    refine ⟨rfl, q, by (try dsimp only); all_goals rfl, ?_⟩
    exact ⟨[], .nil, .fzE rfl (.fzE rfl (.fzE rfl (.box (by first | rfl | (rw [thrK_step (f.blocks.getD k.toNat default) (lo.getD k.toNat default) hk]; first | done | rfl) | (exact congrArg (List.map (List.map eB)) (fill_back (behL (f.blocks.getD k.toNat default) (lo.getD k.toNat default)) [] _ (by omega) (behL_getD _ _ hk).symm))) (.rowE rfl (.box (by first | rfl | (rw [thrK_step (f.blocks.getD k.toNat default) (lo.getD k.toNat default) hk]; first | done | rfl) | (exact congrArg (List.map (List.map eB)) (fill_back (behL (f.blocks.getD k.toNat default) (lo.getD k.toNat default)) [] _ (by omega) (behL_getD _ _ hk).symm))) (.nestE rfl (.box (by first | rfl | (rw [thrK_step (f.blocks.getD k.toNat default) (lo.getD k.toNat default) hk]; first | done | rfl) | (exact congrArg (List.map (List.map eB)) (fill_back (behL (f.blocks.getD k.toNat default) (lo.getD k.toNat default)) [] _ (by omega) (behL_getD _ _ hk).symm))) (.fzE rfl (.nil) rfl)) (by first | rfl | (rw [thrK_step (f.blocks.getD k.toNat default) (lo.getD k.toNat default) hk]; first | done | rfl) | (exact congrArg (List.map (List.map eB)) (fill_back (behL (f.blocks.getD k.toNat default) (lo.getD k.toNat default)) [] _ (by omega) (behL_getD _ _ hk).symm))))) (by first | rfl | (rw [thrK_step (f.blocks.getD k.toNat default) (lo.getD k.toNat default) hk]; first | done | rfl) | (exact congrArg (List.map (List.map eB)) (fill_back (behL (f.blocks.getD k.toNat default) (lo.getD k.toNat default)) [] _ (by omega) (behL_getD _ _ hk).symm))))) rfl) rfl) rfl, rfl⟩
  · skip
    subst hJ
    refine blockK_n ?_
    refine thenK_n ?_
    refine W_seq ?_
    refine W_seqK (b' := 42) rfl rfl ?_
    refine q0 41 10 1 rfl rfl (T_load_b D rfl rfl rfl rfl rfl rfl) rfl ?_
    refine q0 6 26 2 rfl rfl (T_assign rfl rfl) rfl ?_
    refine k_done rfl ?_
    refine thenK_n ?_
    refine W_ret ?_
    exact .mk [(4, 7)] (.inr rfl) (.tmp rfl (.nil)) rfl (.lendNE rfl (.nil) (by first | rfl | (exact nestRows_eBs _))) rfl
theorem body59 : (Try.prog.funcs[59]?).map (fun fn => (fn.name == "runtime.NumGoroutine" || fn.body.isNone)) = some false := by kernel_rfl
theorem rbeh_spec (f : GFn) (li lo : List (List Bool)) (k : Int) (hF : LF f) (hkk : 0 ≤ k ∧ k < (f.blocks.length : Int)) (hS : SzL f lo) : Spec Try.prog 59 [.agg [.v (.int .i64 f.regs), .r 1], .agg [.r 2, .r 3], .v (.int .i64 k)] 4 [(1, .fz 5 (f.blocks.map eBlock)), (2, .fz 1 (li.map eBs)), (3, .fz 1 (lo.map eBs))] (.r 4) 5 [(4, .fz 1 ((behL (f.blocks.getD k.toNat default) (lo.getD k.toNat default)).map eBs))] := by
  have hFr := hF.regs
  have hSl := hS.len
  have hob : (lo.getD k.toNat default).length = f.regs.toNat := hS.at (k := k.toNat) (by omega)
  have hBi := hF.ins (f.blocks.getD k.toNat default) (getD_mem (by omega))
  have hBo : BOk (lo.getD k.toNat default).length (f.blocks.getD k.toNat default) := by rw [hob]; exact hF.ok _ (getD_mem (by omega))
  have hbl := behL_len (f.blocks.getD k.toNat default) (lo.getD k.toNat default)
  refine spec_of D (fn := Try.f59) rfl rfl (Nat.le_of_ble_eq_true rfl) ?_
  refine W_seq ?_
  refine W_seqK (b' := 52) rfl rfl ?_
  refine q1 3 4 1 rfl rfl (T_box rfl rfl flat_agg) rfl ?_
  refine q1 4 20 2 rfl rfl (T_box rfl rfl flat_agg) rfl ?_
  refine q1 6 36 3 rfl rfl (T_nils [(48, 1)] (T_assign rfl rfl) rfl (.inr ⟨rfl, rfl⟩) (.cons (.nil rfl) .nil) (lv' := .r 36) (upd' := [(36, .row 48 1 (List.map eBs ([] : List (List Bool))))]) (nn' := 1) rfl rfl) rfl ?_
  refine k_done rfl ?_
  refine thenK_n ?_
  refine W_seq ?_
  refine W_seqK (b' := 164) rfl rfl ?_
  refine q0 11 52 1 rfl rfl (T_fa D (m := 1) rfl rfl rfl rfl rfl rfl) rfl ?_
  refine q0 12 68 2 rfl rfl (T_load_b D rfl rfl rfl rfl rfl rfl) rfl ?_
  refine q0 13 84 3 rfl rfl (T_move rfl rfl) rfl ?_
  first | refine q0 14 100 4 rfl rfl (T_indexAddr D rfl rfl rfl rfl rfl rfl rfl rfl (by first | assumption | omega | (simp only [List.length_append, List.length_replicate, List.length_drop]; omega) | (simp; omega))) rfl ?_ | refine q0 14 100 4 rfl rfl (T_indexAddrZ D rfl rfl rfl rfl rfl rfl rfl rfl (by first | assumption | omega | (simp only [List.length_append, List.length_replicate, List.length_drop]; omega) | (simp; omega)) (by first | assumption | omega | (simp only [List.length_append, List.length_replicate, List.length_drop]; omega) | (simp; omega))) rfl ?_
  refine q1 15 116 5 rfl rfl (T_ldEA D (l := [.r 116, .v _, .v _, .v _, .v _]) (nn := 1) (upd := [(116, .fz 8 _)]) rfl rfl rfl rfl rfl (by first | assumption | omega | (simp only [List.length_append, List.length_replicate, List.length_drop]; omega) | (simp; omega)) rfl rfl rfl rfl rfl) rfl ?_
  refine qn 7 132 6 rfl rfl (T_nilbox [(70, 8)] (T_alloc D rfl rfl rfl) rfl (.cons (.nil rfl) <| .cons (.same _) <| .cons (.same _) <| .cons (.same _) <| .cons (.same _) <| .nil) (upd' := [(132, .box 72 [.r 133, .v (.int .i64 0), .v (.int .i64 0), .v (.int .i64 0), .v (.int .i64 0)]), (133, .row 70 8 (List.map eTac ([] : List (GTac))))]) (nn' := 2) rfl rfl) rfl ?_
  refine s1 148 7 rfl rfl (T_stB D (cs' := [_, _, _, _, _]) rfl rfl rfl rfl flat_agg rfl rfl (Nat.le_of_ble_eq_true rfl) rfl) rfl ?_
  refine k_done rfl ?_
  refine thenK_n ?_
  refine W_seq ?_
  refine W_seqK (b' := 244) rfl rfl ?_
  refine q0 16 164 1 rfl rfl (T_fa D (m := 0) rfl rfl rfl rfl rfl rfl) rfl ?_
  refine q0 17 180 2 rfl rfl (T_load_b D rfl rfl rfl rfl rfl rfl) rfl ?_
  refine q0 18 196 3 rfl rfl (T_len D rfl rfl rfl rfl rfl rfl) rfl ?_
  refine q1 19 212 4 rfl rfl (T_make D (zx := ([] : List Bool)) (enc := eBs) rfl rfl rfl rfl rfl rfl rfl (.z (.nil)) rfl (by (try simp only [ty48]); first | assumption | omega | (simp only [List.length_append, List.length_replicate, List.length_drop]; omega) | (simp; omega)) (by (try simp only [ty48]); first | assumption | omega | (simp only [List.length_append, List.length_replicate, List.length_drop]; omega) | (simp; omega))) rfl ?_
  refine q0 8 228 5 rfl rfl (T_assign rfl rfl) rfl ?_
  refine k_done rfl ?_
  refine thenK_n ?_
  refine W_seq ?_
  refine W_anyK (b' := 372) rfl rfl rfl ?_
  refine q0 20 244 1 rfl rfl (T_load_bA D (l := [_, _, _, _, _]) rfl rfl rfl rfl rfl rfl rfl) rfl ?_
  refine q0 21 260 2 rfl rfl (T_fa D (m := 1) rfl rfl rfl rfl rfl rfl) rfl ?_
  refine q0 22 276 3 rfl rfl (T_load_b D rfl rfl rfl rfl rfl rfl) rfl ?_
  refine q0 23 292 4 rfl rfl (T_move rfl rfl) rfl ?_
  first | refine q0 24 308 5 rfl rfl (T_indexAddr D rfl rfl rfl rfl rfl rfl rfl rfl (by first | assumption | omega | (simp only [List.length_append, List.length_replicate, List.length_drop]; omega) | (simp; omega))) rfl ?_ | refine q0 24 308 5 rfl rfl (T_indexAddrZ D rfl rfl rfl rfl rfl rfl rfl rfl (by first | assumption | omega | (simp only [List.length_append, List.length_replicate, List.length_drop]; omega) | (simp; omega)) (by first | assumption | omega | (simp only [List.length_append, List.length_replicate, List.length_drop]; omega) | (simp; omega))) rfl ?_
  refine q1 25 324 6 rfl rfl (T_ldE D (lv := .r 324) (nn := 1) (upd := [(324, .fz 1 _)]) rfl rfl rfl rfl rfl (by first | assumption | omega | (simp only [List.length_append, List.length_replicate, List.length_drop]; omega) | (simp; omega)) rfl rfl rfl rfl) rfl ?_
  refine q1 26 340 7 rfl rfl (T_callR (lvs := [_, _]) (L := [(1, 116), (2, 324)]) (keep := false) (rlast_spec (f.blocks.getD k.toNat default) (lo.getD k.toNat default) (by omega) hBo.2) body106 rfl rfl rfl rfl (.fz rfl (.fz rfl (.nil))) rfl (.inl rfl) rfl) rfl ?_
  refine q0 9 356 8 rfl rfl (T_assign rfl rfl) rfl ?_
  refine k_done rfl ?_
  refine ⟨rfl, ?_⟩
  refine thenK_n ?_
  refine W_seq ?_
  refine W_seq ?_
  refine W_seqK (b' := 452) rfl rfl ?_
  refine q0 27 372 1 rfl rfl (T_fa D (m := 0) rfl rfl rfl rfl rfl rfl) rfl ?_
  refine q0 28 388 2 rfl rfl (T_load_b D rfl rfl rfl rfl rfl rfl) rfl ?_
  refine q0 29 404 3 rfl rfl (T_len D rfl rfl rfl rfl rfl rfl) rfl ?_
  refine q0 30 420 4 rfl rfl (T_sub64 rfl rfl rfl (by first | assumption | omega | (simp only [List.length_append, List.length_replicate, List.length_drop]; omega) | (simp; omega))) rfl ?_
  refine q0 10 436 5 rfl rfl (T_assign rfl rfl) rfl ?_
  refine k_done rfl ?_
  refine thenK_n ?_
  refine W_block ?_
  refine W_loop (ι := Nat) 8 (fun q => ⟨[(7, .p 4 0), (8, .r 6), (9, .r 7), (10, .v (.int .i64 ((q : Int) - 1)))], [(1, .fz 5 (f.blocks.map eBlock)), (2, .fz 1 (li.map eBs)), (3, .fz 1 (lo.map eBs)), (4, .box 72 [.r 5, .v (.int .i64 (f.blocks.getD k.toNat default).fin), .v (.int .i64 (f.blocks.getD k.toNat default).v), .v (.int .i64 (f.blocks.getD k.toNat default).to), .v (.int .i64 (f.blocks.getD k.toNat default).els)]), (5, .fz 8 ((f.blocks.getD k.toNat default).ins.map eTac)), (6, .row 48 1 ((List.replicate q [] ++ (behL (f.blocks.getD k.toNat default) (lo.getD k.toNat default)).drop q).map eBs)), (7, .row 4 1 ((thrK (f.blocks.getD k.toNat default) (lo.getD k.toNat default) q).map eB))]⟩) (fun q => q ≤ (f.blocks.getD k.toNat default).ins.length) (fun q => q) ((f.blocks.getD k.toNat default).ins.length) (by exact Nat.le_refl _) ?_ (fun q hJ => ?_)
  · exact ⟨[(4, 132), (5, 116), (6, 212), (7, 340)], .same rfl rfl (.same rfl rfl (.same rfl rfl (.eq rfl (.nil) (by first | rfl | (rw [thrK_end _ _ (Nat.le_refl _)]; first | done | rfl) | (refine congrArg (List.map eBs) ?_; rw [List.drop_of_length_le (by omega)]; simp; done))))), .fzE rfl (.fzE rfl (.fzE rfl (.box (by first | rfl | (rw [thrK_end _ _ (Nat.le_refl _)]; first | done | rfl) | (refine congrArg (List.map eBs) ?_; rw [List.drop_of_length_le (by omega)]; simp; done)) (.fzE rfl (.rowE rfl (.rowE rfl (.nil) (by first | rfl | (rw [thrK_end _ _ (Nat.le_refl _)]; first | done | rfl) | (refine congrArg (List.map eBs) ?_; rw [List.drop_of_length_le (by omega)]; simp; done))) (by first | rfl | (rw [thrK_end _ _ (Nat.le_refl _)]; first | done | rfl) | (refine congrArg (List.map eBs) ?_; rw [List.drop_of_length_le (by omega)]; simp; done))) (by first | rfl | (rw [thrK_end _ _ (Nat.le_refl _)]; first | done | rfl) | (refine congrArg (List.map eBs) ?_; rw [List.drop_of_length_le (by omega)]; simp; done)))) (by first | rfl | (rw [thrK_end _ _ (Nat.le_refl _)]; first | done | rfl) | (refine congrArg (List.map eBs) ?_; rw [List.drop_of_length_le (by omega)]; simp; done))) (by first | rfl | (rw [thrK_end _ _ (Nat.le_refl _)]; first | done | rfl) | (refine congrArg (List.map eBs) ?_; rw [List.drop_of_length_le (by omega)]; simp; done))) (by first | rfl | (rw [thrK_end _ _ (Nat.le_refl _)]; first | done | rfl) | (refine congrArg (List.map eBs) ?_; rw [List.drop_of_length_le (by omega)]; simp; done)), rfl⟩
  refine W_seq ?_
  refine W_seq ?_
  refine W_seqK (b' := 40) rfl rfl ?_
  refine q0 31 8 1 rfl rfl (T_move rfl rfl) rfl ?_
  refine q0 32 24 2 rfl rfl (T_cmp rfl rfl rfl rfl) rfl ?_
  refine k_done rfl ?_
  refine thenK_n ?_
  refine W_cond rfl (fun g1 => ?_) (fun g1 => ?_)
  · have h1 := c_geq_t g1
    refine W_skip ?_
    refine thenK_n ?_
    refine W_seq ?_
    refine W_block ?_
    refine W_seq ?_
    refine W_seqK (b' := 120) rfl rfl ?_
    refine q0 35 40 1 rfl rfl (T_move rfl rfl) rfl ?_
    refine q0 36 56 2 rfl rfl (T_move rfl rfl) rfl ?_
    refine q0 37 72 3 rfl rfl (T_move rfl rfl) rfl ?_
    first | refine q0 38 88 4 rfl rfl (T_indexAddr D rfl rfl rfl rfl rfl rfl rfl rfl (by first | assumption | omega | (simp only [List.length_append, List.length_replicate, List.length_drop]; omega) | (simp; omega))) rfl ?_ | refine q0 38 88 4 rfl rfl (T_indexAddrZ D rfl rfl rfl rfl rfl rfl rfl rfl (by first | assumption | omega | (simp only [List.length_append, List.length_replicate, List.length_drop]; omega) | (simp; omega)) (by first | assumption | omega | (simp only [List.length_append, List.length_replicate, List.length_drop]; omega) | (simp; omega))) rfl ?_
    refine sn 104 5 rfl rfl (T_store_e D (z := _) rfl rfl rfl rfl (flat_sl rfl) rfl rfl (by first | assumption | omega | (simp only [List.length_append, List.length_replicate, List.length_drop]; omega) | (simp; omega)) (.row rfl (.nil) (by rfl)) rfl (Nat.le_of_ble_eq_true rfl) rfl) rfl ?_
    refine k_done rfl ?_
    refine thenK_n ?_
    refine W_seqK (b' := 248) rfl rfl ?_
    refine q0 39 120 1 rfl rfl (T_fa D (m := 0) rfl rfl rfl rfl rfl rfl) rfl ?_
    refine q0 40 136 2 rfl rfl (T_load_b D rfl rfl rfl rfl rfl rfl) rfl ?_
    refine q0 41 152 3 rfl rfl (T_move rfl rfl) rfl ?_
    first | refine q0 42 168 4 rfl rfl (T_indexAddr D rfl rfl rfl rfl rfl rfl rfl rfl (by first | assumption | omega | (simp only [List.length_append, List.length_replicate, List.length_drop]; omega) | (simp; omega))) rfl ?_ | refine q0 42 168 4 rfl rfl (T_indexAddrZ D rfl rfl rfl rfl rfl rfl rfl rfl (by first | assumption | omega | (simp only [List.length_append, List.length_replicate, List.length_drop]; omega) | (simp; omega)) (by first | assumption | omega | (simp only [List.length_append, List.length_replicate, List.length_drop]; omega) | (simp; omega))) rfl ?_
    refine q0 43 184 5 rfl rfl (T_ldEA D (l := [.v _, .v _, .v _, .v _, .v _, .v _, .v _, .v _]) (nn := 0) (upd := []) rfl rfl rfl rfl rfl (by first | assumption | omega | (simp only [List.length_append, List.length_replicate, List.length_drop]; omega) | (simp; omega)) rfl rfl rfl rfl rfl) rfl ?_
    refine q0 44 200 6 rfl rfl (T_move rfl rfl) rfl ?_
    refine q1 45 216 7 rfl rfl (T_callR (lvs := [_, _]) (L := [(1, 7)]) (keep := false) (back_spec ((f.blocks.getD k.toNat default).ins.getD ((q : Int) - 1).toNat default) (thrK (f.blocks.getD k.toNat default) (lo.getD k.toNat default) q) (by rw [thrK_len]; omega) (by rw [thrK_len]; exact hBo.1 _ (getD_mem (by omega)))) body107 rfl rfl rfl rfl (.fz rfl (.nil)) rfl (.inl rfl) rfl) rfl ?_
    refine q0 9 232 8 rfl rfl (T_assign rfl rfl) rfl ?_
    refine k_done rfl ?_
    refine blockK_n ?_
    refine thenK_n ?_
    refine W_seqK (b' := 296) rfl rfl ?_
    refine q0 33 248 1 rfl rfl (T_move rfl rfl) rfl ?_
    refine q0 34 264 2 rfl rfl (T_sub64 rfl rfl rfl (by first | assumption | omega | (simp only [List.length_append, List.length_replicate, List.length_drop]; omega) | (simp; omega))) rfl ?_
    refine q0 10 280 3 rfl rfl (T_assign rfl rfl) rfl ?_
    refine k_done rfl ?_
    refine thenK_n ?_
    have hek : ((q - 1 : Nat) : Int) = (q : Int) - 1 := by omega
    refine ⟨q - 1, by (try dsimp only); omega, by (try dsimp only); omega, ?_⟩
    exact ⟨[(4, 4), (5, 5), (6, 6), (7, 216)], .same rfl rfl (.same rfl rfl (.same rfl rfl (.eq rfl (.nil) (by first | rfl | (rw [hek]; first | done | rfl) | (rw [thrK_prev (f.blocks.getD k.toNat default) (lo.getD k.toNat default) (by omega) (by omega)]; first | done | rfl) | (exact congrArg (List.map eBs) (fill_back' (behL (f.blocks.getD k.toNat default) (lo.getD k.toNat default)) [] _ (by omega) (by omega) (by rw [behL_getD _ _ (by omega), show q - 1 + 1 = q by omega]))))))), .fzE rfl (.fzE rfl (.fzE rfl (.box (by first | rfl | (rw [hek]; first | done | rfl) | (rw [thrK_prev (f.blocks.getD k.toNat default) (lo.getD k.toNat default) (by omega) (by omega)]; first | done | rfl) | (exact congrArg (List.map eBs) (fill_back' (behL (f.blocks.getD k.toNat default) (lo.getD k.toNat default)) [] _ (by omega) (by omega) (by rw [behL_getD _ _ (by omega), show q - 1 + 1 = q by omega])))) (.fzE rfl (.rowE rfl (.rowE rfl (.nil) (by first | rfl | (rw [hek]; first | done | rfl) | (rw [thrK_prev (f.blocks.getD k.toNat default) (lo.getD k.toNat default) (by omega) (by omega)]; first | done | rfl) | (exact congrArg (List.map eBs) (fill_back' (behL (f.blocks.getD k.toNat default) (lo.getD k.toNat default)) [] _ (by omega) (by omega) (by rw [behL_getD _ _ (by omega), show q - 1 + 1 = q by omega]))))) (by first | rfl | (rw [hek]; first | done | rfl) | (rw [thrK_prev (f.blocks.getD k.toNat default) (lo.getD k.toNat default) (by omega) (by omega)]; first | done | rfl) | (exact congrArg (List.map eBs) (fill_back' (behL (f.blocks.getD k.toNat default) (lo.getD k.toNat default)) [] _ (by omega) (by omega) (by rw [behL_getD _ _ (by omega), show q - 1 + 1 = q by omega]))))) rfl)) rfl) rfl) rfl, rfl⟩
  · have h1 := c_geq_f g1
    refine W_exit ?_
    refine thenK_e ?_
    refine thenK_e ?_
    refine blockK_hit ?_
    refine thenK_n ?_
    refine W_seq ?_
    refine W_seqK (b' := 72) rfl rfl ?_
    refine q0 46 40 1 rfl rfl (T_move rfl rfl) rfl ?_
    refine q0 6 56 2 rfl rfl (T_assign rfl rfl) rfl ?_
    refine k_done rfl ?_
    refine thenK_n ?_
    refine W_ret ?_
    exact .mk [(4, 6)] (.inr rfl) (.tmp rfl (.nil)) rfl (.lendE rfl (.nil) (by first | rfl | (have e : q = 0 := (by omega); subst e; first | done | rfl))) rfl
end Lg
end Go.Proofs.Ytpfhmodjjljpjaa

namespace Go.Proofs.Ytpfhmodjjljpjaa
open Go.RowKit
namespace Lg
set_option linter.unusedSimpArgs false
set_option linter.unusedVariables false
def Sub (s t : List Bool) : Prop := ∀ i, s.getD i default = true → t.getD i default = true
theorem Sub.refl (s : List Bool) : Sub s s := fun _ h => h
theorem Sub.trans {a b c : List Bool} (h : Sub a b) (k : Sub b c) : Sub a c := fun i hi => k i (h i hi)
theorem getD_lt {s : List Bool} {i : Nat} (h : s.getD i default = true) : i < s.length := by
  rcases Nat.lt_or_ge i s.length with hi | hi
  · exact hi
  · rw [List.getD, List.getElem?_eq_none hi] at h; cases h
theorem sub_within {s t : List Bool} (h : Sub s t) : withinS s t = true := withinS_iff.2 fun i _ hi => h i hi
theorem within_sub {s t : List Bool} (h : withinS s t = true) : Sub s t := fun i hi => withinS_iff.1 h i (getD_lt hi) hi
theorem setAll_get : ∀ (l : List Int) (s : List Bool) (i : Nat), (l.foldl (fun s (u : Int) => s.set u.toNat true) s).getD i default = true ↔ i < s.length ∧ ((∃ u ∈ l, u.toNat = i) ∨ s.getD i default = true)
  | [], s, i => ⟨fun h => ⟨getD_lt h, .inr h⟩, fun h => by
    rcases h.2 with ⟨u, hu, _⟩ | h
    · cases hu
    · exact h⟩
  | u :: l, s, i => by
    rw [List.foldl_cons, setAll_get l (s.set u.toNat true) i, List.length_set]
    constructor
    · rintro ⟨h1, h2⟩
      refine ⟨h1, ?_⟩
      rcases h2 with ⟨v, hv, hvi⟩ | h2
      · exact .inl ⟨v, by simp [hv], hvi⟩
      · by_cases hu : u.toNat < s.length
        · rw [getD_set hu] at h2
          split at h2
          · rename_i e; exact .inl ⟨u, by simp, e.symm⟩
          · exact .inr h2
        · rw [List.set_eq_of_length_le (by omega)] at h2; exact .inr h2
    · rintro ⟨h1, h2⟩
      refine ⟨h1, ?_⟩
      rcases h2 with ⟨v, hv, hvi⟩ | h2
      · rcases List.mem_cons.1 hv with rfl | hv
        · right
          rw [getD_set (by omega), if_pos hvi.symm]
        · exact .inl ⟨v, hv, hvi⟩
      · right
        by_cases hu : u.toNat < s.length
        · rw [getD_set hu]
          split
          · rfl
          · exact h2
        · rw [List.set_eq_of_length_le (by omega)]; exact h2
def Kill (t : GTac) (i : Nat) : Prop := 0 ≤ setsT t ∧ (setsT t).toNat = i
theorem aheadT_get (t : GTac) (s : List Bool) (i : Nat) : (aheadT t s).getD i default = true ↔ i < s.length ∧ ((∃ u ∈ usesT t, u.toNat = i) ∨ (¬ Kill t i ∧ s.getD i default = true)) := by
  unfold aheadT
  rw [setAll_get]
  have hl : (if 0 ≤ setsT t then s.set (setsT t).toNat false else s).length = s.length := by split <;> simp
  rw [hl]
  have hk : (if 0 ≤ setsT t then s.set (setsT t).toNat false else s).getD i default = true ↔ ¬ Kill t i ∧ s.getD i default = true := by
    unfold Kill
    by_cases h0 : 0 ≤ setsT t
    · rw [if_pos h0]
      by_cases hu : (setsT t).toNat < s.length
      · rw [getD_set hu]
        by_cases e : i = (setsT t).toNat
        · rw [if_pos e]; simp [h0, e]
        · rw [if_neg e]; simp [Ne.symm e]
      · rw [List.set_eq_of_length_le (by omega)]
        constructor
        · intro h; have := getD_lt h; exact ⟨by omega, h⟩
        · exact fun h => h.2
    · rw [if_neg h0]; simp [h0]
  rw [hk]
theorem endS_get (b : GBlock) (s : List Bool) (i : Nat) : (endS b s).getD i default = true ↔ i < s.length ∧ ((b.fin = 2 ∧ b.v.toNat = i) ∨ s.getD i default = true) := by
  unfold endS
  split
  · rename_i h
    by_cases hu : b.v.toNat < s.length
    · rw [getD_set hu]
      by_cases e : i = b.v.toNat
      · rw [if_pos e]; simp [h, e, hu]
      · rw [if_neg e]
        constructor
        · exact fun hs => ⟨getD_lt hs, .inr hs⟩
        · rintro ⟨_, h1 | h1⟩
          · exact absurd h1.2.symm e
          · exact h1
    · rw [List.set_eq_of_length_le (by omega)]
      constructor
      · exact fun hs => ⟨getD_lt hs, .inr hs⟩
      · rintro ⟨h0, h1 | h1⟩
        · omega
        · exact h1
  · rename_i h
    constructor
    · exact fun hs => ⟨getD_lt hs, .inr hs⟩
    · rintro ⟨_, h1 | h1⟩
      · exact absurd h1.1 h
      · exact h1
theorem aheadT_mono {t : GTac} {s s' : List Bool} (hl : s.length = s'.length) (h : Sub s s') : Sub (aheadT t s) (aheadT t s') := fun i hi => by
  rw [aheadT_get] at hi ⊢
  refine ⟨by omega, ?_⟩
  rcases hi.2 with h1 | h1
  · exact .inl h1
  · exact .inr ⟨h1.1, h i h1.2⟩
theorem endS_mono {b : GBlock} {s s' : List Bool} (hl : s.length = s'.length) (h : Sub s s') : Sub (endS b s) (endS b s') := fun i hi => by
  rw [endS_get] at hi ⊢
  exact ⟨by omega, hi.2.imp (fun h => h) (fun h1 => h i h1)⟩
theorem thrK_mono {b : GBlock} {s s' : List Bool} (hl : s.length = s'.length) (h : Sub s s') (k : Nat) : Sub (thrK b s k) (thrK b s' k) := by
  unfold thrK
  generalize hL : b.ins.drop k = l
  clear hL
  induction l with
  | nil => exact endS_mono hl h
  | cons t l ih =>
    rw [List.foldr_cons, List.foldr_cons]
    refine aheadT_mono ?_ ih
    have : ∀ (s : List Bool), (l.foldr aheadT (endS b s)).length = s.length := fun s => by
      clear ih
      induction l with
      | nil => exact endS_len b s
      | cons t l ih => rw [List.foldr_cons, aheadT_len, ih]
    rw [this, this, hl]
theorem thrS_mono {b : GBlock} {s s' : List Bool} (hl : s.length = s'.length) (h : Sub s s') : Sub (thrS b s) (thrS b s') := thrK_mono hl h 0
theorem foldr_len (b : GBlock) (s : List Bool) : ∀ (l : List GTac), (l.foldr aheadT (endS b s)).length = s.length
  | [] => endS_len b s
  | t :: l => by rw [List.foldr_cons, aheadT_len, foldr_len b s l]
theorem thrS_or {b : GBlock} {s s' u : List Bool} (h1 : s.length = u.length) (h2 : s'.length = u.length) (h : ∀ i, u.getD i default = true → s.getD i default = true ∨ s'.getD i default = true) : ∀ i, (thrS b u).getD i default = true → (thrS b s).getD i default = true ∨ (thrS b s').getD i default = true := by
  unfold thrS thrK
  generalize b.ins.drop 0 = l
  induction l with
  | nil =>
    intro i hi
    simp only [List.foldr_nil] at hi ⊢
    rw [endS_get] at hi
    rw [endS_get, endS_get]
    rcases hi.2 with h3 | h3
    · exact .inl ⟨by omega, .inl h3⟩
    · exact (h i h3).imp (fun h4 => ⟨by omega, .inr h4⟩) (fun h4 => ⟨by omega, .inr h4⟩)
  | cons t l ih =>
    intro i hi
    simp only [List.foldr_cons] at hi ⊢
    rw [aheadT_get, foldr_len] at hi
    rw [aheadT_get, aheadT_get, foldr_len, foldr_len]
    rcases hi.2 with h3 | h3
    · exact .inl ⟨by omega, .inl h3⟩
    · exact (ih i h3.2).imp (fun h4 => ⟨by omega, .inr ⟨h3.1, h4⟩⟩) (fun h4 => ⟨by omega, .inr ⟨h3.1, h4⟩⟩)
section
variable {f : GFn} {x : IO2}
theorem outJ_get (hF : LF f) (h : SzX f x) {b : Nat} (hb : b < f.blocks.length) : ∀ (m : Nat), m ≤ ((nextL f).getD b default).length → ∀ i, (outJ f x.1 x.2 b m).getD i default = true ↔ (x.2.getD b default).getD i default = true ∨ ∃ q, q < m ∧ (x.1.getD (((nextL f).getD b default).getD q default).toNat default).getD i default = true
  | 0, _, i => by rw [outJ_zero]; simp
  | m + 1, hm, i => by
    have hk := hF.follow (j := b) (m := m) hb (by omega)
    have hl := h.i.at (k := (((nextL f).getD b default).getD m default).toNat) (by omega)
    have hl2 := h.o.at hb
    rw [outJ_succ (by omega), addS_get (by rw [outJ_len]; omega), Bool.or_eq_true, outJ_get hF h hb m (by omega) i]
    constructor
    · rintro ((h1 | ⟨q, hq, h1⟩) | h1)
      · exact .inl h1
      · exact .inr ⟨q, by omega, h1⟩
      · exact .inr ⟨m, by omega, h1⟩
    · rintro (h1 | ⟨q, hq, h1⟩)
      · exact .inl (.inl h1)
      · by_cases e : q = m
        · subst e; exact .inr h1
        · exact .inl (.inr ⟨q, by omega, h1⟩)
theorem outS_get (hF : LF f) (h : SzX f x) {b : Nat} (hb : b < f.blocks.length) (i : Nat) : (outS f x b).getD i default = true ↔ (x.2.getD b default).getD i default = true ∨ ∃ q, q < ((nextL f).getD b default).length ∧ (x.1.getD (((nextL f).getD b default).getD q default).toNat default).getD i default = true := outJ_get hF h hb _ (Nat.le_refl _) i
theorem getD_set_ne {α : Type} [Inhabited α] {l : List α} {b c : Nat} (h : c ≠ b) (s : α) : (l.set b s).getD c default = l.getD c default := by
  simp only [List.getD]; rw [List.getElem?_set_ne (Ne.symm h)]
theorem iterL_last (Q : IO2 → Prop) (hQ : ∀ x, SzX f x → Q x → Q (rndK f x 0).1) : ∀ (m : Nat) (x : IO2), SzX f x → Q x → cntL x.1 < m → ∃ y, SzX f y ∧ Q y ∧ (rndK f y 0).2 = false ∧ iterL f m x = (rndK f y 0).1
  | 0, x, _, _, h => by omega
  | m + 1, x, hs, hq, hc => by
    rw [iterL]
    by_cases hm : (rndK f x 0).2 = true
    · rw [if_pos hm]
      have := (rnd_cnt hs f.blocks.length 0 (by omega)).2.1 hm
      exact iterL_last Q hQ m _ (hs.rndk (Nat.zero_le _)) (hQ x hs hq) (by omega)
    · rw [if_neg hm]
      exact ⟨x, hs, hq, by simpa using hm, rfl⟩
theorem live_last (Q : IO2 → Prop) (h0 : Q (zeroL f)) (hQ : ∀ x, SzX f x → Q x → Q (rndK f x 0).1) : ∃ y, SzX f y ∧ Q y ∧ (rndK f y 0).2 = false ∧ liveL f = (rndK f y 0).1 :=
  iterL_last Q hQ _ _ (zeroL_sz f) h0 ((rndI_start f).t rfl).2
theorem rnd_ind (Q : IO2 → Prop) (hQ : ∀ x b, SzX f x → b < f.blocks.length → Q x → Q (stepI f x b)) {x : IO2} (hs : SzX f x) (h : Q x) : ∀ (q k : Nat), k + q = f.blocks.length → Q (rndK f x k).1
  | 0, k, e => by
    have : k = f.blocks.length := by omega
    subst this
    rw [rndK_end]; exact h
  | q + 1, k, e => by
    rw [rndK_step x (by omega)]
    exact hQ _ _ (hs.rndk (by omega)) (by omega) (rnd_ind Q hQ hs h q (k + 1) (by omega))
theorem rnd_flag {y : IO2} (h : (rndK f y 0).2 = false) : ∀ k, k ≤ f.blocks.length → (rndK f y k).2 = false
  | 0, _ => h
  | k + 1, hk => by
    have := rnd_flag h k (by omega)
    rw [rndK_step y (by omega)] at this
    exact (Bool.or_eq_false_iff.1 this).2
theorem rnd_same {y : IO2} (hs : SzX f y) (h : (rndK f y 0).2 = false) {k : Nat} (hk : k ≤ f.blocks.length) : (rndK f y k).1.1 = y.1 := (rnd_cnt hs (f.blocks.length - k) k (by omega)).2.2 (rnd_flag h k hk)
theorem rnd_out {y : IO2} (hs : SzX f y) (h : (rndK f y 0).2 = false) {b : Nat} (hb : b < f.blocks.length) : ∀ (k : Nat), k ≤ b → (rndK f y k).1.2.getD b default = outS f (y.1, y.2) b := by
  have hge : ∀ (q k : Nat), k + q = f.blocks.length → b < k → (rndK f y k).1.2.getD b default = y.2.getD b default := by
    intro q
    induction q with
    | zero => intro k e hk; have : k = f.blocks.length := by omega
              subst this; rw [rndK_end]
    | succ q ih =>
      intro k e hk
      rw [rndK_step y (by omega)]
      show ((rndK f y (k + 1)).1.2.set k _).getD b default = _
      rw [getD_set_ne (by omega)]
      exact ih (k + 1) (by omega) (by omega)
  have hat : (rndK f y b).1.2.getD b default = outS f (y.1, y.2) b := by
    rw [rndK_step y hb]
    show ((rndK f y (b + 1)).1.2.set b _).getD b default = _
    rw [getD_set_self (by rw [(hs.rndk (by omega)).o.len]; exact hb)]
    unfold outS outJ
    rw [rnd_same hs h (by omega), hge (f.blocks.length - (b + 1)) (b + 1) (by omega) (by omega)]
  intro k hk
  have : ∀ (d : Nat), d ≤ b → (rndK f y (b - d)).1.2.getD b default = outS f (y.1, y.2) b := by
    intro d
    induction d with
    | zero => intro _; exact hat
    | succ d ih =>
      intro hd
      rw [rndK_step y (by omega)]
      show ((rndK f y (b - (d + 1) + 1)).1.2.set (b - (d + 1)) _).getD b default = _
      rw [getD_set_ne (by omega), show b - (d + 1) + 1 = b - d by omega]
      exact ih (by omega)
  have h2 := this (b - k) (by omega)
  rwa [show b - (b - k) = k by omega] at h2
structure LiveIs (f : GFn) (y : IO2) : Prop where
  sz : SzX f y
  i : (liveL f).1 = y.1
  o : ∀ b, b < f.blocks.length → (liveL f).2.getD b default = outS f y b
  thr : ∀ b, b < f.blocks.length → Sub (thrS (f.blocks.getD b default) (outS f y b)) (y.1.getD b default)
theorem live_is (hF : LF f) (Q : IO2 → Prop) (h0 : Q (zeroL f)) (hQ : ∀ x b, SzX f x → b < f.blocks.length → Q x → Q (stepI f x b)) : ∃ y, LiveIs f y ∧ Q y ∧ Q (liveL f) := by
  obtain ⟨y, hs, hq, hfl, he⟩ := live_last Q h0 (fun x hs hx => rnd_ind Q hQ hs hx f.blocks.length 0 (by omega))
  refine ⟨y, ⟨hs, by rw [he]; exact rnd_same hs hfl (Nat.zero_le _), fun b hb => by rw [he]; exact rnd_out hs hfl hb 0 (Nat.zero_le _), fun b hb i hi => ?_⟩, hq, by rw [he]; exact rnd_ind Q hQ hs hq f.blocks.length 0 (by omega)⟩
  have hf1 := rnd_flag hfl b (by omega)
  rw [rndK_step y hb] at hf1
  have hm := (Bool.or_eq_false_iff.1 hf1).1
  have hr := hs.rndk (k := b + 1) (by omega)
  have hin := rnd_same hs hfl (k := b + 1) (by omega)
  have hout : outS f (rndK f y (b + 1)).1 b = outS f y b := by
    have h1 := rnd_out hs hfl hb b (Nat.le_refl _)
    rw [rndK_step y hb] at h1
    have h2 : ((rndK f y (b + 1)).1.2.set b (outS f (rndK f y (b + 1)).1 b)).getD b default = outS f (y.1, y.2) b := h1
    rwa [getD_set_self (by rw [hr.o.len]; exact hb)] at h2
  have hl : (thrO f (rndK f y (b + 1)).1 b).length ≤ ((rndK f y (b + 1)).1.1.getD b default).length := by rw [thrO_len, hr.i.at hb, hr.o.at hb]; omega
  have hadd := (addS_cnt hl).2.2 hm
  have hg := addS_get hl i
  rw [hadd] at hg
  have ht : (thrO f (rndK f y (b + 1)).1 b).getD i default = true := by unfold thrO; rw [hout]; exact hi
  rw [ht, Bool.or_true] at hg
  rw [← hin]; exact hg
theorem LiveIs.out (hF : LF f) {y : IO2} (h : LiveIs f y) {b : Nat} (hb : b < f.blocks.length) (i : Nat) : ((liveL f).2.getD b default).getD i default = true ↔ (y.2.getD b default).getD i default = true ∨ ∃ q, q < ((nextL f).getD b default).length ∧ ((liveL f).1.getD (((nextL f).getD b default).getD q default).toNat default).getD i default = true := by
  rw [h.o b hb, h.i]; exact outS_get hF h.sz hb i
theorem live_closed (hF : LF f) : checkL f (liveL f).1 (liveL f).2 = true := by
  obtain ⟨y, h, _, _⟩ := live_is hF (fun _ => True) trivial (fun _ _ _ _ _ => trivial)
  refine checkL_iff.2 ⟨sizedL_iff.2 ⟨(live_sz f).i.sized hF.regs.1, (live_sz f).o.sized hF.regs.1⟩, fun b hb => okB_iff.2 ⟨fun m hm => sub_within fun i hi => ?_, sub_within ?_⟩⟩
  · exact (h.out hF hb i).2 (.inr ⟨m, hm, hi⟩)
  · rw [h.o b hb, h.i]; exact h.thr b hb
theorem closed_iff {li lo : List (List Bool)} (h : checkL f li lo = true) : SzL f li ∧ SzL f lo ∧ ∀ b, b < f.blocks.length → (∀ m, m < ((nextL f).getD b default).length → Sub (li.getD (((nextL f).getD b default).getD m default).toNat default) (lo.getD b default)) ∧ Sub (thrS (f.blocks.getD b default) (lo.getD b default)) (li.getD b default) := by
  obtain ⟨h1, h2⟩ := checkL_iff.1 h
  obtain ⟨h3, h4⟩ := sizedL_iff.1 h1
  exact ⟨szL_of h3, szL_of h4, fun b hb => by
    obtain ⟨h5, h6⟩ := okB_iff.1 (h2 b hb)
    exact ⟨fun m hm => within_sub (h5 m hm), within_sub h6⟩⟩
theorem zero_get (b i : Nat) : ((zeroL f).1.getD b default).getD i default = false ∧ ((zeroL f).2.getD b default).getD i default = false := by
  have : ((List.replicate f.blocks.length (List.replicate f.regs.toNat false)).getD b default).getD i default = false := by
    simp only [List.getD, List.getElem?_replicate]
    split
    · simp only [Option.getD_some, List.getElem?_replicate]; split <;> rfl
    · rfl
  exact ⟨this, this⟩
theorem live_least (hF : LF f) {li lo : List (List Bool)} (h : checkL f li lo = true) : ∀ b, b < f.blocks.length → Sub ((liveL f).1.getD b default) (li.getD b default) ∧ Sub ((liveL f).2.getD b default) (lo.getD b default) := by
  obtain ⟨c1, c2, c3⟩ := closed_iff h
  obtain ⟨y, _, _, hq⟩ := live_is hF (fun x => ∀ b, b < f.blocks.length → Sub (x.1.getD b default) (li.getD b default) ∧ Sub (x.2.getD b default) (lo.getD b default)) (fun b hb => ⟨fun i hi => (by rw [(zero_get b i).1] at hi; cases hi), fun i hi => (by rw [(zero_get b i).2] at hi; cases hi)⟩) (fun x b hs hb hx => by
    have hO : Sub (outS f x b) (lo.getD b default) := fun i hi => by
      rcases (outS_get hF hs hb i).1 hi with h1 | ⟨q, hq, h1⟩
      · exact (hx b hb).2 i h1
      · exact (c3 b hb).1 q hq i ((hx _ (by have := hF.follow hb hq; omega)).1 i h1)
    intro c hc
    by_cases e : c = b
    · subst e
      show Sub ((x.1.set c _).getD c default) _ ∧ Sub ((x.2.set c _).getD c default) _
      rw [getD_set_self (by rw [hs.i.len]; exact hc), getD_set_self (by rw [hs.o.len]; exact hc)]
      refine ⟨fun i hi => ?_, hO⟩
      rw [addS_get (by rw [thrO_len, hs.i.at hc, hs.o.at hc]; omega), Bool.or_eq_true] at hi
      rcases hi with hi | hi
      · exact (hx c hc).1 i hi
      · exact (c3 c hc).2 i (thrS_mono (by rw [outS_len, hs.o.at hc, c2.at hc]) hO i hi)
    · show Sub ((x.1.set b _).getD c default) _ ∧ Sub ((x.2.set b _).getD c default) _
      rw [getD_set_ne e, getD_set_ne e]
      exact hx c hc)
  exact hq
theorem live_way (hF : LF f) {b : Nat} (hb : b < f.blocks.length) (i : Nat) : ((liveL f).2.getD b default).getD i default = true ↔ ∃ q, q < ((nextL f).getD b default).length ∧ ((liveL f).1.getD (((nextL f).getD b default).getD q default).toNat default).getD i default = true := by
  obtain ⟨y, h, hq, _⟩ := live_is hF (fun x => ∀ b i, b < f.blocks.length → (x.2.getD b default).getD i default = true → ∃ q, q < ((nextL f).getD b default).length ∧ (x.1.getD (((nextL f).getD b default).getD q default).toNat default).getD i default = true) (fun b i _ hi => by rw [(zero_get b i).2] at hi; cases hi) (fun x b hs hb hx => by
    have hgrow : ∀ k j, (x.1.getD k default).getD j default = true → ((stepI f x b).1.getD k default).getD j default = true := fun k j hj => by
      show ((x.1.set b _).getD k default).getD j default = true
      by_cases e : k = b
      · subst e
        rw [getD_set_self (by rw [hs.i.len]; exact hb), addS_get (by rw [thrO_len, hs.i.at hb, hs.o.at hb]; omega), hj]; rfl
      · rw [getD_set_ne e]; exact hj
    intro c j hc hj
    have hj' : ((x.2.set b (outS f x b)).getD c default).getD j default = true := hj
    by_cases e : c = b
    · subst e
      rw [getD_set_self (by rw [hs.o.len]; exact hc)] at hj'
      rcases (outS_get hF hs hc j).1 hj' with h1 | ⟨q, hq, h1⟩
      · obtain ⟨q, hq, h2⟩ := hx c j hc h1
        exact ⟨q, hq, hgrow _ _ h2⟩
      · exact ⟨q, hq, hgrow _ _ h1⟩
    · rw [getD_set_ne e] at hj'
      obtain ⟨q, hq, h2⟩ := hx c j hc hj'
      exact ⟨q, hq, hgrow _ _ h2⟩)
  rw [h.out hF hb i]
  constructor
  · rintro (h1 | h1)
    · obtain ⟨q, h2, h3⟩ := hq b i hb h1
      exact ⟨q, h2, by rw [h.i]; exact h3⟩
    · exact h1
  · exact .inr
end
end Lg
end Go.Proofs.Ytpfhmodjjljpjaa

namespace Go.Proofs.Ytpfhmodjjljpjaa
open Go.RowKit
namespace Lg
set_option linter.unusedSimpArgs false
set_option linter.unusedVariables false
def vF : GFn := ⟨1, [⟨[⟨1, 0, 0, 0, 0, 0, 0, 1⟩, ⟨9, 0, 0, 0, 0, 0, 0, 0⟩], 3, 0, 0, 0⟩]⟩
def vG : GFn := ⟨2, [⟨[⟨1, 0, 0, 0, 0, 0, 0, 1⟩], 1, 0, 1, 0⟩, ⟨[⟨9, 0, 1, 0, 0, 0, 0, 0⟩], 2, 0, 1, 2⟩, ⟨[], 3, 0, 0, 0⟩]⟩
def vI : List (List Bool) := [[false, true], [true, true], [false, false]]
def vO : List (List Bool) := [[true, true], [true, true], [false, false]]
theorem vF_lf : LF vF := lf_of (f := vF) (i := 0) (w := 16) (by decide +kernel) (by decide) (by decide)
theorem vG_lf : LF vG := lf_of (f := vG) (i := 0) (w := 16) (by decide +kernel) (by decide) (by decide)
theorem small_lf {f : GFn} (h : small27 f 12 60 = true) : LF f := (s27 h).lf
theorem live_len1 {f : GFn} (h : small27 f 12 60 = true) : (liveL f).1.length ≤ 12 := by have := (live_sz f).i.len; have := (s27 h).len; omega
theorem live_len2 {f : GFn} (h : small27 f 12 60 = true) : (liveL f).2.length ≤ 12 := by have := (live_sz f).o.len; have := (s27 h).len; omega
theorem sz_each {f : GFn} {l : List (List Bool)} (h : small27 f 12 60 = true) (hl : SzL f l) : ∀ s ∈ l, s.length ≤ 1000000 := fun s hs => by have := hl.each s hs; have := (s27 h).regs; omega
theorem live_each1 {f : GFn} (h : small27 f 12 60 = true) : ∀ s ∈ (liveL f).1, s.length ≤ 1000000 := sz_each h (live_sz f).i
theorem live_each2 {f : GFn} (h : small27 f 12 60 = true) : ∀ s ∈ (liveL f).2, s.length ≤ 1000000 := sz_each h (live_sz f).o
theorem live_sized {f : GFn} (h : small27 f 12 60 = true) : sizedL f (liveL f).1 (liveL f).2 = true := (checkL_iff.1 (live_closed (small_lf h))).1
def longB (s : List Bool) : Bool := decide ((s.length : Int) > 60)
def greatL (li lo : List (List Bool)) : Bool := decide ((li.length : Int) > 20) || (decide ((lo.length : Int) > 20) || (li.any longB || lo.any longB))
theorem great_f {li lo : List (List Bool)} (h1 : (li.length : Int) ≤ 20) (h2 : (lo.length : Int) ≤ 20) (h3 : ∀ i, i < li.length → ((li.getD i default).length : Int) ≤ 60) (h4 : ∀ i, i < lo.length → ((lo.getD i default).length : Int) ≤ 60) : false = greatL li lo := by
  unfold greatL
  rw [decide_eq_false (by omega), decide_eq_false (by omega), List.any_eq_false.2 (fun s hs => ?_), List.any_eq_false.2 (fun s hs => ?_)]; rfl
  · obtain ⟨i, hi, rfl⟩ := mem_getD hs; exact fun hh => absurd (of_decide_eq_true hh) (by have := h4 i hi; omega)
  · obtain ⟨i, hi, rfl⟩ := mem_getD hs; exact fun hh => absurd (of_decide_eq_true hh) (by have := h3 i hi; omega)
theorem great_t1 {li lo : List (List Bool)} (h1 : (li.length : Int) > 20) : true = greatL li lo := by unfold greatL; rw [decide_eq_true h1]; rfl
theorem great_t2 {li lo : List (List Bool)} (h1 : (lo.length : Int) > 20) : true = greatL li lo := by unfold greatL; rw [decide_eq_true h1]; simp
theorem great_t3 {li lo : List (List Bool)} {i : Nat} (hi : i < li.length) (h1 : ((li.getD i default).length : Int) > 60) : true = greatL li lo := by
  unfold greatL
  rw [List.any_eq_true.2 ⟨_, getD_mem hi, decide_eq_true h1⟩]; simp
theorem great_t4 {li lo : List (List Bool)} {i : Nat} (hi : i < lo.length) (h1 : ((lo.getD i default).length : Int) > 60) : true = greatL li lo := by
  unfold greatL
  rw [show lo.any longB = true from List.any_eq_true.2 ⟨_, getD_mem hi, decide_eq_true h1⟩]; simp
theorem great_len {li lo : List (List Bool)} (h : greatL li lo = false) : li.length ≤ 20 ∧ lo.length ≤ 20 ∧ (∀ s ∈ li, s.length ≤ 60) ∧ (∀ s ∈ lo, s.length ≤ 60) := by
  unfold greatL at h
  simp only [Bool.or_eq_false_iff, decide_eq_false_iff_not, List.any_eq_false, longB] at h
  refine ⟨by omega, by omega, fun s hs => ?_, fun s hs => ?_⟩
  · have := h.2.2.1 s hs; simp at this; omega
  · have := h.2.2.2 s hs; simp at this; omega
theorem great_each1 {li lo : List (List Bool)} (h : greatL li lo = false) : ∀ s ∈ li, s.length ≤ 1000000 := fun s hs => by have := (great_len h).2.2.1 s hs; omega
theorem great_each2 {li lo : List (List Bool)} (h : greatL li lo = false) : ∀ s ∈ lo, s.length ≤ 1000000 := fun s hs => by have := (great_len h).2.2.2 s hs; omega
theorem great_l1 {li lo : List (List Bool)} (h : greatL li lo = false) : li.length ≤ 1000000000 := by have := (great_len h).1; omega
theorem great_l2 {li lo : List (List Bool)} (h : greatL li lo = false) : lo.length ≤ 1000000000 := by have := (great_len h).2.1; omega
theorem beh_len {f : GFn} {lo : List (List Bool)} {k : Int} (h : small27 f 12 60 = true) (hk : 0 ≤ k ∧ k < (f.blocks.length : Int)) : (behL (f.blocks.getD k.toNat default) (lo.getD k.toNat default)).length ≤ 1000000000 := by
  have := (s27 h).ins _ (getD_mem (by omega : k.toNat < f.blocks.length))
  rw [behL_len]; omega
theorem beh_each {f : GFn} {lo : List (List Bool)} {k : Int} (h : small27 f 12 60 = true) (hs : SzL f lo) (hk : 0 ≤ k ∧ k < (f.blocks.length : Int)) : ∀ s ∈ behL (f.blocks.getD k.toNat default) (lo.getD k.toNat default), s.length ≤ 1000000 := fun s hm => by
  obtain ⟨i, hi, rfl⟩ := mem_getD hm
  rw [behL_len] at hi
  rw [behL_getD _ _ hi, thrK_len, hs.at (by omega : k.toNat < f.blocks.length)]
  have := (s27 h).regs; omega
section
variable {f : GFn} {k : Nat}
theorem beq_same {b : Bool} : (b == b) = true := by cases b <;> rfl
theorem live_in (hF : LF f) (hk : k < f.blocks.length) : Sub (thrS (f.blocks.getD k default) ((liveL f).2.getD k default)) ((liveL f).1.getD k default) := ((closed_iff (live_closed hF)).2.2 k hk).2
theorem reads_end (hF : LF f) (hk : k < f.blocks.length) (h2 : (f.blocks.getD k default).fin = 2) (h0 : (f.blocks.getD k default).ins.length = 0) : ((liveL f).1.getD k default).getD (f.blocks.getD k default).v.toNat default = true := by
  refine live_in hF hk _ ?_
  have hb := (hF.ok _ (getD_mem hk)).2 h2
  have hl := (live_sz f).o.at hk
  unfold thrS
  rw [thrK_end _ _ (by omega), endS_get]
  exact ⟨by omega, .inl ⟨h2, rfl⟩⟩
theorem reads_use (hF : LF f) (hk : k < f.blocks.length) {i : Nat} (hi : i < (f.blocks.getD k default).ins.length) {u : Int} (hu : u ∈ usesT ((f.blocks.getD k default).ins.getD i default)) : (thrK (f.blocks.getD k default) ((liveL f).2.getD k default) i).getD u.toNat default = true := by
  have hb := ((hF.ok _ (getD_mem hk)).1 _ (getD_mem hi)).2 u hu
  have hl := (live_sz f).o.at hk
  rw [thrK_step _ _ hi, aheadT_get, thrK_len]
  exact ⟨by omega, .inl ⟨u, hu, rfl⟩⟩
theorem reads_use0 (hF : LF f) (hk : k < f.blocks.length) (hi : 0 < (f.blocks.getD k default).ins.length) {u : Int} (hu : u ∈ usesT ((f.blocks.getD k default).ins.getD 0 default)) : ((liveL f).1.getD k default).getD u.toNat default = true :=
  live_in hF hk _ (reads_use hF hk hi hu)
theorem reads_usez (hF : LF f) (hk : k < f.blocks.length) {i : Nat} (h0 : i = 0) (hi : i < (f.blocks.getD k default).ins.length) {u : Int} (hu : u ∈ usesT ((f.blocks.getD k default).ins.getD i default)) : ((liveL f).1.getD k default).getD u.toNat default = true := by
  subst h0; exact reads_use0 hF hk hi hu
theorem reads_row {b : GBlock} {o : List Bool} {w : Int} (h0 : 0 < w) (h : w < (b.ins.length : Int)) : (behL b o).getD (w - 1).toNat default = thrK b o w.toNat := by
  rw [behL_getD _ _ (by omega), show (w - 1).toNat + 1 = w.toNat by omega]
theorem use_in (hF : LF f) (hk : k < f.blocks.length) {i : Nat} (hi : i < (f.blocks.getD k default).ins.length) {u : Int} (hu : u ∈ usesT ((f.blocks.getD k default).ins.getD i default)) : 0 ≤ u ∧ u < f.regs := by
  have hb := ((hF.ok _ (getD_mem hk)).1 _ (getD_mem hi)).2 u hu
  have := hF.regs
  omega
end
def mixV (a b e : Bool) : Bool := (a && b) || (e && (a || b))
def fillR (g : Nat → Bool) (n r : Nat) : List Bool := (List.range n).map fun i => if i < r then g i else false
theorem fillR_len (g : Nat → Bool) (n r : Nat) : (fillR g n r).length = n := by simp [fillR]
theorem fillR_zero (g : Nat → Bool) (n : Nat) : List.replicate n false = fillR g n 0 := by
  refine List.ext_getElem (by simp [fillR]) (fun i h1 h2 => ?_)
  simp [fillR]
theorem fillR_step (g : Nat → Bool) {n r : Nat} (h : r < n) {v : Bool} (hv : v = g r) : (fillR g n r).set r v = fillR g n (r + 1) := by
  subst hv
  refine List.ext_getElem (by simp [fillR]) (fun i h1 h2 => ?_)
  rw [List.getElem_set]
  simp only [fillR, List.getElem_map, List.getElem_range]
  by_cases e : r = i
  · subst e; simp
  · rw [if_neg e]
    have : (i < r + 1) ↔ i < r := by omega
    simp only [this]
def mixR (a b : List Bool) (e : Bool) : List Bool := fillR (fun i => mixV (a.getD i default) (b.getD i default) e) a.length a.length
def bothV (a b : List (List Bool)) (e : Bool) : List (List Bool) := (List.range a.length).map fun j => mixR (a.getD j default) (b.getD j default) e
theorem bothV_len (a b : List (List Bool)) (e : Bool) : (bothV a b e).length = a.length := by simp [bothV]
theorem bothV_getD (a b : List (List Bool)) (e : Bool) {j : Nat} (h : j < a.length) : (bothV a b e).getD j default = mixR (a.getD j default) (b.getD j default) e := by simp [bothV, List.getD, h]
theorem bothV_take (a b : List (List Bool)) (e : Bool) {j : Nat} (h : j < a.length) : (bothV a b e).take (j + 1) = (bothV a b e).take j ++ [mixR (a.getD j default) (b.getD j default) e] := by
  rw [List.take_add_one, List.getElem?_eq_getElem (by rw [bothV_len]; exact h)]
  simp [bothV]
theorem mixR_len (a b : List Bool) (e : Bool) : (mixR a b e).length = a.length := fillR_len _ _ _
theorem mixR_get (a b : List Bool) (e : Bool) (hl : b.length = a.length) (i : Nat) : (mixR a b e).getD i default = mixV (a.getD i default) (b.getD i default) e := by
  by_cases h : i < a.length
  · simp only [mixR, fillR, List.getD, List.getElem?_map, List.getElem?_range h, Option.map_some, Option.getD_some, if_pos h]
  · rw [List.getD, List.getElem?_eq_none (by rw [mixR_len]; omega), List.getD, List.getElem?_eq_none (by omega), List.getD, List.getElem?_eq_none (by omega)]
    cases e <;> rfl
theorem mix_or {a b : Bool} : mixV a b true = true ↔ a = true ∨ b = true := by cases a <;> cases b <;> simp [mixV]
theorem mix_and {a b : Bool} : mixV a b false = true ↔ a = true ∧ b = true := by cases a <;> cases b <;> simp [mixV]
theorem mix_tt {a b e : Bool} (h1 : a = true) (h2 : b = true) : true = mixV a b e := by subst h1 h2; rfl
theorem closed_mk {f : GFn} (hF : LF f) {li lo : List (List Bool)} (h1 : SzL f li) (h2 : SzL f lo) (h : ∀ b, b < f.blocks.length → (∀ m, m < ((nextL f).getD b default).length → Sub (li.getD (((nextL f).getD b default).getD m default).toNat default) (lo.getD b default)) ∧ Sub (thrS (f.blocks.getD b default) (lo.getD b default)) (li.getD b default)) : checkL f li lo = true :=
  checkL_iff.2 ⟨sizedL_iff.2 ⟨h1.sized hF.regs.1, h2.sized hF.regs.1⟩, fun b hb => okB_iff.2 ⟨fun m hm => sub_within ((h b hb).1 m hm), sub_within (h b hb).2⟩⟩
theorem both_sz {f : GFn} {a b : List (List Bool)} {e : Bool} (h1 : SzL f a) : SzL f (bothV a b e) := ⟨by rw [bothV_len, h1.len], fun s hs => by
  obtain ⟨i, hi, rfl⟩ := mem_getD hs
  rw [bothV_len] at hi
  rw [bothV_getD _ _ _ hi, mixR_len]
  exact h1.each _ (getD_mem hi)⟩
theorem both_closed {f : GFn} (hF : LF f) {mi mo ni no : List (List Bool)} (h1 : checkL f mi mo = true) (h2 : checkL f ni no = true) (e : Bool) : checkL f (bothV mi ni e) (bothV mo no e) = true := by
  obtain ⟨a1, a2, a3⟩ := closed_iff h1
  obtain ⟨b1, b2, b3⟩ := closed_iff h2
  refine closed_mk hF (both_sz a1) (both_sz a2) (fun b hb => ⟨fun m hm i hi => ?_, fun i hi => ?_⟩)
  · have hx := hF.follow hb hm
    have hk : (((nextL f).getD b default).getD m default).toNat < f.blocks.length := by omega
    rw [bothV_getD _ _ _ (by rw [a1.len]; exact hk), mixR_get _ _ _ (by rw [a1.at hk, b1.at hk])] at hi
    rw [bothV_getD _ _ _ (by rw [a2.len]; exact hb), mixR_get _ _ _ (by rw [a2.at hb, b2.at hb])]
    cases e
    · rw [mix_and] at hi ⊢; exact ⟨(a3 b hb).1 m hm i hi.1, (b3 b hb).1 m hm i hi.2⟩
    · rw [mix_or] at hi ⊢; exact hi.imp ((a3 b hb).1 m hm i) ((b3 b hb).1 m hm i)
  · rw [bothV_getD _ _ _ (by rw [a2.len]; exact hb)] at hi
    rw [bothV_getD _ _ _ (by rw [a1.len]; exact hb), mixR_get _ _ _ (by rw [a1.at hb, b1.at hb])]
    have hg := mixR_get (mo.getD b default) (no.getD b default) e (by rw [a2.at hb, b2.at hb])
    have hml := mixR_len (mo.getD b default) (no.getD b default) e
    cases e
    · rw [mix_and]
      exact ⟨(a3 b hb).2 i (thrS_mono hml (fun j hj => by rw [hg, mix_and] at hj; exact hj.1) i hi), (b3 b hb).2 i (thrS_mono (by rw [hml, a2.at hb, b2.at hb]) (fun j hj => by rw [hg, mix_and] at hj; exact hj.2) i hi)⟩
    · rw [mix_or]
      exact (thrS_or hml.symm (by rw [hml, a2.at hb, b2.at hb]) (fun j hj => by rw [hg, mix_or] at hj; exact hj) i hi).imp ((a3 b hb).2 i) ((b3 b hb).2 i)
section
variable {f : GFn} {mi mo ni no : List (List Bool)}
theorem chk_i (h : small27 f 12 60 = true) (k : checkL f mi mo = true) : mi.length ≤ 12 := by have := (closed_iff k).1.len; have := (s27 h).len; omega
theorem chk_o (h : small27 f 12 60 = true) (k : checkL f mi mo = true) : mo.length ≤ 12 := by have := (closed_iff k).2.1.len; have := (s27 h).len; omega
theorem chk_ei (h : small27 f 12 60 = true) (k : checkL f mi mo = true) : ∀ s ∈ mi, s.length ≤ 1000000 := sz_each h (closed_iff k).1
theorem chk_eo (h : small27 f 12 60 = true) (k : checkL f mi mo = true) : ∀ s ∈ mo, s.length ≤ 1000000 := sz_each h (closed_iff k).2.1
theorem chk_li (k : checkL f mi mo = true) (k2 : checkL f ni no = true) : ni.length = mi.length := by rw [(closed_iff k).1.len, (closed_iff k2).1.len]
theorem chk_lo (k : checkL f mi mo = true) (k2 : checkL f ni no = true) : no.length = mo.length := by rw [(closed_iff k).2.1.len, (closed_iff k2).2.1.len]
theorem chk_qi (k : checkL f mi mo = true) (k2 : checkL f ni no = true) : ∀ i, i < mi.length → (ni.getD i default).length = (mi.getD i default).length := fun i hi => by
  have e := (closed_iff k).1.len
  rw [(closed_iff k).1.at (by omega), (closed_iff k2).1.at (by omega)]
theorem chk_qo (k : checkL f mi mo = true) (k2 : checkL f ni no = true) : ∀ i, i < mo.length → (no.getD i default).length = (mo.getD i default).length := fun i hi => by
  have e := (closed_iff k).2.1.len
  rw [(closed_iff k).2.1.at (by omega), (closed_iff k2).2.1.at (by omega)]
end
def anyN (f : GFn) (b r q : Nat) : Bool := (List.range q).any fun p => ((liveL f).1.getD (((nextL f).getD b default).getD p default).toNat default).getD r default
theorem anyN_zero (f : GFn) (b r : Nat) : false = anyN f b r 0 := rfl
theorem anyN_t {f : GFn} {b r q : Nat} (h : anyN f b r q = true) : true = anyN f b r (q + 1) := by
  unfold anyN at h ⊢; rw [List.range_succ, List.any_append, h]; rfl
theorem anyN_f {f : GFn} {b r q : Nat} (h : anyN f b r q = false) : ((liveL f).1.getD (((nextL f).getD b default).getD q default).toNat default).getD r default = anyN f b r (q + 1) := by
  unfold anyN at h ⊢; rw [List.range_succ, List.any_append, h]; simp
theorem anyN_way {f : GFn} (hF : LF f) {b : Nat} (hb : b < f.blocks.length) (r : Nat) : ((liveL f).2.getD b default).getD r default = anyN f b r ((nextL f).getD b default).length := by
  have h := live_way hF hb r
  have e : anyN f b r ((nextL f).getD b default).length = true ↔ ((liveL f).2.getD b default).getD r default = true := by
    rw [h]; unfold anyN; rw [List.any_eq_true]
    exact ⟨fun ⟨q, hq, hx⟩ => ⟨q, List.mem_range.1 hq, hx⟩, fun ⟨q, hq, hx⟩ => ⟨q, List.mem_range.2 hq, hx⟩⟩
  cases h1 : ((liveL f).2.getD b default).getD r default <;> cases h2 : anyN f b r ((nextL f).getD b default).length <;> simp_all
end Lg
end Go.Proofs.Ytpfhmodjjljpjaa

namespace Go.Proofs.Ytpfhmodjjljpjaa
end Go.Proofs.Ytpfhmodjjljpjaa

namespace Go.Proofs.Ytpfhmodjjljpjaa
open Go.RowKit
namespace Lg
set_option linter.unusedSimpArgs false
set_option linter.unusedVariables false
def allJ (s : List Bool) (i : Nat) (m : List (Int × Int)) : Nat → List (Int × Int)
  | 0 => m
  | j + 1 => if s.getD i default = true ∧ s.getD j default = true then putM (allJ s i m j) (prI i j) else allJ s i m j
def allI (s : List Bool) (m : List (Int × Int)) : Nat → List (Int × Int)
  | 0 => m
  | i + 1 => allJ s i (allI s m i) i
theorem allJ_t {s : List Bool} {i j : Nat} {m : List (Int × Int)} (h1 : s.getD i default = true) (h2 : s.getD j default = true) : putM (allJ s i m j) (prI i j) = allJ s i m (j + 1) := by rw [allJ, if_pos ⟨h1, h2⟩]
theorem allJ_f1 {s : List Bool} {i j : Nat} {m : List (Int × Int)} (h1 : s.getD i default = false) : allJ s i m j = allJ s i m (j + 1) := by rw [allJ, if_neg (fun h => by rw [h1] at h; cases h.1)]
theorem allJ_f2 {s : List Bool} {i j : Nat} {m : List (Int × Int)} (h1 : s.getD j default = false) : allJ s i m j = allJ s i m (j + 1) := by rw [allJ, if_neg (fun h => by rw [h1] at h; cases h.2)]
def oneM (t : GTac) (s : List Bool) (m : List (Int × Int)) : Nat → List (Int × Int)
  | 0 => m
  | i + 1 => if s.getD i default = true ∧ 0 ≤ setsT t ∧ (i : Int) ≠ setsT t then putM (oneM t s m i) (prI i (setsT t)) else oneM t s m i
def oneB' (t : GTac) (s : List Bool) (v : List Bool) : Nat → List Bool
  | 0 => v
  | i + 1 => if s.getD i default = true ∧ t.op = 10 then (oneB' t s v i).set i true else oneB' t s v i
theorem oneB'_len (t : GTac) (s v : List Bool) : ∀ i, (oneB' t s v i).length = v.length
  | 0 => rfl
  | i + 1 => by rw [oneB']; split <;> simp [oneB'_len t s v i]
section
variable {t : GTac} {s v : List Bool} {m : List (Int × Int)} {i : Nat}
theorem oneM_t (h1 : s.getD i default = true) (h2 : setsT t ≥ 0) (h3 : ¬ (i : Int) = setsT t) : putM (oneM t s m i) (prI i (setsT t)) = oneM t s m (i + 1) := by rw [oneM, if_pos ⟨h1, h2, h3⟩]
theorem oneM_f1 (h1 : s.getD i default = false) : oneM t s m i = oneM t s m (i + 1) := by rw [oneM, if_neg (fun h => by rw [h1] at h; cases h.1)]
theorem oneM_f2 (h1 : ¬ setsT t ≥ 0) : oneM t s m i = oneM t s m (i + 1) := by rw [oneM, if_neg (fun h => h1 h.2.1)]
theorem oneM_f3 (h1 : (i : Int) = setsT t) : oneM t s m i = oneM t s m (i + 1) := by rw [oneM, if_neg (fun h => h.2.2 h1)]
theorem oneB'_t (h1 : s.getD i default = true) (h2 : t.op = 10) : (oneB' t s v i).set i true = oneB' t s v (i + 1) := by rw [oneB', if_pos ⟨h1, h2⟩]
theorem oneB'_f1 (h1 : s.getD i default = false) : oneB' t s v i = oneB' t s v (i + 1) := by rw [oneB', if_neg (fun h => by rw [h1] at h; cases h.1)]
theorem oneB'_f2 (h1 : ¬ t.op = 10) : oneB' t s v i = oneB' t s v (i + 1) := by rw [oneB', if_neg (fun h => h1 h.2)]
end
abbrev Cf := List (Int × Int) × List Bool
def oneC (t : GTac) (s : List Bool) (c : Cf) : Cf := (oneM t s c.1 s.length, oneB' t s c.2 s.length)
def blkC (b : GBlock) (out : List Bool) (c : Cf) : Nat → Cf
  | 0 => c
  | i + 1 => oneC (b.ins.getD i default) ((behL b out).getD i default) (blkC b out c i)
def ofC (f : GFn) (li lo : List (List Bool)) : Nat → Cf
  | 0 => (allI (li.getD 0 default) [] (li.getD 0 default).length, List.replicate f.regs.toNat false)
  | k + 1 => blkC (f.blocks.getD k default) (lo.getD k default) (ofC f li lo k) (f.blocks.getD k default).ins.length
def confl (f : GFn) (li lo : List (List Bool)) : Cf := ofC f li lo f.blocks.length
theorem blkC_len (b : GBlock) (out : List Bool) (c : Cf) : ∀ i, (blkC b out c i).2.length = c.2.length
  | 0 => rfl
  | i + 1 => by rw [blkC, oneC]; simp only [oneB'_len]; exact blkC_len b out c i
theorem ofC_len (f : GFn) (li lo : List (List Bool)) : ∀ k, (ofC f li lo k).2.length = f.regs.toNat
  | 0 => by simp [ofC]
  | k + 1 => by rw [ofC, blkC_len]; exact ofC_len f li lo k
def freeB (m : List (Int × Int)) (ps : List Int) (r x : Int) : Bool := (List.range ps.length).all fun i => !(decide (ps.getD i default = x) && decide (prI i r ∈ m))
theorem free_no {m : List (Int × Int)} {ps : List Int} {r x : Int} {i : Nat} (hi : i < ps.length) (h1 : ps.getD i default = x) (h2 : decide ((mnI i r, mxI i r) ∈ m) = true) : false = freeB m ps r x := by
  cases h : freeB m ps r x
  · rfl
  · have := List.all_eq_true.1 h i (List.mem_range.2 hi)
    rw [h1] at this
    have h3 : decide (prI i r ∈ m) = true := h2
    simp [h3] at this
theorem free_yes {m : List (Int × Int)} {ps : List Int} {r x : Int} (h : ∀ i, i < ps.length → (decide (ps.getD i default = x) && decide (prI i r ∈ m)) = false) : true = freeB m ps r x :=
  (List.all_eq_true.2 fun i hi => by rw [h i (List.mem_range.1 hi)]; rfl).symm
theorem free_step {m : List (Int × Int)} {ps : List Int} {r x : Int} {j : Nat} (hJ : ∀ i, i < j → (decide (ps.getD i default = x) && decide (prI i r ∈ m)) = false) (h : ¬ ps.getD j default = x ∨ decide ((mnI j r, mxI j r) ∈ m) = false) : ∀ i, i < j + 1 → (decide (ps.getD i default = x) && decide (prI i r ∈ m)) = false := fun i hi => by
  rcases Nat.lt_or_ge i j with h1 | h1
  · exact hJ i h1
  · obtain rfl : i = j := by omega
    rcases h with h | h
    · rw [decide_eq_false h]; rfl
    · have h3 : decide (prI i r ∈ m) = false := h
      rw [h3, Bool.and_false]
def fitsP (k w : Int) : Bool := (decide (1 ≤ w) && decide (w ≤ k)) || (decide (w ≤ -1) && decide (-4000 ≤ w))
def nofit (k w : Int) : Bool := !fitsP k w
def okP (c : Cf) (ps : List Int) (i : Nat) : Bool := !((c.2.getD i default && decide (0 < ps.getD i default)) || !freeB c.1 (ps.take i) i (ps.getD i default))
def acheck (f : GFn) (li lo : List (List Bool)) (ps : List Int) (k : Int) : Bool := checkL f li lo && (decide ((ps.length : Int) = f.regs) && (!(ps.any (nofit k)) && (List.range ps.length).all (okP (confl f li lo) ps)))
section
variable {f : GFn} {li lo : List (List Bool)} {ps : List Int} {k : Int}
theorem acheck_no1 (h : checkL f li lo = false) : false = acheck f li lo ps k := by unfold acheck; rw [h]; rfl
theorem acheck_no2 (h : ¬ (ps.length : Int) = f.regs) : false = acheck f li lo ps k := by unfold acheck; rw [decide_eq_false h]; simp
theorem acheck_no3 (h : ps.any (nofit k) = true) : false = acheck f li lo ps k := by unfold acheck; rw [h]; simp
theorem acheck_no4 {i : Nat} (hi : i < ps.length) (h : okP (confl f li lo) ps i = false) : false = acheck f li lo ps k := by
  cases h1 : acheck f li lo ps k
  · rfl
  · unfold acheck at h1
    simp only [Bool.and_eq_true, List.all_eq_true] at h1
    have := h1.2.2.2 i (List.mem_range.2 hi)
    rw [h] at this; cases this
theorem acheck_yes (h1 : checkL f li lo = true) (h2 : (ps.length : Int) = f.regs) (h3 : ps.any (nofit k) = false) (h4 : ∀ i, i < ps.length → okP (confl f li lo) ps i = true) : true = acheck f li lo ps k := by
  unfold acheck
  rw [h1, decide_eq_true h2, h3, List.all_eq_true.2 (fun i hi => h4 i (List.mem_range.1 hi))]; rfl
theorem okP_no1 {c : Cf} {i : Nat} (h1 : c.2.getD i default = true) (h2 : ps.getD i default > 0) : okP c ps i = false := by unfold okP; rw [h1, decide_eq_true h2]; rfl
theorem okP_no2 {c : Cf} {i : Nat} (h1 : freeB c.1 (ps.take i) i (ps.getD i default) = false) : okP c ps i = false := by unfold okP; rw [h1]; simp
theorem okP_yes1 {c : Cf} {i : Nat} (h1 : c.2.getD i default = false) (h2 : freeB c.1 (ps.take i) i (ps.getD i default) = true) : okP c ps i = true := by unfold okP; rw [h1, h2]; rfl
theorem okP_yes2 {c : Cf} {i : Nat} (h1 : ¬ ps.getD i default > 0) (h2 : freeB c.1 (ps.take i) i (ps.getD i default) = true) : okP c ps i = true := by unfold okP; rw [decide_eq_false (show ¬ 0 < ps.getD i default from h1), h2]; simp
end
end Lg
end Go.Proofs.Ytpfhmodjjljpjaa

namespace Go.Proofs.Ytpfhmodjjljpjaa
open Go.RowKit
namespace Lg
set_option maxRecDepth 100000
set_option linter.unusedVariables false
set_option linter.unusedSimpArgs false
theorem body124 : (Try.prog.funcs[124]?).map (fun fn => (fn.name == "runtime.NumGoroutine" || fn.body.isNone)) = some false := by kernel_rfl
theorem made28_spec (a b : Int) : Spec Try.prog 124 [.v (.int .i64 a), .v (.int .i64 b)] 1 [] (.agg [.v (.int .i64 (mnI a b)), .v (.int .i64 (mxI a b))]) 1 [] := by
 refine spec_of D (fn := Try.f124) rfl rfl (Nat.le_of_ble_eq_true rfl) ?_
 refine W_seq ?_
 refine W_seqK (b' := 17) rfl rfl ?_
 refine q1 4 1 1 rfl rfl (T_alloc D rfl rfl rfl) rfl ?_
 refine k_done rfl ?_
 refine thenK_n ?_
 refine W_seq ?_
 refine W_seqK (b' := 145) rfl rfl ?_
 refine q0 5 17 1 rfl rfl (T_move rfl rfl) rfl ?_
 refine q0 6 33 2 rfl rfl (T_move rfl rfl) rfl ?_
 refine q0 7 49 3 rfl rfl (T_min rfl rfl rfl) rfl ?_
 refine q0 8 65 4 rfl rfl (T_move rfl rfl) rfl ?_
 refine q0 9 81 5 rfl rfl (T_move rfl rfl) rfl ?_
 refine q0 10 97 6 rfl rfl (T_max rfl rfl rfl) rfl ?_
 refine q0 11 113 7 rfl rfl (T_pair rfl rfl rfl) rfl ?_
 refine s1 129 8 rfl rfl (T_stB D (cs' := [_, _]) rfl rfl rfl rfl flat_agg rfl rfl (Nat.le_of_ble_eq_true rfl) rfl) rfl ?_
 refine k_done rfl ?_
 refine thenK_n ?_
 refine W_ret ?_
 exact .mk [] (.inr rfl) (.cellA rfl rfl rfl rfl rfl (.nil)) (by first | rfl | simp) (.nil) rfl
theorem body83 : (Try.prog.funcs[83]?).map (fun fn => (fn.name == "runtime.NumGoroutine" || fn.body.isNone)) = some false := by kernel_rfl
theorem free_spec (m : List (Int × Int)) (v : List Bool) (ps : List Int) (r x : Int) (hl : ps.length ≤ 1000000000) : Spec Try.prog 83 [.p 1 0, .r 4, .v (.int .i64 r), .v (.int .i64 x)] 5 [(1, .box 117 [.r 2, .r 3]), (2, .map m), (3, .row 4 1 (v.map eB)), (4, .fz 1 (ps.map eI))] (.v (.bool (freeB m ps r x))) 5 [(1, .box 117 [.r 2, .r 3]), (2, .map m), (3, .row 4 1 (v.map eB))] := by
 refine spec_of D (fn := Try.f83) rfl rfl (Nat.le_of_ble_eq_true rfl) ?_
 refine W_seq ?_
 refine W_seqK (b' := 21) rfl rfl ?_
 refine q0 8 5 1 rfl rfl (T_assign rfl rfl) rfl ?_
 refine k_done rfl ?_
 refine thenK_n ?_
 refine W_seq ?_
 refine W_seq ?_
 refine W_seqK (b' := 69) rfl rfl ?_
 refine q0 11 21 1 rfl rfl (T_move rfl rfl) rfl ?_
 refine q0 12 37 2 rfl rfl (T_len D rfl rfl rfl rfl rfl rfl) rfl ?_
 refine q0 13 53 3 rfl rfl (T_move rfl rfl) rfl ?_
 refine k_done rfl ?_
 refine thenK_n ?_
 refine W_block ?_
 refine W_loop (ι := Nat) 5 (fun j => ⟨[(0, .p 1 0), (2, .v (.int .i64 r)), (3, .v (.int .i64 x)), (11, .r 4), (12, .v (.int .i64 (ps.length : Int))), (13, .v (.int .i64 (j : Int)))], [(1, .box 117 [.r 2, .r 3]), (2, .map (m)), (3, .row 4 1 (v.map eB)), (4, .fz 1 (ps.map eI))]⟩) (fun j => j ≤ ps.length ∧ ∀ i, i < j → (decide (ps.getD i default = x) && decide (prI i r ∈ m)) = false) (fun j => ps.length - j) (0) (by exact ⟨Nat.zero_le _, fun i h => absurd h (Nat.not_lt_zero _)⟩) ?_ (fun j hJ => ?_)
 ·exact ⟨[], .same rfl rfl (.eq rfl (.eq rfl (.same rfl rfl (.eq rfl (.eq rfl (.nil) (by first | rfl | simp)) (by first | rfl | simp))) (by first | rfl | simp)) (by first | rfl | simp)), .box (by first | rfl | simp) (.mapE rfl (.rowE rfl (.fzE rfl (.nil) (by first | rfl | simp)) (by first | rfl | simp)) (by first | rfl | simp)), rfl⟩
 refine W_seq ?_
 refine W_seqK (b' := 21) rfl rfl ?_
 refine q0 14 5 1 rfl rfl (T_cmp rfl rfl rfl rfl) rfl ?_
 refine k_done rfl ?_
 refine thenK_n ?_
 refine W_seq ?_
 refine W_cond rfl (fun g1 => ?_) (fun g1 => ?_)
 ·have h1 := c_lss_t g1
  refine W_skip ?_
  refine thenK_n ?_
  refine W_seq ?_
  refine W_block ?_
  refine W_seq ?_
  refine W_seqK (b' := 101) rfl rfl ?_
  refine q0 15 21 1 rfl rfl (T_move rfl rfl) rfl ?_
  first | refine q0 16 37 2 rfl rfl (T_indexAddr D rfl rfl rfl rfl rfl rfl rfl rfl (by first | assumption | omega | (simp; omega))) rfl ?_ | refine q0 16 37 2 rfl rfl (T_indexAddrZ D rfl rfl rfl rfl rfl rfl rfl rfl (by first | assumption | omega | (simp; omega)) (by first | assumption | omega | (simp; omega))) rfl ?_
  refine q0 17 53 3 rfl rfl (T_ldE D (lv := .v _) (nn := 0) (upd := []) rfl rfl rfl rfl rfl (by first | assumption | omega | (simp; omega)) rfl rfl rfl rfl) rfl ?_
  refine q0 9 69 4 rfl rfl (T_assign rfl rfl) rfl ?_
  refine q0 10 85 5 rfl rfl (T_assign rfl rfl) rfl ?_
  refine k_done rfl ?_
  refine thenK_n ?_
  refine W_seq ?_
  refine W_anyK (b' := 309) rfl rfl rfl ?_
  refine q0 18 101 1 rfl rfl (T_move rfl rfl) rfl ?_
  refine q0 19 117 2 rfl rfl (T_move rfl rfl) rfl ?_
  refine q0 20 133 3 rfl rfl (T_cmp rfl rfl rfl rfl) rfl ?_
  refine q0 21 149 4 rfl rfl (T_move rfl rfl) rfl ?_
  refine k_split (d := 21) rfl (fun g2 => ?_) (fun g2 => ?_)
  ·have h2 := c_eql_t g2
   refine k_op0 (d := 22) (b := 165) (j' := 5) rfl rfl rfl rfl (g_tt rfl rfl rfl g2) (T_move rfl rfl) rfl ?_
   refine k_op0 (d := 23) (b := 181) (j' := 6) rfl rfl rfl rfl (g_tt rfl rfl rfl g2) (T_nilCheck rfl rfl) rfl ?_
   refine k_op0 (d := 24) (b := 197) (j' := 7) rfl rfl rfl rfl (g_tt rfl rfl rfl g2) (T_fa D (m := 0) rfl rfl rfl rfl rfl rfl) rfl ?_
   refine k_op0 (d := 25) (b := 213) (j' := 8) rfl rfl rfl rfl (g_tt rfl rfl rfl g2) (T_load_b D rfl rfl rfl rfl rfl rfl) rfl ?_
   refine k_op0 (d := 26) (b := 229) (j' := 9) rfl rfl rfl rfl (g_tt rfl rfl rfl g2) (T_move rfl rfl) rfl ?_
   refine k_op0 (d := 27) (b := 245) (j' := 10) rfl rfl rfl rfl (g_tt rfl rfl rfl g2) (T_move rfl rfl) rfl ?_
   refine k_opn (d := 28) (b := 261) (j' := 11) rfl rfl rfl rfl (g_tt rfl rfl rfl g2) (T_call (lvs := [_, _]) (L := []) (lv := .agg [.v _, .v _]) (upd := []) (nn := 0) false (made28_spec _ _) body124 rfl rfl rfl rfl (.nil) rfl (.inl rfl) rfl rfl rfl) rfl ?_
   refine k_op0 (d := 29) (b := 277) (j' := 12) rfl rfl rfl rfl (g_tt rfl rfl rfl g2) (T_lookup rfl rfl rfl rfl) rfl ?_
   refine q0 30 293 13 rfl rfl (T_pick_t rfl rfl rfl g2) rfl ?_
   refine k_done rfl ?_
   refine ⟨rfl, ?_⟩
   refine thenK_n ?_
   refine W_cond rfl (fun g3 => ?_) (fun g3 => ?_)
   ·have h3 := g3; (try simp only [cmpB, decide_eq_true_eq, decide_eq_false_iff_not, beq_iff_eq, beq_eq_false_iff_ne, bne_iff_ne, ne_eq, bne_eq_false_iff_eq, Bool.not_eq_true', Bool.not_eq_false', Int.not_lt, Int.not_le] at h3)
    refine W_seq ?_
    refine W_seqK (b' := 325) rfl rfl ?_
    refine q0 8 309 1 rfl rfl (T_assign rfl rfl) rfl ?_
    refine k_done rfl ?_
    refine thenK_n ?_
    refine W_ret ?_
    refine blockK_r ?_
    refine thenK_r ?_
    refine thenK_r ?_
    refine blockK_r ?_
    refine thenK_r ?_
    exact .mk [] (.inr rfl) (.tmp rfl (.nil)) (by first | rfl | (simp only [resLV, LV.ren, LV.v.injEq, Value.bool.injEq]; exact free_no (i := j) (by omega) (by omega) (by assumption))) (.box (by first | rfl | (simp only [resLV, LV.ren, LV.v.injEq, Value.bool.injEq]; exact free_no (i := j) (by omega) (by omega) (by assumption))) (.mapE rfl (.rowE rfl (.nil) (by first | rfl | (simp only [resLV, LV.ren, LV.v.injEq, Value.bool.injEq]; exact free_no (i := j) (by omega) (by omega) (by assumption)))) (by first | rfl | (simp only [resLV, LV.ren, LV.v.injEq, Value.bool.injEq]; exact free_no (i := j) (by omega) (by omega) (by assumption))))) rfl
   ·have h3 := g3; (try simp only [cmpB, decide_eq_true_eq, decide_eq_false_iff_not, beq_iff_eq, beq_eq_false_iff_ne, bne_iff_ne, ne_eq, bne_eq_false_iff_eq, Bool.not_eq_true', Bool.not_eq_false', Int.not_lt, Int.not_le] at h3)
    refine W_skip ?_
    refine blockK_n ?_
    refine thenK_n ?_
    refine W_seqK (b' := 341) rfl rfl ?_
    refine q0 31 309 1 rfl rfl (T_add64 rfl rfl rfl (by first | assumption | omega | (simp; omega))) rfl ?_
    refine q0 13 325 2 rfl rfl (T_move rfl rfl) rfl ?_
    refine k_done rfl ?_
    refine thenK_n ?_
    refine ⟨j + 1, by (try dsimp only); exact ⟨by omega, free_step hJ.2 (.inr (by assumption))⟩, by (try dsimp only); omega, ?_⟩
    exact ⟨[], .same rfl rfl (.eq rfl (.eq rfl (.same rfl rfl (.eq rfl (.eq rfl (.nil) (by first | rfl | simp)) rfl)) rfl) rfl), .box (by first | rfl | simp) (.mapE rfl (.rowE rfl (.fzE rfl (.nil) rfl) (by first | rfl | simp)) (by first | rfl | simp)), rfl⟩
  ·have h2 := c_eql_f g2
   refine k_no (d := 22) (j' := 5) rfl rfl rfl (g_tf rfl rfl rfl g2) ?_
   refine k_no (d := 23) (j' := 6) rfl rfl rfl (g_tf rfl rfl rfl g2) ?_
   refine k_no (d := 24) (j' := 7) rfl rfl rfl (g_tf rfl rfl rfl g2) ?_
   refine k_no (d := 25) (j' := 8) rfl rfl rfl (g_tf rfl rfl rfl g2) ?_
   refine k_no (d := 26) (j' := 9) rfl rfl rfl (g_tf rfl rfl rfl g2) ?_
   refine k_no (d := 27) (j' := 10) rfl rfl rfl (g_tf rfl rfl rfl g2) ?_
   refine k_no (d := 28) (j' := 11) rfl rfl rfl (g_tf rfl rfl rfl g2) ?_
   refine k_no (d := 29) (j' := 12) rfl rfl rfl (g_tf rfl rfl rfl g2) ?_
   refine q0 30 293 13 rfl rfl (T_pick_f rfl rfl rfl g2) rfl ?_
   refine k_done rfl ?_
   refine ⟨rfl, ?_⟩
   refine thenK_n ?_
   refine W_cond rfl (fun g4 => ?_) (fun g4 => ?_)
   ·exact absurd (g4.symm.trans rfl) (by decide)
   ·skip
    refine W_skip ?_
    refine blockK_n ?_
    refine thenK_n ?_
    refine W_seqK (b' := 341) rfl rfl ?_
    refine q0 31 309 1 rfl rfl (T_add64 rfl rfl rfl (by first | assumption | omega | (simp; omega))) rfl ?_
    refine q0 13 325 2 rfl rfl (T_move rfl rfl) rfl ?_
    refine k_done rfl ?_
    refine thenK_n ?_
    refine ⟨j + 1, by (try dsimp only); exact ⟨by omega, free_step hJ.2 (.inl (by omega))⟩, by (try dsimp only); omega, ?_⟩
    exact ⟨[], .same rfl rfl (.eq rfl (.eq rfl (.same rfl rfl (.eq rfl (.eq rfl (.nil) (by first | rfl | simp)) rfl)) rfl) rfl), .box (by first | rfl | simp) (.mapE rfl (.rowE rfl (.fzE rfl (.nil) rfl) (by first | rfl | simp)) (by first | rfl | simp)), rfl⟩
 ·have h1 := c_lss_f g1
  refine W_exit ?_
  refine thenK_e ?_
  refine thenK_e ?_
  refine blockK_hit ?_
  refine thenK_n ?_
  refine W_seq ?_
  refine W_seqK (b' := 37) rfl rfl ?_
  refine q0 8 21 1 rfl rfl (T_assign rfl rfl) rfl ?_
  refine k_done rfl ?_
  refine thenK_n ?_
  refine W_ret ?_
  exact .mk [] (.inr rfl) (.tmp rfl (.nil)) (by first | rfl | (simp only [resLV, LV.ren, LV.v.injEq, Value.bool.injEq]; exact free_yes (fun i h => hJ.2 i (by omega)))) (.box (by first | rfl | (simp only [resLV, LV.ren, LV.v.injEq, Value.bool.injEq]; exact free_yes (fun i h => hJ.2 i (by omega)))) (.mapE rfl (.rowE rfl (.nil) (by first | rfl | (simp only [resLV, LV.ren, LV.v.injEq, Value.bool.injEq]; exact free_yes (fun i h => hJ.2 i (by omega))))) (by first | rfl | (simp only [resLV, LV.ren, LV.v.injEq, Value.bool.injEq]; exact free_yes (fun i h => hJ.2 i (by omega)))))) rfl
theorem body122 : (Try.prog.funcs[122]?).map (fun fn => (fn.name == "runtime.NumGoroutine" || fn.body.isNone)) = some false := by kernel_rfl
theorem all_spec (m : List (Int × Int)) (v s : List Bool) (hl : s.length ≤ 1000000) : Spec Try.prog 122 [.p 1 0, .r 4] 5 [(1, .box 117 [.r 2, .r 3]), (2, .map m), (3, .row 4 1 (v.map eB)), (4, .fz 1 (s.map eB))] (.tup []) 5 [(1, .box 117 [.r 2, .r 3]), (2, .map (allI s m s.length)), (3, .row 4 1 (v.map eB))] := by
 refine spec_of D (fn := Try.f122) rfl rfl (Nat.le_of_ble_eq_true rfl) ?_
 refine W_seq ?_
 refine W_seqK (b' := 53) rfl rfl ?_
 refine q0 7 5 1 rfl rfl (T_move rfl rfl) rfl ?_
 refine q0 8 21 2 rfl rfl (T_len D rfl rfl rfl rfl rfl rfl) rfl ?_
 refine q0 9 37 3 rfl rfl (T_move rfl rfl) rfl ?_
 refine k_done rfl ?_
 refine thenK_n ?_
 refine W_block ?_
 refine W_loop (ι := Nat) 5 (fun i => ⟨[(0, .p 1 0), (1, .r 4), (7, .r 4), (8, .v (.int .i64 (s.length : Int))), (9, .v (.int .i64 (i : Int)))], [(1, .box 117 [.r 2, .r 3]), (2, .map (allI s m i)), (3, .row 4 1 (v.map eB)), (4, .fz 1 (s.map eB))]⟩) (fun i => i ≤ s.length) (fun i => s.length - i) (0) (by exact Nat.zero_le _) ?_ (fun i hJ => ?_)
 ·exact ⟨[], .same rfl rfl (.same rfl rfl (.same rfl rfl (.eq rfl (.eq rfl (.nil) (by first | rfl | simp)) (by first | rfl | simp)))), .box (by first | rfl | simp) (.mapE rfl (.rowE rfl (.fzE rfl (.nil) (by first | rfl | simp)) (by first | rfl | simp)) (by first | rfl | simp)), rfl⟩
 refine W_seq ?_
 refine W_seqK (b' := 21) rfl rfl ?_
 refine q0 10 5 1 rfl rfl (T_cmp rfl rfl rfl rfl) rfl ?_
 refine k_done rfl ?_
 refine thenK_n ?_
 refine W_seq ?_
 refine W_cond rfl (fun g1 => ?_) (fun g1 => ?_)
 ·have h1 := c_lss_t g1
  refine W_skip ?_
  refine thenK_n ?_
  refine W_seq ?_
  refine W_block ?_
  refine W_seq ?_
  refine W_seqK (b' := 101) rfl rfl ?_
  refine q0 11 21 1 rfl rfl (T_move rfl rfl) rfl ?_
  first | refine q0 12 37 2 rfl rfl (T_indexAddr D rfl rfl rfl rfl rfl rfl rfl rfl (by first | assumption | omega | (simp; omega))) rfl ?_ | refine q0 12 37 2 rfl rfl (T_indexAddrZ D rfl rfl rfl rfl rfl rfl rfl rfl (by first | assumption | omega | (simp; omega)) (by first | assumption | omega | (simp; omega))) rfl ?_
  refine q0 13 53 3 rfl rfl (T_ldE D (lv := .v _) (nn := 0) (upd := []) rfl rfl rfl rfl rfl (by first | assumption | omega | (simp; omega)) rfl rfl rfl rfl) rfl ?_
  refine q0 4 69 4 rfl rfl (T_assign rfl rfl) rfl ?_
  refine q0 5 85 5 rfl rfl (T_assign rfl rfl) rfl ?_
  refine k_done rfl ?_
  refine thenK_n ?_
  refine W_seq ?_
  refine W_seqK (b' := 133) rfl rfl ?_
  refine q0 14 101 1 rfl rfl (T_move rfl rfl) rfl ?_
  refine q0 15 117 2 rfl rfl (T_move rfl rfl) rfl ?_
  refine k_done rfl ?_
  refine thenK_n ?_
  refine W_block ?_
  refine W_loop (ι := Nat) 5 (fun j => ⟨[(0, .p 1 0), (1, .r 4), (4, .v (.int .i64 (i : Int))), (5, .v (.bool (s.getD i default))), (7, .r 4), (8, .v (.int .i64 (s.length : Int))), (9, .v (.int .i64 (i : Int))), (14, .v (.int .i64 (i : Int))), (15, .v (.int .i64 (j : Int)))], [(1, .box 117 [.r 2, .r 3]), (2, .map (allJ s i (allI s m i) j)), (3, .row 4 1 (v.map eB)), (4, .fz 1 (s.map eB))]⟩) (fun j => j ≤ i) (fun j => i - j) (0) (by exact Nat.zero_le _) ?_ (fun j hK => ?_)
  ·exact ⟨[], .same rfl rfl (.same rfl rfl (.eq rfl (.eq rfl (.same rfl rfl (.eq rfl (.eq rfl (.eq rfl (.eq rfl (.nil) (by first | rfl | simp)) (by first | rfl | simp)) (by first | rfl | simp)) (by first | rfl | simp))) (by first | rfl | simp)) (by first | rfl | simp))), .box (by first | rfl | simp) (.mapE rfl (.rowE rfl (.fzE rfl (.nil) (by first | rfl | simp)) (by first | rfl | simp)) (by first | rfl | simp)), rfl⟩
  refine W_seq ?_
  refine W_seqK (b' := 21) rfl rfl ?_
  refine q0 16 5 1 rfl rfl (T_cmp rfl rfl rfl rfl) rfl ?_
  refine k_done rfl ?_
  refine thenK_n ?_
  refine W_seq ?_
  refine W_cond rfl (fun g2 => ?_) (fun g2 => ?_)
  ·have h2 := c_lss_t g2
   refine W_skip ?_
   refine thenK_n ?_
   refine W_seq ?_
   refine W_block ?_
   refine W_seq ?_
   refine W_seqK (b' := 53) rfl rfl ?_
   refine q0 17 21 1 rfl rfl (T_move rfl rfl) rfl ?_
   refine q0 6 37 2 rfl rfl (T_assign rfl rfl) rfl ?_
   refine k_done rfl ?_
   refine thenK_n ?_
   refine W_seq ?_
   refine W_seqK (b' := 165) rfl rfl ?_
   refine q0 18 53 1 rfl rfl (T_move rfl rfl) rfl ?_
   refine q0 19 69 2 rfl rfl (T_move rfl rfl) rfl ?_
   refine k_split (d := 19) rfl (fun g3 => ?_) (fun g3 => ?_)
   ·have h3 := g3; (try simp only [cmpB, decide_eq_true_eq, decide_eq_false_iff_not, beq_iff_eq, beq_eq_false_iff_ne, bne_iff_ne, ne_eq, bne_eq_false_iff_eq, Bool.not_eq_true', Bool.not_eq_false', Int.not_lt, Int.not_le] at h3)
    refine k_op0 (d := 20) (b := 85) (j' := 3) rfl rfl rfl rfl (g_tt rfl rfl rfl g3) (T_move rfl rfl) rfl ?_
    refine k_op0 (d := 21) (b := 101) (j' := 4) rfl rfl rfl rfl (g_tt rfl rfl rfl g3) (T_move rfl rfl) rfl ?_
    first | refine k_op0 (d := 22) (b := 117) (j' := 5) rfl rfl rfl rfl (g_tt rfl rfl rfl g3) (T_indexAddr D rfl rfl rfl rfl rfl rfl rfl rfl (by first | assumption | omega | (simp; omega))) rfl ?_ | refine k_op0 (d := 22) (b := 117) (j' := 5) rfl rfl rfl rfl (g_tt rfl rfl rfl g3) (T_indexAddrZ D rfl rfl rfl rfl rfl rfl rfl rfl (by first | assumption | omega | (simp; omega)) (by first | assumption | omega | (simp; omega))) rfl ?_
    refine k_op0 (d := 23) (b := 133) (j' := 6) rfl rfl rfl rfl (g_tt rfl rfl rfl g3) (T_ldE D (lv := .v _) (nn := 0) (upd := []) rfl rfl rfl rfl rfl (by first | assumption | omega | (simp; omega)) rfl rfl rfl rfl) rfl ?_
    refine q0 24 149 7 rfl rfl (T_pick_t rfl rfl rfl g3) rfl ?_
    refine k_done rfl ?_
    refine thenK_n ?_
    refine W_cond rfl (fun g4 => ?_) (fun g4 => ?_)
    ·have h4 := g4; (try simp only [cmpB, decide_eq_true_eq, decide_eq_false_iff_not, beq_iff_eq, beq_eq_false_iff_ne, bne_iff_ne, ne_eq, bne_eq_false_iff_eq, Bool.not_eq_true', Bool.not_eq_false', Int.not_lt, Int.not_le] at h4)
     refine W_anyK (b' := 293) rfl rfl rfl ?_
     refine q0 25 165 1 rfl rfl (T_move rfl rfl) rfl ?_
     refine q0 26 181 2 rfl rfl (T_nilCheck rfl rfl) rfl ?_
     refine q0 27 197 3 rfl rfl (T_fa D (m := 0) rfl rfl rfl rfl rfl rfl) rfl ?_
     refine q0 28 213 4 rfl rfl (T_load_b D rfl rfl rfl rfl rfl rfl) rfl ?_
     refine q0 29 229 5 rfl rfl (T_move rfl rfl) rfl ?_
     refine q0 30 245 6 rfl rfl (T_move rfl rfl) rfl ?_
     refine qn 31 261 7 rfl rfl (T_call (lvs := [_, _]) (L := []) (lv := .agg [.v _, .v _]) (upd := []) (nn := 0) false (made28_spec _ _) body124 rfl rfl rfl rfl (.nil) rfl (.inl rfl) rfl rfl rfl) rfl ?_
     refine s1 277 8 rfl rfl (T_mapUpd rfl rfl rfl rfl rfl) rfl ?_
     refine k_done rfl ?_
     refine ⟨rfl, ?_⟩
     refine blockK_n ?_
     refine thenK_n ?_
     refine W_seqK (b' := 325) rfl rfl ?_
     refine q0 32 293 1 rfl rfl (T_add64 rfl rfl rfl (by first | assumption | omega | (simp; omega))) rfl ?_
     refine q0 15 309 2 rfl rfl (T_move rfl rfl) rfl ?_
     refine k_done rfl ?_
     refine thenK_n ?_
     refine ⟨j + 1, by (try dsimp only); omega, by (try dsimp only); omega, ?_⟩
     exact ⟨[], .same rfl rfl (.same rfl rfl (.eq rfl (.eq rfl (.same rfl rfl (.eq rfl (.eq rfl (.eq rfl (.eq rfl (.nil) (by first | rfl | (exact allJ_t (by assumption) (by assumption)) | (exact allJ_f1 (by assumption)) | (exact allJ_f2 (by assumption)))) rfl) rfl) rfl)) rfl) rfl)), .box (by first | rfl | (exact allJ_t (by assumption) (by assumption)) | (exact allJ_f1 (by assumption)) | (exact allJ_f2 (by assumption))) (.mapE rfl (.rowE rfl (.fzE rfl (.nil) rfl) (by first | rfl | (exact allJ_t (by assumption) (by assumption)) | (exact allJ_f1 (by assumption)) | (exact allJ_f2 (by assumption)))) (by first | rfl | (exact allJ_t (by assumption) (by assumption)) | (exact allJ_f1 (by assumption)) | (exact allJ_f2 (by assumption)))), rfl⟩
    ·have h4 := g4; (try simp only [cmpB, decide_eq_true_eq, decide_eq_false_iff_not, beq_iff_eq, beq_eq_false_iff_ne, bne_iff_ne, ne_eq, bne_eq_false_iff_eq, Bool.not_eq_true', Bool.not_eq_false', Int.not_lt, Int.not_le] at h4)
     refine W_skip ?_
     refine blockK_n ?_
     refine thenK_n ?_
     refine W_seqK (b' := 197) rfl rfl ?_
     refine q0 32 165 1 rfl rfl (T_add64 rfl rfl rfl (by first | assumption | omega | (simp; omega))) rfl ?_
     refine q0 15 181 2 rfl rfl (T_move rfl rfl) rfl ?_
     refine k_done rfl ?_
     refine thenK_n ?_
     refine ⟨j + 1, by (try dsimp only); omega, by (try dsimp only); omega, ?_⟩
     exact ⟨[], .same rfl rfl (.same rfl rfl (.eq rfl (.eq rfl (.same rfl rfl (.eq rfl (.eq rfl (.eq rfl (.eq rfl (.nil) (by first | rfl | (exact allJ_t (by assumption) (by assumption)) | (exact allJ_f1 (by assumption)) | (exact allJ_f2 (by assumption)))) rfl) rfl) rfl)) rfl) rfl)), .box (by first | rfl | (exact allJ_t (by assumption) (by assumption)) | (exact allJ_f1 (by assumption)) | (exact allJ_f2 (by assumption))) (.mapE rfl (.rowE rfl (.fzE rfl (.nil) rfl) (by first | rfl | (exact allJ_t (by assumption) (by assumption)) | (exact allJ_f1 (by assumption)) | (exact allJ_f2 (by assumption)))) (by first | rfl | (exact allJ_t (by assumption) (by assumption)) | (exact allJ_f1 (by assumption)) | (exact allJ_f2 (by assumption)))), rfl⟩
   ·have h3 := g3; (try simp only [cmpB, decide_eq_true_eq, decide_eq_false_iff_not, beq_iff_eq, beq_eq_false_iff_ne, bne_iff_ne, ne_eq, bne_eq_false_iff_eq, Bool.not_eq_true', Bool.not_eq_false', Int.not_lt, Int.not_le] at h3)
    refine k_no (d := 20) (j' := 3) rfl rfl rfl (g_tf rfl rfl rfl g3) ?_
    refine k_no (d := 21) (j' := 4) rfl rfl rfl (g_tf rfl rfl rfl g3) ?_
    refine k_no (d := 22) (j' := 5) rfl rfl rfl (g_tf rfl rfl rfl g3) ?_
    refine k_no (d := 23) (j' := 6) rfl rfl rfl (g_tf rfl rfl rfl g3) ?_
    refine q0 24 149 7 rfl rfl (T_pick_f rfl rfl rfl g3) rfl ?_
    refine k_done rfl ?_
    refine thenK_n ?_
    refine W_cond rfl (fun g5 => ?_) (fun g5 => ?_)
    ·exact absurd (g5.symm.trans rfl) (by decide)
    ·skip
     refine W_skip ?_
     refine blockK_n ?_
     refine thenK_n ?_
     refine W_seqK (b' := 197) rfl rfl ?_
     refine q0 32 165 1 rfl rfl (T_add64 rfl rfl rfl (by first | assumption | omega | (simp; omega))) rfl ?_
     refine q0 15 181 2 rfl rfl (T_move rfl rfl) rfl ?_
     refine k_done rfl ?_
     refine thenK_n ?_
     refine ⟨j + 1, by (try dsimp only); omega, by (try dsimp only); omega, ?_⟩
     exact ⟨[], .same rfl rfl (.same rfl rfl (.eq rfl (.eq rfl (.same rfl rfl (.eq rfl (.eq rfl (.eq rfl (.eq rfl (.nil) (by first | rfl | (exact allJ_t (by assumption) (by assumption)) | (exact allJ_f1 (by assumption)) | (exact allJ_f2 (by assumption)))) rfl) rfl) rfl)) rfl) rfl)), .box (by first | rfl | (exact allJ_t (by assumption) (by assumption)) | (exact allJ_f1 (by assumption)) | (exact allJ_f2 (by assumption))) (.mapE rfl (.rowE rfl (.fzE rfl (.nil) rfl) (by first | rfl | (exact allJ_t (by assumption) (by assumption)) | (exact allJ_f1 (by assumption)) | (exact allJ_f2 (by assumption)))) (by first | rfl | (exact allJ_t (by assumption) (by assumption)) | (exact allJ_f1 (by assumption)) | (exact allJ_f2 (by assumption)))), rfl⟩
  ·have h2 := c_lss_f g2
   refine W_exit ?_
   refine thenK_e ?_
   refine thenK_e ?_
   refine blockK_hit ?_
   refine blockK_n ?_
   refine thenK_n ?_
   refine W_seqK (b' := 53) rfl rfl ?_
   refine q0 33 21 1 rfl rfl (T_add64 rfl rfl rfl (by first | assumption | omega | (simp; omega))) rfl ?_
   refine q0 9 37 2 rfl rfl (T_move rfl rfl) rfl ?_
   refine k_done rfl ?_
   refine thenK_n ?_
   refine ⟨i + 1, by (try dsimp only); omega, by (try dsimp only); omega, ?_⟩
   exact ⟨[], .same rfl rfl (.same rfl rfl (.same rfl rfl (.eq rfl (.eq rfl (.nil) (by first | rfl | (have ej : j = i := (by omega); subst ej; first | done | rfl))) rfl))), .box (by first | rfl | (have ej : j = i := (by omega); subst ej; first | done | rfl)) (.mapE rfl (.rowE rfl (.fzE rfl (.nil) rfl) (by first | rfl | (have ej : j = i := (by omega); subst ej; first | done | rfl))) (by first | rfl | (have ej : j = i := (by omega); subst ej; first | done | rfl))), rfl⟩
 ·have h1 := c_lss_f g1
  refine W_exit ?_
  refine thenK_e ?_
  refine thenK_e ?_
  refine blockK_hit ?_
  exact .mk [] (.inl rfl) (.nil) rfl (.box (by first | rfl | (have ei : i = s.length := (by omega); subst ei; first | done | rfl)) (.mapE rfl (.rowE rfl (.nil) (by first | rfl | (have ei : i = s.length := (by omega); subst ei; first | done | rfl))) (by first | rfl | (have ei : i = s.length := (by omega); subst ei; first | done | rfl)))) rfl
theorem body123 : (Try.prog.funcs[123]?).map (fun fn => (fn.name == "runtime.NumGoroutine" || fn.body.isNone)) = some false := by kernel_rfl
theorem onec_spec (m : List (Int × Int)) (v s : List Bool) (t : GTac) (hl : s.length ≤ 1000000) (hv : v.length = s.length) : Spec Try.prog 123 [.p 1 0, .agg [.v (.int .i64 t.op), .v (.int .i64 t.d), .v (.int .i64 t.a), .v (.int .i64 t.b), .v (.int .i64 t.k), .v (.int .i64 t.base), .v (.int .i64 t.size), .v (.int .u32 t.n)], .r 4] 5 [(1, .box 117 [.r 2, .r 3]), (2, .map m), (3, .row 4 1 (v.map eB)), (4, .fz 1 (s.map eB))] (.tup []) 5 [(1, .box 117 [.r 2, .r 3]), (2, .map (oneM t s m s.length)), (3, .row 4 1 ((oneB' t s v s.length).map eB))] := by
 refine spec_of D (fn := Try.f123) rfl rfl (Nat.le_of_ble_eq_true rfl) ?_
 refine W_seq ?_
 refine W_seqK (b' := 21) rfl rfl ?_
 refine q1 4 5 1 rfl rfl (T_box rfl rfl flat_agg) rfl ?_
 refine k_done rfl ?_
 refine thenK_n ?_
 refine W_seq ?_
 refine W_seqK (b' := 69) rfl rfl ?_
 refine q0 9 21 1 rfl rfl (T_load_bA D (l := [_, _, _, _, _, _, _, _]) rfl rfl rfl rfl rfl rfl rfl) rfl ?_
 refine q0 10 37 2 rfl rfl (T_callV (lvs := [_]) (L := []) (bsets_spec t) body130 rfl rfl rfl rfl (.nil) rfl) rfl ?_
 refine q0 6 53 3 rfl rfl (T_assign rfl rfl) rfl ?_
 refine k_done rfl ?_
 refine thenK_n ?_
 refine W_seq ?_
 refine W_seqK (b' := 117) rfl rfl ?_
 refine q0 11 69 1 rfl rfl (T_move rfl rfl) rfl ?_
 refine q0 12 85 2 rfl rfl (T_len D rfl rfl rfl rfl rfl rfl) rfl ?_
 refine q0 13 101 3 rfl rfl (T_move rfl rfl) rfl ?_
 refine k_done rfl ?_
 refine thenK_n ?_
 refine W_block ?_
 refine W_loop (ι := Nat) 6 (fun i => ⟨[(0, .p 1 0), (4, .p 5 0), (6, .v (.int .i64 (setsT t))), (11, .r 4), (12, .v (.int .i64 (s.length : Int))), (13, .v (.int .i64 (i : Int)))], [(1, .box 117 [.r 2, .r 3]), (2, .map (oneM t s m i)), (3, .row 4 1 ((oneB' t s v i).map eB)), (4, .fz 1 (s.map eB)), (5, .box 70 [.v (.int .i64 t.op), .v (.int .i64 t.d), .v (.int .i64 t.a), .v (.int .i64 t.b), .v (.int .i64 t.k), .v (.int .i64 t.base), .v (.int .i64 t.size), .v (.int .u32 t.n)])]⟩) (fun i => i ≤ s.length) (fun i => s.length - i) (0) (by exact Nat.zero_le _) ?_ (fun i hJ => ?_)
 ·exact ⟨[(5, 5)], .same rfl rfl (.same rfl rfl (.eq rfl (.same rfl rfl (.eq rfl (.eq rfl (.nil) (by first | rfl | simp)) (by first | rfl | simp))) (by first | rfl | simp))), .box (by first | rfl | simp) (.mapE rfl (.rowE rfl (.fzE rfl (.box (by first | rfl | simp) (.nil)) (by first | rfl | simp)) (by first | rfl | simp)) (by first | rfl | simp)), rfl⟩
 have hol := oneB'_len t s v i
 refine W_seq ?_
 refine W_seqK (b' := 22) rfl rfl ?_
 refine q0 14 6 1 rfl rfl (T_cmp rfl rfl rfl rfl) rfl ?_
 refine k_done rfl ?_
 refine thenK_n ?_
 refine W_seq ?_
 refine W_cond rfl (fun g1 => ?_) (fun g1 => ?_)
 ·have h1 := c_lss_t g1
  refine W_skip ?_
  refine thenK_n ?_
  refine W_seq ?_
  refine W_block ?_
  refine W_seq ?_
  refine W_seqK (b' := 102) rfl rfl ?_
  refine q0 15 22 1 rfl rfl (T_move rfl rfl) rfl ?_
  first | refine q0 16 38 2 rfl rfl (T_indexAddr D rfl rfl rfl rfl rfl rfl rfl rfl (by first | assumption | omega | (simp; omega))) rfl ?_ | refine q0 16 38 2 rfl rfl (T_indexAddrZ D rfl rfl rfl rfl rfl rfl rfl rfl (by first | assumption | omega | (simp; omega)) (by first | assumption | omega | (simp; omega))) rfl ?_
  refine q0 17 54 3 rfl rfl (T_ldE D (lv := .v _) (nn := 0) (upd := []) rfl rfl rfl rfl rfl (by first | assumption | omega | (simp; omega)) rfl rfl rfl rfl) rfl ?_
  refine q0 7 70 4 rfl rfl (T_assign rfl rfl) rfl ?_
  refine q0 8 86 5 rfl rfl (T_assign rfl rfl) rfl ?_
  refine k_done rfl ?_
  refine thenK_n ?_
  refine W_seq ?_
  refine W_seq ?_
  refine W_seqK (b' := 134) rfl rfl ?_
  refine q0 18 102 1 rfl rfl (T_move rfl rfl) rfl ?_
  refine q0 19 118 2 rfl rfl (T_not rfl rfl) rfl ?_
  refine k_done rfl ?_
  refine thenK_n ?_
  refine W_cond rfl (fun g2 => ?_) (fun g2 => ?_)
  ·have h2 := g2; (try simp only [cmpB, decide_eq_true_eq, decide_eq_false_iff_not, beq_iff_eq, beq_eq_false_iff_ne, bne_iff_ne, ne_eq, bne_eq_false_iff_eq, Bool.not_eq_true', Bool.not_eq_false', Int.not_lt, Int.not_le] at h2)
   refine W_exit ?_
   refine thenK_e ?_
   refine blockK_hit ?_
   refine thenK_n ?_
   refine W_seqK (b' := 166) rfl rfl ?_
   refine q0 43 134 1 rfl rfl (T_add64 rfl rfl rfl (by first | assumption | omega | (simp; omega))) rfl ?_
   refine q0 13 150 2 rfl rfl (T_move rfl rfl) rfl ?_
   refine k_done rfl ?_
   refine thenK_n ?_
   refine ⟨i + 1, by (try dsimp only); omega, by (try dsimp only); omega, ?_⟩
   exact ⟨[(5, 5)], .same rfl rfl (.same rfl rfl (.eq rfl (.same rfl rfl (.eq rfl (.eq rfl (.nil) (by first | rfl | (exact oneM_t (by assumption) (by omega) (by omega)) | (exact oneM_f1 (by assumption)) | (exact oneM_f2 (by omega)) | (exact oneM_f3 (by omega)) | (rw [oneB'_t (by assumption) (by omega)]; first | done | rfl) | (rw [oneB'_f1 (by assumption)]; first | done | rfl) | (rw [oneB'_f2 (by omega)]; first | done | rfl))) rfl)) rfl)), .box (by first | rfl | (exact oneM_t (by assumption) (by omega) (by omega)) | (exact oneM_f1 (by assumption)) | (exact oneM_f2 (by omega)) | (exact oneM_f3 (by omega)) | (rw [oneB'_t (by assumption) (by omega)]; first | done | rfl) | (rw [oneB'_f1 (by assumption)]; first | done | rfl) | (rw [oneB'_f2 (by omega)]; first | done | rfl)) (.mapE rfl (.rowE rfl (.fzE rfl (.box (by first | rfl | (exact oneM_t (by assumption) (by omega) (by omega)) | (exact oneM_f1 (by assumption)) | (exact oneM_f2 (by omega)) | (exact oneM_f3 (by omega)) | (rw [oneB'_t (by assumption) (by omega)]; first | done | rfl) | (rw [oneB'_f1 (by assumption)]; first | done | rfl) | (rw [oneB'_f2 (by omega)]; first | done | rfl)) (.nil)) rfl) (by first | rfl | (exact oneM_t (by assumption) (by omega) (by omega)) | (exact oneM_f1 (by assumption)) | (exact oneM_f2 (by omega)) | (exact oneM_f3 (by omega)) | (rw [oneB'_t (by assumption) (by omega)]; first | done | rfl) | (rw [oneB'_f1 (by assumption)]; first | done | rfl) | (rw [oneB'_f2 (by omega)]; first | done | rfl))) (by first | rfl | (exact oneM_t (by assumption) (by omega) (by omega)) | (exact oneM_f1 (by assumption)) | (exact oneM_f2 (by omega)) | (exact oneM_f3 (by omega)) | (rw [oneB'_t (by assumption) (by omega)]; first | done | rfl) | (rw [oneB'_f1 (by assumption)]; first | done | rfl) | (rw [oneB'_f2 (by omega)]; first | done | rfl))), rfl⟩
  ·have h2 := g2; (try simp only [cmpB, decide_eq_true_eq, decide_eq_false_iff_not, beq_iff_eq, beq_eq_false_iff_ne, bne_iff_ne, ne_eq, bne_eq_false_iff_eq, Bool.not_eq_true', Bool.not_eq_false', Int.not_lt, Int.not_le] at h2)
   refine W_skip ?_
   refine thenK_n ?_
   refine W_seq ?_
   refine W_seq ?_
   refine W_seqK (b' := 246) rfl rfl ?_
   refine q0 20 134 1 rfl rfl (T_move rfl rfl) rfl ?_
   refine q0 21 150 2 rfl rfl (T_cmp rfl rfl rfl rfl) rfl ?_
   refine q0 22 166 3 rfl rfl (T_move rfl rfl) rfl ?_
   refine k_split (d := 22) rfl (fun g3 => ?_) (fun g3 => ?_)
   ·have h3 := c_geq_t g3
    refine k_op0 (d := 23) (b := 182) (j' := 4) rfl rfl rfl rfl (g_tt rfl rfl rfl g3) (T_move rfl rfl) rfl ?_
    refine k_op0 (d := 24) (b := 198) (j' := 5) rfl rfl rfl rfl (g_tt rfl rfl rfl g3) (T_move rfl rfl) rfl ?_
    refine k_op0 (d := 25) (b := 214) (j' := 6) rfl rfl rfl rfl (g_tt rfl rfl rfl g3) (T_cmp rfl rfl rfl rfl) rfl ?_
    refine q0 26 230 7 rfl rfl (T_pick_t rfl rfl rfl g3) rfl ?_
    refine k_done rfl ?_
    refine thenK_n ?_
    refine W_cond rfl (fun g4 => ?_) (fun g4 => ?_)
    ·have h4 := c_neq_t g4
     refine W_anyK (b' := 374) rfl rfl rfl ?_
     refine q0 27 246 1 rfl rfl (T_move rfl rfl) rfl ?_
     refine q0 28 262 2 rfl rfl (T_nilCheck rfl rfl) rfl ?_
     refine q0 29 278 3 rfl rfl (T_fa D (m := 0) rfl rfl rfl rfl rfl rfl) rfl ?_
     refine q0 30 294 4 rfl rfl (T_load_b D rfl rfl rfl rfl rfl rfl) rfl ?_
     refine q0 31 310 5 rfl rfl (T_move rfl rfl) rfl ?_
     refine q0 32 326 6 rfl rfl (T_move rfl rfl) rfl ?_
     refine qn 33 342 7 rfl rfl (T_call (lvs := [_, _]) (L := []) (lv := .agg [.v _, .v _]) (upd := []) (nn := 0) false (made28_spec _ _) body124 rfl rfl rfl rfl (.nil) rfl (.inl rfl) rfl rfl rfl) rfl ?_
     refine s1 358 8 rfl rfl (T_mapUpd rfl rfl rfl rfl rfl) rfl ?_
     refine k_done rfl ?_
     refine ⟨rfl, ?_⟩
     refine thenK_n ?_
     refine W_seq ?_
     refine W_seqK (b' := 422) rfl rfl ?_
     refine q0 34 374 1 rfl rfl (T_fa D (m := 0) rfl rfl rfl rfl rfl rfl) rfl ?_
     refine q0 35 390 2 rfl rfl (T_load_b D rfl rfl rfl rfl rfl rfl) rfl ?_
     refine q0 36 406 3 rfl rfl (T_cmp rfl rfl rfl rfl) rfl ?_
     refine k_done rfl ?_
     refine thenK_n ?_
     refine W_cond rfl (fun g5 => ?_) (fun g5 => ?_)
     ·have h5 := c_eql_t g5
      refine W_seqK (b' := 534) rfl rfl ?_
      refine q0 37 422 1 rfl rfl (T_move rfl rfl) rfl ?_
      refine q0 38 438 2 rfl rfl (T_nilCheck rfl rfl) rfl ?_
      refine q0 39 454 3 rfl rfl (T_fa D (m := 1) rfl rfl rfl rfl rfl rfl) rfl ?_
      refine q0 40 470 4 rfl rfl (T_load_b D rfl rfl rfl rfl rfl rfl) rfl ?_
      refine q0 41 486 5 rfl rfl (T_move rfl rfl) rfl ?_
      first | refine q0 42 502 6 rfl rfl (T_indexAddr D rfl rfl rfl rfl rfl rfl rfl rfl (by first | assumption | omega | (simp; omega))) rfl ?_ | refine q0 42 502 6 rfl rfl (T_indexAddrZ D rfl rfl rfl rfl rfl rfl rfl rfl (by first | assumption | omega | (simp; omega)) (by first | assumption | omega | (simp; omega))) rfl ?_
      refine s1 518 7 rfl rfl (T_store_e D (z := _) rfl rfl rfl rfl (flat_v rfl) rfl rfl (by first | assumption | omega | (simp; omega)) (.v rfl (.nil)) rfl (Nat.le_of_ble_eq_true rfl) rfl) rfl ?_
      refine k_done rfl ?_
      refine blockK_n ?_
      refine thenK_n ?_
      refine W_seqK (b' := 566) rfl rfl ?_
      refine q0 43 534 1 rfl rfl (T_add64 rfl rfl rfl (by first | assumption | omega | (simp; omega))) rfl ?_
      refine q0 13 550 2 rfl rfl (T_move rfl rfl) rfl ?_
      refine k_done rfl ?_
      refine thenK_n ?_
      refine ⟨i + 1, by (try dsimp only); omega, by (try dsimp only); omega, ?_⟩
      exact ⟨[(5, 5)], .same rfl rfl (.same rfl rfl (.eq rfl (.same rfl rfl (.eq rfl (.eq rfl (.nil) (by first | rfl | (exact oneM_t (by assumption) (by omega) (by omega)) | (exact oneM_f1 (by assumption)) | (exact oneM_f2 (by omega)) | (exact oneM_f3 (by omega)) | (rw [oneB'_t (by assumption) (by omega)]; first | done | rfl) | (rw [oneB'_f1 (by assumption)]; first | done | rfl) | (rw [oneB'_f2 (by omega)]; first | done | rfl))) rfl)) rfl)), .box (by first | rfl | (exact oneM_t (by assumption) (by omega) (by omega)) | (exact oneM_f1 (by assumption)) | (exact oneM_f2 (by omega)) | (exact oneM_f3 (by omega)) | (rw [oneB'_t (by assumption) (by omega)]; first | done | rfl) | (rw [oneB'_f1 (by assumption)]; first | done | rfl) | (rw [oneB'_f2 (by omega)]; first | done | rfl)) (.mapE rfl (.rowE rfl (.fzE rfl (.box (by first | rfl | (exact oneM_t (by assumption) (by omega) (by omega)) | (exact oneM_f1 (by assumption)) | (exact oneM_f2 (by omega)) | (exact oneM_f3 (by omega)) | (rw [oneB'_t (by assumption) (by omega)]; first | done | rfl) | (rw [oneB'_f1 (by assumption)]; first | done | rfl) | (rw [oneB'_f2 (by omega)]; first | done | rfl)) (.nil)) rfl) (by first | rfl | (exact oneM_t (by assumption) (by omega) (by omega)) | (exact oneM_f1 (by assumption)) | (exact oneM_f2 (by omega)) | (exact oneM_f3 (by omega)) | (rw [oneB'_t (by assumption) (by omega)]; first | done | rfl) | (rw [oneB'_f1 (by assumption)]; first | done | rfl) | (rw [oneB'_f2 (by omega)]; first | done | rfl))) (by first | rfl | (exact oneM_t (by assumption) (by omega) (by omega)) | (exact oneM_f1 (by assumption)) | (exact oneM_f2 (by omega)) | (exact oneM_f3 (by omega)) | (rw [oneB'_t (by assumption) (by omega)]; first | done | rfl) | (rw [oneB'_f1 (by assumption)]; first | done | rfl) | (rw [oneB'_f2 (by omega)]; first | done | rfl))), rfl⟩
     ·have h5 := c_eql_f g5
      refine W_skip ?_
      refine blockK_n ?_
      refine thenK_n ?_
      refine W_seqK (b' := 454) rfl rfl ?_
      refine q0 43 422 1 rfl rfl (T_add64 rfl rfl rfl (by first | assumption | omega | (simp; omega))) rfl ?_
      refine q0 13 438 2 rfl rfl (T_move rfl rfl) rfl ?_
      refine k_done rfl ?_
      refine thenK_n ?_
      refine ⟨i + 1, by (try dsimp only); omega, by (try dsimp only); omega, ?_⟩
      exact ⟨[(5, 5)], .same rfl rfl (.same rfl rfl (.eq rfl (.same rfl rfl (.eq rfl (.eq rfl (.nil) (by first | rfl | (exact oneM_t (by assumption) (by omega) (by omega)) | (exact oneM_f1 (by assumption)) | (exact oneM_f2 (by omega)) | (exact oneM_f3 (by omega)) | (rw [oneB'_t (by assumption) (by omega)]; first | done | rfl) | (rw [oneB'_f1 (by assumption)]; first | done | rfl) | (rw [oneB'_f2 (by omega)]; first | done | rfl))) rfl)) rfl)), .box (by first | rfl | (exact oneM_t (by assumption) (by omega) (by omega)) | (exact oneM_f1 (by assumption)) | (exact oneM_f2 (by omega)) | (exact oneM_f3 (by omega)) | (rw [oneB'_t (by assumption) (by omega)]; first | done | rfl) | (rw [oneB'_f1 (by assumption)]; first | done | rfl) | (rw [oneB'_f2 (by omega)]; first | done | rfl)) (.mapE rfl (.rowE rfl (.fzE rfl (.box (by first | rfl | (exact oneM_t (by assumption) (by omega) (by omega)) | (exact oneM_f1 (by assumption)) | (exact oneM_f2 (by omega)) | (exact oneM_f3 (by omega)) | (rw [oneB'_t (by assumption) (by omega)]; first | done | rfl) | (rw [oneB'_f1 (by assumption)]; first | done | rfl) | (rw [oneB'_f2 (by omega)]; first | done | rfl)) (.nil)) rfl) (by first | rfl | (exact oneM_t (by assumption) (by omega) (by omega)) | (exact oneM_f1 (by assumption)) | (exact oneM_f2 (by omega)) | (exact oneM_f3 (by omega)) | (rw [oneB'_t (by assumption) (by omega)]; first | done | rfl) | (rw [oneB'_f1 (by assumption)]; first | done | rfl) | (rw [oneB'_f2 (by omega)]; first | done | rfl))) (by first | rfl | (exact oneM_t (by assumption) (by omega) (by omega)) | (exact oneM_f1 (by assumption)) | (exact oneM_f2 (by omega)) | (exact oneM_f3 (by omega)) | (rw [oneB'_t (by assumption) (by omega)]; first | done | rfl) | (rw [oneB'_f1 (by assumption)]; first | done | rfl) | (rw [oneB'_f2 (by omega)]; first | done | rfl))), rfl⟩
    ·have h4 := c_neq_f g4
     refine W_skip ?_
     refine thenK_n ?_
     refine W_seq ?_
     refine W_seqK (b' := 294) rfl rfl ?_
     refine q0 34 246 1 rfl rfl (T_fa D (m := 0) rfl rfl rfl rfl rfl rfl) rfl ?_
     refine q0 35 262 2 rfl rfl (T_load_b D rfl rfl rfl rfl rfl rfl) rfl ?_
     refine q0 36 278 3 rfl rfl (T_cmp rfl rfl rfl rfl) rfl ?_
     refine k_done rfl ?_
     refine thenK_n ?_
     refine W_cond rfl (fun g6 => ?_) (fun g6 => ?_)
     ·have h6 := c_eql_t g6
      refine W_seqK (b' := 406) rfl rfl ?_
      refine q0 37 294 1 rfl rfl (T_move rfl rfl) rfl ?_
      refine q0 38 310 2 rfl rfl (T_nilCheck rfl rfl) rfl ?_
      refine q0 39 326 3 rfl rfl (T_fa D (m := 1) rfl rfl rfl rfl rfl rfl) rfl ?_
      refine q0 40 342 4 rfl rfl (T_load_b D rfl rfl rfl rfl rfl rfl) rfl ?_
      refine q0 41 358 5 rfl rfl (T_move rfl rfl) rfl ?_
      first | refine q0 42 374 6 rfl rfl (T_indexAddr D rfl rfl rfl rfl rfl rfl rfl rfl (by first | assumption | omega | (simp; omega))) rfl ?_ | refine q0 42 374 6 rfl rfl (T_indexAddrZ D rfl rfl rfl rfl rfl rfl rfl rfl (by first | assumption | omega | (simp; omega)) (by first | assumption | omega | (simp; omega))) rfl ?_
      refine s1 390 7 rfl rfl (T_store_e D (z := _) rfl rfl rfl rfl (flat_v rfl) rfl rfl (by first | assumption | omega | (simp; omega)) (.v rfl (.nil)) rfl (Nat.le_of_ble_eq_true rfl) rfl) rfl ?_
      refine k_done rfl ?_
      refine blockK_n ?_
      refine thenK_n ?_
      refine W_seqK (b' := 438) rfl rfl ?_
      refine q0 43 406 1 rfl rfl (T_add64 rfl rfl rfl (by first | assumption | omega | (simp; omega))) rfl ?_
      refine q0 13 422 2 rfl rfl (T_move rfl rfl) rfl ?_
      refine k_done rfl ?_
      refine thenK_n ?_
      refine ⟨i + 1, by (try dsimp only); omega, by (try dsimp only); omega, ?_⟩
      exact ⟨[(5, 5)], .same rfl rfl (.same rfl rfl (.eq rfl (.same rfl rfl (.eq rfl (.eq rfl (.nil) (by first | rfl | (exact oneM_t (by assumption) (by omega) (by omega)) | (exact oneM_f1 (by assumption)) | (exact oneM_f2 (by omega)) | (exact oneM_f3 (by omega)) | (rw [oneB'_t (by assumption) (by omega)]; first | done | rfl) | (rw [oneB'_f1 (by assumption)]; first | done | rfl) | (rw [oneB'_f2 (by omega)]; first | done | rfl))) rfl)) rfl)), .box (by first | rfl | (exact oneM_t (by assumption) (by omega) (by omega)) | (exact oneM_f1 (by assumption)) | (exact oneM_f2 (by omega)) | (exact oneM_f3 (by omega)) | (rw [oneB'_t (by assumption) (by omega)]; first | done | rfl) | (rw [oneB'_f1 (by assumption)]; first | done | rfl) | (rw [oneB'_f2 (by omega)]; first | done | rfl)) (.mapE rfl (.rowE rfl (.fzE rfl (.box (by first | rfl | (exact oneM_t (by assumption) (by omega) (by omega)) | (exact oneM_f1 (by assumption)) | (exact oneM_f2 (by omega)) | (exact oneM_f3 (by omega)) | (rw [oneB'_t (by assumption) (by omega)]; first | done | rfl) | (rw [oneB'_f1 (by assumption)]; first | done | rfl) | (rw [oneB'_f2 (by omega)]; first | done | rfl)) (.nil)) rfl) (by first | rfl | (exact oneM_t (by assumption) (by omega) (by omega)) | (exact oneM_f1 (by assumption)) | (exact oneM_f2 (by omega)) | (exact oneM_f3 (by omega)) | (rw [oneB'_t (by assumption) (by omega)]; first | done | rfl) | (rw [oneB'_f1 (by assumption)]; first | done | rfl) | (rw [oneB'_f2 (by omega)]; first | done | rfl))) (by first | rfl | (exact oneM_t (by assumption) (by omega) (by omega)) | (exact oneM_f1 (by assumption)) | (exact oneM_f2 (by omega)) | (exact oneM_f3 (by omega)) | (rw [oneB'_t (by assumption) (by omega)]; first | done | rfl) | (rw [oneB'_f1 (by assumption)]; first | done | rfl) | (rw [oneB'_f2 (by omega)]; first | done | rfl))), rfl⟩
     ·have h6 := c_eql_f g6
      refine W_skip ?_
      refine blockK_n ?_
      refine thenK_n ?_
      refine W_seqK (b' := 326) rfl rfl ?_
      refine q0 43 294 1 rfl rfl (T_add64 rfl rfl rfl (by first | assumption | omega | (simp; omega))) rfl ?_
      refine q0 13 310 2 rfl rfl (T_move rfl rfl) rfl ?_
      refine k_done rfl ?_
      refine thenK_n ?_
      refine ⟨i + 1, by (try dsimp only); omega, by (try dsimp only); omega, ?_⟩
      exact ⟨[(5, 5)], .same rfl rfl (.same rfl rfl (.eq rfl (.same rfl rfl (.eq rfl (.eq rfl (.nil) (by first | rfl | (exact oneM_t (by assumption) (by omega) (by omega)) | (exact oneM_f1 (by assumption)) | (exact oneM_f2 (by omega)) | (exact oneM_f3 (by omega)) | (rw [oneB'_t (by assumption) (by omega)]; first | done | rfl) | (rw [oneB'_f1 (by assumption)]; first | done | rfl) | (rw [oneB'_f2 (by omega)]; first | done | rfl))) rfl)) rfl)), .box (by first | rfl | (exact oneM_t (by assumption) (by omega) (by omega)) | (exact oneM_f1 (by assumption)) | (exact oneM_f2 (by omega)) | (exact oneM_f3 (by omega)) | (rw [oneB'_t (by assumption) (by omega)]; first | done | rfl) | (rw [oneB'_f1 (by assumption)]; first | done | rfl) | (rw [oneB'_f2 (by omega)]; first | done | rfl)) (.mapE rfl (.rowE rfl (.fzE rfl (.box (by first | rfl | (exact oneM_t (by assumption) (by omega) (by omega)) | (exact oneM_f1 (by assumption)) | (exact oneM_f2 (by omega)) | (exact oneM_f3 (by omega)) | (rw [oneB'_t (by assumption) (by omega)]; first | done | rfl) | (rw [oneB'_f1 (by assumption)]; first | done | rfl) | (rw [oneB'_f2 (by omega)]; first | done | rfl)) (.nil)) rfl) (by first | rfl | (exact oneM_t (by assumption) (by omega) (by omega)) | (exact oneM_f1 (by assumption)) | (exact oneM_f2 (by omega)) | (exact oneM_f3 (by omega)) | (rw [oneB'_t (by assumption) (by omega)]; first | done | rfl) | (rw [oneB'_f1 (by assumption)]; first | done | rfl) | (rw [oneB'_f2 (by omega)]; first | done | rfl))) (by first | rfl | (exact oneM_t (by assumption) (by omega) (by omega)) | (exact oneM_f1 (by assumption)) | (exact oneM_f2 (by omega)) | (exact oneM_f3 (by omega)) | (rw [oneB'_t (by assumption) (by omega)]; first | done | rfl) | (rw [oneB'_f1 (by assumption)]; first | done | rfl) | (rw [oneB'_f2 (by omega)]; first | done | rfl))), rfl⟩
   ·have h3 := c_geq_f g3
    refine k_no (d := 23) (j' := 4) rfl rfl rfl (g_tf rfl rfl rfl g3) ?_
    refine k_no (d := 24) (j' := 5) rfl rfl rfl (g_tf rfl rfl rfl g3) ?_
    refine k_no (d := 25) (j' := 6) rfl rfl rfl (g_tf rfl rfl rfl g3) ?_
    refine q0 26 230 7 rfl rfl (T_pick_f rfl rfl rfl g3) rfl ?_
    refine k_done rfl ?_
    refine thenK_n ?_
    refine W_cond rfl (fun g7 => ?_) (fun g7 => ?_)
    ·exact absurd (g7.symm.trans rfl) (by decide)
    ·skip
     refine W_skip ?_
     refine thenK_n ?_
     refine W_seq ?_
     refine W_seqK (b' := 294) rfl rfl ?_
     refine q0 34 246 1 rfl rfl (T_fa D (m := 0) rfl rfl rfl rfl rfl rfl) rfl ?_
     refine q0 35 262 2 rfl rfl (T_load_b D rfl rfl rfl rfl rfl rfl) rfl ?_
     refine q0 36 278 3 rfl rfl (T_cmp rfl rfl rfl rfl) rfl ?_
     refine k_done rfl ?_
     refine thenK_n ?_
     refine W_cond rfl (fun g8 => ?_) (fun g8 => ?_)
     ·have h8 := c_eql_t g8
      refine W_seqK (b' := 406) rfl rfl ?_
      refine q0 37 294 1 rfl rfl (T_move rfl rfl) rfl ?_
      refine q0 38 310 2 rfl rfl (T_nilCheck rfl rfl) rfl ?_
      refine q0 39 326 3 rfl rfl (T_fa D (m := 1) rfl rfl rfl rfl rfl rfl) rfl ?_
      refine q0 40 342 4 rfl rfl (T_load_b D rfl rfl rfl rfl rfl rfl) rfl ?_
      refine q0 41 358 5 rfl rfl (T_move rfl rfl) rfl ?_
      first | refine q0 42 374 6 rfl rfl (T_indexAddr D rfl rfl rfl rfl rfl rfl rfl rfl (by first | assumption | omega | (simp; omega))) rfl ?_ | refine q0 42 374 6 rfl rfl (T_indexAddrZ D rfl rfl rfl rfl rfl rfl rfl rfl (by first | assumption | omega | (simp; omega)) (by first | assumption | omega | (simp; omega))) rfl ?_
      refine s1 390 7 rfl rfl (T_store_e D (z := _) rfl rfl rfl rfl (flat_v rfl) rfl rfl (by first | assumption | omega | (simp; omega)) (.v rfl (.nil)) rfl (Nat.le_of_ble_eq_true rfl) rfl) rfl ?_
      refine k_done rfl ?_
      refine blockK_n ?_
      refine thenK_n ?_
      refine W_seqK (b' := 438) rfl rfl ?_
      refine q0 43 406 1 rfl rfl (T_add64 rfl rfl rfl (by first | assumption | omega | (simp; omega))) rfl ?_
      refine q0 13 422 2 rfl rfl (T_move rfl rfl) rfl ?_
      refine k_done rfl ?_
      refine thenK_n ?_
      refine ⟨i + 1, by (try dsimp only); omega, by (try dsimp only); omega, ?_⟩
      exact ⟨[(5, 5)], .same rfl rfl (.same rfl rfl (.eq rfl (.same rfl rfl (.eq rfl (.eq rfl (.nil) (by first | rfl | (exact oneM_t (by assumption) (by omega) (by omega)) | (exact oneM_f1 (by assumption)) | (exact oneM_f2 (by omega)) | (exact oneM_f3 (by omega)) | (rw [oneB'_t (by assumption) (by omega)]; first | done | rfl) | (rw [oneB'_f1 (by assumption)]; first | done | rfl) | (rw [oneB'_f2 (by omega)]; first | done | rfl))) rfl)) rfl)), .box (by first | rfl | (exact oneM_t (by assumption) (by omega) (by omega)) | (exact oneM_f1 (by assumption)) | (exact oneM_f2 (by omega)) | (exact oneM_f3 (by omega)) | (rw [oneB'_t (by assumption) (by omega)]; first | done | rfl) | (rw [oneB'_f1 (by assumption)]; first | done | rfl) | (rw [oneB'_f2 (by omega)]; first | done | rfl)) (.mapE rfl (.rowE rfl (.fzE rfl (.box (by first | rfl | (exact oneM_t (by assumption) (by omega) (by omega)) | (exact oneM_f1 (by assumption)) | (exact oneM_f2 (by omega)) | (exact oneM_f3 (by omega)) | (rw [oneB'_t (by assumption) (by omega)]; first | done | rfl) | (rw [oneB'_f1 (by assumption)]; first | done | rfl) | (rw [oneB'_f2 (by omega)]; first | done | rfl)) (.nil)) rfl) (by first | rfl | (exact oneM_t (by assumption) (by omega) (by omega)) | (exact oneM_f1 (by assumption)) | (exact oneM_f2 (by omega)) | (exact oneM_f3 (by omega)) | (rw [oneB'_t (by assumption) (by omega)]; first | done | rfl) | (rw [oneB'_f1 (by assumption)]; first | done | rfl) | (rw [oneB'_f2 (by omega)]; first | done | rfl))) (by first | rfl | (exact oneM_t (by assumption) (by omega) (by omega)) | (exact oneM_f1 (by assumption)) | (exact oneM_f2 (by omega)) | (exact oneM_f3 (by omega)) | (rw [oneB'_t (by assumption) (by omega)]; first | done | rfl) | (rw [oneB'_f1 (by assumption)]; first | done | rfl) | (rw [oneB'_f2 (by omega)]; first | done | rfl))), rfl⟩
     ·have h8 := c_eql_f g8
      refine W_skip ?_
      refine blockK_n ?_
      refine thenK_n ?_
      refine W_seqK (b' := 326) rfl rfl ?_
      refine q0 43 294 1 rfl rfl (T_add64 rfl rfl rfl (by first | assumption | omega | (simp; omega))) rfl ?_
      refine q0 13 310 2 rfl rfl (T_move rfl rfl) rfl ?_
      refine k_done rfl ?_
      refine thenK_n ?_
      refine ⟨i + 1, by (try dsimp only); omega, by (try dsimp only); omega, ?_⟩
      exact ⟨[(5, 5)], .same rfl rfl (.same rfl rfl (.eq rfl (.same rfl rfl (.eq rfl (.eq rfl (.nil) (by first | rfl | (exact oneM_t (by assumption) (by omega) (by omega)) | (exact oneM_f1 (by assumption)) | (exact oneM_f2 (by omega)) | (exact oneM_f3 (by omega)) | (rw [oneB'_t (by assumption) (by omega)]; first | done | rfl) | (rw [oneB'_f1 (by assumption)]; first | done | rfl) | (rw [oneB'_f2 (by omega)]; first | done | rfl))) rfl)) rfl)), .box (by first | rfl | (exact oneM_t (by assumption) (by omega) (by omega)) | (exact oneM_f1 (by assumption)) | (exact oneM_f2 (by omega)) | (exact oneM_f3 (by omega)) | (rw [oneB'_t (by assumption) (by omega)]; first | done | rfl) | (rw [oneB'_f1 (by assumption)]; first | done | rfl) | (rw [oneB'_f2 (by omega)]; first | done | rfl)) (.mapE rfl (.rowE rfl (.fzE rfl (.box (by first | rfl | (exact oneM_t (by assumption) (by omega) (by omega)) | (exact oneM_f1 (by assumption)) | (exact oneM_f2 (by omega)) | (exact oneM_f3 (by omega)) | (rw [oneB'_t (by assumption) (by omega)]; first | done | rfl) | (rw [oneB'_f1 (by assumption)]; first | done | rfl) | (rw [oneB'_f2 (by omega)]; first | done | rfl)) (.nil)) rfl) (by first | rfl | (exact oneM_t (by assumption) (by omega) (by omega)) | (exact oneM_f1 (by assumption)) | (exact oneM_f2 (by omega)) | (exact oneM_f3 (by omega)) | (rw [oneB'_t (by assumption) (by omega)]; first | done | rfl) | (rw [oneB'_f1 (by assumption)]; first | done | rfl) | (rw [oneB'_f2 (by omega)]; first | done | rfl))) (by first | rfl | (exact oneM_t (by assumption) (by omega) (by omega)) | (exact oneM_f1 (by assumption)) | (exact oneM_f2 (by omega)) | (exact oneM_f3 (by omega)) | (rw [oneB'_t (by assumption) (by omega)]; first | done | rfl) | (rw [oneB'_f1 (by assumption)]; first | done | rfl) | (rw [oneB'_f2 (by omega)]; first | done | rfl))), rfl⟩
 ·have h1 := c_lss_f g1
  refine W_exit ?_
  refine thenK_e ?_
  refine thenK_e ?_
  refine blockK_hit ?_
  exact .mk [] (.inl rfl) (.nil) rfl (.box (by first | rfl | (have ei : i = s.length := (by omega); subst ei; first | done | rfl)) (.mapE rfl (.rowE rfl (.nil) (by first | rfl | (have ei : i = s.length := (by omega); subst ei; first | done | rfl))) (by first | rfl | (have ei : i = s.length := (by omega); subst ei; first | done | rfl)))) rfl
end Lg
end Go.Proofs.Ytpfhmodjjljpjaa
