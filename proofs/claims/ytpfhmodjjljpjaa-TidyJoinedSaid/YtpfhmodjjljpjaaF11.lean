import Derived.Test.YtpfhmodjjljpjaaF10
namespace Go.Proofs.Ytpfhmodjjljpjaa
open Go.RowKit
namespace Lg
set_option maxRecDepth 100000
set_option linter.unusedVariables false
set_option linter.unusedSimpArgs false



theorem body132 : (Try.prog.funcs[132]?).map (fun fn => (fn.name == "runtime.NumGoroutine" || fn.body.isNone)) = some false := by kernel_rfl
theorem deep_spec (next : List (List Int)) (bar : Int) (hn : next.length ≤ 1000000) (hnl : ∀ l ∈ next, l.length ≤ 1000000) (m : Nat) (o s2 o2 : List Bool) (hv : visit next bar m 0 (List.replicate next.length false, o) = some (s2, o2)) (ho : o.length = next.length) : Spec Try.prog 132 [.r 1, .v (.int .i64 bar), .fn 133 [.p 2 0]] 4 [(1, .fz 1 (next.map eIs)), (2, .box 48 [.r 3]), (3, .row 4 1 (o.map eB))] (.tup []) 4 [(2, .box 48 [.r 3]), (3, .row 4 1 (o2.map eB))] := by
  refine spec_of D (fn := Try.f132) rfl rfl (Nat.le_of_ble_eq_true rfl) ?_
  refine W_seq ?_
  refine W_seqK (b' := 52) rfl rfl ?_
  refine k_op1 (d := 3) (b := 4) (j' := 1) rfl rfl rfl rfl (.plain rfl) (T_box rfl rfl (flat_sl rfl)) rfl ?_
  refine k_op1 (d := 4) (b := 20) (j' := 2) rfl rfl rfl rfl (.plain rfl) (T_box rfl rfl (flat_v rfl)) rfl ?_
  refine k_op1 (d := 5) (b := 36) (j' := 3) rfl rfl rfl rfl (.plain rfl) (T_box rfl rfl flat_fn) rfl ?_
  refine k_done rfl ?_
  refine thenK_n ?_
  refine W_seq ?_
  refine W_seqK (b' := 132) rfl rfl ?_
  refine k_op0 (d := 8) (b := 52) (j' := 1) rfl rfl rfl rfl (.plain rfl) (T_load_b D rfl rfl rfl rfl rfl rfl) rfl ?_
  refine k_op0 (d := 9) (b := 68) (j' := 2) rfl rfl rfl rfl (.plain rfl) (T_len D rfl rfl rfl rfl rfl rfl) rfl ?_
  refine k_op1 (d := 10) (b := 84) (j' := 3) rfl rfl rfl rfl (.plain rfl) (T_make D (zx := false) (enc := eB) rfl rfl rfl rfl rfl rfl rfl (.v rfl (.nil)) rfl (by (try simp only [ty4]); first | assumption | omega | (simp; omega)) (by (try simp only [ty4]); first | assumption | omega | (simp; omega))) rfl ?_
  refine k_opn (d := 6) (b := 100) (j' := 4) rfl rfl rfl rfl (.plain rfl) (T_nilbox [(4, 1)] (T_alloc D rfl rfl rfl) rfl (.cons (.nil rfl) <| .nil) (upd' := [(100, .box 48 [.r 101]), (101, .row 4 1 (List.map eB ([] : List (Bool))))]) (nn' := 2) rfl rfl) rfl ?_
  refine k_st1 (b := 116) (j' := 5) rfl rfl rfl rfl (.plain rfl) (T_stB D (cs' := [_]) rfl rfl rfl rfl (flat_sl rfl) rfl rfl (Nat.le_of_ble_eq_true rfl) rfl) rfl ?_
  refine k_done rfl ?_
  refine thenK_n ?_
  refine W_seq ?_
  refine W_seqK (b' := 148) rfl rfl ?_
  refine k_op1 (d := 7) (b := 132) (j' := 1) rfl rfl rfl rfl (.plain rfl) (T_alloc D rfl rfl rfl) rfl ?_
  refine k_done rfl ?_
  refine thenK_n ?_
  refine W_seq ?_
  refine W_seqK (b' := 180) rfl rfl ?_
  refine k_op0 (d := 11) (b := 148) (j' := 1) rfl rfl rfl rfl (.plain rfl) (T_makeFunc (l := [_, _, _, _, _]) rfl rfl) rfl ?_
  refine k_st1 (b := 164) (j' := 2) rfl rfl rfl rfl (.plain rfl) (T_stB D (cs' := [_]) rfl rfl rfl rfl flat_fn rfl rfl (Nat.le_of_ble_eq_true rfl) rfl) rfl ?_
  refine k_done rfl ?_
  refine thenK_n ?_
  refine W_seqK (b' := 212) rfl rfl ?_
  refine k_op0 (d := 12) (b := 180) (j' := 1) rfl rfl rfl rfl (.plain rfl) (T_load_b D rfl rfl rfl rfl rfl rfl) rfl ?_
  refine k_opn (d := 13) (b := 196) (j' := 2) rfl rfl rfl rfl (.plain rfl) (T_call (lvs := [_]) (L := [(1, 4), (2, 100), (3, 20), (4, 132), (5, 36), (6, 1), (7, 84), (8, 2), (9, 3)]) (lv := .tup []) (upd := [(4, .box 30 [.r 1]), (100, .box 48 [.r 84]), (20, .box 3 [.v _]), (132, .box 108 [.fn 136 [.p 4 0, .p 100 0, .p 20 0, .p 132 0, .p 36 0]]), (36, .box 108 [.fn 133 [.p 2 0]]), (84, .row 4 1 _), (2, .box 48 [.r 3]), (3, .row 4 1 _)]) (nn := 0) false (visit_spec _ _ hn hnl _ _ _ _ _ _ hv (by simp) ho) body136 rfl rfl rfl rfl (.box rfl (.box rfl (.box rfl (.box rfl (.box rfl (.fz rfl (.row rfl (.box rfl (.row rfl (.nil)))))))))) rfl (.inl rfl) rfl rfl rfl) rfl ?_
  refine k_done rfl ?_
  -- end 0
  exact .mk [] (.inl rfl) (.nil) rfl (.box (by first | rfl | simp) (.rowE rfl (.nil) (by first | rfl | simp))) rfl

theorem body111 : (Try.prog.funcs[111]?).map (fun fn => (fn.name == "runtime.NumGoroutine" || fn.body.isNone)) = some false := by kernel_rfl
theorem reach_spec (next : List (List Int)) (hn : next.length ≤ 1000000) (hnl : ∀ l ∈ next, l.length ≤ 1000000) (m : Nat) (s2 o2 : List Bool) (hv : visit next (-1) m 0 (List.replicate next.length false, List.replicate next.length false) = some (s2, o2)) : Spec Try.prog 111 [.r 1] 2 [(1, .fz 1 (next.map eIs))] (.r 2) 3 [(2, .row 4 1 (o2.map eB))] := by
  refine spec_of D (fn := Try.f111) rfl rfl (Nat.le_of_ble_eq_true rfl) ?_
  refine W_seq ?_
  refine W_seqK (b' := 18) rfl rfl ?_
  refine k_op1 (d := 2) (b := 2) (j' := 1) rfl rfl rfl rfl (.plain rfl) (T_nils [(4, 1)] (T_assign rfl rfl) rfl (.inr ⟨rfl, rfl⟩) (.cons (.nil rfl) .nil) (lv' := .r 2) (upd' := [(2, .row 4 1 (List.map eB ([] : List (Bool))))]) (nn' := 1) rfl rfl) rfl ?_
  refine k_done rfl ?_
  refine thenK_n ?_
  refine W_seq ?_
  refine W_seqK (b' := 98) rfl rfl ?_
  refine k_op0 (d := 4) (b := 18) (j' := 1) rfl rfl rfl rfl (.plain rfl) (T_move rfl rfl) rfl ?_
  refine k_op0 (d := 5) (b := 34) (j' := 2) rfl rfl rfl rfl (.plain rfl) (T_len D rfl rfl rfl rfl rfl rfl) rfl ?_
  refine k_op1 (d := 6) (b := 50) (j' := 3) rfl rfl rfl rfl (.plain rfl) (T_make D (zx := false) (enc := eB) rfl rfl rfl rfl rfl rfl rfl (.v rfl (.nil)) rfl (by (try simp only [ty4]); first | assumption | omega | (simp; omega)) (by (try simp only [ty4]); first | assumption | omega | (simp; omega))) rfl ?_
  refine k_opn (d := 3) (b := 66) (j' := 4) rfl rfl rfl rfl (.plain rfl) (T_nilbox [(4, 1)] (T_alloc D rfl rfl rfl) rfl (.cons (.nil rfl) <| .nil) (upd' := [(66, .box 48 [.r 67]), (67, .row 4 1 (List.map eB ([] : List (Bool))))]) (nn' := 2) rfl rfl) rfl ?_
  refine k_st1 (b := 82) (j' := 5) rfl rfl rfl rfl (.plain rfl) (T_stB D (cs' := [_]) rfl rfl rfl rfl (flat_sl rfl) rfl rfl (Nat.le_of_ble_eq_true rfl) rfl) rfl ?_
  refine k_done rfl ?_
  refine thenK_n ?_
  refine W_seq ?_
  refine W_seqK (b' := 146) rfl rfl ?_
  refine k_op0 (d := 7) (b := 98) (j' := 1) rfl rfl rfl rfl (.plain rfl) (T_move rfl rfl) rfl ?_
  refine k_op0 (d := 8) (b := 114) (j' := 2) rfl rfl rfl rfl (.plain rfl) (T_makeFunc (l := [_]) rfl rfl) rfl ?_
  refine k_opn (d := 9) (b := 130) (j' := 3) rfl rfl rfl rfl (.plain rfl) (T_call (lvs := [_, _, _]) (L := [(1, 1), (2, 66), (3, 50)]) (lv := .tup []) (upd := [(66, .box 48 [.r 50]), (50, .row 4 1 _)]) (nn := 0) false (deep_spec _ _ hn hnl _ _ _ _ hv (by simp)) body132 rfl rfl rfl rfl (.fz rfl (.box rfl (.row rfl (.nil)))) rfl (.inl rfl) rfl rfl rfl) rfl ?_
  refine k_done rfl ?_
  refine thenK_n ?_
  refine W_seq ?_
  refine W_seqK (b' := 178) rfl rfl ?_
  refine k_op0 (d := 10) (b := 146) (j' := 1) rfl rfl rfl rfl (.plain rfl) (T_load_b D rfl rfl rfl rfl rfl rfl) rfl ?_
  refine k_op0 (d := 2) (b := 162) (j' := 2) rfl rfl rfl rfl (.plain rfl) (T_assign rfl rfl) rfl ?_
  refine k_done rfl ?_
  refine thenK_n ?_
  refine W_ret ?_
  -- end 0
  exact .mk [(2, 50)] (.inr rfl) (.tmp rfl (.nil)) rfl (.rowE rfl (.nil) (by first | rfl | simp)) rfl
end Lg
end Go.Proofs.Ytpfhmodjjljpjaa
