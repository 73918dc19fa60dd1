import Derived.Test.YtpfhmodjjljpjaaAlloh5
set_option linter.unusedVariables false
set_option linter.unusedSimpArgs false
namespace Go.Proofs.Ytpfhmodjjljpjaa
open Go.RowKit
namespace Lg
set_option maxRecDepth 100000
set_option linter.unusedVariables false
set_option linter.unusedSimpArgs false
theorem body82 : (Try.prog.funcs[82]?).map (fun fn => (fn.name == "runtime.NumGoroutine" || fn.body.isNone)) = some false := by kernel_rfl
theorem of28_spec (f : GFn) (li lo : List (List Bool)) (hF : LF f) (hi : SzL f li) (ho : SzL f lo) (hb : 0 < f.blocks.length) : Spec Try.prog 82 [.agg [.v (.int .i64 f.regs), .r 1], .agg [.r 2, .r 3]] 4 [(1, .fz 5 (f.blocks.map eBlock)), (2, .fz 1 (li.map eBs)), (3, .fz 1 (lo.map eBs))] (.p 4 0) 7 [(4, .box 117 [.r 5, .r 6]), (5, .map (confl f li lo).1), (6, .row 4 1 ((confl f li lo).2.map eB))] := by
 have hFr := hF.regs
 have hFl := hF.len
 have hil := hi.len
 have hol := ho.len
 have hi0 := hi.at (k := 0) hb
 refine spec_of D (fn := Try.f82) rfl rfl (Nat.le_of_ble_eq_true rfl) ?_
 refine W_seq ?_
 refine W_seqK (b' := 52) rfl rfl ?_
 refine q1 2 4 1 rfl rfl (T_box rfl rfl flat_agg) rfl ?_
 refine q1 3 20 2 rfl rfl (T_box rfl rfl flat_agg) rfl ?_
 refine q0 4 36 3 rfl rfl (T_assign rfl rfl) rfl ?_
 refine k_done rfl ?_
 refine thenK_n ?_
 refine W_seq ?_
 refine W_seqK (b' := 164) rfl rfl ?_
 refine q1 11 52 1 rfl rfl (T_makeMap rfl) rfl ?_
 refine q0 12 68 2 rfl rfl (T_fa D (m := 0) rfl rfl rfl rfl rfl rfl) rfl ?_
 refine q0 13 84 3 rfl rfl (T_load_b D rfl rfl rfl rfl rfl rfl) rfl ?_
 refine q1 14 100 4 rfl rfl (T_makeZ (x := .tmp 13) (y := .tmp 13) (m := f.regs.toNat) (by omega) rfl rfl (fun k1 k2 => T_make D (zx := false) (enc := eB) rfl k1 k2 rfl rfl rfl rfl (.v rfl (.nil)) rfl (by (try simp only [ty4]); first | assumption | omega | (have q := hbd (by omega); omega) | (simp; omega)) (by (try simp only [ty4]); first | assumption | omega | (have q := hbd (by omega); omega) | (simp; omega)))) rfl ?_
 refine q0 15 116 5 rfl rfl (T_build D (l := [_, _]) rfl rfl rfl rfl (.cons rfl (flat_map rfl) (.cons rfl (flat_sl rfl) (.nil))) rfl rfl) rfl ?_
 refine q1 16 132 6 rfl rfl (T_box rfl rfl flat_agg) rfl ?_
 refine q0 5 148 7 rfl rfl (T_assign rfl rfl) rfl ?_
 refine k_done rfl ?_
 refine thenK_n ?_
 refine W_seq ?_
 refine W_seqK (b' := 260) rfl rfl ?_
 refine q0 17 164 1 rfl rfl (T_move rfl rfl) rfl ?_
 refine q0 18 180 2 rfl rfl (T_fa D (m := 0) rfl rfl rfl rfl rfl rfl) rfl ?_
 refine q0 19 196 3 rfl rfl (T_load_b D rfl rfl rfl rfl rfl rfl) rfl ?_
 first | refine q0 20 212 4 rfl rfl (T_indexAddr D rfl rfl rfl rfl rfl rfl rfl rfl (by first | assumption | omega | (have q := hbd (by omega); omega) | (simp; omega))) rfl ?_ | refine q0 20 212 4 rfl rfl (T_indexAddrZ D rfl rfl rfl rfl rfl rfl rfl rfl (by first | assumption | omega | (have q := hbd (by omega); omega) | (simp; omega)) (by first | assumption | omega | (have q := hbd (by omega); omega) | (simp; omega))) rfl ?_
 refine q1 21 228 5 rfl rfl (T_ldE D (lv := .r 228) (nn := 1) (upd := [(228, .fz 1 _)]) rfl rfl rfl rfl rfl (by first | assumption | omega | (have q := hbd (by omega); omega) | (simp; omega)) rfl rfl rfl rfl) rfl ?_
 refine qn 22 244 6 rfl rfl (T_call (lvs := [_, _]) (L := [(1, 132), (2, 52), (3, 100), (4, 228)]) (lv := .tup []) (upd := [(132, .box 117 [.r 52, .r 100]), (52, .map _), (100, .row 4 1 _)]) (nn := 0) false (all_spec [] (List.replicate f.regs.toNat false) (li.getD 0 default) (by omega)) body122 rfl rfl rfl rfl (.box rfl (.map rfl (.row rfl (.fz rfl (.nil))))) rfl (.inl rfl) rfl rfl rfl) rfl ?_
 refine k_done rfl ?_
 refine thenK_n ?_
 refine W_seq ?_
 refine W_seq ?_
 refine W_seqK (b' := 324) rfl rfl ?_
 refine q0 23 260 1 rfl rfl (T_fa D (m := 1) rfl rfl rfl rfl rfl rfl) rfl ?_
 refine q0 24 276 2 rfl rfl (T_load_b D rfl rfl rfl rfl rfl rfl) rfl ?_
 refine q0 25 292 3 rfl rfl (T_len D rfl rfl rfl rfl rfl rfl) rfl ?_
 refine q0 26 308 4 rfl rfl (T_move rfl rfl) rfl ?_
 refine k_done rfl ?_
 refine thenK_n ?_
 refine W_block ?_
 refine W_loop (ι := Nat) 9 (fun k => ⟨[(2, .p 4 0), (3, .p 5 0), (5, .p 6 0), (24, .r 1), (25, .v (.int .i64 (f.blocks.length : Int))), (26, .v (.int .i64 (k : Int)))], [(1, .fz 5 (f.blocks.map eBlock)), (2, .fz 1 (li.map eBs)), (3, .fz 1 (lo.map eBs)), (4, .box 29 [.v (.int .i64 f.regs), .r 1]), (5, .box 57 [.r 2, .r 3]), (6, .box 117 [.r 7, .r 8]), (7, .map ((ofC f li lo k).1)), (8, .row 4 1 ((ofC f li lo k).2.map eB))]⟩) (fun k => k ≤ f.blocks.length) (fun k => f.blocks.length - k) (0) (by exact Nat.zero_le _) ?_ (fun k hK => ?_)
 ·exact ⟨[(4, 4), (5, 20), (6, 132), (7, 52), (8, 100)], .same rfl rfl (.same rfl rfl (.same rfl rfl (.same rfl rfl (.eq rfl (.eq rfl (.nil) (by first | rfl | (simp [ofC]; done))) (by first | rfl | (simp [ofC]; done)))))), .fzE rfl (.fzE rfl (.fzE rfl (.box (by first | rfl | (simp [ofC]; done)) (.box (by first | rfl | (simp [ofC]; done)) (.box (by first | rfl | (simp [ofC]; done)) (.mapE rfl (.rowE rfl (.nil) (by first | rfl | (simp [ofC]; done))) (by first | rfl | (simp [ofC]; done)))))) (by first | rfl | (simp [ofC]; done))) (by first | rfl | (simp [ofC]; done))) (by first | rfl | (simp [ofC]; done)), rfl⟩
 have hcl := ofC_len f li lo k
 refine W_seq ?_
 refine W_seqK (b' := 25) rfl rfl ?_
 refine q0 27 9 1 rfl rfl (T_cmp rfl rfl rfl rfl) rfl ?_
 refine k_done rfl ?_
 refine thenK_n ?_
 refine W_seq ?_
 refine W_cond rfl (fun g1 => ?_) (fun g1 => ?_)
 ·have h1 := c_lss_t g1
  refine W_skip ?_
  refine thenK_n ?_
  refine W_seq ?_
  refine W_block ?_
  refine W_seq ?_
  refine W_seqK (b' := 121) rfl rfl ?_
  refine q0 28 25 1 rfl rfl (T_move rfl rfl) rfl ?_
  first | refine q0 29 41 2 rfl rfl (T_indexAddr D rfl rfl rfl rfl rfl rfl rfl rfl (by first | assumption | omega | (have q := hbd (by omega); omega) | (simp; omega))) rfl ?_ | refine q0 29 41 2 rfl rfl (T_indexAddrZ D rfl rfl rfl rfl rfl rfl rfl rfl (by first | assumption | omega | (have q := hbd (by omega); omega) | (simp; omega)) (by first | assumption | omega | (have q := hbd (by omega); omega) | (simp; omega))) rfl ?_
  refine q1 30 57 3 rfl rfl (T_ldEA D (l := [.r 57, .v _, .v _, .v _, .v _]) (nn := 1) (upd := [(57, .fz 8 _)]) rfl rfl rfl rfl rfl (by first | assumption | omega | (have q := hbd (by omega); omega) | (simp; omega)) rfl rfl rfl rfl rfl) rfl ?_
  refine qn 7 73 4 rfl rfl (T_nilbox [(70, 8)] (T_alloc D rfl rfl rfl) rfl (.cons (.nil rfl) <| .cons (.same _) <| .cons (.same _) <| .cons (.same _) <| .cons (.same _) <| .nil) (upd' := [(73, .box 72 [.r 74, .v (.int .i64 0), .v (.int .i64 0), .v (.int .i64 0), .v (.int .i64 0)]), (74, .row 70 8 (List.map eTac ([] : List (GTac))))]) (nn' := 2) rfl rfl) rfl ?_
  refine q0 6 89 5 rfl rfl (T_assign rfl rfl) rfl ?_
  refine s1 105 6 rfl rfl (T_stB D (cs' := [_, _, _, _, _]) rfl rfl rfl rfl flat_agg rfl rfl (Nat.le_of_ble_eq_true rfl) rfl) rfl ?_
  refine k_done rfl ?_
  refine thenK_n ?_
  refine W_seq ?_
  refine W_seqK (b' := 201) rfl rfl ?_
  refine q0 31 121 1 rfl rfl (T_load_bA D (l := [_, _]) rfl rfl rfl rfl rfl rfl rfl) rfl ?_
  refine q0 32 137 2 rfl rfl (T_load_bA D (l := [_, _]) rfl rfl rfl rfl rfl rfl rfl) rfl ?_
  refine q0 33 153 3 rfl rfl (T_move rfl rfl) rfl ?_
  refine q1 34 169 4 rfl rfl (T_call (lvs := [_, _, _]) (L := [(1, 1), (2, 2), (3, 3)]) (lv := .r 169) (upd := [(169, .fz 1 _)]) (nn := 1) false (beh_spec f li lo (k : Int) hF ⟨by omega, by omega⟩ ho) body58 rfl rfl rfl rfl (.fz rfl (.fz rfl (.fz rfl (.nil)))) rfl (.inl rfl) rfl rfl rfl) rfl ?_
  refine q0 8 185 5 rfl rfl (T_assign rfl rfl) rfl ?_
  refine k_done rfl ?_
  refine thenK_n ?_
  refine W_seq ?_
  refine W_seqK (b' := 265) rfl rfl ?_
  refine q0 35 201 1 rfl rfl (T_fa D (m := 0) rfl rfl rfl rfl rfl rfl) rfl ?_
  refine q0 36 217 2 rfl rfl (T_load_b D rfl rfl rfl rfl rfl rfl) rfl ?_
  refine q0 37 233 3 rfl rfl (T_len D rfl rfl rfl rfl rfl rfl) rfl ?_
  refine q0 38 249 4 rfl rfl (T_move rfl rfl) rfl ?_
  refine k_done rfl ?_
  refine thenK_n ?_
  refine W_block ?_
  have hkb : k < f.blocks.length := by omega
  have hins := hF.ins (f.blocks.getD k default) (getD_mem hkb)
  have hok := ho.at hkb
  have hbl := behL_len (f.blocks.getD k default) (lo.getD k default)
  refine W_loop (ι := Nat) 11 (fun j => ⟨[(2, .p 4 0), (3, .p 5 0), (5, .p 6 0), (8, .r 9), (24, .r 1), (25, .v (.int .i64 (f.blocks.length : Int))), (26, .v (.int .i64 (k : Int))), (36, .r 10), (37, .v (.int .i64 ((f.blocks.getD k default).ins.length : Int))), (38, .v (.int .i64 (j : Int)))], [(1, .fz 5 (f.blocks.map eBlock)), (2, .fz 1 (li.map eBs)), (3, .fz 1 (lo.map eBs)), (4, .box 29 [.v (.int .i64 f.regs), .r 1]), (5, .box 57 [.r 2, .r 3]), (6, .box 117 [.r 7, .r 8]), (7, .map ((blkC (f.blocks.getD k default) (lo.getD k default) (ofC f li lo k) j).1)), (8, .row 4 1 ((blkC (f.blocks.getD k default) (lo.getD k default) (ofC f li lo k) j).2.map eB)), (9, .fz 1 ((behL (f.blocks.getD k default) (lo.getD k default)).map eBs)), (10, .fz 8 ((f.blocks.getD k default).ins.map eTac))]⟩) (fun j => j ≤ (f.blocks.getD k default).ins.length) (fun j => (f.blocks.getD k default).ins.length - j) (0) (by exact Nat.zero_le _) ?_ (fun j hJ => ?_)
  ·exact ⟨[(4, 4), (5, 5), (6, 6), (7, 7), (8, 8), (9, 169), (10, 57)], .same rfl rfl (.same rfl rfl (.same rfl rfl (.same rfl rfl (.same rfl rfl (.eq rfl (.eq rfl (.same rfl rfl (.eq rfl (.eq rfl (.nil) (by first | rfl | simp)) (by first | rfl | simp))) (by first | rfl | simp)) (by first | rfl | simp)))))), .fzE rfl (.fzE rfl (.fzE rfl (.box (by first | rfl | simp) (.box (by first | rfl | simp) (.box (by first | rfl | simp) (.mapE rfl (.rowE rfl (.fzE rfl (.fzE rfl (.nil) (by first | rfl | simp)) (by first | rfl | simp)) (by first | rfl | simp)) (by first | rfl | simp))))) (by first | rfl | simp)) (by first | rfl | simp)) (by first | rfl | simp), rfl⟩
  have hbc := blkC_len (f.blocks.getD k default) (lo.getD k default) (ofC f li lo k) j
  have hbd : j < (f.blocks.getD k default).ins.length → ((behL (f.blocks.getD k default) (lo.getD k default)).getD j default).length = f.regs.toNat := fun h => by rw [behL_getD _ _ h, thrK_len]; exact hok
  refine W_seq ?_
  refine W_seqK (b' := 27) rfl rfl ?_
  refine q0 39 11 1 rfl rfl (T_cmp rfl rfl rfl rfl) rfl ?_
  refine k_done rfl ?_
  refine thenK_n ?_
  refine W_seq ?_
  refine W_cond rfl (fun g2 => ?_) (fun g2 => ?_)
  ·have h2 := c_lss_t g2
   refine W_skip ?_
   refine thenK_n ?_
   refine W_seq ?_
   refine W_block ?_
   refine W_seq ?_
   refine W_seqK (b' := 123) rfl rfl ?_
   refine q0 40 27 1 rfl rfl (T_move rfl rfl) rfl ?_
   first | refine q0 41 43 2 rfl rfl (T_indexAddr D rfl rfl rfl rfl rfl rfl rfl rfl (by first | assumption | omega | (have q := hbd (by omega); omega) | (simp; omega))) rfl ?_ | refine q0 41 43 2 rfl rfl (T_indexAddrZ D rfl rfl rfl rfl rfl rfl rfl rfl (by first | assumption | omega | (have q := hbd (by omega); omega) | (simp; omega)) (by first | assumption | omega | (have q := hbd (by omega); omega) | (simp; omega))) rfl ?_
   refine q0 42 59 3 rfl rfl (T_ldEA D (l := [.v _, .v _, .v _, .v _, .v _, .v _, .v _, .v _]) (nn := 0) (upd := []) rfl rfl rfl rfl rfl (by first | assumption | omega | (have q := hbd (by omega); omega) | (simp; omega)) rfl rfl rfl rfl rfl) rfl ?_
   refine q1 10 75 4 rfl rfl (T_alloc D rfl rfl rfl) rfl ?_
   refine q0 9 91 5 rfl rfl (T_assign rfl rfl) rfl ?_
   refine s1 107 6 rfl rfl (T_stB D (cs' := [_, _, _, _, _, _, _, _]) rfl rfl rfl rfl flat_agg rfl rfl (Nat.le_of_ble_eq_true rfl) rfl) rfl ?_
   refine k_done rfl ?_
   refine thenK_n ?_
   refine W_anyK (b' := 235) rfl rfl rfl ?_
   refine q0 43 123 1 rfl rfl (T_move rfl rfl) rfl ?_
   refine q0 44 139 2 rfl rfl (T_load_bA D (l := [_, _, _, _, _, _, _, _]) rfl rfl rfl rfl rfl rfl rfl) rfl ?_
   refine q0 45 155 3 rfl rfl (T_move rfl rfl) rfl ?_
   refine q0 46 171 4 rfl rfl (T_move rfl rfl) rfl ?_
   first | refine q0 47 187 5 rfl rfl (T_indexAddr D rfl rfl rfl rfl rfl rfl rfl rfl (by first | assumption | omega | (have q := hbd (by omega); omega) | (simp; omega))) rfl ?_ | refine q0 47 187 5 rfl rfl (T_indexAddrZ D rfl rfl rfl rfl rfl rfl rfl rfl (by first | assumption | omega | (have q := hbd (by omega); omega) | (simp; omega)) (by first | assumption | omega | (have q := hbd (by omega); omega) | (simp; omega))) rfl ?_
   refine q1 48 203 6 rfl rfl (T_ldE D (lv := .r 203) (nn := 1) (upd := [(203, .fz 1 _)]) rfl rfl rfl rfl rfl (by first | assumption | omega | (have q := hbd (by omega); omega) | (simp; omega)) rfl rfl rfl rfl) rfl ?_
   refine qn 49 219 7 rfl rfl (T_call (lvs := [_, _, _]) (L := [(1, 6), (2, 7), (3, 8), (4, 203)]) (lv := .tup []) (upd := [(6, .box 117 [.r 7, .r 8]), (7, .map _), (8, .row 4 1 _)]) (nn := 0) false (onec_spec (blkC (f.blocks.getD k default) (lo.getD k default) (ofC f li lo k) j).1 (blkC (f.blocks.getD k default) (lo.getD k default) (ofC f li lo k) j).2 ((behL (f.blocks.getD k default) (lo.getD k default)).getD j default) ((f.blocks.getD k default).ins.getD j default) (by have q := hbd (by omega); omega) (by have q := hbd (by omega); omega)) body123 rfl rfl rfl rfl (.box rfl (.map rfl (.row rfl (.fz rfl (.nil))))) rfl (.inl rfl) rfl rfl rfl) rfl ?_
   refine k_done rfl ?_
   refine ⟨rfl, ?_⟩
   refine blockK_n ?_
   refine thenK_n ?_
   refine W_seqK (b' := 267) rfl rfl ?_
   refine q0 50 235 1 rfl rfl (T_add64 rfl rfl rfl (by first | assumption | omega | (have q := hbd (by omega); omega) | (simp; omega))) rfl ?_
   refine q0 38 251 2 rfl rfl (T_move rfl rfl) rfl ?_
   refine k_done rfl ?_
   refine thenK_n ?_
   refine ⟨j + 1, by (try dsimp only); omega, by (try dsimp only); omega, ?_⟩
   exact ⟨[(4, 4), (5, 5), (6, 6), (7, 7), (8, 8), (9, 9), (10, 10)], .same rfl rfl (.same rfl rfl (.same rfl rfl (.same rfl rfl (.same rfl rfl (.eq rfl (.eq rfl (.same rfl rfl (.eq rfl (.eq rfl (.nil) (by first | rfl | simp)) rfl)) rfl) rfl))))), .fzE rfl (.fzE rfl (.fzE rfl (.box (by first | rfl | simp) (.box (by first | rfl | simp) (.box (by first | rfl | simp) (.mapE rfl (.rowE rfl (.fzE rfl (.fzE rfl (.nil) rfl) rfl) (by first | rfl | simp)) (by first | rfl | simp))))) rfl) rfl) rfl, rfl⟩
  ·have h2 := c_lss_f g2
   refine W_exit ?_
   refine thenK_e ?_
   refine thenK_e ?_
   refine blockK_hit ?_
   refine blockK_n ?_
   refine thenK_n ?_
   refine W_seqK (b' := 59) rfl rfl ?_
   refine q0 51 27 1 rfl rfl (T_add64 rfl rfl rfl (by first | assumption | omega | (have q := hbd (by omega); omega) | (simp; omega))) rfl ?_
   refine q0 26 43 2 rfl rfl (T_move rfl rfl) rfl ?_
   refine k_done rfl ?_
   refine thenK_n ?_
   refine ⟨k + 1, by (try dsimp only); omega, by (try dsimp only); omega, ?_⟩
   exact ⟨[(4, 4), (5, 5), (6, 6), (7, 7), (8, 8)], .same rfl rfl (.same rfl rfl (.same rfl rfl (.same rfl rfl (.eq rfl (.eq rfl (.nil) (by first | rfl | (have ej : j = (f.blocks.getD k default).ins.length := (by omega); subst ej; first | done | rfl))) rfl)))), .fzE rfl (.fzE rfl (.fzE rfl (.box (by first | rfl | (have ej : j = (f.blocks.getD k default).ins.length := (by omega); subst ej; first | done | rfl)) (.box (by first | rfl | (have ej : j = (f.blocks.getD k default).ins.length := (by omega); subst ej; first | done | rfl)) (.box (by first | rfl | (have ej : j = (f.blocks.getD k default).ins.length := (by omega); subst ej; first | done | rfl)) (.mapE rfl (.rowE rfl (.nil) (by first | rfl | (have ej : j = (f.blocks.getD k default).ins.length := (by omega); subst ej; first | done | rfl))) (by first | rfl | (have ej : j = (f.blocks.getD k default).ins.length := (by omega); subst ej; first | done | rfl)))))) rfl) rfl) rfl, rfl⟩
 ·have h1 := c_lss_f g1
  refine W_exit ?_
  refine thenK_e ?_
  refine thenK_e ?_
  refine blockK_hit ?_
  refine thenK_n ?_
  refine W_seq ?_
  refine W_seqK (b' := 57) rfl rfl ?_
  refine q0 52 25 1 rfl rfl (T_move rfl rfl) rfl ?_
  refine q0 4 41 2 rfl rfl (T_assign rfl rfl) rfl ?_
  refine k_done rfl ?_
  refine thenK_n ?_
  refine W_ret ?_
  exact .mk [(4, 6), (5, 7), (6, 8)] (.inr rfl) (.tmp rfl (.nil)) rfl (.box (by first | rfl | (have ek : k = f.blocks.length := (by omega); subst ek; first | done | rfl)) (.mapE rfl (.rowE rfl (.nil) (by first | rfl | (have ek : k = f.blocks.length := (by omega); subst ek; first | done | rfl))) (by first | rfl | (have ek : k = f.blocks.length := (by omega); subst ek; first | done | rfl)))) rfl
theorem body85 : (Try.prog.funcs[85]?).map (fun fn => (fn.name == "runtime.NumGoroutine" || fn.body.isNone)) = some false := by kernel_rfl
theorem fits28_spec (w k : Int) : Spec Try.prog 85 [.v (.int .i64 w), .v (.int .i64 k)] 1 [] (.v (.bool (fitsP k w))) 1 [] := by
 refine spec_of D (fn := Try.f85) rfl rfl (Nat.le_of_ble_eq_true rfl) ?_
 refine W_seq ?_
 refine W_seqK (b' := 17) rfl rfl ?_
 refine q0 4 1 1 rfl rfl (T_assign rfl rfl) rfl ?_
 refine k_done rfl ?_
 refine thenK_n ?_
 refine W_seq ?_
 refine W_seqK (b' := 273) rfl rfl ?_
 refine q0 5 17 1 rfl rfl (T_move rfl rfl) rfl ?_
 refine q0 6 33 2 rfl rfl (T_cmp rfl rfl rfl rfl) rfl ?_
 refine q0 7 49 3 rfl rfl (T_move rfl rfl) rfl ?_
 refine k_split (d := 7) rfl (fun g1 => ?_) (fun g1 => ?_)
 ·have h1 := c_geq_t g1
  refine k_op0 (d := 8) (b := 65) (j' := 4) rfl rfl rfl rfl (g_tt rfl rfl rfl g1) (T_move rfl rfl) rfl ?_
  refine k_op0 (d := 9) (b := 81) (j' := 5) rfl rfl rfl rfl (g_tt rfl rfl rfl g1) (T_move rfl rfl) rfl ?_
  refine k_op0 (d := 10) (b := 97) (j' := 6) rfl rfl rfl rfl (g_tt rfl rfl rfl g1) (T_cmp rfl rfl rfl rfl) rfl ?_
  refine q0 11 113 7 rfl rfl (T_pick_t rfl rfl rfl g1) rfl ?_
  refine q0 12 129 8 rfl rfl (T_move rfl rfl) rfl ?_
  refine k_split (d := 12) rfl (fun g2 => ?_) (fun g2 => ?_)
  ·have h2 := c_leq_t g2
   refine k_no (d := 13) (j' := 9) rfl rfl rfl (g_ft rfl rfl rfl g2) ?_
   refine k_no (d := 14) (j' := 10) rfl rfl rfl (g_ft rfl rfl rfl g2) ?_
   refine k_no (d := 15) (j' := 11) rfl rfl rfl (g_ft rfl rfl rfl g2) ?_
   refine k_no (d := 16) (j' := 12) rfl rfl rfl (.und rfl rfl rfl) ?_
   refine k_no (d := 17) (j' := 13) rfl rfl rfl (.und rfl rfl rfl) ?_
   refine k_no (d := 18) (j' := 14) rfl rfl rfl (g_ft rfl rfl rfl g2) ?_
   refine q0 19 241 15 rfl rfl (T_pick_t rfl rfl rfl g2) rfl ?_
   refine q0 4 257 16 rfl rfl (T_assign rfl rfl) rfl ?_
   refine k_done rfl ?_
   refine thenK_n ?_
   refine W_ret ?_
   exact .mk [] (.inr rfl) (.tmp rfl (.nil)) (by first | rfl | (simp only [resLV, LV.ren, LV.v.injEq, Value.bool.injEq]; rw [Bool.eq_iff_iff]; simp only [fitsP, cmpB, Bool.or_eq_true, Bool.and_eq_true, decide_eq_true_eq, true_iff, false_iff, Bool.false_eq_true]; omega)) (.nil) rfl
  ·have h2 := c_leq_f g2
   refine k_op0 (d := 13) (b := 145) (j' := 9) rfl rfl rfl rfl (g_ff rfl rfl rfl g2) (T_move rfl rfl) rfl ?_
   refine k_op0 (d := 14) (b := 161) (j' := 10) rfl rfl rfl rfl (g_ff rfl rfl rfl g2) (T_cmp rfl rfl rfl rfl) rfl ?_
   refine k_op0 (d := 15) (b := 177) (j' := 11) rfl rfl rfl rfl (g_ff rfl rfl rfl g2) (T_move rfl rfl) rfl ?_
   refine k_split (d := 15) rfl (fun g3 => ?_) (fun g3 => ?_)
   ·have h3 := c_leq_t g3
    refine k_op0 (d := 16) (b := 193) (j' := 12) rfl rfl rfl rfl (g_tt rfl rfl rfl g3) (T_move rfl rfl) rfl ?_
    refine k_op0 (d := 17) (b := 209) (j' := 13) rfl rfl rfl rfl (g_tt rfl rfl rfl g3) (T_cmp rfl rfl rfl rfl) rfl ?_
    refine k_op0 (d := 18) (b := 225) (j' := 14) rfl rfl rfl rfl (g_ff rfl rfl rfl g2) (T_pick_t rfl rfl rfl g3) rfl ?_
    refine q0 19 241 15 rfl rfl (T_pick_f rfl rfl rfl g2) rfl ?_
    refine q0 4 257 16 rfl rfl (T_assign rfl rfl) rfl ?_
    refine k_done rfl ?_
    refine thenK_n ?_
    refine W_ret ?_
    exact .mk [] (.inr rfl) (.tmp rfl (.nil)) (by first | rfl | (simp only [resLV, LV.ren, LV.v.injEq, Value.bool.injEq]; rw [Bool.eq_iff_iff]; simp only [fitsP, cmpB, Bool.or_eq_true, Bool.and_eq_true, decide_eq_true_eq, true_iff, false_iff, Bool.false_eq_true]; omega)) (.nil) rfl
   ·have h3 := c_leq_f g3
    refine k_no (d := 16) (j' := 12) rfl rfl rfl (g_tf rfl rfl rfl g3) ?_
    refine k_no (d := 17) (j' := 13) rfl rfl rfl (g_tf rfl rfl rfl g3) ?_
    refine k_op0 (d := 18) (b := 225) (j' := 14) rfl rfl rfl rfl (g_ff rfl rfl rfl g2) (T_pick_f rfl rfl rfl g3) rfl ?_
    refine q0 19 241 15 rfl rfl (T_pick_f rfl rfl rfl g2) rfl ?_
    refine q0 4 257 16 rfl rfl (T_assign rfl rfl) rfl ?_
    refine k_done rfl ?_
    refine thenK_n ?_
    refine W_ret ?_
    exact .mk [] (.inr rfl) (.tmp rfl (.nil)) (by first | rfl | (simp only [resLV, LV.ren, LV.v.injEq, Value.bool.injEq]; rw [Bool.eq_iff_iff]; simp only [fitsP, cmpB, Bool.or_eq_true, Bool.and_eq_true, decide_eq_true_eq, true_iff, false_iff, Bool.false_eq_true]; omega)) (.nil) rfl
 ·have h1 := c_geq_f g1
  refine k_no (d := 8) (j' := 4) rfl rfl rfl (g_tf rfl rfl rfl g1) ?_
  refine k_no (d := 9) (j' := 5) rfl rfl rfl (g_tf rfl rfl rfl g1) ?_
  refine k_no (d := 10) (j' := 6) rfl rfl rfl (g_tf rfl rfl rfl g1) ?_
  refine q0 11 113 7 rfl rfl (T_pick_f rfl rfl rfl g1) rfl ?_
  refine q0 12 129 8 rfl rfl (T_move rfl rfl) rfl ?_
  refine k_op0 (d := 13) (b := 145) (j' := 9) rfl rfl rfl rfl (g_ff rfl rfl rfl rfl) (T_move rfl rfl) rfl ?_
  refine k_op0 (d := 14) (b := 161) (j' := 10) rfl rfl rfl rfl (g_ff rfl rfl rfl rfl) (T_cmp rfl rfl rfl rfl) rfl ?_
  refine k_op0 (d := 15) (b := 177) (j' := 11) rfl rfl rfl rfl (g_ff rfl rfl rfl rfl) (T_move rfl rfl) rfl ?_
  refine k_split (d := 15) rfl (fun g4 => ?_) (fun g4 => ?_)
  ·have h4 := c_leq_t g4
   refine k_op0 (d := 16) (b := 193) (j' := 12) rfl rfl rfl rfl (g_tt rfl rfl rfl g4) (T_move rfl rfl) rfl ?_
   refine k_op0 (d := 17) (b := 209) (j' := 13) rfl rfl rfl rfl (g_tt rfl rfl rfl g4) (T_cmp rfl rfl rfl rfl) rfl ?_
   refine k_op0 (d := 18) (b := 225) (j' := 14) rfl rfl rfl rfl (g_ff rfl rfl rfl rfl) (T_pick_t rfl rfl rfl g4) rfl ?_
   refine q0 19 241 15 rfl rfl (T_pick_f rfl rfl rfl rfl) rfl ?_
   refine q0 4 257 16 rfl rfl (T_assign rfl rfl) rfl ?_
   refine k_done rfl ?_
   refine thenK_n ?_
   refine W_ret ?_
   exact .mk [] (.inr rfl) (.tmp rfl (.nil)) (by first | rfl | (simp only [resLV, LV.ren, LV.v.injEq, Value.bool.injEq]; rw [Bool.eq_iff_iff]; simp only [fitsP, cmpB, Bool.or_eq_true, Bool.and_eq_true, decide_eq_true_eq, true_iff, false_iff, Bool.false_eq_true]; omega)) (.nil) rfl
  ·have h4 := c_leq_f g4
   refine k_no (d := 16) (j' := 12) rfl rfl rfl (g_tf rfl rfl rfl g4) ?_
   refine k_no (d := 17) (j' := 13) rfl rfl rfl (g_tf rfl rfl rfl g4) ?_
   refine k_op0 (d := 18) (b := 225) (j' := 14) rfl rfl rfl rfl (g_ff rfl rfl rfl rfl) (T_pick_f rfl rfl rfl g4) rfl ?_
   refine q0 19 241 15 rfl rfl (T_pick_f rfl rfl rfl rfl) rfl ?_
   refine q0 4 257 16 rfl rfl (T_assign rfl rfl) rfl ?_
   refine k_done rfl ?_
   refine thenK_n ?_
   refine W_ret ?_
   exact .mk [] (.inr rfl) (.tmp rfl (.nil)) (by first | rfl | (simp only [resLV, LV.ren, LV.v.injEq, Value.bool.injEq]; rw [Bool.eq_iff_iff]; simp only [fitsP, cmpB, Bool.or_eq_true, Bool.and_eq_true, decide_eq_true_eq, true_iff, false_iff, Bool.false_eq_true]; omega)) (.nil) rfl
theorem body84 : (Try.prog.funcs[84]?).map (fun fn => (fn.name == "runtime.NumGoroutine" || fn.body.isNone)) = some false := by kernel_rfl
theorem nofit_spec (w k : Int) : Spec Try.prog 84 [.v (.int .i64 w), .p 1 0] 2 [(1, .box 3 [.v (.int .i64 k)])] (.v (.bool (nofit k w))) 2 [(1, .box 3 [.v (.int .i64 k)])] := by
 refine spec_of D (fn := Try.f84) rfl rfl (Nat.le_of_ble_eq_true rfl) ?_
 refine W_seq ?_
 refine W_seqK (b' := 18) rfl rfl ?_
 refine q0 3 2 1 rfl rfl (T_assign rfl rfl) rfl ?_
 refine k_done rfl ?_
 refine thenK_n ?_
 refine W_seq ?_
 refine W_seqK (b' := 98) rfl rfl ?_
 refine q0 4 18 1 rfl rfl (T_move rfl rfl) rfl ?_
 refine q0 5 34 2 rfl rfl (T_load_b D rfl rfl rfl rfl rfl rfl) rfl ?_
 refine q0 6 50 3 rfl rfl (T_callV (lvs := [_, _]) (L := []) (fits28_spec w k) body85 rfl rfl rfl rfl (.nil) rfl) rfl ?_
 refine q0 7 66 4 rfl rfl (T_not rfl rfl) rfl ?_
 refine q0 3 82 5 rfl rfl (T_assign rfl rfl) rfl ?_
 refine k_done rfl ?_
 refine thenK_n ?_
 refine W_ret ?_
 exact .mk [] (.inr rfl) (.tmp rfl (.nil)) (by first | rfl | simp) (.box (by first | rfl | simp) (.nil)) rfl
theorem body116 : (Try.prog.funcs[116]?).map (fun fn => (fn.name == "runtime.NumGoroutine" || fn.body.isNone)) = some false := by kernel_rfl
theorem idxF_spec (l : List Int) (n : Int) (hl : l.length ≤ 1000000000) : Spec Try.prog 116 [.r 1, .fn 84 [.p 2 0]] 3 [(1, .fz 1 (l.map eI)), (2, .box 3 [.v (.int .i64 n)])] (.v (.int .i64 (fstIdx (nofit n) l))) 3 [(2, .box 3 [.v (.int .i64 n)])] := by
 refine spec_of D (fn := Try.f116) rfl rfl (Nat.le_of_ble_eq_true rfl) ?_
 refine W_seq ?_
 refine W_seqK (b' := 19) rfl rfl ?_
 refine q0 4 3 1 rfl rfl (T_assign rfl rfl) rfl ?_
 refine k_done rfl ?_
 refine thenK_n ?_
 refine W_seq ?_
 refine W_seq ?_
 refine W_seqK (b' := 67) rfl rfl ?_
 refine q0 6 19 1 rfl rfl (T_move rfl rfl) rfl ?_
 refine q0 7 35 2 rfl rfl (T_len D rfl rfl rfl rfl rfl rfl) rfl ?_
 refine q0 8 51 3 rfl rfl (T_move rfl rfl) rfl ?_
 refine k_done rfl ?_
 refine thenK_n ?_
 refine W_block ?_
 refine W_loop (ι := Nat) 3 (fun j => ⟨[(0, .r 1), (1, .fn 84 [.p 2 0]), (7, .v (.int .i64 (l.length : Int))), (8, .v (.int .i64 (j : Int)))], [(1, .fz 1 (l.map eI)), (2, .box 3 [.v (.int .i64 n)])]⟩) (fun j => j ≤ l.length ∧ ∀ i, i < j → nofit n (l.getD i default) = false) (fun j => l.length - j) (0) (by exact ⟨Nat.zero_le _, fun i h => absurd h (Nat.not_lt_zero _)⟩) ?_ (fun j hJ => ?_)
 ·exact ⟨[], .same rfl rfl (.same rfl rfl (.eq rfl (.eq rfl (.nil) (by first | rfl | simp)) (by first | rfl | simp))), .fzE rfl (.box (by first | rfl | simp) (.nil)) (by first | rfl | simp), rfl⟩
 refine W_seq ?_
 refine W_seqK (b' := 19) rfl rfl ?_
 refine q0 9 3 1 rfl rfl (T_cmp rfl rfl rfl rfl) rfl ?_
 refine k_done rfl ?_
 refine thenK_n ?_
 refine W_seq ?_
 refine W_cond rfl (fun g1 => ?_) (fun g1 => ?_)
 ·have h1 := c_lss_t g1
  refine W_skip ?_
  refine thenK_n ?_
  refine W_seq ?_
  refine W_block ?_
  refine W_seq ?_
  refine W_seqK (b' := 51) rfl rfl ?_
  refine q0 10 19 1 rfl rfl (T_move rfl rfl) rfl ?_
  refine q0 5 35 2 rfl rfl (T_assign rfl rfl) rfl ?_
  refine k_done rfl ?_
  refine thenK_n ?_
  refine W_seq ?_
  refine W_seqK (b' := 147) rfl rfl ?_
  refine q0 11 51 1 rfl rfl (T_move rfl rfl) rfl ?_
  refine q0 12 67 2 rfl rfl (T_move rfl rfl) rfl ?_
  refine q0 13 83 3 rfl rfl (T_move rfl rfl) rfl ?_
  first | refine q0 14 99 4 rfl rfl (T_indexAddr D rfl rfl rfl rfl rfl rfl rfl rfl (by first | assumption | omega | (simp; omega))) rfl ?_ | refine q0 14 99 4 rfl rfl (T_indexAddrZ D rfl rfl rfl rfl rfl rfl rfl rfl (by first | assumption | omega | (simp; omega)) (by first | assumption | omega | (simp; omega))) rfl ?_
  refine q0 15 115 5 rfl rfl (T_ldE D (lv := .v _) (nn := 0) (upd := []) rfl rfl rfl rfl rfl (by first | assumption | omega | (simp; omega)) rfl rfl rfl rfl) rfl ?_
  refine q1 16 131 6 rfl rfl (T_call (lvs := [_]) (L := [(1, 2)]) (lv := .v _) (upd := [(2, .box 3 [.v _])]) (nn := 0) false (nofit_spec _ _) body84 rfl rfl rfl rfl (.box rfl (.nil)) rfl (.inl rfl) rfl rfl rfl) rfl ?_
  refine k_done rfl ?_
  refine thenK_n ?_
  refine W_cond rfl (fun g2 => ?_) (fun g2 => ?_)
  ·have h2 := g2; (try simp only [cmpB, decide_eq_true_eq, decide_eq_false_iff_not, beq_iff_eq, beq_eq_false_iff_ne, bne_iff_ne, ne_eq, bne_eq_false_iff_eq, Bool.not_eq_true', Bool.not_eq_false', Int.not_lt, Int.not_le] at h2)
   refine W_seq ?_
   refine W_seqK (b' := 179) rfl rfl ?_
   refine q0 17 147 1 rfl rfl (T_move rfl rfl) rfl ?_
   refine q0 4 163 2 rfl rfl (T_assign rfl rfl) rfl ?_
   refine k_done rfl ?_
   refine thenK_n ?_
   refine W_ret ?_
   refine blockK_r ?_
   refine thenK_r ?_
   refine thenK_r ?_
   refine blockK_r ?_
   refine thenK_r ?_
   exact .mk [] (.inr rfl) (.tmp rfl (.nil)) (by first | rfl | (simp only [resLV, LV.ren, LV.v.injEq, Value.int.injEq, true_and]; exact (fstIdx_hit _ _ (by omega) (by assumption) (fun i hi => hJ.2 i hi)).symm)) (.box (by first | rfl | (simp only [resLV, LV.ren, LV.v.injEq, Value.int.injEq, true_and]; exact (fstIdx_hit _ _ (by omega) (by assumption) (fun i hi => hJ.2 i hi)).symm)) (.nil)) rfl
  ·have h2 := g2; (try simp only [cmpB, decide_eq_true_eq, decide_eq_false_iff_not, beq_iff_eq, beq_eq_false_iff_ne, bne_iff_ne, ne_eq, bne_eq_false_iff_eq, Bool.not_eq_true', Bool.not_eq_false', Int.not_lt, Int.not_le] at h2)
   refine W_skip ?_
   refine blockK_n ?_
   refine thenK_n ?_
   refine W_seqK (b' := 179) rfl rfl ?_
   refine q0 18 147 1 rfl rfl (T_add64 rfl rfl rfl (by first | assumption | omega | (simp; omega))) rfl ?_
   refine q0 8 163 2 rfl rfl (T_move rfl rfl) rfl ?_
   refine k_done rfl ?_
   refine thenK_n ?_
   refine ⟨j + 1, by (try dsimp only); exact ⟨by omega, fun i hi => by rcases Nat.lt_or_ge i j with h | h; exact hJ.2 i h; rw [show i = j by omega]; assumption⟩, by (try dsimp only); omega, ?_⟩
   exact ⟨[], .same rfl rfl (.same rfl rfl (.eq rfl (.eq rfl (.nil) (by first | rfl | simp)) rfl)), .fzE rfl (.box (by first | rfl | simp) (.nil)) rfl, rfl⟩
 ·have h1 := c_lss_f g1
  refine W_exit ?_
  refine thenK_e ?_
  refine thenK_e ?_
  refine blockK_hit ?_
  refine thenK_n ?_
  refine W_seq ?_
  refine W_seqK (b' := 35) rfl rfl ?_
  refine q0 4 19 1 rfl rfl (T_assign rfl rfl) rfl ?_
  refine k_done rfl ?_
  refine thenK_n ?_
  refine W_ret ?_
  exact .mk [] (.inr rfl) (.tmp rfl (.nil)) (by first | rfl | (simp only [resLV, LV.ren, LV.v.injEq, Value.int.injEq, true_and]; exact (fstIdx_none _ _ (fun i hi => hJ.2 i (by omega))).symm)) (.box (by first | rfl | (simp only [resLV, LV.ren, LV.v.injEq, Value.int.injEq, true_and]; exact (fstIdx_none _ _ (fun i hi => hJ.2 i (by omega))).symm)) (.nil)) rfl
theorem body73 : (Try.prog.funcs[73]?).map (fun fn => (fn.name == "runtime.NumGoroutine" || fn.body.isNone)) = some false := by kernel_rfl
theorem contF_spec (l : List Int) (n : Int) (hl : l.length ≤ 1000000000) : Spec Try.prog 73 [.r 1, .fn 84 [.p 2 0]] 3 [(1, .fz 1 (l.map eI)), (2, .box 3 [.v (.int .i64 n)])] (.v (.bool (l.any (nofit n)))) 3 [(2, .box 3 [.v (.int .i64 n)])] := by
 refine spec_of D (fn := Try.f73) rfl rfl (Nat.le_of_ble_eq_true rfl) ?_
 refine W_seq ?_
 refine W_seqK (b' := 19) rfl rfl ?_
 refine q0 4 3 1 rfl rfl (T_assign rfl rfl) rfl ?_
 refine k_done rfl ?_
 refine thenK_n ?_
 refine W_seq ?_
 refine W_seqK (b' := 99) rfl rfl ?_
 refine q0 5 19 1 rfl rfl (T_move rfl rfl) rfl ?_
 refine q0 6 35 2 rfl rfl (T_move rfl rfl) rfl ?_
 refine q1 7 51 3 rfl rfl (T_call (lvs := [_, _]) (L := [(1, 1), (2, 2)]) (lv := .v _) (upd := [(2, .box 3 [.v _])]) (nn := 0) false (idxF_spec l n hl) body116 rfl rfl rfl rfl (.fz rfl (.box rfl (.nil))) rfl (.inl rfl) rfl rfl rfl) rfl ?_
 refine q0 8 67 4 rfl rfl (T_cmp rfl rfl rfl rfl) rfl ?_
 refine q0 4 83 5 rfl rfl (T_assign rfl rfl) rfl ?_
 refine k_done rfl ?_
 refine thenK_n ?_
 refine W_ret ?_
 exact .mk [] (.inr rfl) (.tmp rfl (.nil)) (by first | rfl | (simp only [resLV, LV.ren, LV.v.injEq, Value.bool.injEq]; exact fstIdx_any _ _)) (.box (by first | rfl | (simp only [resLV, LV.ren, LV.v.injEq, Value.bool.injEq]; exact fstIdx_any _ _)) (.nil)) rfl
end Lg
end Go.Proofs.Ytpfhmodjjljpjaa

namespace Go.Proofs.Ytpfhmodjjljpjaa
open Go.RowKit
namespace Lg
set_option maxRecDepth 100000
set_option linter.unusedVariables false
set_option linter.unusedSimpArgs false
theorem body44 : (Try.prog.funcs[44]?).map (fun fn => (fn.name == "runtime.NumGoroutine" || fn.body.isNone)) = some false := by kernel_rfl
theorem acheck_spec (f : GFn) (li lo : List (List Bool)) (ps : List Int) (k : Int) (hF : LF f) (hb1 : li.length ≤ 1000000000000000) (hb2 : lo.length ≤ 1000000000000000) (hb : 0 < f.blocks.length) (hp : ps.length ≤ 1000000000) : Spec Try.prog 44 [.agg [.v (.int .i64 f.regs), .r 1], .agg [.r 2, .r 3], .agg [.r 4], .v (.int .i64 k)] 5 [(1, .fz 5 (f.blocks.map eBlock)), (2, .fz 1 (li.map eBs)), (3, .fz 1 (lo.map eBs)), (4, .fz 1 (ps.map eI))] (.v (.bool (acheck f li lo ps k))) 5 [] := by
 refine spec_of D (fn := Try.f44) rfl rfl (Nat.le_of_ble_eq_true rfl) ?_
 refine W_seq ?_
 refine W_seqK (b' := 85) rfl rfl ?_
 refine q1 4 5 1 rfl rfl (T_box rfl rfl flat_agg) rfl ?_
 refine q1 5 21 2 rfl rfl (T_box rfl rfl flat_agg) rfl ?_
 refine q1 6 37 3 rfl rfl (T_box rfl rfl flat_agg) rfl ?_
 refine q1 7 53 4 rfl rfl (T_box rfl rfl (flat_v rfl)) rfl ?_
 refine q0 8 69 5 rfl rfl (T_assign rfl rfl) rfl ?_
 refine k_done rfl ?_
 refine thenK_n ?_
 refine W_seq ?_
 refine W_seq ?_
 refine W_seqK (b' := 373) rfl rfl ?_
 refine q0 12 85 1 rfl rfl (T_load_bA D (l := [_, _]) rfl rfl rfl rfl rfl rfl rfl) rfl ?_
 refine q0 13 101 2 rfl rfl (T_load_bA D (l := [_, _]) rfl rfl rfl rfl rfl rfl rfl) rfl ?_
 refine q0 14 117 3 rfl rfl (T_callV (lvs := [_, _]) (L := [(1, 1), (2, 2), (3, 3)]) (lcheck_spec f li lo hF hb1 hb2) body53 rfl rfl rfl rfl (.fz rfl (.fz rfl (.fz rfl (.nil)))) rfl) rfl ?_
 refine q0 15 133 4 rfl rfl (T_not rfl rfl) rfl ?_
 refine q0 16 149 5 rfl rfl (T_move rfl rfl) rfl ?_
 refine k_split (d := 16) rfl (fun g1 => ?_) (fun g1 => ?_)
 ·have h1 := g1; (try simp only [cmpB, decide_eq_true_eq, decide_eq_false_iff_not, beq_iff_eq, beq_eq_false_iff_ne, bne_iff_ne, ne_eq, bne_eq_false_iff_eq, Bool.not_eq_true', Bool.not_eq_false', Int.not_lt, Int.not_le] at h1)
  refine k_no (d := 17) (j' := 6) rfl rfl rfl (g_ft rfl rfl rfl g1) ?_
  refine k_no (d := 18) (j' := 7) rfl rfl rfl (g_ft rfl rfl rfl g1) ?_
  refine k_no (d := 19) (j' := 8) rfl rfl rfl (g_ft rfl rfl rfl g1) ?_
  refine k_no (d := 20) (j' := 9) rfl rfl rfl (g_ft rfl rfl rfl g1) ?_
  refine k_no (d := 21) (j' := 10) rfl rfl rfl (g_ft rfl rfl rfl g1) ?_
  refine k_no (d := 22) (j' := 11) rfl rfl rfl (g_ft rfl rfl rfl g1) ?_
  refine q0 23 261 12 rfl rfl (T_pick_t rfl rfl rfl g1) rfl ?_
  refine q0 24 277 13 rfl rfl (T_move rfl rfl) rfl ?_
  refine k_no (d := 25) (j' := 14) rfl rfl rfl (g_ft rfl rfl rfl rfl) ?_
  refine k_no (d := 26) (j' := 15) rfl rfl rfl (g_ft rfl rfl rfl rfl) ?_
  refine k_no (d := 27) (j' := 16) rfl rfl rfl (g_ft rfl rfl rfl rfl) ?_
  refine k_no (d := 28) (j' := 17) rfl rfl rfl (g_ft rfl rfl rfl rfl) ?_
  refine q0 29 357 18 rfl rfl (T_pick_t rfl rfl rfl rfl) rfl ?_
  refine k_done rfl ?_
  refine thenK_n ?_
  refine W_cond rfl (fun g2 => ?_) (fun g2 => ?_)
  ·skip
   refine W_seq ?_
   refine W_seqK (b' := 389) rfl rfl ?_
   refine q0 8 373 1 rfl rfl (T_assign rfl rfl) rfl ?_
   refine k_done rfl ?_
   refine thenK_n ?_
   refine W_ret ?_
   refine thenK_r ?_
   exact .mk [] (.inr rfl) (.tmp rfl (.nil)) (by first | rfl | (simp only [resLV, LV.ren, LV.v.injEq, Value.bool.injEq]; exact acheck_no1 (by assumption)) | (simp only [resLV, LV.ren, LV.v.injEq, Value.bool.injEq]; exact acheck_no2 (by omega)) | (simp only [resLV, LV.ren, LV.v.injEq, Value.bool.injEq]; exact acheck_no3 (by assumption)) | (simp only [resLV, LV.ren, LV.v.injEq, Value.bool.injEq]; exact acheck_no4 (i := i) (by omega) (okP_no1 (by assumption) (by omega))) | (simp only [resLV, LV.ren, LV.v.injEq, Value.bool.injEq]; exact acheck_no4 (i := i) (by omega) (okP_no2 (by assumption))) | (simp only [resLV, LV.ren, LV.v.injEq, Value.bool.injEq]; exact acheck_yes (by assumption) (by omega) (by assumption) (fun i h => hJ.2 i (by omega)))) (.nil) rfl
  ·exact absurd (g2.symm.trans rfl) (by decide)
 ·have h1 := g1; (try simp only [cmpB, decide_eq_true_eq, decide_eq_false_iff_not, beq_iff_eq, beq_eq_false_iff_ne, bne_iff_ne, ne_eq, bne_eq_false_iff_eq, Bool.not_eq_true', Bool.not_eq_false', Int.not_lt, Int.not_le] at h1)
  refine k_op0 (d := 17) (b := 165) (j' := 6) rfl rfl rfl rfl (g_ff rfl rfl rfl g1) (T_fa D (m := 0) rfl rfl rfl rfl rfl rfl) rfl ?_
  refine k_op0 (d := 18) (b := 181) (j' := 7) rfl rfl rfl rfl (g_ff rfl rfl rfl g1) (T_load_b D rfl rfl rfl rfl rfl rfl) rfl ?_
  refine k_op0 (d := 19) (b := 197) (j' := 8) rfl rfl rfl rfl (g_ff rfl rfl rfl g1) (T_len D rfl rfl rfl rfl rfl rfl) rfl ?_
  refine k_op0 (d := 20) (b := 213) (j' := 9) rfl rfl rfl rfl (g_ff rfl rfl rfl g1) (T_fa D (m := 0) rfl rfl rfl rfl rfl rfl) rfl ?_
  refine k_op0 (d := 21) (b := 229) (j' := 10) rfl rfl rfl rfl (g_ff rfl rfl rfl g1) (T_load_b D rfl rfl rfl rfl rfl rfl) rfl ?_
  refine k_op0 (d := 22) (b := 245) (j' := 11) rfl rfl rfl rfl (g_ff rfl rfl rfl g1) (T_cmp rfl rfl rfl rfl) rfl ?_
  refine q0 23 261 12 rfl rfl (T_pick_f rfl rfl rfl g1) rfl ?_
  refine q0 24 277 13 rfl rfl (T_move rfl rfl) rfl ?_
  refine k_split (d := 24) rfl (fun g3 => ?_) (fun g3 => ?_)
  ·have h3 := c_neq_t g3
   refine k_no (d := 25) (j' := 14) rfl rfl rfl (g_ft rfl rfl rfl g3) ?_
   refine k_no (d := 26) (j' := 15) rfl rfl rfl (g_ft rfl rfl rfl g3) ?_
   refine k_no (d := 27) (j' := 16) rfl rfl rfl (g_ft rfl rfl rfl g3) ?_
   refine k_no (d := 28) (j' := 17) rfl rfl rfl (g_ft rfl rfl rfl g3) ?_
   refine q0 29 357 18 rfl rfl (T_pick_t rfl rfl rfl g3) rfl ?_
   refine k_done rfl ?_
   refine thenK_n ?_
   refine W_cond rfl (fun g4 => ?_) (fun g4 => ?_)
   ·skip
    refine W_seq ?_
    refine W_seqK (b' := 389) rfl rfl ?_
    refine q0 8 373 1 rfl rfl (T_assign rfl rfl) rfl ?_
    refine k_done rfl ?_
    refine thenK_n ?_
    refine W_ret ?_
    refine thenK_r ?_
    exact .mk [] (.inr rfl) (.tmp rfl (.nil)) (by first | rfl | (simp only [resLV, LV.ren, LV.v.injEq, Value.bool.injEq]; exact acheck_no1 (by assumption)) | (simp only [resLV, LV.ren, LV.v.injEq, Value.bool.injEq]; exact acheck_no2 (by omega)) | (simp only [resLV, LV.ren, LV.v.injEq, Value.bool.injEq]; exact acheck_no3 (by assumption)) | (simp only [resLV, LV.ren, LV.v.injEq, Value.bool.injEq]; exact acheck_no4 (i := i) (by omega) (okP_no1 (by assumption) (by omega))) | (simp only [resLV, LV.ren, LV.v.injEq, Value.bool.injEq]; exact acheck_no4 (i := i) (by omega) (okP_no2 (by assumption))) | (simp only [resLV, LV.ren, LV.v.injEq, Value.bool.injEq]; exact acheck_yes (by assumption) (by omega) (by assumption) (fun i h => hJ.2 i (by omega)))) (.nil) rfl
   ·exact absurd (g4.symm.trans rfl) (by decide)
  ·have h3 := c_neq_f g3
   refine k_op0 (d := 25) (b := 293) (j' := 14) rfl rfl rfl rfl (g_ff rfl rfl rfl g3) (T_fa D (m := 0) rfl rfl rfl rfl rfl rfl) rfl ?_
   refine k_op0 (d := 26) (b := 309) (j' := 15) rfl rfl rfl rfl (g_ff rfl rfl rfl g3) (T_load_b D rfl rfl rfl rfl rfl rfl) rfl ?_
   refine k_op0 (d := 27) (b := 325) (j' := 16) rfl rfl rfl rfl (g_ff rfl rfl rfl g3) (T_makeFunc (l := [_]) rfl rfl) rfl ?_
   refine k_op1 (d := 28) (b := 341) (j' := 17) rfl rfl rfl rfl (g_ff rfl rfl rfl g3) (T_call (lvs := [_, _]) (L := [(1, 4), (2, 53)]) (lv := .v _) (upd := [(53, .box 3 [.v _])]) (nn := 0) false (contF_spec ps k hp) body73 rfl rfl rfl rfl (.fz rfl (.box rfl (.nil))) rfl (.inl rfl) rfl rfl rfl) rfl ?_
   refine q0 29 357 18 rfl rfl (T_pick_f rfl rfl rfl g3) rfl ?_
   refine k_done rfl ?_
   refine thenK_n ?_
   refine W_cond rfl (fun g5 => ?_) (fun g5 => ?_)
   ·have h5 := g5; (try simp only [cmpB, decide_eq_true_eq, decide_eq_false_iff_not, beq_iff_eq, beq_eq_false_iff_ne, bne_iff_ne, ne_eq, bne_eq_false_iff_eq, Bool.not_eq_true', Bool.not_eq_false', Int.not_lt, Int.not_le] at h5)
    refine W_seq ?_
    refine W_seqK (b' := 389) rfl rfl ?_
    refine q0 8 373 1 rfl rfl (T_assign rfl rfl) rfl ?_
    refine k_done rfl ?_
    refine thenK_n ?_
    refine W_ret ?_
    refine thenK_r ?_
    exact .mk [] (.inr rfl) (.tmp rfl (.nil)) (by first | rfl | (simp only [resLV, LV.ren, LV.v.injEq, Value.bool.injEq]; exact acheck_no1 (by assumption)) | (simp only [resLV, LV.ren, LV.v.injEq, Value.bool.injEq]; exact acheck_no2 (by omega)) | (simp only [resLV, LV.ren, LV.v.injEq, Value.bool.injEq]; exact acheck_no3 (by assumption)) | (simp only [resLV, LV.ren, LV.v.injEq, Value.bool.injEq]; exact acheck_no4 (i := i) (by omega) (okP_no1 (by assumption) (by omega))) | (simp only [resLV, LV.ren, LV.v.injEq, Value.bool.injEq]; exact acheck_no4 (i := i) (by omega) (okP_no2 (by assumption))) | (simp only [resLV, LV.ren, LV.v.injEq, Value.bool.injEq]; exact acheck_yes (by assumption) (by omega) (by assumption) (fun i h => hJ.2 i (by omega)))) (.nil) rfl
   ·have h5 := g5; (try simp only [cmpB, decide_eq_true_eq, decide_eq_false_iff_not, beq_iff_eq, beq_eq_false_iff_ne, bne_iff_ne, ne_eq, bne_eq_false_iff_eq, Bool.not_eq_true', Bool.not_eq_false', Int.not_lt, Int.not_le] at h5)
    refine W_skip ?_
    refine thenK_n ?_
    refine W_seq ?_
    refine W_seqK (b' := 437) rfl rfl ?_
    refine q0 30 373 1 rfl rfl (T_load_bA D (l := [_, _]) rfl rfl rfl rfl rfl rfl rfl) rfl ?_
    refine q0 31 389 2 rfl rfl (T_load_bA D (l := [_, _]) rfl rfl rfl rfl rfl rfl rfl) rfl ?_
    refine qn 32 405 3 rfl rfl (T_call (lvs := [_, _]) (L := [(1, 1), (2, 2), (3, 3)]) (lv := .p 405 0) (upd := [(405, .box 117 [.r 406, .r 407]), (406, .map _), (407, .row 4 1 _)]) (nn := 3) false (of28_spec f li lo hF (closed_iff (by assumption : checkL f li lo = true)).1 (closed_iff (by assumption : checkL f li lo = true)).2.1 hb) body82 rfl rfl rfl rfl (.fz rfl (.fz rfl (.fz rfl (.nil)))) rfl (.inl rfl) rfl rfl rfl) rfl ?_
    refine q0 9 421 4 rfl rfl (T_assign rfl rfl) rfl ?_
    refine k_done rfl ?_
    refine thenK_n ?_
    refine W_seq ?_
    refine W_seq ?_
    refine W_seqK (b' := 501) rfl rfl ?_
    refine q0 33 437 1 rfl rfl (T_fa D (m := 0) rfl rfl rfl rfl rfl rfl) rfl ?_
    refine q0 34 453 2 rfl rfl (T_load_b D rfl rfl rfl rfl rfl rfl) rfl ?_
    refine q0 35 469 3 rfl rfl (T_len D rfl rfl rfl rfl rfl rfl) rfl ?_
    refine q0 36 485 4 rfl rfl (T_move rfl rfl) rfl ?_
    refine k_done rfl ?_
    refine thenK_n ?_
    refine W_block ?_
    have hcl : (confl f li lo).2.length = f.regs.toNat := ofC_len f li lo _
    have hFr := hF.regs
    have hpl : (ps.length : Int) = f.regs := by omega
    refine W_loop (ι := Nat) 9 (fun i => ⟨[(6, .p 5 0), (9, .p 6 0), (34, .r 4), (35, .v (.int .i64 (ps.length : Int))), (36, .v (.int .i64 (i : Int)))], [(1, .fz 5 (f.blocks.map eBlock)), (2, .fz 1 (li.map eBs)), (3, .fz 1 (lo.map eBs)), (4, .fz 1 (ps.map eI)), (5, .box 60 [.r 4]), (6, .box 117 [.r 7, .r 8]), (7, .map ((confl f li lo).1)), (8, .row 4 1 ((confl f li lo).2.map eB))]⟩) (fun i => i ≤ ps.length ∧ ∀ j, j < i → okP (confl f li lo) ps j = true) (fun i => ps.length - i) (0) (by exact ⟨Nat.zero_le _, fun i h => absurd h (Nat.not_lt_zero _)⟩) ?_ (fun i hJ => ?_)
    ·exact ⟨[(5, 37), (6, 405), (7, 406), (8, 407)], .same rfl rfl (.same rfl rfl (.same rfl rfl (.eq rfl (.eq rfl (.nil) (by first | rfl | simp)) (by first | rfl | simp)))), .fzE rfl (.fzE rfl (.fzE rfl (.fzE rfl (.box (by first | rfl | simp) (.box (by first | rfl | simp) (.mapE rfl (.rowE rfl (.nil) (by first | rfl | simp)) (by first | rfl | simp)))) (by first | rfl | simp)) (by first | rfl | simp)) (by first | rfl | simp)) (by first | rfl | simp), rfl⟩
    refine W_seq ?_
    refine W_seqK (b' := 25) rfl rfl ?_
    refine q0 37 9 1 rfl rfl (T_cmp rfl rfl rfl rfl) rfl ?_
    refine k_done rfl ?_
    refine thenK_n ?_
    refine W_seq ?_
    refine W_cond rfl (fun g6 => ?_) (fun g6 => ?_)
    ·have h6 := c_lss_t g6
     refine W_skip ?_
     refine thenK_n ?_
     refine W_seq ?_
     refine W_block ?_
     refine W_seq ?_
     refine W_seqK (b' := 105) rfl rfl ?_
     refine q0 38 25 1 rfl rfl (T_move rfl rfl) rfl ?_
     first | refine q0 39 41 2 rfl rfl (T_indexAddr D rfl rfl rfl rfl rfl rfl rfl rfl (by first | assumption | omega | (simp; omega))) rfl ?_ | refine q0 39 41 2 rfl rfl (T_indexAddrZ D rfl rfl rfl rfl rfl rfl rfl rfl (by first | assumption | omega | (simp; omega)) (by first | assumption | omega | (simp; omega))) rfl ?_
     refine q0 40 57 3 rfl rfl (T_ldE D (lv := .v _) (nn := 0) (upd := []) rfl rfl rfl rfl rfl (by first | assumption | omega | (simp; omega)) rfl rfl rfl rfl) rfl ?_
     refine q0 10 73 4 rfl rfl (T_assign rfl rfl) rfl ?_
     refine q0 11 89 5 rfl rfl (T_assign rfl rfl) rfl ?_
     refine k_done rfl ?_
     refine thenK_n ?_
     refine W_seq ?_
     refine W_seqK (b' := 457) rfl rfl ?_
     refine q0 41 105 1 rfl rfl (T_move rfl rfl) rfl ?_
     refine q0 42 121 2 rfl rfl (T_nilCheck rfl rfl) rfl ?_
     refine q0 43 137 3 rfl rfl (T_fa D (m := 1) rfl rfl rfl rfl rfl rfl) rfl ?_
     refine q0 44 153 4 rfl rfl (T_load_b D rfl rfl rfl rfl rfl rfl) rfl ?_
     refine q0 45 169 5 rfl rfl (T_move rfl rfl) rfl ?_
     first | refine q0 46 185 6 rfl rfl (T_indexAddr D rfl rfl rfl rfl rfl rfl rfl rfl (by first | assumption | omega | (simp; omega))) rfl ?_ | refine q0 46 185 6 rfl rfl (T_indexAddrZ D rfl rfl rfl rfl rfl rfl rfl rfl (by first | assumption | omega | (simp; omega)) (by first | assumption | omega | (simp; omega))) rfl ?_
     refine q0 47 201 7 rfl rfl (T_ldE D (lv := .v _) (nn := 0) (upd := []) rfl rfl rfl rfl rfl (by first | assumption | omega | (simp; omega)) rfl rfl rfl rfl) rfl ?_
     refine q0 48 217 8 rfl rfl (T_move rfl rfl) rfl ?_
     refine k_split (d := 48) rfl (fun g7 => ?_) (fun g7 => ?_)
     ·have h7 := g7; (try simp only [cmpB, decide_eq_true_eq, decide_eq_false_iff_not, beq_iff_eq, beq_eq_false_iff_ne, bne_iff_ne, ne_eq, bne_eq_false_iff_eq, Bool.not_eq_true', Bool.not_eq_false', Int.not_lt, Int.not_le] at h7)
      refine k_op0 (d := 49) (b := 233) (j' := 9) rfl rfl rfl rfl (g_tt rfl rfl rfl g7) (T_move rfl rfl) rfl ?_
      refine k_op0 (d := 50) (b := 249) (j' := 10) rfl rfl rfl rfl (g_tt rfl rfl rfl g7) (T_cmp rfl rfl rfl rfl) rfl ?_
      refine q0 51 265 11 rfl rfl (T_pick_t rfl rfl rfl g7) rfl ?_
      refine q0 52 281 12 rfl rfl (T_move rfl rfl) rfl ?_
      refine k_split (d := 52) rfl (fun g8 => ?_) (fun g8 => ?_)
      ·have h8 := c_gtr_t g8
       refine k_no (d := 53) (j' := 13) rfl rfl rfl (g_ft rfl rfl rfl g8) ?_
       refine k_no (d := 54) (j' := 14) rfl rfl rfl (g_ft rfl rfl rfl g8) ?_
       refine k_no (d := 55) (j' := 15) rfl rfl rfl (g_ft rfl rfl rfl g8) ?_
       refine k_no (d := 56) (j' := 16) rfl rfl rfl (g_ft rfl rfl rfl g8) ?_
       refine k_no (d := 57) (j' := 17) rfl rfl rfl (g_ft rfl rfl rfl g8) ?_
       refine k_no (d := 58) (j' := 18) rfl rfl rfl (g_ft rfl rfl rfl g8) ?_
       refine k_no (d := 59) (j' := 19) rfl rfl rfl (g_ft rfl rfl rfl g8) ?_
       refine k_no (d := 60) (j' := 20) rfl rfl rfl (g_ft rfl rfl rfl g8) ?_
       refine k_no (d := 61) (j' := 21) rfl rfl rfl (g_ft rfl rfl rfl g8) ?_
       refine q0 62 441 22 rfl rfl (T_pick_t rfl rfl rfl g8) rfl ?_
       refine k_done rfl ?_
       refine thenK_n ?_
       refine W_cond rfl (fun g9 => ?_) (fun g9 => ?_)
       ·skip
        refine W_seq ?_
        refine W_seqK (b' := 473) rfl rfl ?_
        refine q0 8 457 1 rfl rfl (T_assign rfl rfl) rfl ?_
        refine k_done rfl ?_
        refine thenK_n ?_
        refine W_ret ?_
        refine blockK_r ?_
        refine thenK_r ?_
        refine thenK_r ?_
        refine blockK_r ?_
        refine thenK_r ?_
        exact .mk [] (.inr rfl) (.tmp rfl (.nil)) (by first | rfl | (simp only [resLV, LV.ren, LV.v.injEq, Value.bool.injEq]; exact acheck_no1 (by assumption)) | (simp only [resLV, LV.ren, LV.v.injEq, Value.bool.injEq]; exact acheck_no2 (by omega)) | (simp only [resLV, LV.ren, LV.v.injEq, Value.bool.injEq]; exact acheck_no3 (by assumption)) | (simp only [resLV, LV.ren, LV.v.injEq, Value.bool.injEq]; exact acheck_no4 (i := i) (by omega) (okP_no1 (by assumption) (by omega))) | (simp only [resLV, LV.ren, LV.v.injEq, Value.bool.injEq]; exact acheck_no4 (i := i) (by omega) (okP_no2 (by assumption))) | (simp only [resLV, LV.ren, LV.v.injEq, Value.bool.injEq]; exact acheck_yes (by assumption) (by omega) (by assumption) (fun i h => hJ.2 i (by omega)))) (.nil) rfl
       ·exact absurd (g9.symm.trans rfl) (by decide)
      ·have h8 := c_gtr_f g8
       refine k_op0 (d := 53) (b := 297) (j' := 13) rfl rfl rfl rfl (g_ff rfl rfl rfl g8) (T_move rfl rfl) rfl ?_
       refine k_op0 (d := 54) (b := 313) (j' := 14) rfl rfl rfl rfl (g_ff rfl rfl rfl g8) (T_fa D (m := 0) rfl rfl rfl rfl rfl rfl) rfl ?_
       refine k_op0 (d := 55) (b := 329) (j' := 15) rfl rfl rfl rfl (g_ff rfl rfl rfl g8) (T_load_b D rfl rfl rfl rfl rfl rfl) rfl ?_
       refine k_op0 (d := 56) (b := 345) (j' := 16) rfl rfl rfl rfl (g_ff rfl rfl rfl g8) (T_move rfl rfl) rfl ?_
       refine k_op1 (d := 57) (b := 361) (j' := 17) rfl rfl rfl rfl (g_ff rfl rfl rfl g8) (T_slF D (vl := none) (vh := some _) (vm := none) (l := 0) (h := _) rfl rfl rfl rfl rfl rfl rfl rfl rfl rfl (by first | assumption | omega | (simp; omega)) (by first | assumption | omega | (simp; omega)) (slb_h (by first | assumption | omega | (simp; omega)))) rfl ?_
       refine k_op0 (d := 58) (b := 377) (j' := 18) rfl rfl rfl rfl (g_ff rfl rfl rfl g8) (T_move rfl rfl) rfl ?_
       refine k_op0 (d := 59) (b := 393) (j' := 19) rfl rfl rfl rfl (g_ff rfl rfl rfl g8) (T_move rfl rfl) rfl ?_
       refine k_opn (d := 60) (b := 409) (j' := 20) rfl rfl rfl rfl (g_ff rfl rfl rfl g8) (T_call (lvs := [_, _, _, _]) (L := [(1, 6), (2, 7), (3, 8), (4, 361)]) (lv := .v _) (upd := [(6, .box 117 [.r 7, .r 8]), (7, .map _), (8, .row 4 1 _)]) (nn := 0) false (free_spec (confl f li lo).1 (confl f li lo).2 (ps.take i) (i : Int) (ps.getD i default) (by simp; omega)) body83 rfl rfl rfl rfl (.box rfl (.map rfl (.row rfl (.fz rfl (.nil))))) rfl (.inl rfl) rfl rfl rfl) rfl ?_
       refine k_op0 (d := 61) (b := 425) (j' := 21) rfl rfl rfl rfl (g_ff rfl rfl rfl g8) (T_not rfl rfl) rfl ?_
       refine q0 62 441 22 rfl rfl (T_pick_f rfl rfl rfl g8) rfl ?_
       refine k_done rfl ?_
       refine thenK_n ?_
       refine W_cond rfl (fun g10 => ?_) (fun g10 => ?_)
       ·have h10 := g10; (try simp only [cmpB, decide_eq_true_eq, decide_eq_false_iff_not, beq_iff_eq, beq_eq_false_iff_ne, bne_iff_ne, ne_eq, bne_eq_false_iff_eq, Bool.not_eq_true', Bool.not_eq_false', Int.not_lt, Int.not_le] at h10)
        refine W_seq ?_
        refine W_seqK (b' := 473) rfl rfl ?_
        refine q0 8 457 1 rfl rfl (T_assign rfl rfl) rfl ?_
        refine k_done rfl ?_
        refine thenK_n ?_
        refine W_ret ?_
        refine blockK_r ?_
        refine thenK_r ?_
        refine thenK_r ?_
        refine blockK_r ?_
        refine thenK_r ?_
        exact .mk [] (.inr rfl) (.tmp rfl (.nil)) (by first | rfl | (simp only [resLV, LV.ren, LV.v.injEq, Value.bool.injEq]; exact acheck_no1 (by assumption)) | (simp only [resLV, LV.ren, LV.v.injEq, Value.bool.injEq]; exact acheck_no2 (by omega)) | (simp only [resLV, LV.ren, LV.v.injEq, Value.bool.injEq]; exact acheck_no3 (by assumption)) | (simp only [resLV, LV.ren, LV.v.injEq, Value.bool.injEq]; exact acheck_no4 (i := i) (by omega) (okP_no1 (by assumption) (by omega))) | (simp only [resLV, LV.ren, LV.v.injEq, Value.bool.injEq]; exact acheck_no4 (i := i) (by omega) (okP_no2 (by assumption))) | (simp only [resLV, LV.ren, LV.v.injEq, Value.bool.injEq]; exact acheck_yes (by assumption) (by omega) (by assumption) (fun i h => hJ.2 i (by omega)))) (.nil) rfl
       ·have h10 := g10; (try simp only [cmpB, decide_eq_true_eq, decide_eq_false_iff_not, beq_iff_eq, beq_eq_false_iff_ne, bne_iff_ne, ne_eq, bne_eq_false_iff_eq, Bool.not_eq_true', Bool.not_eq_false', Int.not_lt, Int.not_le] at h10)
        refine W_skip ?_
        refine blockK_n ?_
        refine thenK_n ?_
        refine W_seqK (b' := 489) rfl rfl ?_
        refine q0 63 457 1 rfl rfl (T_add64 rfl rfl rfl (by first | assumption | omega | (simp; omega))) rfl ?_
        refine q0 36 473 2 rfl rfl (T_move rfl rfl) rfl ?_
        refine k_done rfl ?_
        refine thenK_n ?_
        refine ⟨i + 1, by (try dsimp only); exact ⟨by omega, fun j hj => by rcases Nat.lt_or_ge j i with h | h; exact hJ.2 j h; rw [show j = i by omega]; first | exact okP_yes1 (by assumption) (by assumption) | exact okP_yes2 (by omega) (by assumption)⟩, by (try dsimp only); omega, ?_⟩
        exact ⟨[(5, 5), (6, 6), (7, 7), (8, 8)], .same rfl rfl (.same rfl rfl (.same rfl rfl (.eq rfl (.eq rfl (.nil) (by first | rfl | simp)) rfl))), .fzE rfl (.fzE rfl (.fzE rfl (.fzE rfl (.box (by first | rfl | simp) (.box (by first | rfl | simp) (.mapE rfl (.rowE rfl (.nil) (by first | rfl | simp)) (by first | rfl | simp)))) rfl) rfl) rfl) rfl, rfl⟩
     ·have h7 := g7; (try simp only [cmpB, decide_eq_true_eq, decide_eq_false_iff_not, beq_iff_eq, beq_eq_false_iff_ne, bne_iff_ne, ne_eq, bne_eq_false_iff_eq, Bool.not_eq_true', Bool.not_eq_false', Int.not_lt, Int.not_le] at h7)
      refine k_no (d := 49) (j' := 9) rfl rfl rfl (g_tf rfl rfl rfl g7) ?_
      refine k_no (d := 50) (j' := 10) rfl rfl rfl (g_tf rfl rfl rfl g7) ?_
      refine q0 51 265 11 rfl rfl (T_pick_f rfl rfl rfl g7) rfl ?_
      refine q0 52 281 12 rfl rfl (T_move rfl rfl) rfl ?_
      refine k_op0 (d := 53) (b := 297) (j' := 13) rfl rfl rfl rfl (g_ff rfl rfl rfl rfl) (T_move rfl rfl) rfl ?_
      refine k_op0 (d := 54) (b := 313) (j' := 14) rfl rfl rfl rfl (g_ff rfl rfl rfl rfl) (T_fa D (m := 0) rfl rfl rfl rfl rfl rfl) rfl ?_
      refine k_op0 (d := 55) (b := 329) (j' := 15) rfl rfl rfl rfl (g_ff rfl rfl rfl rfl) (T_load_b D rfl rfl rfl rfl rfl rfl) rfl ?_
      refine k_op0 (d := 56) (b := 345) (j' := 16) rfl rfl rfl rfl (g_ff rfl rfl rfl rfl) (T_move rfl rfl) rfl ?_
      refine k_op1 (d := 57) (b := 361) (j' := 17) rfl rfl rfl rfl (g_ff rfl rfl rfl rfl) (T_slF D (vl := none) (vh := some _) (vm := none) (l := 0) (h := _) rfl rfl rfl rfl rfl rfl rfl rfl rfl rfl (by first | assumption | omega | (simp; omega)) (by first | assumption | omega | (simp; omega)) (slb_h (by first | assumption | omega | (simp; omega)))) rfl ?_
      refine k_op0 (d := 58) (b := 377) (j' := 18) rfl rfl rfl rfl (g_ff rfl rfl rfl rfl) (T_move rfl rfl) rfl ?_
      refine k_op0 (d := 59) (b := 393) (j' := 19) rfl rfl rfl rfl (g_ff rfl rfl rfl rfl) (T_move rfl rfl) rfl ?_
      refine k_opn (d := 60) (b := 409) (j' := 20) rfl rfl rfl rfl (g_ff rfl rfl rfl rfl) (T_call (lvs := [_, _, _, _]) (L := [(1, 6), (2, 7), (3, 8), (4, 361)]) (lv := .v _) (upd := [(6, .box 117 [.r 7, .r 8]), (7, .map _), (8, .row 4 1 _)]) (nn := 0) false (free_spec (confl f li lo).1 (confl f li lo).2 (ps.take i) (i : Int) (ps.getD i default) (by simp; omega)) body83 rfl rfl rfl rfl (.box rfl (.map rfl (.row rfl (.fz rfl (.nil))))) rfl (.inl rfl) rfl rfl rfl) rfl ?_
      refine k_op0 (d := 61) (b := 425) (j' := 21) rfl rfl rfl rfl (g_ff rfl rfl rfl rfl) (T_not rfl rfl) rfl ?_
      refine q0 62 441 22 rfl rfl (T_pick_f rfl rfl rfl rfl) rfl ?_
      refine k_done rfl ?_
      refine thenK_n ?_
      refine W_cond rfl (fun g11 => ?_) (fun g11 => ?_)
      ·have h11 := g11; (try simp only [cmpB, decide_eq_true_eq, decide_eq_false_iff_not, beq_iff_eq, beq_eq_false_iff_ne, bne_iff_ne, ne_eq, bne_eq_false_iff_eq, Bool.not_eq_true', Bool.not_eq_false', Int.not_lt, Int.not_le] at h11)
       refine W_seq ?_
       refine W_seqK (b' := 473) rfl rfl ?_
       refine q0 8 457 1 rfl rfl (T_assign rfl rfl) rfl ?_
       refine k_done rfl ?_
       refine thenK_n ?_
       refine W_ret ?_
       refine blockK_r ?_
       refine thenK_r ?_
       refine thenK_r ?_
       refine blockK_r ?_
       refine thenK_r ?_
       exact .mk [] (.inr rfl) (.tmp rfl (.nil)) (by first | rfl | (simp only [resLV, LV.ren, LV.v.injEq, Value.bool.injEq]; exact acheck_no1 (by assumption)) | (simp only [resLV, LV.ren, LV.v.injEq, Value.bool.injEq]; exact acheck_no2 (by omega)) | (simp only [resLV, LV.ren, LV.v.injEq, Value.bool.injEq]; exact acheck_no3 (by assumption)) | (simp only [resLV, LV.ren, LV.v.injEq, Value.bool.injEq]; exact acheck_no4 (i := i) (by omega) (okP_no1 (by assumption) (by omega))) | (simp only [resLV, LV.ren, LV.v.injEq, Value.bool.injEq]; exact acheck_no4 (i := i) (by omega) (okP_no2 (by assumption))) | (simp only [resLV, LV.ren, LV.v.injEq, Value.bool.injEq]; exact acheck_yes (by assumption) (by omega) (by assumption) (fun i h => hJ.2 i (by omega)))) (.nil) rfl
      ·have h11 := g11; (try simp only [cmpB, decide_eq_true_eq, decide_eq_false_iff_not, beq_iff_eq, beq_eq_false_iff_ne, bne_iff_ne, ne_eq, bne_eq_false_iff_eq, Bool.not_eq_true', Bool.not_eq_false', Int.not_lt, Int.not_le] at h11)
       refine W_skip ?_
       refine blockK_n ?_
       refine thenK_n ?_
       refine W_seqK (b' := 489) rfl rfl ?_
       refine q0 63 457 1 rfl rfl (T_add64 rfl rfl rfl (by first | assumption | omega | (simp; omega))) rfl ?_
       refine q0 36 473 2 rfl rfl (T_move rfl rfl) rfl ?_
       refine k_done rfl ?_
       refine thenK_n ?_
       refine ⟨i + 1, by (try dsimp only); exact ⟨by omega, fun j hj => by rcases Nat.lt_or_ge j i with h | h; exact hJ.2 j h; rw [show j = i by omega]; first | exact okP_yes1 (by assumption) (by assumption) | exact okP_yes2 (by omega) (by assumption)⟩, by (try dsimp only); omega, ?_⟩
       exact ⟨[(5, 5), (6, 6), (7, 7), (8, 8)], .same rfl rfl (.same rfl rfl (.same rfl rfl (.eq rfl (.eq rfl (.nil) (by first | rfl | simp)) rfl))), .fzE rfl (.fzE rfl (.fzE rfl (.fzE rfl (.box (by first | rfl | simp) (.box (by first | rfl | simp) (.mapE rfl (.rowE rfl (.nil) (by first | rfl | simp)) (by first | rfl | simp)))) rfl) rfl) rfl) rfl, rfl⟩
    ·have h6 := c_lss_f g6
     refine W_exit ?_
     refine thenK_e ?_
     refine thenK_e ?_
     refine blockK_hit ?_
     refine thenK_n ?_
     refine W_seq ?_
     refine W_seqK (b' := 41) rfl rfl ?_
     refine q0 8 25 1 rfl rfl (T_assign rfl rfl) rfl ?_
     refine k_done rfl ?_
     refine thenK_n ?_
     refine W_ret ?_
     exact .mk [] (.inr rfl) (.tmp rfl (.nil)) (by first | rfl | (simp only [resLV, LV.ren, LV.v.injEq, Value.bool.injEq]; exact acheck_no1 (by assumption)) | (simp only [resLV, LV.ren, LV.v.injEq, Value.bool.injEq]; exact acheck_no2 (by omega)) | (simp only [resLV, LV.ren, LV.v.injEq, Value.bool.injEq]; exact acheck_no3 (by assumption)) | (simp only [resLV, LV.ren, LV.v.injEq, Value.bool.injEq]; exact acheck_no4 (i := i) (by omega) (okP_no1 (by assumption) (by omega))) | (simp only [resLV, LV.ren, LV.v.injEq, Value.bool.injEq]; exact acheck_no4 (i := i) (by omega) (okP_no2 (by assumption))) | (simp only [resLV, LV.ren, LV.v.injEq, Value.bool.injEq]; exact acheck_yes (by assumption) (by omega) (by assumption) (fun i h => hJ.2 i (by omega)))) (.nil) rfl
end Lg
end Go.Proofs.Ytpfhmodjjljpjaa

namespace Go.Proofs.Ytpfhmodjjljpjaa
open Go.RowKit
namespace Lg
set_option linter.unusedSimpArgs false
set_option linter.unusedVariables false
def wordsJ (ps : List Int) : Nat → Int
  | 0 => 0
  | j + 1 => mxI (wordsJ ps j) (-(ps.getD j default))
def wordsP (ps : List Int) : Int := wordsJ ps ps.length
def badP (k x : Int) : Bool := decide (x < -4000) || (decide (x = 0) || (decide (x > 0) && decide (x > k)))
def placesP (ps : List Int) (regs k : Int) : Bool := decide ((ps.length : Int) = regs) && (List.range ps.length).all fun i => !badP k (ps.getD i default)
def apartP (ps : List Int) (s : List Bool) : Bool := (List.range s.length).all fun i => (List.range i).all fun j => !(s.getD i default && (s.getD j default && decide (ps.getD i default = ps.getD j default)))
def clash (t : GTac) (ps : List Int) (i : Nat) : Bool := (decide (0 ≤ setsT t) && (decide ((i : Int) ≠ setsT t) && decide (ps.getD i default = ps.getD (setsT t).toNat default))) || (decide (t.op = 10) && decide (ps.getD i default > 0))
def rone (t : GTac) (ps : List Int) (s : List Bool) : Bool := (List.range s.length).all fun i => !(s.getD i default && clash t ps i)
def roneB (b : GBlock) (out : List Bool) (ps : List Int) : Bool := (List.range b.ins.length).all fun i => rone (b.ins.getD i default) ps ((behL b out).getD i default)
def rcheckP (f : GFn) (li lo : List (List Bool)) (ps : List Int) (k : Int) : Bool := checkL f li lo && (placesP ps f.regs k && (apartP ps (li.getD 0 default) && (List.range f.blocks.length).all fun b => roneB (f.blocks.getD b default) (lo.getD b default) ps))
theorem all_no {n i : Nat} {q : Nat → Bool} (hi : i < n) (h : q i = false) : (List.range n).all q = false := by
  cases h1 : (List.range n).all q
  · rfl
  · have := List.all_eq_true.1 h1 i (List.mem_range.2 hi)
    rw [h] at this; cases this
theorem all_yes {n : Nat} {q : Nat → Bool} (h : ∀ i, i < n → q i = true) : (List.range n).all q = true := List.all_eq_true.2 fun i hi => h i (List.mem_range.1 hi)
section
variable {ps : List Int} {regs k : Int} {s : List Bool} {t : GTac} {i j : Nat}
theorem places_no1 (h : ¬ (ps.length : Int) = regs) : false = placesP ps regs k := by unfold placesP; rw [decide_eq_false h]; rfl
theorem bad_t {x : Int} (h : x < -4000 ∨ x = 0 ∨ (x > 0 ∧ x > k)) : badP k x = true := by
  unfold badP; simp only [Bool.or_eq_true, Bool.and_eq_true, decide_eq_true_eq]; exact h
theorem bad_f {x : Int} (h : ¬ (x < -4000 ∨ x = 0 ∨ (x > 0 ∧ x > k))) : badP k x = false := by
  cases h1 : badP k x
  · rfl
  · unfold badP at h1; simp only [Bool.or_eq_true, Bool.and_eq_true, decide_eq_true_eq] at h1; exact absurd h1 h
theorem places_no2 (hi : i < ps.length) (h : badP k (ps.getD i default) = true) : false = placesP ps regs k := by unfold placesP; rw [all_no hi (by rw [h]; rfl), Bool.and_false]
theorem places_yes (h : (ps.length : Int) = regs) (h2 : ∀ i, i < ps.length → badP k (ps.getD i default) = false) : true = placesP ps regs k := by unfold placesP; rw [decide_eq_true h, all_yes (fun i hi => by rw [h2 i hi]; rfl)]; rfl
theorem apart_no (hi : i < s.length) (hj : j < i) (h1 : s.getD i default = true) (h2 : s.getD j default = true) (h3 : ps.getD i default = ps.getD j default) : false = apartP ps s := by
  unfold apartP; rw [all_no hi (all_no hj (by rw [h1, h2, decide_eq_true h3]; rfl))]
def apartI (ps : List Int) (s : List Bool) (i j : Nat) : Bool := !(s.getD i default && (s.getD j default && decide (ps.getD i default = ps.getD j default)))
theorem apart_yes (h : ∀ i, i < s.length → ∀ j, j < i → apartI ps s i j = true) : true = apartP ps s := (all_yes (fun i hi => all_yes (fun j hj => h i hi j hj))).symm
theorem apartI_f1 (h : s.getD i default = false) : apartI ps s i j = true := by unfold apartI; rw [h]; rfl
theorem apartI_f2 (h : s.getD j default = false) : apartI ps s i j = true := by unfold apartI; rw [h]; simp
theorem apartI_f3 (h : ¬ ps.getD i default = ps.getD j default) : apartI ps s i j = true := by unfold apartI; rw [decide_eq_false h]; simp
theorem clash_t (h : (0 ≤ setsT t ∧ (i : Int) ≠ setsT t ∧ ps.getD i default = ps.getD (setsT t).toNat default) ∨ (t.op = 10 ∧ ps.getD i default > 0)) : clash t ps i = true := by
  unfold clash; simp only [Bool.or_eq_true, Bool.and_eq_true, decide_eq_true_eq]; exact h
theorem clash_f (h : ¬ ((0 ≤ setsT t ∧ (i : Int) ≠ setsT t ∧ ps.getD i default = ps.getD (setsT t).toNat default) ∨ (t.op = 10 ∧ ps.getD i default > 0))) : clash t ps i = false := by
  cases h1 : clash t ps i
  · rfl
  · unfold clash at h1; simp only [Bool.or_eq_true, Bool.and_eq_true, decide_eq_true_eq] at h1; exact absurd h1 h
theorem rone_no (hi : i < s.length) (h1 : s.getD i default = true) (h2 : clash t ps i = true) : false = rone t ps s := by unfold rone; rw [all_no hi (by rw [h1, h2]; rfl)]
theorem rone_yes (h : ∀ i, i < s.length → (s.getD i default && clash t ps i) = false) : true = rone t ps s := by unfold rone; rw [all_yes (fun i hi => by rw [h i hi]; rfl)]
end
section
variable {f : GFn} {li lo : List (List Bool)} {ps : List Int} {k : Int}
theorem rck_no1 (h : checkL f li lo = false) : false = rcheckP f li lo ps k := by unfold rcheckP; rw [h]; rfl
theorem rck_no2 (h : placesP ps f.regs k = false) : false = rcheckP f li lo ps k := by unfold rcheckP; rw [h]; simp
theorem rck_no3 (h : apartP ps (li.getD 0 default) = false) : false = rcheckP f li lo ps k := by unfold rcheckP; rw [h]; simp
theorem rck_no4 {b i : Nat} (hb : b < f.blocks.length) (hi : i < (f.blocks.getD b default).ins.length) (h : rone ((f.blocks.getD b default).ins.getD i default) ps ((behL (f.blocks.getD b default) (lo.getD b default)).getD i default) = false) : false = rcheckP f li lo ps k := by
  unfold rcheckP
  rw [all_no (q := fun b => roneB (f.blocks.getD b default) (lo.getD b default) ps) hb (by unfold roneB; rw [all_no hi h])]; simp
theorem rck_yes (h1 : checkL f li lo = true) (h2 : placesP ps f.regs k = true) (h3 : apartP ps (li.getD 0 default) = true) (h4 : ∀ b, b < f.blocks.length → roneB (f.blocks.getD b default) (lo.getD b default) ps = true) : true = rcheckP f li lo ps k := by
  unfold rcheckP; rw [h1, h2, h3, all_yes h4]; rfl
end
def small28 (f : GFn) : Bool := decide ((f.blocks.length : Int) ≤ 12) && (decide (f.regs ≤ 20) && (decide ((f.blocks.length : Int) + sumLen (insOf f) ≤ 120) && oneB f 64 2000))
theorem small28_no {f : GFn} (h : ¬ ((f.blocks.length : Int) ≤ 12 ∧ f.regs ≤ 20 ∧ (f.blocks.length : Int) + sumLen (insOf f) ≤ 120)) : false = small28 f := by
  cases h1 : small28 f
  · rfl
  · unfold small28 at h1
    simp only [Bool.and_eq_true, decide_eq_true_eq] at h1
    exact absurd ⟨h1.1, h1.2.1, h1.2.2.1⟩ h
theorem small28_eq {f : GFn} (h1 : (f.blocks.length : Int) ≤ 12) (h2 : f.regs ≤ 20) (h3 : (f.blocks.length : Int) + sumLen (insOf f) ≤ 120) : oneB f 64 2000 = small28 f := by
  unfold small28; rw [decide_eq_true h1, decide_eq_true h2, decide_eq_true h3]; rfl
structure S28 (f : GFn) : Prop where
  lf : LF f
  len : f.blocks.length ≤ 12
  regs : 0 ≤ f.regs ∧ f.regs ≤ 20
  ins : ∀ b ∈ f.blocks, b.ins.length ≤ 120
  one : oneB f 64 2000 = true
  pos : 0 < f.blocks.length
theorem s28 {f : GFn} (h : small28 f = true) : S28 f := by
  unfold small28 at h
  simp only [Bool.and_eq_true, decide_eq_true_eq] at h
  obtain ⟨h1, h2, h3, h4⟩ := h
  have hi : ∀ b ∈ f.blocks, b.ins.length ≤ 120 := fun b hb => by have := insOf_le hb; omega
  obtain ⟨o1, o2⟩ := one_all h4
  exact ⟨lf_of h4 (by omega) (fun b hb => by have := hi b hb; omega), by omega, ⟨o1.1, h2⟩, hi, h4, List.length_pos_iff.2 o1.2.2⟩
def evL (f : GFn) : List (List Bool) := List.replicate f.blocks.length (List.replicate f.regs.toNat true)
end Lg
end Go.Proofs.Ytpfhmodjjljpjaa

namespace Go.Proofs.Ytpfhmodjjljpjaa
end Go.Proofs.Ytpfhmodjjljpjaa

namespace Go.Proofs.Ytpfhmodjjljpjaa
open Go.RowKit
namespace Lg
set_option maxRecDepth 100000
set_option linter.unusedVariables false
set_option linter.unusedSimpArgs false
theorem body65 : (Try.prog.funcs[65]?).map (fun fn => (fn.name == "runtime.NumGoroutine" || fn.body.isNone)) = some false := by kernel_rfl
theorem words_spec (ps : List Int) (hl : ps.length ≤ 1000000000) (h : ∀ x ∈ ps, -9223372036854775807 ≤ x ∧ x ≤ 9223372036854775807) : Spec Try.prog 65 [.agg [.r 1]] 2 [(1, .fz 1 (ps.map eI))] (.v (.int .i64 (wordsP ps))) 2 [] := by
 refine spec_of D (fn := Try.f65) rfl rfl (Nat.le_of_ble_eq_true rfl) ?_
 refine W_seq ?_
 refine W_seqK (b' := 34) rfl rfl ?_
 refine q1 1 2 1 rfl rfl (T_box rfl rfl flat_agg) rfl ?_
 refine q0 2 18 2 rfl rfl (T_assign rfl rfl) rfl ?_
 refine k_done rfl ?_
 refine thenK_n ?_
 refine W_seq ?_
 refine W_seqK (b' := 50) rfl rfl ?_
 refine q0 3 34 1 rfl rfl (T_assign rfl rfl) rfl ?_
 refine k_done rfl ?_
 refine thenK_n ?_
 refine W_seq ?_
 refine W_seq ?_
 refine W_seqK (b' := 114) rfl rfl ?_
 refine q0 6 50 1 rfl rfl (T_fa D (m := 0) rfl rfl rfl rfl rfl rfl) rfl ?_
 refine q0 7 66 2 rfl rfl (T_load_b D rfl rfl rfl rfl rfl rfl) rfl ?_
 refine q0 8 82 3 rfl rfl (T_len D rfl rfl rfl rfl rfl rfl) rfl ?_
 refine q0 9 98 4 rfl rfl (T_move rfl rfl) rfl ?_
 refine k_done rfl ?_
 refine thenK_n ?_
 refine W_block ?_
 refine W_loop (ι := Nat) 2 (fun j => ⟨[(3, .v (.int .i64 (wordsJ ps j))), (7, .r 1), (8, .v (.int .i64 (ps.length : Int))), (9, .v (.int .i64 (j : Int)))], [(1, .fz 1 (ps.map eI))]⟩) (fun j => j ≤ ps.length) (fun j => ps.length - j) (0) (by exact Nat.zero_le _) ?_ (fun j hJ => ?_)
 ·exact ⟨[], .eq rfl (.same rfl rfl (.eq rfl (.eq rfl (.nil) (by first | rfl | simp)) (by first | rfl | simp))) (by first | rfl | simp), .fzE rfl (.nil) (by first | rfl | simp), rfl⟩
 have hj := fun q : j < ps.length => h _ (getD_mem q)
 refine W_seq ?_
 refine W_seqK (b' := 18) rfl rfl ?_
 refine q0 10 2 1 rfl rfl (T_cmp rfl rfl rfl rfl) rfl ?_
 refine k_done rfl ?_
 refine thenK_n ?_
 refine W_seq ?_
 refine W_cond rfl (fun g1 => ?_) (fun g1 => ?_)
 ·have h1 := c_lss_t g1
  refine W_skip ?_
  refine thenK_n ?_
  refine W_seq ?_
  refine W_block ?_
  refine W_seq ?_
  refine W_seqK (b' := 66) rfl rfl ?_
  first | refine q0 11 18 1 rfl rfl (T_indexAddr D rfl rfl rfl rfl rfl rfl rfl rfl (by first | assumption | omega | (have q := hj (by omega); omega))) rfl ?_ | refine q0 11 18 1 rfl rfl (T_indexAddrZ D rfl rfl rfl rfl rfl rfl rfl rfl (by first | assumption | omega | (have q := hj (by omega); omega)) (by first | assumption | omega | (have q := hj (by omega); omega))) rfl ?_
  refine q0 12 34 2 rfl rfl (T_ldE D (lv := .v _) (nn := 0) (upd := []) rfl rfl rfl rfl rfl (by first | assumption | omega | (have q := hj (by omega); omega)) rfl rfl rfl rfl) rfl ?_
  refine q0 5 50 3 rfl rfl (T_assign rfl rfl) rfl ?_
  refine k_done rfl ?_
  refine thenK_n ?_
  refine W_seqK (b' := 146) rfl rfl ?_
  refine q0 13 66 1 rfl rfl (T_move rfl rfl) rfl ?_
  refine q0 14 82 2 rfl rfl (T_move rfl rfl) rfl ?_
  refine q0 15 98 3 rfl rfl (T_neg64 rfl rfl (by first | assumption | omega | (have q := hj (by omega); omega))) rfl ?_
  refine q0 16 114 4 rfl rfl (T_max rfl rfl rfl) rfl ?_
  refine q0 3 130 5 rfl rfl (T_assign rfl rfl) rfl ?_
  refine k_done rfl ?_
  refine blockK_n ?_
  refine thenK_n ?_
  refine W_seqK (b' := 178) rfl rfl ?_
  refine q0 17 146 1 rfl rfl (T_add64 rfl rfl rfl (by first | assumption | omega | (have q := hj (by omega); omega))) rfl ?_
  refine q0 9 162 2 rfl rfl (T_move rfl rfl) rfl ?_
  refine k_done rfl ?_
  refine thenK_n ?_
  refine ⟨j + 1, by (try dsimp only); omega, by (try dsimp only); omega, ?_⟩
  exact ⟨[], .eq rfl (.same rfl rfl (.eq rfl (.eq rfl (.nil) (by first | rfl | simp)) rfl)) (by first | rfl | simp), .fzE rfl (.nil) rfl, rfl⟩
 ·have h1 := c_lss_f g1
  refine W_exit ?_
  refine thenK_e ?_
  refine thenK_e ?_
  refine blockK_hit ?_
  refine thenK_n ?_
  refine W_seq ?_
  refine W_seqK (b' := 50) rfl rfl ?_
  refine q0 18 18 1 rfl rfl (T_move rfl rfl) rfl ?_
  refine q0 2 34 2 rfl rfl (T_assign rfl rfl) rfl ?_
  refine k_done rfl ?_
  refine thenK_n ?_
  refine W_ret ?_
  exact .mk [] (.inr rfl) (.tmp rfl (.nil)) (by first | rfl | (have e : j = ps.length := (by omega); subst e; first | done | rfl)) (.nil) rfl
theorem body108 : (Try.prog.funcs[108]?).map (fun fn => (fn.name == "runtime.NumGoroutine" || fn.body.isNone)) = some false := by kernel_rfl
theorem places_spec (ps : List Int) (regs k : Int) (hl : ps.length ≤ 1000000000) : Spec Try.prog 108 [.agg [.r 1], .v (.int .i64 regs), .v (.int .i64 k)] 2 [(1, .fz 1 (ps.map eI))] (.v (.bool (placesP ps regs k))) 2 [] := by
 refine spec_of D (fn := Try.f108) rfl rfl (Nat.le_of_ble_eq_true rfl) ?_
 refine W_seq ?_
 refine W_seqK (b' := 34) rfl rfl ?_
 refine q1 3 2 1 rfl rfl (T_box rfl rfl flat_agg) rfl ?_
 refine q0 6 18 2 rfl rfl (T_assign rfl rfl) rfl ?_
 refine k_done rfl ?_
 refine thenK_n ?_
 refine W_seq ?_
 refine W_seq ?_
 refine W_seqK (b' := 114) rfl rfl ?_
 refine q0 9 34 1 rfl rfl (T_fa D (m := 0) rfl rfl rfl rfl rfl rfl) rfl ?_
 refine q0 10 50 2 rfl rfl (T_load_b D rfl rfl rfl rfl rfl rfl) rfl ?_
 refine q0 11 66 3 rfl rfl (T_len D rfl rfl rfl rfl rfl rfl) rfl ?_
 refine q0 12 82 4 rfl rfl (T_move rfl rfl) rfl ?_
 refine q0 13 98 5 rfl rfl (T_cmp rfl rfl rfl rfl) rfl ?_
 refine k_done rfl ?_
 refine thenK_n ?_
 refine W_cond rfl (fun g1 => ?_) (fun g1 => ?_)
 ·have h1 := c_neq_t g1
  refine W_seq ?_
  refine W_seqK (b' := 130) rfl rfl ?_
  refine q0 6 114 1 rfl rfl (T_assign rfl rfl) rfl ?_
  refine k_done rfl ?_
  refine thenK_n ?_
  refine W_ret ?_
  refine thenK_r ?_
  exact .mk [] (.inr rfl) (.tmp rfl (.nil)) (by first | rfl | (simp only [resLV, LV.ren, LV.v.injEq, Value.bool.injEq]; exact places_no1 (by omega)) | (simp only [resLV, LV.ren, LV.v.injEq, Value.bool.injEq]; exact places_no2 (i := j) (by omega) (bad_t (by omega))) | (simp only [resLV, LV.ren, LV.v.injEq, Value.bool.injEq]; exact places_yes (by omega) (fun i h => hJ.2 i (by omega)))) (.nil) rfl
 ·have h1 := c_neq_f g1
  refine W_skip ?_
  refine thenK_n ?_
  refine W_seq ?_
  refine W_seq ?_
  refine W_seqK (b' := 130) rfl rfl ?_
  refine q0 7 114 1 rfl rfl (T_assign rfl rfl) rfl ?_
  refine k_done rfl ?_
  refine thenK_n ?_
  refine W_block ?_
  refine W_loop (ι := Nat) 3 (fun j => ⟨[(2, .v (.int .i64 k)), (3, .p 2 0), (7, .v (.int .i64 (j : Int)))], [(1, .fz 1 (ps.map eI)), (2, .box 60 [.r 1])]⟩) (fun j => j ≤ ps.length ∧ ∀ i, i < j → badP k (ps.getD i default) = false) (fun j => ps.length - j) (0) (by exact ⟨Nat.zero_le _, fun i h => absurd h (Nat.not_lt_zero _)⟩) ?_ (fun j hJ => ?_)
  ·exact ⟨[(2, 2)], .eq rfl (.same rfl rfl (.eq rfl (.nil) (by first | rfl | simp))) (by first | rfl | simp), .fzE rfl (.box (by first | rfl | simp) (.nil)) (by first | rfl | simp), rfl⟩
  refine W_seq ?_
  refine W_seq ?_
  refine W_seqK (b' := 83) rfl rfl ?_
  refine q0 14 3 1 rfl rfl (T_move rfl rfl) rfl ?_
  refine q0 15 19 2 rfl rfl (T_fa D (m := 0) rfl rfl rfl rfl rfl rfl) rfl ?_
  refine q0 16 35 3 rfl rfl (T_load_b D rfl rfl rfl rfl rfl rfl) rfl ?_
  refine q0 17 51 4 rfl rfl (T_len D rfl rfl rfl rfl rfl rfl) rfl ?_
  refine q0 18 67 5 rfl rfl (T_cmp rfl rfl rfl rfl) rfl ?_
  refine k_done rfl ?_
  refine thenK_n ?_
  refine W_cond rfl (fun g2 => ?_) (fun g2 => ?_)
  ·have h2 := c_lss_t g2
   refine W_skip ?_
   refine thenK_n ?_
   refine W_seq ?_
   refine W_block ?_
   refine W_seq ?_
   refine W_seqK (b' := 179) rfl rfl ?_
   refine q0 21 83 1 rfl rfl (T_fa D (m := 0) rfl rfl rfl rfl rfl rfl) rfl ?_
   refine q0 22 99 2 rfl rfl (T_load_b D rfl rfl rfl rfl rfl rfl) rfl ?_
   refine q0 23 115 3 rfl rfl (T_move rfl rfl) rfl ?_
   first | refine q0 24 131 4 rfl rfl (T_indexAddr D rfl rfl rfl rfl rfl rfl rfl rfl (by first | assumption | omega | (simp; omega))) rfl ?_ | refine q0 24 131 4 rfl rfl (T_indexAddrZ D rfl rfl rfl rfl rfl rfl rfl rfl (by first | assumption | omega | (simp; omega)) (by first | assumption | omega | (simp; omega))) rfl ?_
   refine q0 25 147 5 rfl rfl (T_ldE D (lv := .v _) (nn := 0) (upd := []) rfl rfl rfl rfl rfl (by first | assumption | omega | (simp; omega)) rfl rfl rfl rfl) rfl ?_
   refine q0 8 163 6 rfl rfl (T_assign rfl rfl) rfl ?_
   refine k_done rfl ?_
   refine thenK_n ?_
   refine W_seq ?_
   refine W_seqK (b' := 419) rfl rfl ?_
   refine q0 26 179 1 rfl rfl (T_move rfl rfl) rfl ?_
   refine q0 27 195 2 rfl rfl (T_cmp rfl rfl rfl rfl) rfl ?_
   refine q0 28 211 3 rfl rfl (T_move rfl rfl) rfl ?_
   refine k_split (d := 28) rfl (fun g3 => ?_) (fun g3 => ?_)
   ·have h3 := c_lss_t g3
    refine k_no (d := 29) (j' := 4) rfl rfl rfl (g_ft rfl rfl rfl g3) ?_
    refine k_no (d := 30) (j' := 5) rfl rfl rfl (g_ft rfl rfl rfl g3) ?_
    refine q0 31 259 6 rfl rfl (T_pick_t rfl rfl rfl g3) rfl ?_
    refine q0 32 275 7 rfl rfl (T_move rfl rfl) rfl ?_
    refine k_no (d := 33) (j' := 8) rfl rfl rfl (g_ft rfl rfl rfl rfl) ?_
    refine k_no (d := 34) (j' := 9) rfl rfl rfl (g_ft rfl rfl rfl rfl) ?_
    refine k_no (d := 35) (j' := 10) rfl rfl rfl (g_ft rfl rfl rfl rfl) ?_
    refine k_no (d := 36) (j' := 11) rfl rfl rfl (.und rfl rfl rfl) ?_
    refine k_no (d := 37) (j' := 12) rfl rfl rfl (.und rfl rfl rfl) ?_
    refine k_no (d := 38) (j' := 13) rfl rfl rfl (.und rfl rfl rfl) ?_
    refine k_no (d := 39) (j' := 14) rfl rfl rfl (g_ft rfl rfl rfl rfl) ?_
    refine q0 40 403 15 rfl rfl (T_pick_t rfl rfl rfl rfl) rfl ?_
    refine k_done rfl ?_
    refine thenK_n ?_
    refine W_cond rfl (fun g4 => ?_) (fun g4 => ?_)
    ·skip
     refine W_seq ?_
     refine W_seqK (b' := 435) rfl rfl ?_
     refine q0 6 419 1 rfl rfl (T_assign rfl rfl) rfl ?_
     refine k_done rfl ?_
     refine thenK_n ?_
     refine W_ret ?_
     refine blockK_r ?_
     refine thenK_r ?_
     refine thenK_r ?_
     refine blockK_r ?_
     refine thenK_r ?_
     exact .mk [] (.inr rfl) (.tmp rfl (.nil)) (by first | rfl | (simp only [resLV, LV.ren, LV.v.injEq, Value.bool.injEq]; exact places_no1 (by omega)) | (simp only [resLV, LV.ren, LV.v.injEq, Value.bool.injEq]; exact places_no2 (i := j) (by omega) (bad_t (by omega))) | (simp only [resLV, LV.ren, LV.v.injEq, Value.bool.injEq]; exact places_yes (by omega) (fun i h => hJ.2 i (by omega)))) (.nil) rfl
    ·exact absurd (g4.symm.trans rfl) (by decide)
   ·have h3 := c_lss_f g3
    refine k_op0 (d := 29) (b := 227) (j' := 4) rfl rfl rfl rfl (g_ff rfl rfl rfl g3) (T_move rfl rfl) rfl ?_
    refine k_op0 (d := 30) (b := 243) (j' := 5) rfl rfl rfl rfl (g_ff rfl rfl rfl g3) (T_cmp rfl rfl rfl rfl) rfl ?_
    refine q0 31 259 6 rfl rfl (T_pick_f rfl rfl rfl g3) rfl ?_
    refine q0 32 275 7 rfl rfl (T_move rfl rfl) rfl ?_
    refine k_split (d := 32) rfl (fun g5 => ?_) (fun g5 => ?_)
    ·have h5 := c_eql_t g5
     refine k_no (d := 33) (j' := 8) rfl rfl rfl (g_ft rfl rfl rfl g5) ?_
     refine k_no (d := 34) (j' := 9) rfl rfl rfl (g_ft rfl rfl rfl g5) ?_
     refine k_no (d := 35) (j' := 10) rfl rfl rfl (g_ft rfl rfl rfl g5) ?_
     refine k_no (d := 36) (j' := 11) rfl rfl rfl (.und rfl rfl rfl) ?_
     refine k_no (d := 37) (j' := 12) rfl rfl rfl (.und rfl rfl rfl) ?_
     refine k_no (d := 38) (j' := 13) rfl rfl rfl (.und rfl rfl rfl) ?_
     refine k_no (d := 39) (j' := 14) rfl rfl rfl (g_ft rfl rfl rfl g5) ?_
     refine q0 40 403 15 rfl rfl (T_pick_t rfl rfl rfl g5) rfl ?_
     refine k_done rfl ?_
     refine thenK_n ?_
     refine W_cond rfl (fun g6 => ?_) (fun g6 => ?_)
     ·skip
      refine W_seq ?_
      refine W_seqK (b' := 435) rfl rfl ?_
      refine q0 6 419 1 rfl rfl (T_assign rfl rfl) rfl ?_
      refine k_done rfl ?_
      refine thenK_n ?_
      refine W_ret ?_
      refine blockK_r ?_
      refine thenK_r ?_
      refine thenK_r ?_
      refine blockK_r ?_
      refine thenK_r ?_
      exact .mk [] (.inr rfl) (.tmp rfl (.nil)) (by first | rfl | (simp only [resLV, LV.ren, LV.v.injEq, Value.bool.injEq]; exact places_no1 (by omega)) | (simp only [resLV, LV.ren, LV.v.injEq, Value.bool.injEq]; exact places_no2 (i := j) (by omega) (bad_t (by omega))) | (simp only [resLV, LV.ren, LV.v.injEq, Value.bool.injEq]; exact places_yes (by omega) (fun i h => hJ.2 i (by omega)))) (.nil) rfl
     ·exact absurd (g6.symm.trans rfl) (by decide)
    ·have h5 := c_eql_f g5
     refine k_op0 (d := 33) (b := 291) (j' := 8) rfl rfl rfl rfl (g_ff rfl rfl rfl g5) (T_move rfl rfl) rfl ?_
     refine k_op0 (d := 34) (b := 307) (j' := 9) rfl rfl rfl rfl (g_ff rfl rfl rfl g5) (T_cmp rfl rfl rfl rfl) rfl ?_
     refine k_op0 (d := 35) (b := 323) (j' := 10) rfl rfl rfl rfl (g_ff rfl rfl rfl g5) (T_move rfl rfl) rfl ?_
     refine k_split (d := 35) rfl (fun g7 => ?_) (fun g7 => ?_)
     ·have h7 := c_gtr_t g7
      refine k_op0 (d := 36) (b := 339) (j' := 11) rfl rfl rfl rfl (g_tt rfl rfl rfl g7) (T_move rfl rfl) rfl ?_
      refine k_op0 (d := 37) (b := 355) (j' := 12) rfl rfl rfl rfl (g_tt rfl rfl rfl g7) (T_move rfl rfl) rfl ?_
      refine k_op0 (d := 38) (b := 371) (j' := 13) rfl rfl rfl rfl (g_tt rfl rfl rfl g7) (T_cmp rfl rfl rfl rfl) rfl ?_
      refine k_op0 (d := 39) (b := 387) (j' := 14) rfl rfl rfl rfl (g_ff rfl rfl rfl g5) (T_pick_t rfl rfl rfl g7) rfl ?_
      refine q0 40 403 15 rfl rfl (T_pick_f rfl rfl rfl g5) rfl ?_
      refine k_done rfl ?_
      refine thenK_n ?_
      refine W_cond rfl (fun g8 => ?_) (fun g8 => ?_)
      ·have h8 := c_gtr_t g8
       refine W_seq ?_
       refine W_seqK (b' := 435) rfl rfl ?_
       refine q0 6 419 1 rfl rfl (T_assign rfl rfl) rfl ?_
       refine k_done rfl ?_
       refine thenK_n ?_
       refine W_ret ?_
       refine blockK_r ?_
       refine thenK_r ?_
       refine thenK_r ?_
       refine blockK_r ?_
       refine thenK_r ?_
       exact .mk [] (.inr rfl) (.tmp rfl (.nil)) (by first | rfl | (simp only [resLV, LV.ren, LV.v.injEq, Value.bool.injEq]; exact places_no1 (by omega)) | (simp only [resLV, LV.ren, LV.v.injEq, Value.bool.injEq]; exact places_no2 (i := j) (by omega) (bad_t (by omega))) | (simp only [resLV, LV.ren, LV.v.injEq, Value.bool.injEq]; exact places_yes (by omega) (fun i h => hJ.2 i (by omega)))) (.nil) rfl
      ·have h8 := c_gtr_f g8
       refine W_skip ?_
       refine blockK_n ?_
       refine thenK_n ?_
       refine W_seqK (b' := 467) rfl rfl ?_
       refine q0 19 419 1 rfl rfl (T_move rfl rfl) rfl ?_
       refine q0 20 435 2 rfl rfl (T_add64 rfl rfl rfl (by first | assumption | omega | (simp; omega))) rfl ?_
       refine q0 7 451 3 rfl rfl (T_assign rfl rfl) rfl ?_
       refine k_done rfl ?_
       refine thenK_n ?_
       refine ⟨j + 1, by (try dsimp only); exact ⟨by omega, fun i hi => by rcases Nat.lt_or_ge i j with h | h; exact hJ.2 i h; rw [show i = j by omega]; exact bad_f (by omega)⟩, by (try dsimp only); omega, ?_⟩
       exact ⟨[(2, 2)], .eq rfl (.same rfl rfl (.eq rfl (.nil) (by first | rfl | simp))) rfl, .fzE rfl (.box (by first | rfl | simp) (.nil)) rfl, rfl⟩
     ·have h7 := c_gtr_f g7
      refine k_no (d := 36) (j' := 11) rfl rfl rfl (g_tf rfl rfl rfl g7) ?_
      refine k_no (d := 37) (j' := 12) rfl rfl rfl (g_tf rfl rfl rfl g7) ?_
      refine k_no (d := 38) (j' := 13) rfl rfl rfl (g_tf rfl rfl rfl g7) ?_
      refine k_op0 (d := 39) (b := 387) (j' := 14) rfl rfl rfl rfl (g_ff rfl rfl rfl g5) (T_pick_f rfl rfl rfl g7) rfl ?_
      refine q0 40 403 15 rfl rfl (T_pick_f rfl rfl rfl g5) rfl ?_
      refine k_done rfl ?_
      refine thenK_n ?_
      refine W_cond rfl (fun g9 => ?_) (fun g9 => ?_)
      ·exact absurd (g9.symm.trans rfl) (by decide)
      ·skip
       refine W_skip ?_
       refine blockK_n ?_
       refine thenK_n ?_
       refine W_seqK (b' := 467) rfl rfl ?_
       refine q0 19 419 1 rfl rfl (T_move rfl rfl) rfl ?_
       refine q0 20 435 2 rfl rfl (T_add64 rfl rfl rfl (by first | assumption | omega | (simp; omega))) rfl ?_
       refine q0 7 451 3 rfl rfl (T_assign rfl rfl) rfl ?_
       refine k_done rfl ?_
       refine thenK_n ?_
       refine ⟨j + 1, by (try dsimp only); exact ⟨by omega, fun i hi => by rcases Nat.lt_or_ge i j with h | h; exact hJ.2 i h; rw [show i = j by omega]; exact bad_f (by omega)⟩, by (try dsimp only); omega, ?_⟩
       exact ⟨[(2, 2)], .eq rfl (.same rfl rfl (.eq rfl (.nil) (by first | rfl | simp))) rfl, .fzE rfl (.box (by first | rfl | simp) (.nil)) rfl, rfl⟩
  ·have h2 := c_lss_f g2
   refine W_exit ?_
   refine thenK_e ?_
   refine thenK_e ?_
   refine blockK_hit ?_
   refine thenK_n ?_
   refine W_seq ?_
   refine W_seqK (b' := 99) rfl rfl ?_
   refine q0 6 83 1 rfl rfl (T_assign rfl rfl) rfl ?_
   refine k_done rfl ?_
   refine thenK_n ?_
   refine W_ret ?_
   exact .mk [] (.inr rfl) (.tmp rfl (.nil)) (by first | rfl | (simp only [resLV, LV.ren, LV.v.injEq, Value.bool.injEq]; exact places_no1 (by omega)) | (simp only [resLV, LV.ren, LV.v.injEq, Value.bool.injEq]; exact places_no2 (i := j) (by omega) (bad_t (by omega))) | (simp only [resLV, LV.ren, LV.v.injEq, Value.bool.injEq]; exact places_yes (by omega) (fun i h => hJ.2 i (by omega)))) (.nil) rfl
theorem body109 : (Try.prog.funcs[109]?).map (fun fn => (fn.name == "runtime.NumGoroutine" || fn.body.isNone)) = some false := by kernel_rfl
theorem apart_spec (ps : List Int) (s : List Bool) (hl : s.length ≤ ps.length) (hp : ps.length ≤ 1000000000) : Spec Try.prog 109 [.agg [.r 1], .r 2] 3 [(1, .fz 1 (ps.map eI)), (2, .fz 1 (s.map eB))] (.v (.bool (apartP ps s))) 3 [] := by
 refine spec_of D (fn := Try.f109) rfl rfl (Nat.le_of_ble_eq_true rfl) ?_
 refine W_seq ?_
 refine W_seqK (b' := 35) rfl rfl ?_
 refine q1 2 3 1 rfl rfl (T_box rfl rfl flat_agg) rfl ?_
 refine q0 4 19 2 rfl rfl (T_assign rfl rfl) rfl ?_
 refine k_done rfl ?_
 refine thenK_n ?_
 refine W_seq ?_
 refine W_seq ?_
 refine W_seqK (b' := 51) rfl rfl ?_
 refine q0 5 35 1 rfl rfl (T_assign rfl rfl) rfl ?_
 refine k_done rfl ?_
 refine thenK_n ?_
 refine W_block ?_
 refine W_loop (ι := Nat) 4 (fun i => ⟨[(1, .r 2), (2, .p 3 0), (5, .v (.int .i64 (i : Int)))], [(1, .fz 1 (ps.map eI)), (2, .fz 1 (s.map eB)), (3, .box 60 [.r 1])]⟩) (fun i => i ≤ s.length ∧ ∀ a, a < i → ∀ c, c < a → apartI ps s a c = true) (fun i => s.length - i) (0) (by exact ⟨Nat.zero_le _, fun i h => absurd h (Nat.not_lt_zero _)⟩) ?_ (fun i hI => ?_)
 ·exact ⟨[(3, 3)], .same rfl rfl (.same rfl rfl (.eq rfl (.nil) (by first | rfl | simp))), .fzE rfl (.fzE rfl (.box (by first | rfl | simp) (.nil)) (by first | rfl | simp)) (by first | rfl | simp), rfl⟩
 refine W_seq ?_
 refine W_seq ?_
 refine W_seqK (b' := 68) rfl rfl ?_
 refine q0 7 4 1 rfl rfl (T_move rfl rfl) rfl ?_
 refine q0 8 20 2 rfl rfl (T_move rfl rfl) rfl ?_
 refine q0 9 36 3 rfl rfl (T_len D rfl rfl rfl rfl rfl rfl) rfl ?_
 refine q0 10 52 4 rfl rfl (T_cmp rfl rfl rfl rfl) rfl ?_
 refine k_done rfl ?_
 refine thenK_n ?_
 refine W_cond rfl (fun g1 => ?_) (fun g1 => ?_)
 ·have h1 := c_lss_t g1
  refine W_skip ?_
  refine thenK_n ?_
  refine W_seq ?_
  refine W_block ?_
  refine W_seq ?_
  refine W_seqK (b' := 84) rfl rfl ?_
  refine q0 6 68 1 rfl rfl (T_assign rfl rfl) rfl ?_
  refine k_done rfl ?_
  refine thenK_n ?_
  refine W_block ?_
  refine W_loop (ι := Nat) 4 (fun j => ⟨[(1, .r 2), (2, .p 3 0), (5, .v (.int .i64 (i : Int))), (6, .v (.int .i64 (j : Int)))], [(1, .fz 1 (ps.map eI)), (2, .fz 1 (s.map eB)), (3, .box 60 [.r 1])]⟩) (fun j => j ≤ i ∧ ∀ c, c < j → apartI ps s i c = true) (fun j => i - j) (0) (by exact ⟨Nat.zero_le _, fun i h => absurd h (Nat.not_lt_zero _)⟩) ?_ (fun j hJ => ?_)
  ·exact ⟨[(3, 3)], .same rfl rfl (.same rfl rfl (.eq rfl (.eq rfl (.nil) (by first | rfl | simp)) (by first | rfl | simp))), .fzE rfl (.fzE rfl (.box (by first | rfl | simp) (.nil)) (by first | rfl | simp)) (by first | rfl | simp), rfl⟩
  refine W_seq ?_
  refine W_seq ?_
  refine W_seqK (b' := 52) rfl rfl ?_
  refine q0 13 4 1 rfl rfl (T_move rfl rfl) rfl ?_
  refine q0 14 20 2 rfl rfl (T_move rfl rfl) rfl ?_
  refine q0 15 36 3 rfl rfl (T_cmp rfl rfl rfl rfl) rfl ?_
  refine k_done rfl ?_
  refine thenK_n ?_
  refine W_cond rfl (fun g2 => ?_) (fun g2 => ?_)
  ·have h2 := c_lss_t g2
   refine W_skip ?_
   refine thenK_n ?_
   refine W_seq ?_
   refine W_block ?_
   refine W_seq ?_
   refine W_anyK (b' := 420) rfl rfl rfl ?_
   refine q0 18 52 1 rfl rfl (T_move rfl rfl) rfl ?_
   refine q0 19 68 2 rfl rfl (T_move rfl rfl) rfl ?_
   first | refine q0 20 84 3 rfl rfl (T_indexAddr D rfl rfl rfl rfl rfl rfl rfl rfl (by first | assumption | omega | (simp; omega))) rfl ?_ | refine q0 20 84 3 rfl rfl (T_indexAddrZ D rfl rfl rfl rfl rfl rfl rfl rfl (by first | assumption | omega | (simp; omega)) (by first | assumption | omega | (simp; omega))) rfl ?_
   refine q0 21 100 4 rfl rfl (T_ldE D (lv := .v _) (nn := 0) (upd := []) rfl rfl rfl rfl rfl (by first | assumption | omega | (simp; omega)) rfl rfl rfl rfl) rfl ?_
   refine q0 22 116 5 rfl rfl (T_move rfl rfl) rfl ?_
   refine k_split (d := 22) rfl (fun g3 => ?_) (fun g3 => ?_)
   ·have h3 := g3; (try simp only [cmpB, decide_eq_true_eq, decide_eq_false_iff_not, beq_iff_eq, beq_eq_false_iff_ne, bne_iff_ne, ne_eq, bne_eq_false_iff_eq, Bool.not_eq_true', Bool.not_eq_false', Int.not_lt, Int.not_le] at h3)
    refine k_op0 (d := 23) (b := 132) (j' := 6) rfl rfl rfl rfl (g_tt rfl rfl rfl g3) (T_move rfl rfl) rfl ?_
    refine k_op0 (d := 24) (b := 148) (j' := 7) rfl rfl rfl rfl (g_tt rfl rfl rfl g3) (T_move rfl rfl) rfl ?_
    first | refine k_op0 (d := 25) (b := 164) (j' := 8) rfl rfl rfl rfl (g_tt rfl rfl rfl g3) (T_indexAddr D rfl rfl rfl rfl rfl rfl rfl rfl (by first | assumption | omega | (simp; omega))) rfl ?_ | refine k_op0 (d := 25) (b := 164) (j' := 8) rfl rfl rfl rfl (g_tt rfl rfl rfl g3) (T_indexAddrZ D rfl rfl rfl rfl rfl rfl rfl rfl (by first | assumption | omega | (simp; omega)) (by first | assumption | omega | (simp; omega))) rfl ?_
    refine k_op0 (d := 26) (b := 180) (j' := 9) rfl rfl rfl rfl (g_tt rfl rfl rfl g3) (T_ldE D (lv := .v _) (nn := 0) (upd := []) rfl rfl rfl rfl rfl (by first | assumption | omega | (simp; omega)) rfl rfl rfl rfl) rfl ?_
    refine q0 27 196 10 rfl rfl (T_pick_t rfl rfl rfl g3) rfl ?_
    refine q0 28 212 11 rfl rfl (T_move rfl rfl) rfl ?_
    refine k_split (d := 28) rfl (fun g4 => ?_) (fun g4 => ?_)
    ·have h4 := g4; (try simp only [cmpB, decide_eq_true_eq, decide_eq_false_iff_not, beq_iff_eq, beq_eq_false_iff_ne, bne_iff_ne, ne_eq, bne_eq_false_iff_eq, Bool.not_eq_true', Bool.not_eq_false', Int.not_lt, Int.not_le] at h4)
     refine k_op0 (d := 29) (b := 228) (j' := 12) rfl rfl rfl rfl (g_tt rfl rfl rfl g4) (T_fa D (m := 0) rfl rfl rfl rfl rfl rfl) rfl ?_
     refine k_op0 (d := 30) (b := 244) (j' := 13) rfl rfl rfl rfl (g_tt rfl rfl rfl g4) (T_load_b D rfl rfl rfl rfl rfl rfl) rfl ?_
     refine k_op0 (d := 31) (b := 260) (j' := 14) rfl rfl rfl rfl (g_tt rfl rfl rfl g4) (T_move rfl rfl) rfl ?_
     first | refine k_op0 (d := 32) (b := 276) (j' := 15) rfl rfl rfl rfl (g_tt rfl rfl rfl g4) (T_indexAddr D rfl rfl rfl rfl rfl rfl rfl rfl (by first | assumption | omega | (simp; omega))) rfl ?_ | refine k_op0 (d := 32) (b := 276) (j' := 15) rfl rfl rfl rfl (g_tt rfl rfl rfl g4) (T_indexAddrZ D rfl rfl rfl rfl rfl rfl rfl rfl (by first | assumption | omega | (simp; omega)) (by first | assumption | omega | (simp; omega))) rfl ?_
     refine k_op0 (d := 33) (b := 292) (j' := 16) rfl rfl rfl rfl (g_tt rfl rfl rfl g4) (T_ldE D (lv := .v _) (nn := 0) (upd := []) rfl rfl rfl rfl rfl (by first | assumption | omega | (simp; omega)) rfl rfl rfl rfl) rfl ?_
     refine k_op0 (d := 34) (b := 308) (j' := 17) rfl rfl rfl rfl (g_tt rfl rfl rfl g4) (T_fa D (m := 0) rfl rfl rfl rfl rfl rfl) rfl ?_
     refine k_op0 (d := 35) (b := 324) (j' := 18) rfl rfl rfl rfl (g_tt rfl rfl rfl g4) (T_load_b D rfl rfl rfl rfl rfl rfl) rfl ?_
     refine k_op0 (d := 36) (b := 340) (j' := 19) rfl rfl rfl rfl (g_tt rfl rfl rfl g4) (T_move rfl rfl) rfl ?_
     first | refine k_op0 (d := 37) (b := 356) (j' := 20) rfl rfl rfl rfl (g_tt rfl rfl rfl g4) (T_indexAddr D rfl rfl rfl rfl rfl rfl rfl rfl (by first | assumption | omega | (simp; omega))) rfl ?_ | refine k_op0 (d := 37) (b := 356) (j' := 20) rfl rfl rfl rfl (g_tt rfl rfl rfl g4) (T_indexAddrZ D rfl rfl rfl rfl rfl rfl rfl rfl (by first | assumption | omega | (simp; omega)) (by first | assumption | omega | (simp; omega))) rfl ?_
     refine k_op0 (d := 38) (b := 372) (j' := 21) rfl rfl rfl rfl (g_tt rfl rfl rfl g4) (T_ldE D (lv := .v _) (nn := 0) (upd := []) rfl rfl rfl rfl rfl (by first | assumption | omega | (simp; omega)) rfl rfl rfl rfl) rfl ?_
     refine k_op0 (d := 39) (b := 388) (j' := 22) rfl rfl rfl rfl (g_tt rfl rfl rfl g4) (T_cmp rfl rfl rfl rfl) rfl ?_
     refine q0 40 404 23 rfl rfl (T_pick_t rfl rfl rfl g4) rfl ?_
     refine k_done rfl ?_
     refine ⟨rfl, ?_⟩
     refine thenK_n ?_
     refine W_cond rfl (fun g5 => ?_) (fun g5 => ?_)
     ·have h5 := c_eql_t g5
      refine W_seq ?_
      refine W_seqK (b' := 436) rfl rfl ?_
      refine q0 4 420 1 rfl rfl (T_assign rfl rfl) rfl ?_
      refine k_done rfl ?_
      refine thenK_n ?_
      refine W_ret ?_
      refine blockK_r ?_
      refine thenK_r ?_
      refine thenK_r ?_
      refine blockK_r ?_
      refine blockK_r ?_
      refine thenK_r ?_
      refine thenK_r ?_
      refine blockK_r ?_
      refine thenK_r ?_
      exact .mk [] (.inr rfl) (.tmp rfl (.nil)) (by first | rfl | (simp only [resLV, LV.ren, LV.v.injEq, Value.bool.injEq]; exact apart_no (i := i) (j := j) (by omega) (by omega) (by assumption) (by assumption) (by omega)) | (simp only [resLV, LV.ren, LV.v.injEq, Value.bool.injEq]; exact apart_yes (fun a ha => hI.2 a (by omega)))) (.nil) rfl
     ·have h5 := c_eql_f g5
      refine W_skip ?_
      refine blockK_n ?_
      refine thenK_n ?_
      refine W_seqK (b' := 468) rfl rfl ?_
      refine q0 16 420 1 rfl rfl (T_move rfl rfl) rfl ?_
      refine q0 17 436 2 rfl rfl (T_add64 rfl rfl rfl (by first | assumption | omega | (simp; omega))) rfl ?_
      refine q0 6 452 3 rfl rfl (T_assign rfl rfl) rfl ?_
      refine k_done rfl ?_
      refine thenK_n ?_
      refine ⟨j + 1, by (try dsimp only); exact ⟨by omega, fun c hc => by rcases Nat.lt_or_ge c j with h | h; exact hJ.2 c h; rw [show c = j by omega]; first | exact apartI_f1 (by assumption) | exact apartI_f2 (by assumption) | exact apartI_f3 (by omega)⟩, by (try dsimp only); omega, ?_⟩
      exact ⟨[(3, 3)], .same rfl rfl (.same rfl rfl (.eq rfl (.eq rfl (.nil) (by first | rfl | simp)) rfl)), .fzE rfl (.fzE rfl (.box (by first | rfl | simp) (.nil)) rfl) rfl, rfl⟩
    ·have h4 := g4; (try simp only [cmpB, decide_eq_true_eq, decide_eq_false_iff_not, beq_iff_eq, beq_eq_false_iff_ne, bne_iff_ne, ne_eq, bne_eq_false_iff_eq, Bool.not_eq_true', Bool.not_eq_false', Int.not_lt, Int.not_le] at h4)
     refine k_no (d := 29) (j' := 12) rfl rfl rfl (g_tf rfl rfl rfl g4) ?_
     refine k_no (d := 30) (j' := 13) rfl rfl rfl (g_tf rfl rfl rfl g4) ?_
     refine k_no (d := 31) (j' := 14) rfl rfl rfl (g_tf rfl rfl rfl g4) ?_
     refine k_no (d := 32) (j' := 15) rfl rfl rfl (g_tf rfl rfl rfl g4) ?_
     refine k_no (d := 33) (j' := 16) rfl rfl rfl (g_tf rfl rfl rfl g4) ?_
     refine k_no (d := 34) (j' := 17) rfl rfl rfl (g_tf rfl rfl rfl g4) ?_
     refine k_no (d := 35) (j' := 18) rfl rfl rfl (g_tf rfl rfl rfl g4) ?_
     refine k_no (d := 36) (j' := 19) rfl rfl rfl (g_tf rfl rfl rfl g4) ?_
     refine k_no (d := 37) (j' := 20) rfl rfl rfl (g_tf rfl rfl rfl g4) ?_
     refine k_no (d := 38) (j' := 21) rfl rfl rfl (g_tf rfl rfl rfl g4) ?_
     refine k_no (d := 39) (j' := 22) rfl rfl rfl (g_tf rfl rfl rfl g4) ?_
     refine q0 40 404 23 rfl rfl (T_pick_f rfl rfl rfl g4) rfl ?_
     refine k_done rfl ?_
     refine ⟨rfl, ?_⟩
     refine thenK_n ?_
     refine W_cond rfl (fun g6 => ?_) (fun g6 => ?_)
     ·exact absurd (g6.symm.trans rfl) (by decide)
     ·skip
      refine W_skip ?_
      refine blockK_n ?_
      refine thenK_n ?_
      refine W_seqK (b' := 468) rfl rfl ?_
      refine q0 16 420 1 rfl rfl (T_move rfl rfl) rfl ?_
      refine q0 17 436 2 rfl rfl (T_add64 rfl rfl rfl (by first | assumption | omega | (simp; omega))) rfl ?_
      refine q0 6 452 3 rfl rfl (T_assign rfl rfl) rfl ?_
      refine k_done rfl ?_
      refine thenK_n ?_
      refine ⟨j + 1, by (try dsimp only); exact ⟨by omega, fun c hc => by rcases Nat.lt_or_ge c j with h | h; exact hJ.2 c h; rw [show c = j by omega]; first | exact apartI_f1 (by assumption) | exact apartI_f2 (by assumption) | exact apartI_f3 (by omega)⟩, by (try dsimp only); omega, ?_⟩
      exact ⟨[(3, 3)], .same rfl rfl (.same rfl rfl (.eq rfl (.eq rfl (.nil) (by first | rfl | simp)) rfl)), .fzE rfl (.fzE rfl (.box (by first | rfl | simp) (.nil)) rfl) rfl, rfl⟩
   ·have h3 := g3; (try simp only [cmpB, decide_eq_true_eq, decide_eq_false_iff_not, beq_iff_eq, beq_eq_false_iff_ne, bne_iff_ne, ne_eq, bne_eq_false_iff_eq, Bool.not_eq_true', Bool.not_eq_false', Int.not_lt, Int.not_le] at h3)
    refine k_no (d := 23) (j' := 6) rfl rfl rfl (g_tf rfl rfl rfl g3) ?_
    refine k_no (d := 24) (j' := 7) rfl rfl rfl (g_tf rfl rfl rfl g3) ?_
    refine k_no (d := 25) (j' := 8) rfl rfl rfl (g_tf rfl rfl rfl g3) ?_
    refine k_no (d := 26) (j' := 9) rfl rfl rfl (g_tf rfl rfl rfl g3) ?_
    refine q0 27 196 10 rfl rfl (T_pick_f rfl rfl rfl g3) rfl ?_
    refine q0 28 212 11 rfl rfl (T_move rfl rfl) rfl ?_
    refine k_no (d := 29) (j' := 12) rfl rfl rfl (g_tf rfl rfl rfl rfl) ?_
    refine k_no (d := 30) (j' := 13) rfl rfl rfl (g_tf rfl rfl rfl rfl) ?_
    refine k_no (d := 31) (j' := 14) rfl rfl rfl (g_tf rfl rfl rfl rfl) ?_
    refine k_no (d := 32) (j' := 15) rfl rfl rfl (g_tf rfl rfl rfl rfl) ?_
    refine k_no (d := 33) (j' := 16) rfl rfl rfl (g_tf rfl rfl rfl rfl) ?_
    refine k_no (d := 34) (j' := 17) rfl rfl rfl (g_tf rfl rfl rfl rfl) ?_
    refine k_no (d := 35) (j' := 18) rfl rfl rfl (g_tf rfl rfl rfl rfl) ?_
    refine k_no (d := 36) (j' := 19) rfl rfl rfl (g_tf rfl rfl rfl rfl) ?_
    refine k_no (d := 37) (j' := 20) rfl rfl rfl (g_tf rfl rfl rfl rfl) ?_
    refine k_no (d := 38) (j' := 21) rfl rfl rfl (g_tf rfl rfl rfl rfl) ?_
    refine k_no (d := 39) (j' := 22) rfl rfl rfl (g_tf rfl rfl rfl rfl) ?_
    refine q0 40 404 23 rfl rfl (T_pick_f rfl rfl rfl rfl) rfl ?_
    refine k_done rfl ?_
    refine ⟨rfl, ?_⟩
    refine thenK_n ?_
    refine W_cond rfl (fun g7 => ?_) (fun g7 => ?_)
    ·exact absurd (g7.symm.trans rfl) (by decide)
    ·skip
     refine W_skip ?_
     refine blockK_n ?_
     refine thenK_n ?_
     refine W_seqK (b' := 468) rfl rfl ?_
     refine q0 16 420 1 rfl rfl (T_move rfl rfl) rfl ?_
     refine q0 17 436 2 rfl rfl (T_add64 rfl rfl rfl (by first | assumption | omega | (simp; omega))) rfl ?_
     refine q0 6 452 3 rfl rfl (T_assign rfl rfl) rfl ?_
     refine k_done rfl ?_
     refine thenK_n ?_
     refine ⟨j + 1, by (try dsimp only); exact ⟨by omega, fun c hc => by rcases Nat.lt_or_ge c j with h | h; exact hJ.2 c h; rw [show c = j by omega]; first | exact apartI_f1 (by assumption) | exact apartI_f2 (by assumption) | exact apartI_f3 (by omega)⟩, by (try dsimp only); omega, ?_⟩
     exact ⟨[(3, 3)], .same rfl rfl (.same rfl rfl (.eq rfl (.eq rfl (.nil) (by first | rfl | simp)) rfl)), .fzE rfl (.fzE rfl (.box (by first | rfl | simp) (.nil)) rfl) rfl, rfl⟩
  ·have h2 := c_lss_f g2
   refine W_exit ?_
   refine thenK_e ?_
   refine thenK_e ?_
   refine blockK_hit ?_
   refine blockK_n ?_
   refine thenK_n ?_
   refine W_seqK (b' := 100) rfl rfl ?_
   refine q0 11 52 1 rfl rfl (T_move rfl rfl) rfl ?_
   refine q0 12 68 2 rfl rfl (T_add64 rfl rfl rfl (by first | assumption | omega | (simp; omega))) rfl ?_
   refine q0 5 84 3 rfl rfl (T_assign rfl rfl) rfl ?_
   refine k_done rfl ?_
   refine thenK_n ?_
   refine ⟨i + 1, by (try dsimp only); exact ⟨by omega, fun a ha => by rcases Nat.lt_or_ge a i with h | h; exact hI.2 a h; rw [show a = i by omega]; exact fun c hc => hJ.2 c (by omega)⟩, by (try dsimp only); omega, ?_⟩
   exact ⟨[(3, 3)], .same rfl rfl (.same rfl rfl (.eq rfl (.nil) (by first | rfl | simp))), .fzE rfl (.fzE rfl (.box (by first | rfl | simp) (.nil)) rfl) rfl, rfl⟩
 ·have h1 := c_lss_f g1
  refine W_exit ?_
  refine thenK_e ?_
  refine thenK_e ?_
  refine blockK_hit ?_
  refine thenK_n ?_
  refine W_seq ?_
  refine W_seqK (b' := 84) rfl rfl ?_
  refine q0 4 68 1 rfl rfl (T_assign rfl rfl) rfl ?_
  refine k_done rfl ?_
  refine thenK_n ?_
  refine W_ret ?_
  exact .mk [] (.inr rfl) (.tmp rfl (.nil)) (by first | rfl | (simp only [resLV, LV.ren, LV.v.injEq, Value.bool.injEq]; exact apart_no (i := i) (j := j) (by omega) (by omega) (by assumption) (by assumption) (by omega)) | (simp only [resLV, LV.ren, LV.v.injEq, Value.bool.injEq]; exact apart_yes (fun a ha => hI.2 a (by omega)))) (.nil) rfl
theorem body110 : (Try.prog.funcs[110]?).map (fun fn => (fn.name == "runtime.NumGoroutine" || fn.body.isNone)) = some false := by kernel_rfl
theorem rone_spec (t : GTac) (ps : List Int) (s : List Bool) (hl : s.length ≤ ps.length) (hp : ps.length ≤ 1000000000) (hT : 0 ≤ setsT t → setsT t < (ps.length : Int)) : Spec Try.prog 110 [.agg [.v (.int .i64 t.op), .v (.int .i64 t.d), .v (.int .i64 t.a), .v (.int .i64 t.b), .v (.int .i64 t.k), .v (.int .i64 t.base), .v (.int .i64 t.size), .v (.int .u32 t.n)], .agg [.r 1], .r 2] 3 [(1, .fz 1 (ps.map eI)), (2, .fz 1 (s.map eB))] (.v (.bool (rone t ps s))) 3 [] := by
 refine spec_of D (fn := Try.f110) rfl rfl (Nat.le_of_ble_eq_true rfl) ?_
 refine W_seq ?_
 refine W_seqK (b' := 51) rfl rfl ?_
 refine q1 3 3 1 rfl rfl (T_box rfl rfl flat_agg) rfl ?_
 refine q1 4 19 2 rfl rfl (T_box rfl rfl flat_agg) rfl ?_
 refine q0 6 35 3 rfl rfl (T_assign rfl rfl) rfl ?_
 refine k_done rfl ?_
 refine thenK_n ?_
 refine W_seq ?_
 refine W_seqK (b' := 99) rfl rfl ?_
 refine q0 9 51 1 rfl rfl (T_load_bA D (l := [_, _, _, _, _, _, _, _]) rfl rfl rfl rfl rfl rfl rfl) rfl ?_
 refine q0 10 67 2 rfl rfl (T_callV (lvs := [_]) (L := []) (sets_spec t) body86 rfl rfl rfl rfl (.nil) rfl) rfl ?_
 refine q0 7 83 3 rfl rfl (T_assign rfl rfl) rfl ?_
 refine k_done rfl ?_
 refine thenK_n ?_
 refine W_seq ?_
 refine W_seq ?_
 refine W_seqK (b' := 115) rfl rfl ?_
 refine q0 8 99 1 rfl rfl (T_assign rfl rfl) rfl ?_
 refine k_done rfl ?_
 refine thenK_n ?_
 refine W_block ?_
 refine W_loop (ι := Nat) 5 (fun i => ⟨[(2, .r 2), (3, .p 3 0), (4, .p 4 0), (7, .v (.int .i64 (setsT t))), (8, .v (.int .i64 (i : Int)))], [(1, .fz 1 (ps.map eI)), (2, .fz 1 (s.map eB)), (3, .box 70 [.v (.int .i64 t.op), .v (.int .i64 t.d), .v (.int .i64 t.a), .v (.int .i64 t.b), .v (.int .i64 t.k), .v (.int .i64 t.base), .v (.int .i64 t.size), .v (.int .u32 t.n)]), (4, .box 60 [.r 1])]⟩) (fun i => i ≤ s.length ∧ ∀ a, a < i → (s.getD a default && clash t ps a) = false) (fun i => s.length - i) (0) (by exact ⟨Nat.zero_le _, fun i h => absurd h (Nat.not_lt_zero _)⟩) ?_ (fun i hI => ?_)
 ·exact ⟨[(3, 3), (4, 19)], .same rfl rfl (.same rfl rfl (.same rfl rfl (.eq rfl (.eq rfl (.nil) (by first | rfl | simp)) (by first | rfl | simp)))), .fzE rfl (.fzE rfl (.box (by first | rfl | simp) (.box (by first | rfl | simp) (.nil))) (by first | rfl | simp)) (by first | rfl | simp), rfl⟩
 refine W_seq ?_
 refine W_seq ?_
 refine W_seqK (b' := 69) rfl rfl ?_
 refine q0 11 5 1 rfl rfl (T_move rfl rfl) rfl ?_
 refine q0 12 21 2 rfl rfl (T_move rfl rfl) rfl ?_
 refine q0 13 37 3 rfl rfl (T_len D rfl rfl rfl rfl rfl rfl) rfl ?_
 refine q0 14 53 4 rfl rfl (T_cmp rfl rfl rfl rfl) rfl ?_
 refine k_done rfl ?_
 refine thenK_n ?_
 refine W_cond rfl (fun g1 => ?_) (fun g1 => ?_)
 ·have h1 := c_lss_t g1
  refine W_skip ?_
  refine thenK_n ?_
  refine W_seq ?_
  refine W_block ?_
  refine W_seq ?_
  refine W_seq ?_
  refine W_seqK (b' := 149) rfl rfl ?_
  refine q0 17 69 1 rfl rfl (T_move rfl rfl) rfl ?_
  refine q0 18 85 2 rfl rfl (T_move rfl rfl) rfl ?_
  first | refine q0 19 101 3 rfl rfl (T_indexAddr D rfl rfl rfl rfl rfl rfl rfl rfl (by first | assumption | omega | (simp; omega))) rfl ?_ | refine q0 19 101 3 rfl rfl (T_indexAddrZ D rfl rfl rfl rfl rfl rfl rfl rfl (by first | assumption | omega | (simp; omega)) (by first | assumption | omega | (simp; omega))) rfl ?_
  refine q0 20 117 4 rfl rfl (T_ldE D (lv := .v _) (nn := 0) (upd := []) rfl rfl rfl rfl rfl (by first | assumption | omega | (simp; omega)) rfl rfl rfl rfl) rfl ?_
  refine q0 21 133 5 rfl rfl (T_not rfl rfl) rfl ?_
  refine k_done rfl ?_
  refine thenK_n ?_
  refine W_cond rfl (fun g2 => ?_) (fun g2 => ?_)
  ·have h2 := g2; (try simp only [cmpB, decide_eq_true_eq, decide_eq_false_iff_not, beq_iff_eq, beq_eq_false_iff_ne, bne_iff_ne, ne_eq, bne_eq_false_iff_eq, Bool.not_eq_true', Bool.not_eq_false', Int.not_lt, Int.not_le] at h2)
   refine W_exit ?_
   refine thenK_e ?_
   refine blockK_hit ?_
   refine thenK_n ?_
   refine W_seqK (b' := 197) rfl rfl ?_
   refine q0 15 149 1 rfl rfl (T_move rfl rfl) rfl ?_
   refine q0 16 165 2 rfl rfl (T_add64 rfl rfl rfl (by first | assumption | omega | (simp; omega))) rfl ?_
   refine q0 8 181 3 rfl rfl (T_assign rfl rfl) rfl ?_
   refine k_done rfl ?_
   refine thenK_n ?_
   refine ⟨i + 1, by (try dsimp only); exact ⟨by omega, fun a ha => by rcases Nat.lt_or_ge a i with h | h; exact hI.2 a h; rw [show a = i by omega]; first | (rw [(by assumption : s.getD i default = false)]; rfl) | (rw [clash_f (by omega), Bool.and_false])⟩, by (try dsimp only); omega, ?_⟩
   exact ⟨[(3, 3), (4, 4)], .same rfl rfl (.same rfl rfl (.same rfl rfl (.eq rfl (.eq rfl (.nil) (by first | rfl | simp)) rfl))), .fzE rfl (.fzE rfl (.box (by first | rfl | simp) (.box (by first | rfl | simp) (.nil))) rfl) rfl, rfl⟩
  ·have h2 := g2; (try simp only [cmpB, decide_eq_true_eq, decide_eq_false_iff_not, beq_iff_eq, beq_eq_false_iff_ne, bne_iff_ne, ne_eq, bne_eq_false_iff_eq, Bool.not_eq_true', Bool.not_eq_false', Int.not_lt, Int.not_le] at h2)
   refine W_skip ?_
   refine thenK_n ?_
   refine W_seq ?_
   refine W_anyK (b' := 677) rfl rfl rfl ?_
   refine q0 22 149 1 rfl rfl (T_move rfl rfl) rfl ?_
   refine q0 23 165 2 rfl rfl (T_cmp rfl rfl rfl rfl) rfl ?_
   refine q0 24 181 3 rfl rfl (T_move rfl rfl) rfl ?_
   refine k_split (d := 24) rfl (fun g3 => ?_) (fun g3 => ?_)
   ·have h3 := c_geq_t g3
    refine k_op0 (d := 25) (b := 197) (j' := 4) rfl rfl rfl rfl (g_tt rfl rfl rfl g3) (T_move rfl rfl) rfl ?_
    refine k_op0 (d := 26) (b := 213) (j' := 5) rfl rfl rfl rfl (g_tt rfl rfl rfl g3) (T_move rfl rfl) rfl ?_
    refine k_op0 (d := 27) (b := 229) (j' := 6) rfl rfl rfl rfl (g_tt rfl rfl rfl g3) (T_cmp rfl rfl rfl rfl) rfl ?_
    refine q0 28 245 7 rfl rfl (T_pick_t rfl rfl rfl g3) rfl ?_
    refine q0 29 261 8 rfl rfl (T_move rfl rfl) rfl ?_
    refine k_split (d := 29) rfl (fun g4 => ?_) (fun g4 => ?_)
    ·have h4 := c_neq_t g4
     refine k_op0 (d := 30) (b := 277) (j' := 9) rfl rfl rfl rfl (g_tt rfl rfl rfl g4) (T_fa D (m := 0) rfl rfl rfl rfl rfl rfl) rfl ?_
     refine k_op0 (d := 31) (b := 293) (j' := 10) rfl rfl rfl rfl (g_tt rfl rfl rfl g4) (T_load_b D rfl rfl rfl rfl rfl rfl) rfl ?_
     refine k_op0 (d := 32) (b := 309) (j' := 11) rfl rfl rfl rfl (g_tt rfl rfl rfl g4) (T_move rfl rfl) rfl ?_
     first | refine k_op0 (d := 33) (b := 325) (j' := 12) rfl rfl rfl rfl (g_tt rfl rfl rfl g4) (T_indexAddr D rfl rfl rfl rfl rfl rfl rfl rfl (by first | assumption | omega | (simp; omega))) rfl ?_ | refine k_op0 (d := 33) (b := 325) (j' := 12) rfl rfl rfl rfl (g_tt rfl rfl rfl g4) (T_indexAddrZ D rfl rfl rfl rfl rfl rfl rfl rfl (by first | assumption | omega | (simp; omega)) (by first | assumption | omega | (simp; omega))) rfl ?_
     refine k_op0 (d := 34) (b := 341) (j' := 13) rfl rfl rfl rfl (g_tt rfl rfl rfl g4) (T_ldE D (lv := .v _) (nn := 0) (upd := []) rfl rfl rfl rfl rfl (by first | assumption | omega | (simp; omega)) rfl rfl rfl rfl) rfl ?_
     refine k_op0 (d := 35) (b := 357) (j' := 14) rfl rfl rfl rfl (g_tt rfl rfl rfl g4) (T_fa D (m := 0) rfl rfl rfl rfl rfl rfl) rfl ?_
     refine k_op0 (d := 36) (b := 373) (j' := 15) rfl rfl rfl rfl (g_tt rfl rfl rfl g4) (T_load_b D rfl rfl rfl rfl rfl rfl) rfl ?_
     refine k_op0 (d := 37) (b := 389) (j' := 16) rfl rfl rfl rfl (g_tt rfl rfl rfl g4) (T_move rfl rfl) rfl ?_
     first | refine k_op0 (d := 38) (b := 405) (j' := 17) rfl rfl rfl rfl (g_tt rfl rfl rfl g4) (T_indexAddr D rfl rfl rfl rfl rfl rfl rfl rfl (by first | assumption | omega | (simp; omega))) rfl ?_ | refine k_op0 (d := 38) (b := 405) (j' := 17) rfl rfl rfl rfl (g_tt rfl rfl rfl g4) (T_indexAddrZ D rfl rfl rfl rfl rfl rfl rfl rfl (by first | assumption | omega | (simp; omega)) (by first | assumption | omega | (simp; omega))) rfl ?_
     refine k_op0 (d := 39) (b := 421) (j' := 18) rfl rfl rfl rfl (g_tt rfl rfl rfl g4) (T_ldE D (lv := .v _) (nn := 0) (upd := []) rfl rfl rfl rfl rfl (by first | assumption | omega | (simp; omega)) rfl rfl rfl rfl) rfl ?_
     refine k_op0 (d := 40) (b := 437) (j' := 19) rfl rfl rfl rfl (g_tt rfl rfl rfl g4) (T_cmp rfl rfl rfl rfl) rfl ?_
     refine q0 41 453 20 rfl rfl (T_pick_t rfl rfl rfl g4) rfl ?_
     refine q0 42 469 21 rfl rfl (T_move rfl rfl) rfl ?_
     refine k_split (d := 42) rfl (fun g5 => ?_) (fun g5 => ?_)
     ·have h5 := c_eql_t g5
      refine k_no (d := 43) (j' := 22) rfl rfl rfl (g_ft rfl rfl rfl g5) ?_
      refine k_no (d := 44) (j' := 23) rfl rfl rfl (g_ft rfl rfl rfl g5) ?_
      refine k_no (d := 45) (j' := 24) rfl rfl rfl (g_ft rfl rfl rfl g5) ?_
      refine k_no (d := 46) (j' := 25) rfl rfl rfl (g_ft rfl rfl rfl g5) ?_
      refine k_no (d := 47) (j' := 26) rfl rfl rfl (.und rfl rfl rfl) ?_
      refine k_no (d := 48) (j' := 27) rfl rfl rfl (.und rfl rfl rfl) ?_
      refine k_no (d := 49) (j' := 28) rfl rfl rfl (.und rfl rfl rfl) ?_
      refine k_no (d := 50) (j' := 29) rfl rfl rfl (.und rfl rfl rfl) ?_
      refine k_no (d := 51) (j' := 30) rfl rfl rfl (.und rfl rfl rfl) ?_
      refine k_no (d := 52) (j' := 31) rfl rfl rfl (.und rfl rfl rfl) ?_
      refine k_no (d := 53) (j' := 32) rfl rfl rfl (g_ft rfl rfl rfl g5) ?_
      refine q0 54 661 33 rfl rfl (T_pick_t rfl rfl rfl g5) rfl ?_
      refine k_done rfl ?_
      refine ⟨rfl, ?_⟩
      refine thenK_n ?_
      refine W_cond rfl (fun g6 => ?_) (fun g6 => ?_)
      ·skip
       refine W_seq ?_
       refine W_seqK (b' := 693) rfl rfl ?_
       refine q0 6 677 1 rfl rfl (T_assign rfl rfl) rfl ?_
       refine k_done rfl ?_
       refine thenK_n ?_
       refine W_ret ?_
       refine blockK_r ?_
       refine thenK_r ?_
       refine thenK_r ?_
       refine blockK_r ?_
       refine thenK_r ?_
       exact .mk [] (.inr rfl) (.tmp rfl (.nil)) (by first | rfl | (simp only [resLV, LV.ren, LV.v.injEq, Value.bool.injEq]; exact rone_no (i := i) (by omega) (by assumption) (clash_t (by omega))) | (simp only [resLV, LV.ren, LV.v.injEq, Value.bool.injEq]; exact rone_yes (fun a ha => hI.2 a (by omega)))) (.nil) rfl
      ·exact absurd (g6.symm.trans rfl) (by decide)
     ·have h5 := c_eql_f g5
      refine k_op0 (d := 43) (b := 485) (j' := 22) rfl rfl rfl rfl (g_ff rfl rfl rfl g5) (T_fa D (m := 0) rfl rfl rfl rfl rfl rfl) rfl ?_
      refine k_op0 (d := 44) (b := 501) (j' := 23) rfl rfl rfl rfl (g_ff rfl rfl rfl g5) (T_load_b D rfl rfl rfl rfl rfl rfl) rfl ?_
      refine k_op0 (d := 45) (b := 517) (j' := 24) rfl rfl rfl rfl (g_ff rfl rfl rfl g5) (T_cmp rfl rfl rfl rfl) rfl ?_
      refine k_op0 (d := 46) (b := 533) (j' := 25) rfl rfl rfl rfl (g_ff rfl rfl rfl g5) (T_move rfl rfl) rfl ?_
      refine k_split (d := 46) rfl (fun g7 => ?_) (fun g7 => ?_)
      ·have h7 := c_eql_t g7
       refine k_op0 (d := 47) (b := 549) (j' := 26) rfl rfl rfl rfl (g_tt rfl rfl rfl g7) (T_fa D (m := 0) rfl rfl rfl rfl rfl rfl) rfl ?_
       refine k_op0 (d := 48) (b := 565) (j' := 27) rfl rfl rfl rfl (g_tt rfl rfl rfl g7) (T_load_b D rfl rfl rfl rfl rfl rfl) rfl ?_
       refine k_op0 (d := 49) (b := 581) (j' := 28) rfl rfl rfl rfl (g_tt rfl rfl rfl g7) (T_move rfl rfl) rfl ?_
       first | refine k_op0 (d := 50) (b := 597) (j' := 29) rfl rfl rfl rfl (g_tt rfl rfl rfl g7) (T_indexAddr D rfl rfl rfl rfl rfl rfl rfl rfl (by first | assumption | omega | (simp; omega))) rfl ?_ | refine k_op0 (d := 50) (b := 597) (j' := 29) rfl rfl rfl rfl (g_tt rfl rfl rfl g7) (T_indexAddrZ D rfl rfl rfl rfl rfl rfl rfl rfl (by first | assumption | omega | (simp; omega)) (by first | assumption | omega | (simp; omega))) rfl ?_
       refine k_op0 (d := 51) (b := 613) (j' := 30) rfl rfl rfl rfl (g_tt rfl rfl rfl g7) (T_ldE D (lv := .v _) (nn := 0) (upd := []) rfl rfl rfl rfl rfl (by first | assumption | omega | (simp; omega)) rfl rfl rfl rfl) rfl ?_
       refine k_op0 (d := 52) (b := 629) (j' := 31) rfl rfl rfl rfl (g_tt rfl rfl rfl g7) (T_cmp rfl rfl rfl rfl) rfl ?_
       refine k_op0 (d := 53) (b := 645) (j' := 32) rfl rfl rfl rfl (g_ff rfl rfl rfl g5) (T_pick_t rfl rfl rfl g7) rfl ?_
       refine q0 54 661 33 rfl rfl (T_pick_f rfl rfl rfl g5) rfl ?_
       refine k_done rfl ?_
       refine ⟨rfl, ?_⟩
       refine thenK_n ?_
       refine W_cond rfl (fun g8 => ?_) (fun g8 => ?_)
       ·have h8 := c_gtr_t g8
        refine W_seq ?_
        refine W_seqK (b' := 693) rfl rfl ?_
        refine q0 6 677 1 rfl rfl (T_assign rfl rfl) rfl ?_
        refine k_done rfl ?_
        refine thenK_n ?_
        refine W_ret ?_
        refine blockK_r ?_
        refine thenK_r ?_
        refine thenK_r ?_
        refine blockK_r ?_
        refine thenK_r ?_
        exact .mk [] (.inr rfl) (.tmp rfl (.nil)) (by first | rfl | (simp only [resLV, LV.ren, LV.v.injEq, Value.bool.injEq]; exact rone_no (i := i) (by omega) (by assumption) (clash_t (by omega))) | (simp only [resLV, LV.ren, LV.v.injEq, Value.bool.injEq]; exact rone_yes (fun a ha => hI.2 a (by omega)))) (.nil) rfl
       ·have h8 := c_gtr_f g8
        refine W_skip ?_
        refine blockK_n ?_
        refine thenK_n ?_
        refine W_seqK (b' := 725) rfl rfl ?_
        refine q0 15 677 1 rfl rfl (T_move rfl rfl) rfl ?_
        refine q0 16 693 2 rfl rfl (T_add64 rfl rfl rfl (by first | assumption | omega | (simp; omega))) rfl ?_
        refine q0 8 709 3 rfl rfl (T_assign rfl rfl) rfl ?_
        refine k_done rfl ?_
        refine thenK_n ?_
        refine ⟨i + 1, by (try dsimp only); exact ⟨by omega, fun a ha => by rcases Nat.lt_or_ge a i with h | h; exact hI.2 a h; rw [show a = i by omega]; first | (rw [(by assumption : s.getD i default = false)]; rfl) | (rw [clash_f (by omega), Bool.and_false])⟩, by (try dsimp only); omega, ?_⟩
        exact ⟨[(3, 3), (4, 4)], .same rfl rfl (.same rfl rfl (.same rfl rfl (.eq rfl (.eq rfl (.nil) (by first | rfl | simp)) rfl))), .fzE rfl (.fzE rfl (.box (by first | rfl | simp) (.box (by first | rfl | simp) (.nil))) rfl) rfl, rfl⟩
      ·have h7 := c_eql_f g7
       refine k_no (d := 47) (j' := 26) rfl rfl rfl (g_tf rfl rfl rfl g7) ?_
       refine k_no (d := 48) (j' := 27) rfl rfl rfl (g_tf rfl rfl rfl g7) ?_
       refine k_no (d := 49) (j' := 28) rfl rfl rfl (g_tf rfl rfl rfl g7) ?_
       refine k_no (d := 50) (j' := 29) rfl rfl rfl (g_tf rfl rfl rfl g7) ?_
       refine k_no (d := 51) (j' := 30) rfl rfl rfl (g_tf rfl rfl rfl g7) ?_
       refine k_no (d := 52) (j' := 31) rfl rfl rfl (g_tf rfl rfl rfl g7) ?_
       refine k_op0 (d := 53) (b := 645) (j' := 32) rfl rfl rfl rfl (g_ff rfl rfl rfl g5) (T_pick_f rfl rfl rfl g7) rfl ?_
       refine q0 54 661 33 rfl rfl (T_pick_f rfl rfl rfl g5) rfl ?_
       refine k_done rfl ?_
       refine ⟨rfl, ?_⟩
       refine thenK_n ?_
       refine W_cond rfl (fun g9 => ?_) (fun g9 => ?_)
       ·exact absurd (g9.symm.trans rfl) (by decide)
       ·skip
        refine W_skip ?_
        refine blockK_n ?_
        refine thenK_n ?_
        refine W_seqK (b' := 725) rfl rfl ?_
        refine q0 15 677 1 rfl rfl (T_move rfl rfl) rfl ?_
        refine q0 16 693 2 rfl rfl (T_add64 rfl rfl rfl (by first | assumption | omega | (simp; omega))) rfl ?_
        refine q0 8 709 3 rfl rfl (T_assign rfl rfl) rfl ?_
        refine k_done rfl ?_
        refine thenK_n ?_
        refine ⟨i + 1, by (try dsimp only); exact ⟨by omega, fun a ha => by rcases Nat.lt_or_ge a i with h | h; exact hI.2 a h; rw [show a = i by omega]; first | (rw [(by assumption : s.getD i default = false)]; rfl) | (rw [clash_f (by omega), Bool.and_false])⟩, by (try dsimp only); omega, ?_⟩
        exact ⟨[(3, 3), (4, 4)], .same rfl rfl (.same rfl rfl (.same rfl rfl (.eq rfl (.eq rfl (.nil) (by first | rfl | simp)) rfl))), .fzE rfl (.fzE rfl (.box (by first | rfl | simp) (.box (by first | rfl | simp) (.nil))) rfl) rfl, rfl⟩
    ·have h4 := c_neq_f g4
     refine k_no (d := 30) (j' := 9) rfl rfl rfl (g_tf rfl rfl rfl g4) ?_
     refine k_no (d := 31) (j' := 10) rfl rfl rfl (g_tf rfl rfl rfl g4) ?_
     refine k_no (d := 32) (j' := 11) rfl rfl rfl (g_tf rfl rfl rfl g4) ?_
     refine k_no (d := 33) (j' := 12) rfl rfl rfl (g_tf rfl rfl rfl g4) ?_
     refine k_no (d := 34) (j' := 13) rfl rfl rfl (g_tf rfl rfl rfl g4) ?_
     refine k_no (d := 35) (j' := 14) rfl rfl rfl (g_tf rfl rfl rfl g4) ?_
     refine k_no (d := 36) (j' := 15) rfl rfl rfl (g_tf rfl rfl rfl g4) ?_
     refine k_no (d := 37) (j' := 16) rfl rfl rfl (g_tf rfl rfl rfl g4) ?_
     refine k_no (d := 38) (j' := 17) rfl rfl rfl (g_tf rfl rfl rfl g4) ?_
     refine k_no (d := 39) (j' := 18) rfl rfl rfl (g_tf rfl rfl rfl g4) ?_
     refine k_no (d := 40) (j' := 19) rfl rfl rfl (g_tf rfl rfl rfl g4) ?_
     refine q0 41 453 20 rfl rfl (T_pick_f rfl rfl rfl g4) rfl ?_
     refine q0 42 469 21 rfl rfl (T_move rfl rfl) rfl ?_
     refine k_op0 (d := 43) (b := 485) (j' := 22) rfl rfl rfl rfl (g_ff rfl rfl rfl rfl) (T_fa D (m := 0) rfl rfl rfl rfl rfl rfl) rfl ?_
     refine k_op0 (d := 44) (b := 501) (j' := 23) rfl rfl rfl rfl (g_ff rfl rfl rfl rfl) (T_load_b D rfl rfl rfl rfl rfl rfl) rfl ?_
     refine k_op0 (d := 45) (b := 517) (j' := 24) rfl rfl rfl rfl (g_ff rfl rfl rfl rfl) (T_cmp rfl rfl rfl rfl) rfl ?_
     refine k_op0 (d := 46) (b := 533) (j' := 25) rfl rfl rfl rfl (g_ff rfl rfl rfl rfl) (T_move rfl rfl) rfl ?_
     refine k_split (d := 46) rfl (fun g10 => ?_) (fun g10 => ?_)
     ·have h10 := c_eql_t g10
      refine k_op0 (d := 47) (b := 549) (j' := 26) rfl rfl rfl rfl (g_tt rfl rfl rfl g10) (T_fa D (m := 0) rfl rfl rfl rfl rfl rfl) rfl ?_
      refine k_op0 (d := 48) (b := 565) (j' := 27) rfl rfl rfl rfl (g_tt rfl rfl rfl g10) (T_load_b D rfl rfl rfl rfl rfl rfl) rfl ?_
      refine k_op0 (d := 49) (b := 581) (j' := 28) rfl rfl rfl rfl (g_tt rfl rfl rfl g10) (T_move rfl rfl) rfl ?_
      first | refine k_op0 (d := 50) (b := 597) (j' := 29) rfl rfl rfl rfl (g_tt rfl rfl rfl g10) (T_indexAddr D rfl rfl rfl rfl rfl rfl rfl rfl (by first | assumption | omega | (simp; omega))) rfl ?_ | refine k_op0 (d := 50) (b := 597) (j' := 29) rfl rfl rfl rfl (g_tt rfl rfl rfl g10) (T_indexAddrZ D rfl rfl rfl rfl rfl rfl rfl rfl (by first | assumption | omega | (simp; omega)) (by first | assumption | omega | (simp; omega))) rfl ?_
      refine k_op0 (d := 51) (b := 613) (j' := 30) rfl rfl rfl rfl (g_tt rfl rfl rfl g10) (T_ldE D (lv := .v _) (nn := 0) (upd := []) rfl rfl rfl rfl rfl (by first | assumption | omega | (simp; omega)) rfl rfl rfl rfl) rfl ?_
      refine k_op0 (d := 52) (b := 629) (j' := 31) rfl rfl rfl rfl (g_tt rfl rfl rfl g10) (T_cmp rfl rfl rfl rfl) rfl ?_
      refine k_op0 (d := 53) (b := 645) (j' := 32) rfl rfl rfl rfl (g_ff rfl rfl rfl rfl) (T_pick_t rfl rfl rfl g10) rfl ?_
      refine q0 54 661 33 rfl rfl (T_pick_f rfl rfl rfl rfl) rfl ?_
      refine k_done rfl ?_
      refine ⟨rfl, ?_⟩
      refine thenK_n ?_
      refine W_cond rfl (fun g11 => ?_) (fun g11 => ?_)
      ·have h11 := c_gtr_t g11
       refine W_seq ?_
       refine W_seqK (b' := 693) rfl rfl ?_
       refine q0 6 677 1 rfl rfl (T_assign rfl rfl) rfl ?_
       refine k_done rfl ?_
       refine thenK_n ?_
       refine W_ret ?_
       refine blockK_r ?_
       refine thenK_r ?_
       refine thenK_r ?_
       refine blockK_r ?_
       refine thenK_r ?_
       exact .mk [] (.inr rfl) (.tmp rfl (.nil)) (by first | rfl | (simp only [resLV, LV.ren, LV.v.injEq, Value.bool.injEq]; exact rone_no (i := i) (by omega) (by assumption) (clash_t (by omega))) | (simp only [resLV, LV.ren, LV.v.injEq, Value.bool.injEq]; exact rone_yes (fun a ha => hI.2 a (by omega)))) (.nil) rfl
      ·have h11 := c_gtr_f g11
       refine W_skip ?_
       refine blockK_n ?_
       refine thenK_n ?_
       refine W_seqK (b' := 725) rfl rfl ?_
       refine q0 15 677 1 rfl rfl (T_move rfl rfl) rfl ?_
       refine q0 16 693 2 rfl rfl (T_add64 rfl rfl rfl (by first | assumption | omega | (simp; omega))) rfl ?_
       refine q0 8 709 3 rfl rfl (T_assign rfl rfl) rfl ?_
       refine k_done rfl ?_
       refine thenK_n ?_
       refine ⟨i + 1, by (try dsimp only); exact ⟨by omega, fun a ha => by rcases Nat.lt_or_ge a i with h | h; exact hI.2 a h; rw [show a = i by omega]; first | (rw [(by assumption : s.getD i default = false)]; rfl) | (rw [clash_f (by omega), Bool.and_false])⟩, by (try dsimp only); omega, ?_⟩
       exact ⟨[(3, 3), (4, 4)], .same rfl rfl (.same rfl rfl (.same rfl rfl (.eq rfl (.eq rfl (.nil) (by first | rfl | simp)) rfl))), .fzE rfl (.fzE rfl (.box (by first | rfl | simp) (.box (by first | rfl | simp) (.nil))) rfl) rfl, rfl⟩
     ·have h10 := c_eql_f g10
      refine k_no (d := 47) (j' := 26) rfl rfl rfl (g_tf rfl rfl rfl g10) ?_
      refine k_no (d := 48) (j' := 27) rfl rfl rfl (g_tf rfl rfl rfl g10) ?_
      refine k_no (d := 49) (j' := 28) rfl rfl rfl (g_tf rfl rfl rfl g10) ?_
      refine k_no (d := 50) (j' := 29) rfl rfl rfl (g_tf rfl rfl rfl g10) ?_
      refine k_no (d := 51) (j' := 30) rfl rfl rfl (g_tf rfl rfl rfl g10) ?_
      refine k_no (d := 52) (j' := 31) rfl rfl rfl (g_tf rfl rfl rfl g10) ?_
      refine k_op0 (d := 53) (b := 645) (j' := 32) rfl rfl rfl rfl (g_ff rfl rfl rfl rfl) (T_pick_f rfl rfl rfl g10) rfl ?_
      refine q0 54 661 33 rfl rfl (T_pick_f rfl rfl rfl rfl) rfl ?_
      refine k_done rfl ?_
      refine ⟨rfl, ?_⟩
      refine thenK_n ?_
      refine W_cond rfl (fun g12 => ?_) (fun g12 => ?_)
      ·exact absurd (g12.symm.trans rfl) (by decide)
      ·skip
       refine W_skip ?_
       refine blockK_n ?_
       refine thenK_n ?_
       refine W_seqK (b' := 725) rfl rfl ?_
       refine q0 15 677 1 rfl rfl (T_move rfl rfl) rfl ?_
       refine q0 16 693 2 rfl rfl (T_add64 rfl rfl rfl (by first | assumption | omega | (simp; omega))) rfl ?_
       refine q0 8 709 3 rfl rfl (T_assign rfl rfl) rfl ?_
       refine k_done rfl ?_
       refine thenK_n ?_
       refine ⟨i + 1, by (try dsimp only); exact ⟨by omega, fun a ha => by rcases Nat.lt_or_ge a i with h | h; exact hI.2 a h; rw [show a = i by omega]; first | (rw [(by assumption : s.getD i default = false)]; rfl) | (rw [clash_f (by omega), Bool.and_false])⟩, by (try dsimp only); omega, ?_⟩
       exact ⟨[(3, 3), (4, 4)], .same rfl rfl (.same rfl rfl (.same rfl rfl (.eq rfl (.eq rfl (.nil) (by first | rfl | simp)) rfl))), .fzE rfl (.fzE rfl (.box (by first | rfl | simp) (.box (by first | rfl | simp) (.nil))) rfl) rfl, rfl⟩
   ·have h3 := c_geq_f g3
    refine k_no (d := 25) (j' := 4) rfl rfl rfl (g_tf rfl rfl rfl g3) ?_
    refine k_no (d := 26) (j' := 5) rfl rfl rfl (g_tf rfl rfl rfl g3) ?_
    refine k_no (d := 27) (j' := 6) rfl rfl rfl (g_tf rfl rfl rfl g3) ?_
    refine q0 28 245 7 rfl rfl (T_pick_f rfl rfl rfl g3) rfl ?_
    refine q0 29 261 8 rfl rfl (T_move rfl rfl) rfl ?_
    refine k_no (d := 30) (j' := 9) rfl rfl rfl (g_tf rfl rfl rfl rfl) ?_
    refine k_no (d := 31) (j' := 10) rfl rfl rfl (g_tf rfl rfl rfl rfl) ?_
    refine k_no (d := 32) (j' := 11) rfl rfl rfl (g_tf rfl rfl rfl rfl) ?_
    refine k_no (d := 33) (j' := 12) rfl rfl rfl (g_tf rfl rfl rfl rfl) ?_
    refine k_no (d := 34) (j' := 13) rfl rfl rfl (g_tf rfl rfl rfl rfl) ?_
    refine k_no (d := 35) (j' := 14) rfl rfl rfl (g_tf rfl rfl rfl rfl) ?_
    refine k_no (d := 36) (j' := 15) rfl rfl rfl (g_tf rfl rfl rfl rfl) ?_
    refine k_no (d := 37) (j' := 16) rfl rfl rfl (g_tf rfl rfl rfl rfl) ?_
    refine k_no (d := 38) (j' := 17) rfl rfl rfl (g_tf rfl rfl rfl rfl) ?_
    refine k_no (d := 39) (j' := 18) rfl rfl rfl (g_tf rfl rfl rfl rfl) ?_
    refine k_no (d := 40) (j' := 19) rfl rfl rfl (g_tf rfl rfl rfl rfl) ?_
    refine q0 41 453 20 rfl rfl (T_pick_f rfl rfl rfl rfl) rfl ?_
    refine q0 42 469 21 rfl rfl (T_move rfl rfl) rfl ?_
    refine k_op0 (d := 43) (b := 485) (j' := 22) rfl rfl rfl rfl (g_ff rfl rfl rfl rfl) (T_fa D (m := 0) rfl rfl rfl rfl rfl rfl) rfl ?_
    refine k_op0 (d := 44) (b := 501) (j' := 23) rfl rfl rfl rfl (g_ff rfl rfl rfl rfl) (T_load_b D rfl rfl rfl rfl rfl rfl) rfl ?_
    refine k_op0 (d := 45) (b := 517) (j' := 24) rfl rfl rfl rfl (g_ff rfl rfl rfl rfl) (T_cmp rfl rfl rfl rfl) rfl ?_
    refine k_op0 (d := 46) (b := 533) (j' := 25) rfl rfl rfl rfl (g_ff rfl rfl rfl rfl) (T_move rfl rfl) rfl ?_
    refine k_split (d := 46) rfl (fun g13 => ?_) (fun g13 => ?_)
    ·have h13 := c_eql_t g13
     refine k_op0 (d := 47) (b := 549) (j' := 26) rfl rfl rfl rfl (g_tt rfl rfl rfl g13) (T_fa D (m := 0) rfl rfl rfl rfl rfl rfl) rfl ?_
     refine k_op0 (d := 48) (b := 565) (j' := 27) rfl rfl rfl rfl (g_tt rfl rfl rfl g13) (T_load_b D rfl rfl rfl rfl rfl rfl) rfl ?_
     refine k_op0 (d := 49) (b := 581) (j' := 28) rfl rfl rfl rfl (g_tt rfl rfl rfl g13) (T_move rfl rfl) rfl ?_
     first | refine k_op0 (d := 50) (b := 597) (j' := 29) rfl rfl rfl rfl (g_tt rfl rfl rfl g13) (T_indexAddr D rfl rfl rfl rfl rfl rfl rfl rfl (by first | assumption | omega | (simp; omega))) rfl ?_ | refine k_op0 (d := 50) (b := 597) (j' := 29) rfl rfl rfl rfl (g_tt rfl rfl rfl g13) (T_indexAddrZ D rfl rfl rfl rfl rfl rfl rfl rfl (by first | assumption | omega | (simp; omega)) (by first | assumption | omega | (simp; omega))) rfl ?_
     refine k_op0 (d := 51) (b := 613) (j' := 30) rfl rfl rfl rfl (g_tt rfl rfl rfl g13) (T_ldE D (lv := .v _) (nn := 0) (upd := []) rfl rfl rfl rfl rfl (by first | assumption | omega | (simp; omega)) rfl rfl rfl rfl) rfl ?_
     refine k_op0 (d := 52) (b := 629) (j' := 31) rfl rfl rfl rfl (g_tt rfl rfl rfl g13) (T_cmp rfl rfl rfl rfl) rfl ?_
     refine k_op0 (d := 53) (b := 645) (j' := 32) rfl rfl rfl rfl (g_ff rfl rfl rfl rfl) (T_pick_t rfl rfl rfl g13) rfl ?_
     refine q0 54 661 33 rfl rfl (T_pick_f rfl rfl rfl rfl) rfl ?_
     refine k_done rfl ?_
     refine ⟨rfl, ?_⟩
     refine thenK_n ?_
     refine W_cond rfl (fun g14 => ?_) (fun g14 => ?_)
     ·have h14 := c_gtr_t g14
      refine W_seq ?_
      refine W_seqK (b' := 693) rfl rfl ?_
      refine q0 6 677 1 rfl rfl (T_assign rfl rfl) rfl ?_
      refine k_done rfl ?_
      refine thenK_n ?_
      refine W_ret ?_
      refine blockK_r ?_
      refine thenK_r ?_
      refine thenK_r ?_
      refine blockK_r ?_
      refine thenK_r ?_
      exact .mk [] (.inr rfl) (.tmp rfl (.nil)) (by first | rfl | (simp only [resLV, LV.ren, LV.v.injEq, Value.bool.injEq]; exact rone_no (i := i) (by omega) (by assumption) (clash_t (by omega))) | (simp only [resLV, LV.ren, LV.v.injEq, Value.bool.injEq]; exact rone_yes (fun a ha => hI.2 a (by omega)))) (.nil) rfl
     ·have h14 := c_gtr_f g14
      refine W_skip ?_
      refine blockK_n ?_
      refine thenK_n ?_
      refine W_seqK (b' := 725) rfl rfl ?_
      refine q0 15 677 1 rfl rfl (T_move rfl rfl) rfl ?_
      refine q0 16 693 2 rfl rfl (T_add64 rfl rfl rfl (by first | assumption | omega | (simp; omega))) rfl ?_
      refine q0 8 709 3 rfl rfl (T_assign rfl rfl) rfl ?_
      refine k_done rfl ?_
      refine thenK_n ?_
      refine ⟨i + 1, by (try dsimp only); exact ⟨by omega, fun a ha => by rcases Nat.lt_or_ge a i with h | h; exact hI.2 a h; rw [show a = i by omega]; first | (rw [(by assumption : s.getD i default = false)]; rfl) | (rw [clash_f (by omega), Bool.and_false])⟩, by (try dsimp only); omega, ?_⟩
      exact ⟨[(3, 3), (4, 4)], .same rfl rfl (.same rfl rfl (.same rfl rfl (.eq rfl (.eq rfl (.nil) (by first | rfl | simp)) rfl))), .fzE rfl (.fzE rfl (.box (by first | rfl | simp) (.box (by first | rfl | simp) (.nil))) rfl) rfl, rfl⟩
    ·have h13 := c_eql_f g13
     refine k_no (d := 47) (j' := 26) rfl rfl rfl (g_tf rfl rfl rfl g13) ?_
     refine k_no (d := 48) (j' := 27) rfl rfl rfl (g_tf rfl rfl rfl g13) ?_
     refine k_no (d := 49) (j' := 28) rfl rfl rfl (g_tf rfl rfl rfl g13) ?_
     refine k_no (d := 50) (j' := 29) rfl rfl rfl (g_tf rfl rfl rfl g13) ?_
     refine k_no (d := 51) (j' := 30) rfl rfl rfl (g_tf rfl rfl rfl g13) ?_
     refine k_no (d := 52) (j' := 31) rfl rfl rfl (g_tf rfl rfl rfl g13) ?_
     refine k_op0 (d := 53) (b := 645) (j' := 32) rfl rfl rfl rfl (g_ff rfl rfl rfl rfl) (T_pick_f rfl rfl rfl g13) rfl ?_
     refine q0 54 661 33 rfl rfl (T_pick_f rfl rfl rfl rfl) rfl ?_
     refine k_done rfl ?_
     refine ⟨rfl, ?_⟩
     refine thenK_n ?_
     refine W_cond rfl (fun g15 => ?_) (fun g15 => ?_)
     ·exact absurd (g15.symm.trans rfl) (by decide)
     ·skip
      refine W_skip ?_
      refine blockK_n ?_
      refine thenK_n ?_
      refine W_seqK (b' := 725) rfl rfl ?_
      refine q0 15 677 1 rfl rfl (T_move rfl rfl) rfl ?_
      refine q0 16 693 2 rfl rfl (T_add64 rfl rfl rfl (by first | assumption | omega | (simp; omega))) rfl ?_
      refine q0 8 709 3 rfl rfl (T_assign rfl rfl) rfl ?_
      refine k_done rfl ?_
      refine thenK_n ?_
      refine ⟨i + 1, by (try dsimp only); exact ⟨by omega, fun a ha => by rcases Nat.lt_or_ge a i with h | h; exact hI.2 a h; rw [show a = i by omega]; first | (rw [(by assumption : s.getD i default = false)]; rfl) | (rw [clash_f (by omega), Bool.and_false])⟩, by (try dsimp only); omega, ?_⟩
      exact ⟨[(3, 3), (4, 4)], .same rfl rfl (.same rfl rfl (.same rfl rfl (.eq rfl (.eq rfl (.nil) (by first | rfl | simp)) rfl))), .fzE rfl (.fzE rfl (.box (by first | rfl | simp) (.box (by first | rfl | simp) (.nil))) rfl) rfl, rfl⟩
 ·have h1 := c_lss_f g1
  refine W_exit ?_
  refine thenK_e ?_
  refine thenK_e ?_
  refine blockK_hit ?_
  refine thenK_n ?_
  refine W_seq ?_
  refine W_seqK (b' := 85) rfl rfl ?_
  refine q0 6 69 1 rfl rfl (T_assign rfl rfl) rfl ?_
  refine k_done rfl ?_
  refine thenK_n ?_
  refine W_ret ?_
  exact .mk [] (.inr rfl) (.tmp rfl (.nil)) (by first | rfl | (simp only [resLV, LV.ren, LV.v.injEq, Value.bool.injEq]; exact rone_no (i := i) (by omega) (by assumption) (clash_t (by omega))) | (simp only [resLV, LV.ren, LV.v.injEq, Value.bool.injEq]; exact rone_yes (fun a ha => hI.2 a (by omega)))) (.nil) rfl
theorem body79 : (Try.prog.funcs[79]?).map (fun fn => (fn.name == "runtime.NumGoroutine" || fn.body.isNone)) = some false := by kernel_rfl
theorem sizef_spec (f : GFn) (hf : FnOk f) (hs : ∀ j, sumLen ((insOf f).take j) ≤ 4000000000000000000) : Spec Try.prog 79 [.agg [.v (.int .i64 f.regs), .r 1]] 2 [(1, .fz 5 (f.blocks.map eBlock))] (.v (.int .i64 ((f.blocks.length : Int) + (sumLen (insOf f) : Int)))) 2 [] := by
 have hf1 := hf.1
 refine spec_of D (fn := Try.f79) rfl rfl (Nat.le_of_ble_eq_true rfl) ?_
 refine W_seq ?_
 refine W_seqK (b' := 34) rfl rfl ?_
 refine q1 1 2 1 rfl rfl (T_box rfl rfl flat_agg) rfl ?_
 refine q0 2 18 2 rfl rfl (T_assign rfl rfl) rfl ?_
 refine k_done rfl ?_
 refine thenK_n ?_
 refine W_seq ?_
 refine W_seqK (b' := 98) rfl rfl ?_
 refine q0 5 34 1 rfl rfl (T_fa D (m := 1) rfl rfl rfl rfl rfl rfl) rfl ?_
 refine q0 6 50 2 rfl rfl (T_load_b D rfl rfl rfl rfl rfl rfl) rfl ?_
 refine q0 7 66 3 rfl rfl (T_len D rfl rfl rfl rfl rfl rfl) rfl ?_
 refine q0 3 82 4 rfl rfl (T_assign rfl rfl) rfl ?_
 refine k_done rfl ?_
 refine thenK_n ?_
 refine W_seq ?_
 refine W_seq ?_
 refine W_seqK (b' := 114) rfl rfl ?_
 refine q0 4 98 1 rfl rfl (T_assign rfl rfl) rfl ?_
 refine k_done rfl ?_
 refine thenK_n ?_
 refine W_block ?_
 refine W_loop (ι := Nat) 3 (fun j => ⟨[(1, .p 2 0), (3, .v (.int .i64 ((f.blocks.length : Int) + (sumLen ((insOf f).take j) : Int)))), (4, .v (.int .i64 (j : Int)))], [(1, .fz 5 (f.blocks.map eBlock)), (2, .box 29 [.v (.int .i64 f.regs), .r 1])]⟩) (fun j => j ≤ f.blocks.length) (fun j => f.blocks.length - j) (0) (by exact Nat.zero_le _) ?_ (fun j hJ => ?_)
 ·exact ⟨[(2, 2)], .same rfl rfl (.eq rfl (.eq rfl (.nil) (by first | rfl | (simp [sumLen]; done))) (by first | rfl | (simp [sumLen]; done))), .fzE rfl (.box (by first | rfl | (simp [sumLen]; done)) (.nil)) (by first | rfl | (simp [sumLen]; done)), rfl⟩
 have hq := fun h : j < f.blocks.length => insOf_take_len h
 have hs1 := hs (j + 1)
 have hs2 := hs j
 refine W_seq ?_
 refine W_seq ?_
 refine W_seqK (b' := 83) rfl rfl ?_
 refine q0 8 3 1 rfl rfl (T_move rfl rfl) rfl ?_
 refine q0 9 19 2 rfl rfl (T_fa D (m := 1) rfl rfl rfl rfl rfl rfl) rfl ?_
 refine q0 10 35 3 rfl rfl (T_load_b D rfl rfl rfl rfl rfl rfl) rfl ?_
 refine q0 11 51 4 rfl rfl (T_len D rfl rfl rfl rfl rfl rfl) rfl ?_
 refine q0 12 67 5 rfl rfl (T_cmp rfl rfl rfl rfl) rfl ?_
 refine k_done rfl ?_
 refine thenK_n ?_
 refine W_cond rfl (fun g1 => ?_) (fun g1 => ?_)
 ·have h1 := c_lss_t g1
  refine W_skip ?_
  refine thenK_n ?_
  refine W_seq ?_
  refine W_block ?_
  refine W_seqK (b' := 243) rfl rfl ?_
  refine q0 15 83 1 rfl rfl (T_move rfl rfl) rfl ?_
  refine q0 16 99 2 rfl rfl (T_fa D (m := 1) rfl rfl rfl rfl rfl rfl) rfl ?_
  refine q0 17 115 3 rfl rfl (T_load_b D rfl rfl rfl rfl rfl rfl) rfl ?_
  refine q0 18 131 4 rfl rfl (T_move rfl rfl) rfl ?_
  first | refine q0 19 147 5 rfl rfl (T_indexAddr D rfl rfl rfl rfl rfl rfl rfl rfl (by first | assumption | omega | (have k := hq (by omega); omega))) rfl ?_ | refine q0 19 147 5 rfl rfl (T_indexAddrZ D rfl rfl rfl rfl rfl rfl rfl rfl (by first | assumption | omega | (have k := hq (by omega); omega)) (by first | assumption | omega | (have k := hq (by omega); omega))) rfl ?_
  refine q0 20 163 6 rfl rfl (T_fae D (m := 0) rfl rfl rfl rfl rfl rfl) rfl ?_
  refine q1 21 179 7 rfl rfl (T_ldE D (lv := .r 179) (nn := 1) (upd := [(179, .fz 8 _)]) rfl rfl rfl rfl rfl (by first | assumption | omega | (have k := hq (by omega); omega)) rfl rfl rfl rfl) rfl ?_
  refine q0 22 195 8 rfl rfl (T_len D rfl rfl rfl rfl rfl rfl) rfl ?_
  refine q0 23 211 9 rfl rfl (T_add64 rfl rfl rfl (by first | assumption | omega | (have k := hq (by omega); omega))) rfl ?_
  refine q0 3 227 10 rfl rfl (T_assign rfl rfl) rfl ?_
  refine k_done rfl ?_
  refine blockK_n ?_
  refine thenK_n ?_
  refine W_seqK (b' := 291) rfl rfl ?_
  refine q0 13 243 1 rfl rfl (T_move rfl rfl) rfl ?_
  refine q0 14 259 2 rfl rfl (T_add64 rfl rfl rfl (by first | assumption | omega | (have k := hq (by omega); omega))) rfl ?_
  refine q0 4 275 3 rfl rfl (T_assign rfl rfl) rfl ?_
  refine k_done rfl ?_
  refine thenK_n ?_
  refine ⟨j + 1, by (try dsimp only); omega, by (try dsimp only); omega, ?_⟩
  exact ⟨[(2, 2)], .same rfl rfl (.eq rfl (.eq rfl (.nil) (by first | rfl | (have k := hq (by omega); have e : (f.blocks.length : Int) + (sumLen ((insOf f).take (j + 1)) : Int) = (f.blocks.length : Int) + (sumLen ((insOf f).take j) : Int) + ((f.blocks.getD j default).ins.length : Int) := (by omega); rw [e]; first | done | rfl))) (by first | rfl | (have k := hq (by omega); have e : (f.blocks.length : Int) + (sumLen ((insOf f).take (j + 1)) : Int) = (f.blocks.length : Int) + (sumLen ((insOf f).take j) : Int) + ((f.blocks.getD j default).ins.length : Int) := (by omega); rw [e]; first | done | rfl))), .fzE rfl (.box (by first | rfl | (have k := hq (by omega); have e : (f.blocks.length : Int) + (sumLen ((insOf f).take (j + 1)) : Int) = (f.blocks.length : Int) + (sumLen ((insOf f).take j) : Int) + ((f.blocks.getD j default).ins.length : Int) := (by omega); rw [e]; first | done | rfl)) (.nil)) rfl, rfl⟩
 ·have h1 := c_lss_f g1
  refine W_exit ?_
  refine thenK_e ?_
  refine thenK_e ?_
  refine blockK_hit ?_
  refine thenK_n ?_
  refine W_seq ?_
  refine W_seqK (b' := 115) rfl rfl ?_
  refine q0 24 83 1 rfl rfl (T_move rfl rfl) rfl ?_
  refine q0 2 99 2 rfl rfl (T_assign rfl rfl) rfl ?_
  refine k_done rfl ?_
  refine thenK_n ?_
  refine W_ret ?_
  exact .mk [] (.inr rfl) (.tmp rfl (.nil)) (by first | rfl | (have e : j = f.blocks.length := (by omega); subst e; rw [List.take_of_length_le (by simp [insOf])]; first | done | rfl)) (.nil) rfl
end Lg
end Go.Proofs.Ytpfhmodjjljpjaa

namespace Go.Proofs.Ytpfhmodjjljpjaa
open Go.RowKit
namespace Lg
set_option linter.unusedSimpArgs false
set_option linter.unusedVariables false
theorem W_fz {i e sz : Nat} {rows : List (List Cell)} {ro : Option Nat} {P : Program} {N n b : Nat} {st : St} {K : Exit → Nat → St → Prop} {c : Code} (hob : st.o.lookup i = some (.row e sz rows))
    (h : W ro P N n c b ⟨st.s, (i, .fz sz rows) :: st.o⟩ K) : W ro P N n c b st K := by
  intro w0 M Q a w hn hq hr
  obtain ⟨M', h1, h2, h3⟩ := hr.via
  obtain ⟨ρ, own, fr, hh, hd⟩ := h2
  exact h w0 M Q a w hn hq (h3 _ _ _ _ ⟨ρ, thaw own i, fr, hh.freeze hob, hd⟩)
theorem places_len {ps : List Int} {regs k : Int} (h : placesP ps regs k = true) : (ps.length : Int) = regs := by
  unfold placesP at h
  rw [Bool.and_eq_true] at h
  exact of_decide_eq_true h.1
theorem sum28 {f : GFn} (hf : FnOk f) (h : (f.blocks.length : Int) ≤ 12) (j : Nat) : sumLen ((insOf f).take j) ≤ 4000000000000000000 := by
  have h1 : ∀ (j : Nat), j ≤ f.blocks.length → sumLen ((insOf f).take j) ≤ j * 140737488351232 := by
    intro j
    induction j with
    | zero => intro _; simp [sumLen]
    | succ j ih =>
      intro hj
      have := insOf_take_len (f := f) (j := j) (by omega)
      have h3 := hf.2 _ (getD_mem (by omega : j < f.blocks.length))
      have := ih (by omega)
      omega
  rcases Nat.lt_or_ge f.blocks.length j with hj | hj
  · rw [List.take_of_length_le (by simp [insOf]; omega)]
    have h2 := h1 f.blocks.length (Nat.le_refl _)
    rw [List.take_of_length_le (by simp [insOf])] at h2
    omega
  · have := h1 j hj; omega
end Lg
end Go.Proofs.Ytpfhmodjjljpjaa

namespace Go.Proofs.Ytpfhmodjjljpjaa
open Go.RowKit
namespace Lg
set_option maxRecDepth 100000
set_option linter.unusedVariables false
set_option linter.unusedSimpArgs false
theorem body41 : (Try.prog.funcs[41]?).map (fun fn => (fn.name == "runtime.NumGoroutine" || fn.body.isNone)) = some false := by kernel_rfl
theorem small28_spec (f : GFn) (hf : FnOk f) : Spec Try.prog 41 [.agg [.v (.int .i64 f.regs), .r 1]] 2 [(1, .fz 5 (f.blocks.map eBlock))] (.v (.bool (small28 f))) 2 [] := by
 have hf1 := hf.1
 refine spec_of D (fn := Try.f41) rfl rfl (Nat.le_of_ble_eq_true rfl) ?_
 refine W_seq ?_
 refine W_seqK (b' := 34) rfl rfl ?_
 refine q1 1 2 1 rfl rfl (T_box rfl rfl flat_agg) rfl ?_
 refine q0 2 18 2 rfl rfl (T_assign rfl rfl) rfl ?_
 refine k_done rfl ?_
 refine thenK_n ?_
 refine W_seq ?_
 refine W_seqK (b' := 338) rfl rfl ?_
 refine q0 3 34 1 rfl rfl (T_fa D (m := 1) rfl rfl rfl rfl rfl rfl) rfl ?_
 refine q0 4 50 2 rfl rfl (T_load_b D rfl rfl rfl rfl rfl rfl) rfl ?_
 refine q0 5 66 3 rfl rfl (T_len D rfl rfl rfl rfl rfl rfl) rfl ?_
 refine q0 6 82 4 rfl rfl (T_cmp rfl rfl rfl rfl) rfl ?_
 refine q0 7 98 5 rfl rfl (T_move rfl rfl) rfl ?_
 refine k_split (d := 7) rfl (fun g1 => ?_) (fun g1 => ?_)
 ·have h1 := c_leq_t g1
  refine k_op0 (d := 8) (b := 114) (j' := 6) rfl rfl rfl rfl (g_tt rfl rfl rfl g1) (T_fa D (m := 0) rfl rfl rfl rfl rfl rfl) rfl ?_
  refine k_op0 (d := 9) (b := 130) (j' := 7) rfl rfl rfl rfl (g_tt rfl rfl rfl g1) (T_load_b D rfl rfl rfl rfl rfl rfl) rfl ?_
  refine k_op0 (d := 10) (b := 146) (j' := 8) rfl rfl rfl rfl (g_tt rfl rfl rfl g1) (T_cmp rfl rfl rfl rfl) rfl ?_
  refine q0 11 162 9 rfl rfl (T_pick_t rfl rfl rfl g1) rfl ?_
  refine q0 12 178 10 rfl rfl (T_move rfl rfl) rfl ?_
  refine k_split (d := 12) rfl (fun g2 => ?_) (fun g2 => ?_)
  ·have h2 := c_leq_t g2
   refine k_op0 (d := 13) (b := 194) (j' := 11) rfl rfl rfl rfl (g_tt rfl rfl rfl g2) (T_load_bA D (l := [_, _]) rfl rfl rfl rfl rfl rfl rfl) rfl ?_
   refine k_op0 (d := 14) (b := 210) (j' := 12) rfl rfl rfl rfl (g_tt rfl rfl rfl g2) (T_callV (lvs := [_]) (L := [(1, 1)]) (sizef_spec f hf (sum28 hf (by omega))) body79 rfl rfl rfl rfl (.fz rfl (.nil)) rfl) rfl ?_
   refine k_op0 (d := 15) (b := 226) (j' := 13) rfl rfl rfl rfl (g_tt rfl rfl rfl g2) (T_cmp rfl rfl rfl rfl) rfl ?_
   refine q0 16 242 14 rfl rfl (T_pick_t rfl rfl rfl g2) rfl ?_
   refine q0 17 258 15 rfl rfl (T_move rfl rfl) rfl ?_
   refine k_split (d := 17) rfl (fun g3 => ?_) (fun g3 => ?_)
   ·have h3 := c_leq_t g3
    refine k_op0 (d := 18) (b := 274) (j' := 16) rfl rfl rfl rfl (g_tt rfl rfl rfl g3) (T_load_bA D (l := [_, _]) rfl rfl rfl rfl rfl rfl rfl) rfl ?_
    refine k_op0 (d := 19) (b := 290) (j' := 17) rfl rfl rfl rfl (g_tt rfl rfl rfl g3) (T_callV (lvs := [_, _, _]) (L := [(1, 1)]) (one_fn_spec f 64 2000 hf (by omega)) body47 rfl rfl rfl rfl (.fz rfl (.nil)) rfl) rfl ?_
    refine q0 20 306 18 rfl rfl (T_pick_t rfl rfl rfl g3) rfl ?_
    refine q0 2 322 19 rfl rfl (T_assign rfl rfl) rfl ?_
    refine k_done rfl ?_
    refine thenK_n ?_
    refine W_ret ?_
    exact .mk [] (.inr rfl) (.tmp rfl (.nil)) (by first | rfl | (simp only [resLV, LV.ren, LV.v.injEq, Value.bool.injEq]; exact small28_no (by omega)) | (simp only [resLV, LV.ren, LV.v.injEq, Value.bool.injEq]; exact small28_eq (by omega) (by omega) (by omega))) (.nil) rfl
   ·have h3 := c_leq_f g3
    refine k_no (d := 18) (j' := 16) rfl rfl rfl (g_tf rfl rfl rfl g3) ?_
    refine k_no (d := 19) (j' := 17) rfl rfl rfl (g_tf rfl rfl rfl g3) ?_
    refine q0 20 306 18 rfl rfl (T_pick_f rfl rfl rfl g3) rfl ?_
    refine q0 2 322 19 rfl rfl (T_assign rfl rfl) rfl ?_
    refine k_done rfl ?_
    refine thenK_n ?_
    refine W_ret ?_
    exact .mk [] (.inr rfl) (.tmp rfl (.nil)) (by first | rfl | (simp only [resLV, LV.ren, LV.v.injEq, Value.bool.injEq]; exact small28_no (by omega)) | (simp only [resLV, LV.ren, LV.v.injEq, Value.bool.injEq]; exact small28_eq (by omega) (by omega) (by omega))) (.nil) rfl
  ·have h2 := c_leq_f g2
   refine k_no (d := 13) (j' := 11) rfl rfl rfl (g_tf rfl rfl rfl g2) ?_
   refine k_no (d := 14) (j' := 12) rfl rfl rfl (g_tf rfl rfl rfl g2) ?_
   refine k_no (d := 15) (j' := 13) rfl rfl rfl (g_tf rfl rfl rfl g2) ?_
   refine q0 16 242 14 rfl rfl (T_pick_f rfl rfl rfl g2) rfl ?_
   refine q0 17 258 15 rfl rfl (T_move rfl rfl) rfl ?_
   refine k_no (d := 18) (j' := 16) rfl rfl rfl (g_tf rfl rfl rfl rfl) ?_
   refine k_no (d := 19) (j' := 17) rfl rfl rfl (g_tf rfl rfl rfl rfl) ?_
   refine q0 20 306 18 rfl rfl (T_pick_f rfl rfl rfl rfl) rfl ?_
   refine q0 2 322 19 rfl rfl (T_assign rfl rfl) rfl ?_
   refine k_done rfl ?_
   refine thenK_n ?_
   refine W_ret ?_
   exact .mk [] (.inr rfl) (.tmp rfl (.nil)) (by first | rfl | (simp only [resLV, LV.ren, LV.v.injEq, Value.bool.injEq]; exact small28_no (by omega)) | (simp only [resLV, LV.ren, LV.v.injEq, Value.bool.injEq]; exact small28_eq (by omega) (by omega) (by omega))) (.nil) rfl
 ·have h1 := c_leq_f g1
  refine k_no (d := 8) (j' := 6) rfl rfl rfl (g_tf rfl rfl rfl g1) ?_
  refine k_no (d := 9) (j' := 7) rfl rfl rfl (g_tf rfl rfl rfl g1) ?_
  refine k_no (d := 10) (j' := 8) rfl rfl rfl (g_tf rfl rfl rfl g1) ?_
  refine q0 11 162 9 rfl rfl (T_pick_f rfl rfl rfl g1) rfl ?_
  refine q0 12 178 10 rfl rfl (T_move rfl rfl) rfl ?_
  refine k_no (d := 13) (j' := 11) rfl rfl rfl (g_tf rfl rfl rfl rfl) ?_
  refine k_no (d := 14) (j' := 12) rfl rfl rfl (g_tf rfl rfl rfl rfl) ?_
  refine k_no (d := 15) (j' := 13) rfl rfl rfl (g_tf rfl rfl rfl rfl) ?_
  refine q0 16 242 14 rfl rfl (T_pick_f rfl rfl rfl rfl) rfl ?_
  refine q0 17 258 15 rfl rfl (T_move rfl rfl) rfl ?_
  refine k_no (d := 18) (j' := 16) rfl rfl rfl (g_tf rfl rfl rfl rfl) ?_
  refine k_no (d := 19) (j' := 17) rfl rfl rfl (g_tf rfl rfl rfl rfl) ?_
  refine q0 20 306 18 rfl rfl (T_pick_f rfl rfl rfl rfl) rfl ?_
  refine q0 2 322 19 rfl rfl (T_assign rfl rfl) rfl ?_
  refine k_done rfl ?_
  refine thenK_n ?_
  refine W_ret ?_
  exact .mk [] (.inr rfl) (.tmp rfl (.nil)) (by first | rfl | (simp only [resLV, LV.ren, LV.v.injEq, Value.bool.injEq]; exact small28_no (by omega)) | (simp only [resLV, LV.ren, LV.v.injEq, Value.bool.injEq]; exact small28_eq (by omega) (by omega) (by omega))) (.nil) rfl
theorem body63 : (Try.prog.funcs[63]?).map (fun fn => (fn.name == "runtime.NumGoroutine" || fn.body.isNone)) = some false := by kernel_rfl
theorem every_spec (f : GFn) (hF : LF f) : Spec Try.prog 63 [.agg [.v (.int .i64 f.regs), .r 1]] 2 [(1, .fz 5 (f.blocks.map eBlock))] (.agg [.r 2, .r 3]) 4 [(2, .row 48 1 ((evL f).map eBs)), (3, .row 48 1 ((evL f).map eBs))] := by
 have hFr := hF.regs
 have hFl := hF.len
 refine spec_of D (fn := Try.f63) rfl rfl (Nat.le_of_ble_eq_true rfl) ?_
 refine W_seq ?_
 refine W_seqK (b' := 34) rfl rfl ?_
 refine q1 1 2 1 rfl rfl (T_box rfl rfl flat_agg) rfl ?_
 refine qn 2 18 2 rfl rfl (T_nilbox [(48, 1), (48, 1)] (T_alloc D rfl rfl rfl) rfl (.cons (.nil rfl) <| .cons (.nil rfl) <| .nil) (upd' := [(18, .box 57 [.r 19, .r 20]), (19, .row 48 1 (List.map eBs ([] : List (List Bool)))), (20, .row 48 1 (List.map eBs ([] : List (List Bool))))]) (nn' := 3) rfl rfl) rfl ?_
 refine k_done rfl ?_
 refine thenK_n ?_
 refine W_seq ?_
 refine W_seqK (b' := 50) rfl rfl ?_
 refine qn 3 34 1 rfl rfl (T_nilbox [(48, 1), (48, 1)] (T_alloc D rfl rfl rfl) rfl (.cons (.nil rfl) <| .cons (.nil rfl) <| .nil) (upd' := [(34, .box 57 [.r 35, .r 36]), (35, .row 48 1 (List.map eBs ([] : List (List Bool)))), (36, .row 48 1 (List.map eBs ([] : List (List Bool))))]) (nn' := 3) rfl rfl) rfl ?_
 refine k_done rfl ?_
 refine thenK_n ?_
 refine W_seq ?_
 refine W_seq ?_
 refine W_seqK (b' := 66) rfl rfl ?_
 refine q0 4 50 1 rfl rfl (T_assign rfl rfl) rfl ?_
 refine k_done rfl ?_
 refine thenK_n ?_
 refine W_block ?_
 refine W_loop (ι := Nat) 9 (fun j => ⟨[(1, .p 2 0), (2, .p 3 0), (3, .p 6 0), (4, .v (.int .i64 (j : Int)))], [(1, .fz 5 (f.blocks.map eBlock)), (2, .box 29 [.v (.int .i64 f.regs), .r 1]), (3, .box 57 [.r 4, .r 5]), (4, .row 48 1 (([] : List (List Bool)).map eBs)), (5, .row 48 1 (([] : List (List Bool)).map eBs)), (6, .box 57 [.r 7, .r 8]), (7, .row 48 1 ((List.replicate j (List.replicate f.regs.toNat true)).map eBs)), (8, .row 48 1 ((List.replicate j (List.replicate f.regs.toNat true)).map eBs))]⟩) (fun j => j ≤ f.blocks.length) (fun j => f.blocks.length - j) (0) (by exact Nat.zero_le _) ?_ (fun j hJ => ?_)
 ·exact ⟨[(2, 2), (3, 18), (4, 19), (5, 20), (6, 34), (7, 35), (8, 36)], .same rfl rfl (.same rfl rfl (.same rfl rfl (.eq rfl (.nil) (by first | rfl | simp)))), .fzE rfl (.box (by first | rfl | simp) (.box (by first | rfl | simp) (.rowE rfl (.rowE rfl (.box (by first | rfl | simp) (.rowE rfl (.rowE rfl (.nil) (by first | rfl | simp)) (by first | rfl | simp))) (by first | rfl | simp)) (by first | rfl | simp)))) (by first | rfl | simp), rfl⟩
 refine W_seq ?_
 refine W_seq ?_
 refine W_seqK (b' := 89) rfl rfl ?_
 refine q0 7 9 1 rfl rfl (T_move rfl rfl) rfl ?_
 refine q0 8 25 2 rfl rfl (T_fa D (m := 1) rfl rfl rfl rfl rfl rfl) rfl ?_
 refine q0 9 41 3 rfl rfl (T_load_b D rfl rfl rfl rfl rfl rfl) rfl ?_
 refine q0 10 57 4 rfl rfl (T_len D rfl rfl rfl rfl rfl rfl) rfl ?_
 refine q0 11 73 5 rfl rfl (T_cmp rfl rfl rfl rfl) rfl ?_
 refine k_done rfl ?_
 refine thenK_n ?_
 refine W_cond rfl (fun g1 => ?_) (fun g1 => ?_)
 ·have h1 := c_lss_t g1
  refine W_skip ?_
  refine thenK_n ?_
  refine W_seq ?_
  refine W_block ?_
  refine W_seq ?_
  refine W_seqK (b' := 105) rfl rfl ?_
  refine q1 5 89 1 rfl rfl (T_nils [(4, 1)] (T_assign rfl rfl) rfl (.inr ⟨rfl, rfl⟩) (.cons (.nil rfl) .nil) (lv' := .r 89) (upd' := [(89, .row 4 1 (List.map eB ([] : List (Bool))))]) (nn' := 1) rfl rfl) rfl ?_
  refine k_done rfl ?_
  refine thenK_n ?_
  refine W_seq ?_
  refine W_seq ?_
  refine W_seqK (b' := 121) rfl rfl ?_
  refine q0 6 105 1 rfl rfl (T_assign rfl rfl) rfl ?_
  refine k_done rfl ?_
  refine thenK_n ?_
  refine W_block ?_
  refine W_loop (ι := Nat) 10 (fun r => ⟨[(1, .p 2 0), (2, .p 3 0), (3, .p 6 0), (4, .v (.int .i64 (j : Int))), (5, .r 9), (6, .v (.int .i64 (r : Int)))], [(1, .fz 5 (f.blocks.map eBlock)), (2, .box 29 [.v (.int .i64 f.regs), .r 1]), (3, .box 57 [.r 4, .r 5]), (4, .row 48 1 (([] : List (List Bool)).map eBs)), (5, .row 48 1 (([] : List (List Bool)).map eBs)), (6, .box 57 [.r 7, .r 8]), (7, .row 48 1 ((List.replicate j (List.replicate f.regs.toNat true)).map eBs)), (8, .row 48 1 ((List.replicate j (List.replicate f.regs.toNat true)).map eBs)), (9, .row 4 1 ((List.replicate r true).map eB))]⟩) (fun r => r ≤ f.regs.toNat) (fun r => f.regs.toNat - r) (0) (by exact Nat.zero_le _) ?_ (fun r hR => ?_)
  ·exact ⟨[(2, 2), (3, 3), (4, 4), (5, 5), (6, 6), (7, 7), (8, 8), (9, 89)], .same rfl rfl (.same rfl rfl (.same rfl rfl (.eq rfl (.same rfl rfl (.eq rfl (.nil) (by first | rfl | simp))) (by first | rfl | simp)))), .fzE rfl (.box (by first | rfl | simp) (.box (by first | rfl | simp) (.rowE rfl (.rowE rfl (.box (by first | rfl | simp) (.rowE rfl (.rowE rfl (.rowE rfl (.nil) (by first | rfl | simp)) (by first | rfl | simp)) (by first | rfl | simp))) (by first | rfl | simp)) (by first | rfl | simp)))) (by first | rfl | simp), rfl⟩
  refine W_seq ?_
  refine W_seq ?_
  refine W_seqK (b' := 74) rfl rfl ?_
  refine q0 14 10 1 rfl rfl (T_move rfl rfl) rfl ?_
  refine q0 15 26 2 rfl rfl (T_fa D (m := 0) rfl rfl rfl rfl rfl rfl) rfl ?_
  refine q0 16 42 3 rfl rfl (T_load_b D rfl rfl rfl rfl rfl rfl) rfl ?_
  refine q0 17 58 4 rfl rfl (T_cmp rfl rfl rfl rfl) rfl ?_
  refine k_done rfl ?_
  refine thenK_n ?_
  refine W_cond rfl (fun g2 => ?_) (fun g2 => ?_)
  ·have h2 := c_lss_t g2
   refine W_skip ?_
   refine thenK_n ?_
   refine W_seq ?_
   refine W_block ?_
   refine W_seqK (b' := 138) rfl rfl ?_
   refine q0 20 74 1 rfl rfl (T_move rfl rfl) rfl ?_
   refine q1 21 90 2 rfl rfl (T_bs D (ys := [_]) (enc := eB) (l := [_]) rfl rfl rfl rfl rfl rfl (.cons rfl (flat_v rfl) (.nil)) rfl rfl rfl rfl (.v rfl (.nil)) rfl rfl) rfl ?_
   refine qn 22 106 3 rfl rfl (T_append D rfl rfl rfl rfl rfl rfl rfl rfl rfl rfl rfl rfl (by (try simp only [ty4]); first | assumption | omega | (simp; omega)) (by (try simp only [ty4]); first | assumption | omega | (simp; omega))) rfl ?_
   refine q0 5 122 4 rfl rfl (T_assign rfl rfl) rfl ?_
   refine k_done rfl ?_
   refine blockK_n ?_
   refine thenK_n ?_
   refine W_seqK (b' := 186) rfl rfl ?_
   refine q0 18 138 1 rfl rfl (T_move rfl rfl) rfl ?_
   refine q0 19 154 2 rfl rfl (T_add64 rfl rfl rfl (by first | assumption | omega | (simp; omega))) rfl ?_
   refine q0 6 170 3 rfl rfl (T_assign rfl rfl) rfl ?_
   refine k_done rfl ?_
   refine thenK_n ?_
   refine ⟨r + 1, by (try dsimp only); omega, by (try dsimp only); omega, ?_⟩
   exact ⟨[(2, 2), (3, 3), (4, 4), (5, 5), (6, 6), (7, 7), (8, 8), (9, 106)], .same rfl rfl (.same rfl rfl (.same rfl rfl (.eq rfl (.same rfl rfl (.eq rfl (.nil) (by first | rfl | (rw [List.replicate_succ']; first | done | rfl | (simp; done))))) rfl))), .fzE rfl (.box (by first | rfl | (rw [List.replicate_succ']; first | done | rfl | (simp; done))) (.box (by first | rfl | (rw [List.replicate_succ']; first | done | rfl | (simp; done))) (.rowE rfl (.rowE rfl (.box (by first | rfl | (rw [List.replicate_succ']; first | done | rfl | (simp; done))) (.rowE rfl (.rowE rfl (.rowE rfl (.nil) (by first | rfl | (rw [List.replicate_succ']; first | done | rfl | (simp; done)))) (by first | rfl | (rw [List.replicate_succ']; first | done | rfl | (simp; done)))) (by first | rfl | (rw [List.replicate_succ']; first | done | rfl | (simp; done))))) (by first | rfl | (rw [List.replicate_succ']; first | done | rfl | (simp; done)))) (by first | rfl | (rw [List.replicate_succ']; first | done | rfl | (simp; done)))))) rfl, rfl⟩
  ·have h2 := c_lss_f g2
   refine W_exit ?_
   refine thenK_e ?_
   refine thenK_e ?_
   refine blockK_hit ?_
   refine thenK_n ?_
   refine W_fz (i := 9) rfl ?_
   refine W_anyK (b' := 298) rfl rfl rfl ?_
   refine q0 23 74 1 rfl rfl (T_fa D (m := 0) rfl rfl rfl rfl rfl rfl) rfl ?_
   refine q0 24 90 2 rfl rfl (T_load_b D rfl rfl rfl rfl rfl rfl) rfl ?_
   refine q0 25 106 3 rfl rfl (T_move rfl rfl) rfl ?_
   refine q1 26 122 4 rfl rfl (T_bs D (ys := [_]) (enc := eBs) (l := [_]) rfl rfl rfl rfl rfl rfl (.cons rfl (flat_sl rfl) (.nil)) rfl rfl rfl rfl (.fz rfl (.nil)) rfl rfl) rfl ?_
   refine qn 27 138 5 rfl rfl (T_append D rfl rfl rfl rfl rfl rfl rfl rfl rfl rfl rfl rfl (by (try simp only [ty48]); first | assumption | omega | (simp; omega)) (by (try simp only [ty48]); first | assumption | omega | (simp; omega))) rfl ?_
   refine q0 28 154 6 rfl rfl (T_fa D (m := 1) rfl rfl rfl rfl rfl rfl) rfl ?_
   refine q0 29 170 7 rfl rfl (T_load_b D rfl rfl rfl rfl rfl rfl) rfl ?_
   refine q0 30 186 8 rfl rfl (T_move rfl rfl) rfl ?_
   refine q1 31 202 9 rfl rfl (T_bs D (ys := [_]) (enc := eBs) (l := [_]) rfl rfl rfl rfl rfl rfl (.cons rfl (flat_sl rfl) (.nil)) rfl rfl rfl rfl (.fz rfl (.nil)) rfl rfl) rfl ?_
   refine qn 32 218 10 rfl rfl (T_append D rfl rfl rfl rfl rfl rfl rfl rfl rfl rfl rfl rfl (by (try simp only [ty48]); first | assumption | omega | (simp; omega)) (by (try simp only [ty48]); first | assumption | omega | (simp; omega))) rfl ?_
   refine q0 33 234 11 rfl rfl (T_fa D (m := 0) rfl rfl rfl rfl rfl rfl) rfl ?_
   refine s1 250 12 rfl rfl (T_stB D (cs' := [_, _]) rfl rfl rfl rfl (flat_sl rfl) rfl rfl (Nat.le_of_ble_eq_true rfl) rfl) rfl ?_
   refine q0 34 266 13 rfl rfl (T_fa D (m := 1) rfl rfl rfl rfl rfl rfl) rfl ?_
   refine s1 282 14 rfl rfl (T_stB D (cs' := [_, _]) rfl rfl rfl rfl (flat_sl rfl) rfl rfl (Nat.le_of_ble_eq_true rfl) rfl) rfl ?_
   refine k_done rfl ?_
   refine ⟨rfl, ?_⟩
   refine blockK_n ?_
   refine thenK_n ?_
   refine W_seqK (b' := 346) rfl rfl ?_
   refine q0 12 298 1 rfl rfl (T_move rfl rfl) rfl ?_
   refine q0 13 314 2 rfl rfl (T_add64 rfl rfl rfl (by first | assumption | omega | (simp; omega))) rfl ?_
   refine q0 4 330 3 rfl rfl (T_assign rfl rfl) rfl ?_
   refine k_done rfl ?_
   refine thenK_n ?_
   refine ⟨j + 1, by (try dsimp only); omega, by (try dsimp only); omega, ?_⟩
   exact ⟨[(2, 2), (3, 3), (4, 4), (5, 5), (6, 6), (7, 138), (8, 218)], .same rfl rfl (.same rfl rfl (.same rfl rfl (.eq rfl (.nil) (by first | rfl | (have er : r = f.regs.toNat := (by omega); subst er; rw [List.replicate_succ']; first | done | rfl | (simp; done)))))), .fzE rfl (.box (by first | rfl | (have er : r = f.regs.toNat := (by omega); subst er; rw [List.replicate_succ']; first | done | rfl | (simp; done))) (.box (by first | rfl | (have er : r = f.regs.toNat := (by omega); subst er; rw [List.replicate_succ']; first | done | rfl | (simp; done))) (.rowE rfl (.rowE rfl (.box (by first | rfl | (have er : r = f.regs.toNat := (by omega); subst er; rw [List.replicate_succ']; first | done | rfl | (simp; done))) (.rowE rfl (.rowE rfl (.nil) (by first | rfl | (have er : r = f.regs.toNat := (by omega); subst er; rw [List.replicate_succ']; first | done | rfl | (simp; done)))) (by first | rfl | (have er : r = f.regs.toNat := (by omega); subst er; rw [List.replicate_succ']; first | done | rfl | (simp; done))))) (by first | rfl | (have er : r = f.regs.toNat := (by omega); subst er; rw [List.replicate_succ']; first | done | rfl | (simp; done)))) (by first | rfl | (have er : r = f.regs.toNat := (by omega); subst er; rw [List.replicate_succ']; first | done | rfl | (simp; done)))))) rfl, rfl⟩
 ·have h1 := c_lss_f g1
  refine W_exit ?_
  refine thenK_e ?_
  refine thenK_e ?_
  refine blockK_hit ?_
  refine thenK_n ?_
  refine W_seq ?_
  refine W_seqK (b' := 121) rfl rfl ?_
  refine q0 35 89 1 rfl rfl (T_load_bA D (l := [_, _]) rfl rfl rfl rfl rfl rfl rfl) rfl ?_
  refine s1 105 2 rfl rfl (T_stB D (cs' := [_, _]) rfl rfl rfl rfl flat_agg rfl rfl (Nat.le_of_ble_eq_true rfl) rfl) rfl ?_
  refine k_done rfl ?_
  refine thenK_n ?_
  refine W_ret ?_
  exact .mk [(2, 7), (3, 8)] (.inr rfl) (.cellA rfl rfl rfl rfl rfl (.nil)) (by first | rfl | (have ej : j = f.blocks.length := (by omega); subst ej; first | done | rfl)) (.rowE rfl (.rowE rfl (.nil) (by first | rfl | (have ej : j = f.blocks.length := (by omega); subst ej; first | done | rfl))) (by first | rfl | (have ej : j = f.blocks.length := (by omega); subst ej; first | done | rfl))) rfl
theorem body64 : (Try.prog.funcs[64]?).map (fun fn => (fn.name == "runtime.NumGoroutine" || fn.body.isNone)) = some false := by kernel_rfl
theorem rcheck28_spec (f : GFn) (li lo : List (List Bool)) (ps : List Int) (k : Int) (hF : LF f) (hb1 : li.length ≤ 1000000000000000) (hb2 : lo.length ≤ 1000000000000000) (hb : 0 < f.blocks.length) (hp : ps.length ≤ 1000000000) : Spec Try.prog 64 [.agg [.v (.int .i64 f.regs), .r 1], .agg [.r 2, .r 3], .agg [.r 4], .v (.int .i64 k)] 5 [(1, .fz 5 (f.blocks.map eBlock)), (2, .fz 1 (li.map eBs)), (3, .fz 1 (lo.map eBs)), (4, .fz 1 (ps.map eI))] (.v (.bool (rcheckP f li lo ps k))) 5 [] := by
 refine spec_of D (fn := Try.f64) rfl rfl (Nat.le_of_ble_eq_true rfl) ?_
 refine W_seq ?_
 refine W_seqK (b' := 69) rfl rfl ?_
 refine q1 4 5 1 rfl rfl (T_box rfl rfl flat_agg) rfl ?_
 refine q1 5 21 2 rfl rfl (T_box rfl rfl flat_agg) rfl ?_
 refine q1 6 37 3 rfl rfl (T_box rfl rfl flat_agg) rfl ?_
 refine q0 8 53 4 rfl rfl (T_assign rfl rfl) rfl ?_
 refine k_done rfl ?_
 refine thenK_n ?_
 refine W_seq ?_
 refine W_seq ?_
 refine W_anyK (b' := 405) rfl rfl rfl ?_
 refine q0 12 69 1 rfl rfl (T_load_bA D (l := [_, _]) rfl rfl rfl rfl rfl rfl rfl) rfl ?_
 refine q0 13 85 2 rfl rfl (T_load_bA D (l := [_, _]) rfl rfl rfl rfl rfl rfl rfl) rfl ?_
 refine q0 14 101 3 rfl rfl (T_callV (lvs := [_, _]) (L := [(1, 1), (2, 2), (3, 3)]) (rlcheck_spec f li lo hF hb1 hb2) body52 rfl rfl rfl rfl (.fz rfl (.fz rfl (.fz rfl (.nil)))) rfl) rfl ?_
 refine q0 15 117 4 rfl rfl (T_not rfl rfl) rfl ?_
 refine q0 16 133 5 rfl rfl (T_move rfl rfl) rfl ?_
 refine k_split (d := 16) rfl (fun g1 => ?_) (fun g1 => ?_)
 ·have h1 := g1; (try simp only [cmpB, decide_eq_true_eq, decide_eq_false_iff_not, beq_iff_eq, beq_eq_false_iff_ne, bne_iff_ne, ne_eq, bne_eq_false_iff_eq, Bool.not_eq_true', Bool.not_eq_false', Int.not_lt, Int.not_le] at h1)
  refine k_no (d := 17) (j' := 6) rfl rfl rfl (g_ft rfl rfl rfl g1) ?_
  refine k_no (d := 18) (j' := 7) rfl rfl rfl (g_ft rfl rfl rfl g1) ?_
  refine k_no (d := 19) (j' := 8) rfl rfl rfl (g_ft rfl rfl rfl g1) ?_
  refine k_no (d := 20) (j' := 9) rfl rfl rfl (g_ft rfl rfl rfl g1) ?_
  refine k_no (d := 21) (j' := 10) rfl rfl rfl (g_ft rfl rfl rfl g1) ?_
  refine k_no (d := 22) (j' := 11) rfl rfl rfl (g_ft rfl rfl rfl g1) ?_
  refine q0 23 245 12 rfl rfl (T_pick_t rfl rfl rfl g1) rfl ?_
  refine q0 24 261 13 rfl rfl (T_move rfl rfl) rfl ?_
  refine k_no (d := 25) (j' := 14) rfl rfl rfl (g_ft rfl rfl rfl rfl) ?_
  refine k_no (d := 26) (j' := 15) rfl rfl rfl (g_ft rfl rfl rfl rfl) ?_
  refine k_no (d := 27) (j' := 16) rfl rfl rfl (g_ft rfl rfl rfl rfl) ?_
  refine k_no (d := 28) (j' := 17) rfl rfl rfl (g_ft rfl rfl rfl rfl) ?_
  refine k_no (d := 29) (j' := 18) rfl rfl rfl (g_ft rfl rfl rfl rfl) ?_
  refine k_no (d := 30) (j' := 19) rfl rfl rfl (g_ft rfl rfl rfl rfl) ?_
  refine k_no (d := 31) (j' := 20) rfl rfl rfl (g_ft rfl rfl rfl rfl) ?_
  refine q0 32 389 21 rfl rfl (T_pick_t rfl rfl rfl rfl) rfl ?_
  refine k_done rfl ?_
  refine ⟨rfl, ?_⟩
  refine thenK_n ?_
  refine W_cond rfl (fun g2 => ?_) (fun g2 => ?_)
  ·skip
   refine W_seq ?_
   refine W_seqK (b' := 421) rfl rfl ?_
   refine q0 8 405 1 rfl rfl (T_assign rfl rfl) rfl ?_
   refine k_done rfl ?_
   refine thenK_n ?_
   refine W_ret ?_
   refine thenK_r ?_
   exact .mk [] (.inr rfl) (.tmp rfl (.nil)) (by first | rfl | (simp only [resLV, LV.ren, LV.v.injEq, Value.bool.injEq]; exact rck_no1 (by assumption)) | (simp only [resLV, LV.ren, LV.v.injEq, Value.bool.injEq]; exact rck_no2 (by assumption)) | (simp only [resLV, LV.ren, LV.v.injEq, Value.bool.injEq]; exact rck_no3 (by assumption)) | (simp only [resLV, LV.ren, LV.v.injEq, Value.bool.injEq]; exact rck_no4 (b := j) (i := m) (by omega) (by omega) (by assumption)) | (simp only [resLV, LV.ren, LV.v.injEq, Value.bool.injEq]; exact rck_yes (by assumption) (by assumption) (by assumption) (fun i h => hJ.2 i (by omega)))) (.nil) rfl
  ·exact absurd (g2.symm.trans rfl) (by decide)
 ·have h1 := g1; (try simp only [cmpB, decide_eq_true_eq, decide_eq_false_iff_not, beq_iff_eq, beq_eq_false_iff_ne, bne_iff_ne, ne_eq, bne_eq_false_iff_eq, Bool.not_eq_true', Bool.not_eq_false', Int.not_lt, Int.not_le] at h1)
  refine k_op0 (d := 17) (b := 149) (j' := 6) rfl rfl rfl rfl (g_ff rfl rfl rfl g1) (T_load_bA D (l := [_]) rfl rfl rfl rfl rfl rfl rfl) rfl ?_
  refine k_op0 (d := 18) (b := 165) (j' := 7) rfl rfl rfl rfl (g_ff rfl rfl rfl g1) (T_fa D (m := 0) rfl rfl rfl rfl rfl rfl) rfl ?_
  refine k_op0 (d := 19) (b := 181) (j' := 8) rfl rfl rfl rfl (g_ff rfl rfl rfl g1) (T_load_b D rfl rfl rfl rfl rfl rfl) rfl ?_
  refine k_op0 (d := 20) (b := 197) (j' := 9) rfl rfl rfl rfl (g_ff rfl rfl rfl g1) (T_move rfl rfl) rfl ?_
  refine k_op0 (d := 21) (b := 213) (j' := 10) rfl rfl rfl rfl (g_ff rfl rfl rfl g1) (T_callV (lvs := [_, _, _]) (L := [(1, 4)]) (places_spec ps f.regs k hp) body108 rfl rfl rfl rfl (.fz rfl (.nil)) rfl) rfl ?_
  refine k_op0 (d := 22) (b := 229) (j' := 11) rfl rfl rfl rfl (g_ff rfl rfl rfl g1) (T_not rfl rfl) rfl ?_
  refine q0 23 245 12 rfl rfl (T_pick_f rfl rfl rfl g1) rfl ?_
  refine q0 24 261 13 rfl rfl (T_move rfl rfl) rfl ?_
  refine k_split (d := 24) rfl (fun g3 => ?_) (fun g3 => ?_)
  ·have h3 := g3; (try simp only [cmpB, decide_eq_true_eq, decide_eq_false_iff_not, beq_iff_eq, beq_eq_false_iff_ne, bne_iff_ne, ne_eq, bne_eq_false_iff_eq, Bool.not_eq_true', Bool.not_eq_false', Int.not_lt, Int.not_le] at h3)
   refine k_no (d := 25) (j' := 14) rfl rfl rfl (g_ft rfl rfl rfl g3) ?_
   refine k_no (d := 26) (j' := 15) rfl rfl rfl (g_ft rfl rfl rfl g3) ?_
   refine k_no (d := 27) (j' := 16) rfl rfl rfl (g_ft rfl rfl rfl g3) ?_
   refine k_no (d := 28) (j' := 17) rfl rfl rfl (g_ft rfl rfl rfl g3) ?_
   refine k_no (d := 29) (j' := 18) rfl rfl rfl (g_ft rfl rfl rfl g3) ?_
   refine k_no (d := 30) (j' := 19) rfl rfl rfl (g_ft rfl rfl rfl g3) ?_
   refine k_no (d := 31) (j' := 20) rfl rfl rfl (g_ft rfl rfl rfl g3) ?_
   refine q0 32 389 21 rfl rfl (T_pick_t rfl rfl rfl g3) rfl ?_
   refine k_done rfl ?_
   refine ⟨rfl, ?_⟩
   refine thenK_n ?_
   refine W_cond rfl (fun g4 => ?_) (fun g4 => ?_)
   ·skip
    refine W_seq ?_
    refine W_seqK (b' := 421) rfl rfl ?_
    refine q0 8 405 1 rfl rfl (T_assign rfl rfl) rfl ?_
    refine k_done rfl ?_
    refine thenK_n ?_
    refine W_ret ?_
    refine thenK_r ?_
    exact .mk [] (.inr rfl) (.tmp rfl (.nil)) (by first | rfl | (simp only [resLV, LV.ren, LV.v.injEq, Value.bool.injEq]; exact rck_no1 (by assumption)) | (simp only [resLV, LV.ren, LV.v.injEq, Value.bool.injEq]; exact rck_no2 (by assumption)) | (simp only [resLV, LV.ren, LV.v.injEq, Value.bool.injEq]; exact rck_no3 (by assumption)) | (simp only [resLV, LV.ren, LV.v.injEq, Value.bool.injEq]; exact rck_no4 (b := j) (i := m) (by omega) (by omega) (by assumption)) | (simp only [resLV, LV.ren, LV.v.injEq, Value.bool.injEq]; exact rck_yes (by assumption) (by assumption) (by assumption) (fun i h => hJ.2 i (by omega)))) (.nil) rfl
   ·exact absurd (g4.symm.trans rfl) (by decide)
  ·have h3 := g3; (try simp only [cmpB, decide_eq_true_eq, decide_eq_false_iff_not, beq_iff_eq, beq_eq_false_iff_ne, bne_iff_ne, ne_eq, bne_eq_false_iff_eq, Bool.not_eq_true', Bool.not_eq_false', Int.not_lt, Int.not_le] at h3)
   refine k_op0 (d := 25) (b := 277) (j' := 14) rfl rfl rfl rfl (g_ff rfl rfl rfl g3) (T_load_bA D (l := [_]) rfl rfl rfl rfl rfl rfl rfl) rfl ?_
   refine k_op0 (d := 26) (b := 293) (j' := 15) rfl rfl rfl rfl (g_ff rfl rfl rfl g3) (T_fa D (m := 0) rfl rfl rfl rfl rfl rfl) rfl ?_
   refine k_op0 (d := 27) (b := 309) (j' := 16) rfl rfl rfl rfl (g_ff rfl rfl rfl g3) (T_load_b D rfl rfl rfl rfl rfl rfl) rfl ?_
   first | refine k_op0 (d := 28) (b := 325) (j' := 17) rfl rfl rfl rfl (g_ff rfl rfl rfl g3) (T_indexAddr D rfl rfl rfl rfl rfl rfl rfl rfl (by first | assumption | omega | (have q := hbd (by omega); omega) | (have q := (closed_iff (by assumption : checkL f li lo = true)).1.len; omega) | (simp; omega))) rfl ?_ | refine k_op0 (d := 28) (b := 325) (j' := 17) rfl rfl rfl rfl (g_ff rfl rfl rfl g3) (T_indexAddrZ D rfl rfl rfl rfl rfl rfl rfl rfl (by first | assumption | omega | (have q := hbd (by omega); omega) | (have q := (closed_iff (by assumption : checkL f li lo = true)).1.len; omega) | (simp; omega)) (by first | assumption | omega | (have q := hbd (by omega); omega) | (have q := (closed_iff (by assumption : checkL f li lo = true)).1.len; omega) | (simp; omega))) rfl ?_
   refine k_op1 (d := 29) (b := 341) (j' := 18) rfl rfl rfl rfl (g_ff rfl rfl rfl g3) (T_ldE D (lv := .r 341) (nn := 1) (upd := [(341, .fz 1 _)]) rfl rfl rfl rfl rfl (by first | assumption | omega | (have q := hbd (by omega); omega) | (have q := (closed_iff (by assumption : checkL f li lo = true)).1.len; omega) | (simp; omega)) rfl rfl rfl rfl) rfl ?_
   refine k_op0 (d := 30) (b := 357) (j' := 19) rfl rfl rfl rfl (g_ff rfl rfl rfl g3) (T_callV (lvs := [_, _]) (L := [(1, 4), (2, 341)]) (apart_spec ps (li.getD 0 default) (by have q := (closed_iff (by assumption : checkL f li lo = true)).1.at (k := 0) hb; have q2 := places_len (by assumption : placesP ps f.regs k = true); have q3 := hF.regs; omega) hp) body109 rfl rfl rfl rfl (.fz rfl (.fz rfl (.nil))) rfl) rfl ?_
   refine k_op0 (d := 31) (b := 373) (j' := 20) rfl rfl rfl rfl (g_ff rfl rfl rfl g3) (T_not rfl rfl) rfl ?_
   refine q0 32 389 21 rfl rfl (T_pick_f rfl rfl rfl g3) rfl ?_
   refine k_done rfl ?_
   refine ⟨rfl, ?_⟩
   refine thenK_n ?_
   refine W_cond rfl (fun g5 => ?_) (fun g5 => ?_)
   ·have h5 := g5; (try simp only [cmpB, decide_eq_true_eq, decide_eq_false_iff_not, beq_iff_eq, beq_eq_false_iff_ne, bne_iff_ne, ne_eq, bne_eq_false_iff_eq, Bool.not_eq_true', Bool.not_eq_false', Int.not_lt, Int.not_le] at h5)
    refine W_seq ?_
    refine W_seqK (b' := 421) rfl rfl ?_
    refine q0 8 405 1 rfl rfl (T_assign rfl rfl) rfl ?_
    refine k_done rfl ?_
    refine thenK_n ?_
    refine W_ret ?_
    refine thenK_r ?_
    exact .mk [] (.inr rfl) (.tmp rfl (.nil)) (by first | rfl | (simp only [resLV, LV.ren, LV.v.injEq, Value.bool.injEq]; exact rck_no1 (by assumption)) | (simp only [resLV, LV.ren, LV.v.injEq, Value.bool.injEq]; exact rck_no2 (by assumption)) | (simp only [resLV, LV.ren, LV.v.injEq, Value.bool.injEq]; exact rck_no3 (by assumption)) | (simp only [resLV, LV.ren, LV.v.injEq, Value.bool.injEq]; exact rck_no4 (b := j) (i := m) (by omega) (by omega) (by assumption)) | (simp only [resLV, LV.ren, LV.v.injEq, Value.bool.injEq]; exact rck_yes (by assumption) (by assumption) (by assumption) (fun i h => hJ.2 i (by omega)))) (.nil) rfl
   ·have h5 := g5; (try simp only [cmpB, decide_eq_true_eq, decide_eq_false_iff_not, beq_iff_eq, beq_eq_false_iff_ne, bne_iff_ne, ne_eq, bne_eq_false_iff_eq, Bool.not_eq_true', Bool.not_eq_false', Int.not_lt, Int.not_le] at h5)
    refine W_skip ?_
    refine thenK_n ?_
    refine W_seq ?_
    refine W_seq ?_
    refine W_seqK (b' := 421) rfl rfl ?_
    refine q0 9 405 1 rfl rfl (T_assign rfl rfl) rfl ?_
    refine k_done rfl ?_
    refine thenK_n ?_
    refine W_block ?_
    have hC := closed_iff (by assumption : checkL f li lo = true)
    have hSo := hC.2.1
    have hFr := hF.regs
    have hFl := hF.len
    have hpl := places_len (by assumption : placesP ps f.regs k = true)
    refine W_loop (ι := Nat) 8 (fun j => ⟨[(4, .p 5 0), (5, .p 6 0), (6, .p 7 0), (9, .v (.int .i64 (j : Int)))], [(1, .fz 5 (f.blocks.map eBlock)), (2, .fz 1 (li.map eBs)), (3, .fz 1 (lo.map eBs)), (4, .fz 1 (ps.map eI)), (5, .box 29 [.v (.int .i64 f.regs), .r 1]), (6, .box 57 [.r 2, .r 3]), (7, .box 60 [.r 4])]⟩) (fun j => j ≤ f.blocks.length ∧ ∀ i, i < j → roneB (f.blocks.getD i default) (lo.getD i default) ps = true) (fun j => f.blocks.length - j) (0) (by exact ⟨Nat.zero_le _, fun i h => absurd h (Nat.not_lt_zero _)⟩) ?_ (fun j hJ => ?_)
    ·exact ⟨[(5, 5), (6, 21), (7, 37)], .same rfl rfl (.same rfl rfl (.same rfl rfl (.eq rfl (.nil) (by first | rfl | simp)))), .fzE rfl (.fzE rfl (.fzE rfl (.fzE rfl (.box (by first | rfl | simp) (.box (by first | rfl | simp) (.box (by first | rfl | simp) (.nil)))) (by first | rfl | simp)) (by first | rfl | simp)) (by first | rfl | simp)) (by first | rfl | simp), rfl⟩
    refine W_seq ?_
    refine W_seq ?_
    refine W_seqK (b' := 88) rfl rfl ?_
    refine q0 33 8 1 rfl rfl (T_move rfl rfl) rfl ?_
    refine q0 34 24 2 rfl rfl (T_fa D (m := 1) rfl rfl rfl rfl rfl rfl) rfl ?_
    refine q0 35 40 3 rfl rfl (T_load_b D rfl rfl rfl rfl rfl rfl) rfl ?_
    refine q0 36 56 4 rfl rfl (T_len D rfl rfl rfl rfl rfl rfl) rfl ?_
    refine q0 37 72 5 rfl rfl (T_cmp rfl rfl rfl rfl) rfl ?_
    refine k_done rfl ?_
    refine thenK_n ?_
    refine W_cond rfl (fun g6 => ?_) (fun g6 => ?_)
    ·have h6 := c_lss_t g6
     refine W_skip ?_
     refine thenK_n ?_
     refine W_seq ?_
     refine W_block ?_
     refine W_seq ?_
     refine W_seqK (b' := 168) rfl rfl ?_
     refine q0 40 88 1 rfl rfl (T_load_bA D (l := [_, _]) rfl rfl rfl rfl rfl rfl rfl) rfl ?_
     refine q0 41 104 2 rfl rfl (T_load_bA D (l := [_, _]) rfl rfl rfl rfl rfl rfl rfl) rfl ?_
     refine q0 42 120 3 rfl rfl (T_move rfl rfl) rfl ?_
     refine q1 43 136 4 rfl rfl (T_call (lvs := [_, _, _]) (L := [(1, 1), (2, 2), (3, 3)]) (lv := .r 136) (upd := [(136, .fz 1 _)]) (nn := 1) false (rbeh_spec f li lo (j : Int) hF ⟨by omega, by omega⟩ hSo) body59 rfl rfl rfl rfl (.fz rfl (.fz rfl (.fz rfl (.nil)))) rfl (.inl rfl) rfl rfl rfl) rfl ?_
     refine q0 10 152 5 rfl rfl (T_assign rfl rfl) rfl ?_
     refine k_done rfl ?_
     refine thenK_n ?_
     refine W_seq ?_
     refine W_seqK (b' := 184) rfl rfl ?_
     refine q0 11 168 1 rfl rfl (T_assign rfl rfl) rfl ?_
     refine k_done rfl ?_
     refine thenK_n ?_
     refine W_block ?_
     have hjb : j < f.blocks.length := by omega
     have hins := hF.ins _ (getD_mem hjb)
     have hoj := hSo.at hjb
     have hbl := behL_len (f.blocks.getD j default) (lo.getD j default)
     refine W_loop (ι := Nat) 9 (fun m => ⟨[(4, .p 5 0), (5, .p 6 0), (6, .p 7 0), (9, .v (.int .i64 (j : Int))), (10, .r 8), (11, .v (.int .i64 (m : Int)))], [(1, .fz 5 (f.blocks.map eBlock)), (2, .fz 1 (li.map eBs)), (3, .fz 1 (lo.map eBs)), (4, .fz 1 (ps.map eI)), (5, .box 29 [.v (.int .i64 f.regs), .r 1]), (6, .box 57 [.r 2, .r 3]), (7, .box 60 [.r 4]), (8, .fz 1 ((behL (f.blocks.getD j default) (lo.getD j default)).map eBs))]⟩) (fun m => m ≤ (f.blocks.getD j default).ins.length ∧ ∀ q, q < m → rone ((f.blocks.getD j default).ins.getD q default) ps ((behL (f.blocks.getD j default) (lo.getD j default)).getD q default) = true) (fun m => (f.blocks.getD j default).ins.length - m) (0) (by exact ⟨Nat.zero_le _, fun i h => absurd h (Nat.not_lt_zero _)⟩) ?_ (fun m hM => ?_)
     ·exact ⟨[(5, 5), (6, 6), (7, 7), (8, 136)], .same rfl rfl (.same rfl rfl (.same rfl rfl (.eq rfl (.same rfl rfl (.eq rfl (.nil) (by first | rfl | simp))) (by first | rfl | simp)))), .fzE rfl (.fzE rfl (.fzE rfl (.fzE rfl (.box (by first | rfl | simp) (.box (by first | rfl | simp) (.box (by first | rfl | simp) (.fzE rfl (.nil) (by first | rfl | simp))))) (by first | rfl | simp)) (by first | rfl | simp)) (by first | rfl | simp)) (by first | rfl | simp), rfl⟩
     have hbd : m < (f.blocks.getD j default).ins.length → ((behL (f.blocks.getD j default) (lo.getD j default)).getD m default).length = f.regs.toNat := fun h => by rw [behL_getD _ _ h, thrK_len]; exact hoj
     have hdd : m < (f.blocks.getD j default).ins.length → 0 ≤ setsT ((f.blocks.getD j default).ins.getD m default) → setsT ((f.blocks.getD j default).ins.getD m default) < (ps.length : Int) := fun h h0 => by have q := ((hF.ok _ (getD_mem hjb)).1 _ (getD_mem h)).1 h0; omega
     refine W_seq ?_
     refine W_seq ?_
     refine W_seqK (b' := 153) rfl rfl ?_
     refine q0 44 9 1 rfl rfl (T_move rfl rfl) rfl ?_
     refine q0 45 25 2 rfl rfl (T_fa D (m := 1) rfl rfl rfl rfl rfl rfl) rfl ?_
     refine q0 46 41 3 rfl rfl (T_load_b D rfl rfl rfl rfl rfl rfl) rfl ?_
     refine q0 47 57 4 rfl rfl (T_move rfl rfl) rfl ?_
     first | refine q0 48 73 5 rfl rfl (T_indexAddr D rfl rfl rfl rfl rfl rfl rfl rfl (by first | assumption | omega | (have q := hbd (by omega); omega) | (have q := (closed_iff (by assumption : checkL f li lo = true)).1.len; omega) | (simp; omega))) rfl ?_ | refine q0 48 73 5 rfl rfl (T_indexAddrZ D rfl rfl rfl rfl rfl rfl rfl rfl (by first | assumption | omega | (have q := hbd (by omega); omega) | (have q := (closed_iff (by assumption : checkL f li lo = true)).1.len; omega) | (simp; omega)) (by first | assumption | omega | (have q := hbd (by omega); omega) | (have q := (closed_iff (by assumption : checkL f li lo = true)).1.len; omega) | (simp; omega))) rfl ?_
     refine q0 49 89 6 rfl rfl (T_fae D (m := 0) rfl rfl rfl rfl rfl rfl) rfl ?_
     refine q1 50 105 7 rfl rfl (T_ldE D (lv := .r 105) (nn := 1) (upd := [(105, .fz 8 _)]) rfl rfl rfl rfl rfl (by first | assumption | omega | (have q := hbd (by omega); omega) | (have q := (closed_iff (by assumption : checkL f li lo = true)).1.len; omega) | (simp; omega)) rfl rfl rfl rfl) rfl ?_
     refine q0 51 121 8 rfl rfl (T_len D rfl rfl rfl rfl rfl rfl) rfl ?_
     refine q0 52 137 9 rfl rfl (T_cmp rfl rfl rfl rfl) rfl ?_
     refine k_done rfl ?_
     refine thenK_n ?_
     refine W_cond rfl (fun g7 => ?_) (fun g7 => ?_)
     ·have h7 := c_lss_t g7
      refine W_skip ?_
      refine thenK_n ?_
      refine W_seq ?_
      refine W_block ?_
      refine W_seq ?_
      refine W_anyK (b' := 409) rfl rfl rfl ?_
      refine q0 55 153 1 rfl rfl (T_fa D (m := 1) rfl rfl rfl rfl rfl rfl) rfl ?_
      refine q0 56 169 2 rfl rfl (T_load_b D rfl rfl rfl rfl rfl rfl) rfl ?_
      refine q0 57 185 3 rfl rfl (T_move rfl rfl) rfl ?_
      first | refine q0 58 201 4 rfl rfl (T_indexAddr D rfl rfl rfl rfl rfl rfl rfl rfl (by first | assumption | omega | (have q := hbd (by omega); omega) | (have q := (closed_iff (by assumption : checkL f li lo = true)).1.len; omega) | (simp; omega))) rfl ?_ | refine q0 58 201 4 rfl rfl (T_indexAddrZ D rfl rfl rfl rfl rfl rfl rfl rfl (by first | assumption | omega | (have q := hbd (by omega); omega) | (have q := (closed_iff (by assumption : checkL f li lo = true)).1.len; omega) | (simp; omega)) (by first | assumption | omega | (have q := hbd (by omega); omega) | (have q := (closed_iff (by assumption : checkL f li lo = true)).1.len; omega) | (simp; omega))) rfl ?_
      refine q0 59 217 5 rfl rfl (T_fae D (m := 0) rfl rfl rfl rfl rfl rfl) rfl ?_
      refine q1 60 233 6 rfl rfl (T_ldE D (lv := .r 233) (nn := 1) (upd := [(233, .fz 8 _)]) rfl rfl rfl rfl rfl (by first | assumption | omega | (have q := hbd (by omega); omega) | (have q := (closed_iff (by assumption : checkL f li lo = true)).1.len; omega) | (simp; omega)) rfl rfl rfl rfl) rfl ?_
      refine q0 61 249 7 rfl rfl (T_move rfl rfl) rfl ?_
      first | refine q0 62 265 8 rfl rfl (T_indexAddr D rfl rfl rfl rfl rfl rfl rfl rfl (by first | assumption | omega | (have q := hbd (by omega); omega) | (have q := (closed_iff (by assumption : checkL f li lo = true)).1.len; omega) | (simp; omega))) rfl ?_ | refine q0 62 265 8 rfl rfl (T_indexAddrZ D rfl rfl rfl rfl rfl rfl rfl rfl (by first | assumption | omega | (have q := hbd (by omega); omega) | (have q := (closed_iff (by assumption : checkL f li lo = true)).1.len; omega) | (simp; omega)) (by first | assumption | omega | (have q := hbd (by omega); omega) | (have q := (closed_iff (by assumption : checkL f li lo = true)).1.len; omega) | (simp; omega))) rfl ?_
      refine q0 63 281 9 rfl rfl (T_ldEA D (l := [.v _, .v _, .v _, .v _, .v _, .v _, .v _, .v _]) (nn := 0) (upd := []) rfl rfl rfl rfl rfl (by first | assumption | omega | (have q := hbd (by omega); omega) | (have q := (closed_iff (by assumption : checkL f li lo = true)).1.len; omega) | (simp; omega)) rfl rfl rfl rfl rfl) rfl ?_
      refine q0 64 297 10 rfl rfl (T_load_bA D (l := [_]) rfl rfl rfl rfl rfl rfl rfl) rfl ?_
      refine q0 65 313 11 rfl rfl (T_move rfl rfl) rfl ?_
      refine q0 66 329 12 rfl rfl (T_move rfl rfl) rfl ?_
      first | refine q0 67 345 13 rfl rfl (T_indexAddr D rfl rfl rfl rfl rfl rfl rfl rfl (by first | assumption | omega | (have q := hbd (by omega); omega) | (have q := (closed_iff (by assumption : checkL f li lo = true)).1.len; omega) | (simp; omega))) rfl ?_ | refine q0 67 345 13 rfl rfl (T_indexAddrZ D rfl rfl rfl rfl rfl rfl rfl rfl (by first | assumption | omega | (have q := hbd (by omega); omega) | (have q := (closed_iff (by assumption : checkL f li lo = true)).1.len; omega) | (simp; omega)) (by first | assumption | omega | (have q := hbd (by omega); omega) | (have q := (closed_iff (by assumption : checkL f li lo = true)).1.len; omega) | (simp; omega))) rfl ?_
      refine q1 68 361 14 rfl rfl (T_ldE D (lv := .r 361) (nn := 1) (upd := [(361, .fz 1 _)]) rfl rfl rfl rfl rfl (by first | assumption | omega | (have q := hbd (by omega); omega) | (have q := (closed_iff (by assumption : checkL f li lo = true)).1.len; omega) | (simp; omega)) rfl rfl rfl rfl) rfl ?_
      refine q0 69 377 15 rfl rfl (T_callV (lvs := [_, _, _]) (L := [(1, 4), (2, 361)]) (rone_spec ((f.blocks.getD j default).ins.getD m default) ps ((behL (f.blocks.getD j default) (lo.getD j default)).getD m default) (by have q := hbd (by omega); omega) hp (hdd (by omega))) body110 rfl rfl rfl rfl (.fz rfl (.fz rfl (.nil))) rfl) rfl ?_
      refine q0 70 393 16 rfl rfl (T_not rfl rfl) rfl ?_
      refine k_done rfl ?_
      refine ⟨rfl, ?_⟩
      refine thenK_n ?_
      refine W_cond rfl (fun g8 => ?_) (fun g8 => ?_)
      ·have h8 := g8; (try simp only [cmpB, decide_eq_true_eq, decide_eq_false_iff_not, beq_iff_eq, beq_eq_false_iff_ne, bne_iff_ne, ne_eq, bne_eq_false_iff_eq, Bool.not_eq_true', Bool.not_eq_false', Int.not_lt, Int.not_le] at h8)
       refine W_seq ?_
       refine W_seqK (b' := 425) rfl rfl ?_
       refine q0 8 409 1 rfl rfl (T_assign rfl rfl) rfl ?_
       refine k_done rfl ?_
       refine thenK_n ?_
       refine W_ret ?_
       refine blockK_r ?_
       refine thenK_r ?_
       refine thenK_r ?_
       refine blockK_r ?_
       refine blockK_r ?_
       refine thenK_r ?_
       refine thenK_r ?_
       refine blockK_r ?_
       refine thenK_r ?_
       exact .mk [] (.inr rfl) (.tmp rfl (.nil)) (by first | rfl | (simp only [resLV, LV.ren, LV.v.injEq, Value.bool.injEq]; exact rck_no1 (by assumption)) | (simp only [resLV, LV.ren, LV.v.injEq, Value.bool.injEq]; exact rck_no2 (by assumption)) | (simp only [resLV, LV.ren, LV.v.injEq, Value.bool.injEq]; exact rck_no3 (by assumption)) | (simp only [resLV, LV.ren, LV.v.injEq, Value.bool.injEq]; exact rck_no4 (b := j) (i := m) (by omega) (by omega) (by assumption)) | (simp only [resLV, LV.ren, LV.v.injEq, Value.bool.injEq]; exact rck_yes (by assumption) (by assumption) (by assumption) (fun i h => hJ.2 i (by omega)))) (.nil) rfl
      ·have h8 := g8; (try simp only [cmpB, decide_eq_true_eq, decide_eq_false_iff_not, beq_iff_eq, beq_eq_false_iff_ne, bne_iff_ne, ne_eq, bne_eq_false_iff_eq, Bool.not_eq_true', Bool.not_eq_false', Int.not_lt, Int.not_le] at h8)
       refine W_skip ?_
       refine blockK_n ?_
       refine thenK_n ?_
       refine W_seqK (b' := 457) rfl rfl ?_
       refine q0 53 409 1 rfl rfl (T_move rfl rfl) rfl ?_
       refine q0 54 425 2 rfl rfl (T_add64 rfl rfl rfl (by first | assumption | omega | (have q := hbd (by omega); omega) | (have q := (closed_iff (by assumption : checkL f li lo = true)).1.len; omega) | (simp; omega))) rfl ?_
       refine q0 11 441 3 rfl rfl (T_assign rfl rfl) rfl ?_
       refine k_done rfl ?_
       refine thenK_n ?_
       refine ⟨m + 1, by (try dsimp only); exact ⟨by omega, fun q hq => by rcases Nat.lt_or_ge q m with h | h; exact hM.2 q h; rw [show q = m by omega]; assumption⟩, by (try dsimp only); omega, ?_⟩
       exact ⟨[(5, 5), (6, 6), (7, 7), (8, 8)], .same rfl rfl (.same rfl rfl (.same rfl rfl (.eq rfl (.same rfl rfl (.eq rfl (.nil) (by first | rfl | simp))) rfl))), .fzE rfl (.fzE rfl (.fzE rfl (.fzE rfl (.box (by first | rfl | simp) (.box (by first | rfl | simp) (.box (by first | rfl | simp) (.fzE rfl (.nil) rfl)))) rfl) rfl) rfl) rfl, rfl⟩
     ·have h7 := c_lss_f g7
      refine W_exit ?_
      refine thenK_e ?_
      refine thenK_e ?_
      refine blockK_hit ?_
      refine blockK_n ?_
      refine thenK_n ?_
      refine W_seqK (b' := 201) rfl rfl ?_
      refine q0 38 153 1 rfl rfl (T_move rfl rfl) rfl ?_
      refine q0 39 169 2 rfl rfl (T_add64 rfl rfl rfl (by first | assumption | omega | (have q := hbd (by omega); omega) | (have q := (closed_iff (by assumption : checkL f li lo = true)).1.len; omega) | (simp; omega))) rfl ?_
      refine q0 9 185 3 rfl rfl (T_assign rfl rfl) rfl ?_
      refine k_done rfl ?_
      refine thenK_n ?_
      refine ⟨j + 1, by (try dsimp only); exact ⟨by omega, fun i hi => by rcases Nat.lt_or_ge i j with h | h; exact hJ.2 i h; rw [show i = j by omega]; exact all_yes (fun q hq => hM.2 q (by omega))⟩, by (try dsimp only); omega, ?_⟩
      exact ⟨[(5, 5), (6, 6), (7, 7)], .same rfl rfl (.same rfl rfl (.same rfl rfl (.eq rfl (.nil) (by first | rfl | simp)))), .fzE rfl (.fzE rfl (.fzE rfl (.fzE rfl (.box (by first | rfl | simp) (.box (by first | rfl | simp) (.box (by first | rfl | simp) (.nil)))) rfl) rfl) rfl) rfl, rfl⟩
    ·have h6 := c_lss_f g6
     refine W_exit ?_
     refine thenK_e ?_
     refine thenK_e ?_
     refine blockK_hit ?_
     refine thenK_n ?_
     refine W_seq ?_
     refine W_seqK (b' := 104) rfl rfl ?_
     refine q0 8 88 1 rfl rfl (T_assign rfl rfl) rfl ?_
     refine k_done rfl ?_
     refine thenK_n ?_
     refine W_ret ?_
     exact .mk [] (.inr rfl) (.tmp rfl (.nil)) (by first | rfl | (simp only [resLV, LV.ren, LV.v.injEq, Value.bool.injEq]; exact rck_no1 (by assumption)) | (simp only [resLV, LV.ren, LV.v.injEq, Value.bool.injEq]; exact rck_no2 (by assumption)) | (simp only [resLV, LV.ren, LV.v.injEq, Value.bool.injEq]; exact rck_no3 (by assumption)) | (simp only [resLV, LV.ren, LV.v.injEq, Value.bool.injEq]; exact rck_no4 (b := j) (i := m) (by omega) (by omega) (by assumption)) | (simp only [resLV, LV.ren, LV.v.injEq, Value.bool.injEq]; exact rck_yes (by assumption) (by assumption) (by assumption) (fun i h => hJ.2 i (by omega)))) (.nil) rfl
end Lg
end Go.Proofs.Ytpfhmodjjljpjaa

namespace Go.Proofs.Ytpfhmodjjljpjaa
open Go.RowKit
namespace Lg
set_option linter.unusedSimpArgs false
set_option linter.unusedVariables false
def regAt (m : List (Int × Int)) (ps : List Int) (r : Int) : Nat → Int
  | 0 => 0
  | j + 1 => if regAt m ps r j = 0 then (if freeB m ps r ((j : Int) + 1) = true then (j : Int) + 1 else 0) else regAt m ps r j
def memAt (m : List (Int × Int)) (ps : List Int) (r : Int) : Nat → Int
  | 0 => 0
  | j + 1 => if memAt m ps r j = 0 then (if freeB m ps r (-1 - (j : Int)) = true then -1 - (j : Int) else 0) else memAt m ps r j
def regOf (c : Cf) (ps : List Int) (k : Int) (r : Nat) : Int := if c.2.getD r default = true then 0 else regAt c.1 ps r k.toNat
def memOf (c : Cf) (ps : List Int) (k : Int) (r : Nat) (j : Nat) : Int := if regOf c ps k r = 0 then memAt c.1 ps r j else regOf c ps k r
def placeOne (c : Cf) (ps : List Int) (k : Int) (r : Nat) : Int := memOf c ps k r (ps.length + 1)
def ofJ (c : Cf) (k : Int) : Nat → List Int
  | 0 => []
  | r + 1 => ofJ c k r ++ [placeOne c (ofJ c k r) k r]
def allocP (f : GFn) (li lo : List (List Bool)) (k : Int) : List Int := ofJ (confl f li lo) k f.regs.toNat
theorem ofJ_len (c : Cf) (k : Int) : ∀ r, (ofJ c k r).length = r
  | 0 => rfl
  | r + 1 => by rw [ofJ, List.length_append, ofJ_len c k r]; rfl
section
variable {m : List (Int × Int)} {ps : List Int} {r k : Int} {c : Cf} {j n : Nat}
theorem regAt_t (h : regAt m ps r j = 0) (h2 : freeB m ps r ((j : Int) + 1) = true) : (j : Int) + 1 = regAt m ps r (j + 1) := by rw [regAt, if_pos h, if_pos h2]
theorem regAt_f (h : regAt m ps r j = 0) (h2 : freeB m ps r ((j : Int) + 1) = false) : regAt m ps r j = regAt m ps r (j + 1) := by rw [regAt, if_pos h, if_neg (by rw [h2]; decide), h]
theorem regAt_stay (h : regAt m ps r j ≠ 0) : ∀ d, regAt m ps r (j + d) = regAt m ps r j
  | 0 => rfl
  | d + 1 => by
    have ih := regAt_stay h d
    rw [← Nat.add_assoc, regAt, ih, if_neg h]
theorem regOf_of {q : Nat} (hj : j = 0 ∨ (j : Int) ≤ k) (hb : 0 < j → c.2.getD q default = false) (h : (j : Int) + 1 > k ∨ ¬ regAt c.1 ps q j = 0 ∨ c.2.getD q default = true) : regAt c.1 ps q j = regOf c ps k q := by
  unfold regOf
  by_cases hc : c.2.getD q default = true
  · rw [if_pos hc]
    rcases Nat.eq_zero_or_pos j with h0 | h0
    · subst h0; rfl
    · rw [hb h0] at hc; cases hc
  · rw [if_neg hc]
    rcases h with h | h | h
    · have : k.toNat = j := by omega
      rw [this]
    · have h0 : 0 < j := by
        rcases Nat.eq_zero_or_pos j with h0 | h0
        · subst h0; exact absurd rfl h
        · exact h0
      have : k.toNat = j + (k.toNat - j) := by omega
      rw [this, regAt_stay h]
    · exact absurd h hc
theorem memAt_stay (h : memAt m ps r j ≠ 0) : ∀ d, memAt m ps r (j + d) = memAt m ps r j
  | 0 => rfl
  | d + 1 => by
    have ih := memAt_stay h d
    rw [← Nat.add_assoc, memAt, ih, if_neg h]
theorem free_out {x : Int} (h : x ∉ ps) : freeB m ps r x = true := (free_yes (fun i hi => by
  rw [decide_eq_false (fun e => h (by rw [← e]; exact getD_mem hi))]; rfl)).symm
theorem all_in_len : ∀ (n : Nat) (l : List Int), (∀ j : Nat, j < n → (-1 - (j : Int)) ∈ l) → n ≤ l.length
  | 0, l, _ => Nat.zero_le _
  | n + 1, l, h => by
    have h1 : (-1 - (n : Int)) ∈ l := h n (by omega)
    have h2 := all_in_len n (l.erase (-1 - (n : Int))) (fun j hj => (List.mem_erase_of_ne (by omega)).2 (h j (by omega)))
    have h3 := List.length_erase_of_mem h1
    have h4 := List.length_pos_of_mem h1
    omega
theorem memAt_hit (h : freeB m ps r (-1 - (j : Int)) = true) : memAt m ps r (j + 1) ≠ 0 := by
  rw [memAt]
  by_cases h0 : memAt m ps r j = 0
  · rw [if_pos h0, if_pos h]; omega
  · rw [if_neg h0]; exact h0
theorem memAt_end (ps : List Int) : memAt m ps r (ps.length + 1) ≠ 0 := by
  by_cases h : ∀ j : Nat, j < ps.length + 1 → (-1 - (j : Int)) ∈ ps
  · have := all_in_len _ ps h; omega
  · obtain ⟨j, hj⟩ := Classical.not_forall.1 h
    obtain ⟨h1, h2⟩ := Classical.not_imp.1 hj
    have h3 := memAt_hit (free_out (m := m) (r := r) h2)
    have h4 := memAt_stay h3 (ps.length - j)
    rw [show j + 1 + (ps.length - j) = ps.length + 1 by omega] at h4
    rw [h4]; exact h3
theorem memOf_end {q : Nat} : memOf c ps k q (ps.length + 1) ≠ 0 := by
  unfold memOf
  split
  · exact memAt_end ps
  · assumption
theorem memOf_zero {q : Nat} : regOf c ps k q = memOf c ps k q 0 := by
  unfold memOf
  split
  · rename_i h; rw [h]; rfl
  · rfl
theorem memOf_lt {q : Nat} (h : memOf c ps k q j = 0) (hj : j ≤ ps.length + 1) : j + 1 ≤ ps.length + 1 := by
  rcases Nat.lt_or_ge j (ps.length + 1) with h1 | h1
  · omega
  · have : j = ps.length + 1 := by omega
    subst this
    exact absurd h memOf_end
theorem memOf_parts {q : Nat} (h : memOf c ps k q j = 0) : regOf c ps k q = 0 ∧ memAt c.1 ps q j = 0 := by
  unfold memOf at h
  split at h
  · exact ⟨by assumption, h⟩
  · exact absurd h (by assumption)
theorem memOf_t {q : Nat} (h : memOf c ps k q j = 0) (h2 : freeB c.1 ps q (-1 - (j : Int)) = true) : -1 - (j : Int) = memOf c ps k q (j + 1) := by
  obtain ⟨h3, h4⟩ := memOf_parts h
  unfold memOf; rw [if_pos h3, memAt, if_pos h4, if_pos h2]
theorem memOf_f {q : Nat} (h : memOf c ps k q j = 0) (h2 : freeB c.1 ps q (-1 - (j : Int)) = false) : memOf c ps k q j = memOf c ps k q (j + 1) := by
  obtain ⟨h3, h4⟩ := memOf_parts h
  rw [h]
  unfold memOf; rw [if_pos h3, memAt, if_pos h4, if_neg (by rw [h2]; decide)]
theorem memOf_fin {q : Nat} (h : ¬ memOf c ps k q j = 0) (hj : j ≤ ps.length + 1) : memOf c ps k q j = placeOne c ps k q := by
  unfold placeOne
  unfold memOf at h ⊢
  split
  · rename_i h1
    rw [if_pos h1] at h
    have := memAt_stay h (ps.length + 1 - j)
    rw [show j + (ps.length + 1 - j) = ps.length + 1 by omega] at this
    exact this.symm
  · rfl
end
end Lg
end Go.Proofs.Ytpfhmodjjljpjaa

namespace Go.Proofs.Ytpfhmodjjljpjaa
open Go.RowKit
namespace Lg
set_option maxRecDepth 100000
set_option linter.unusedVariables false
set_option linter.unusedSimpArgs false
theorem body43 : (Try.prog.funcs[43]?).map (fun fn => (fn.name == "runtime.NumGoroutine" || fn.body.isNone)) = some false := by kernel_rfl
theorem allocOf_spec (f : GFn) (li lo : List (List Bool)) (k : Int) (hF : LF f) (hi : SzL f li) (ho : SzL f lo) (hb : 0 < f.blocks.length) (hk : k ≤ 1000000) : Spec Try.prog 43 [.agg [.v (.int .i64 f.regs), .r 1], .agg [.r 2, .r 3], .v (.int .i64 k)] 4 [(1, .fz 5 (f.blocks.map eBlock)), (2, .fz 1 (li.map eBs)), (3, .fz 1 (lo.map eBs))] (.agg [.r 4]) 5 [(4, .row 3 1 ((allocP f li lo k).map eI))] := by
 have hFr := hF.regs
 have hcl : (confl f li lo).2.length = f.regs.toNat := ofC_len f li lo _
 refine spec_of D (fn := Try.f43) rfl rfl (Nat.le_of_ble_eq_true rfl) ?_
 refine W_seq ?_
 refine W_seqK (b' := 52) rfl rfl ?_
 refine q1 3 4 1 rfl rfl (T_box rfl rfl flat_agg) rfl ?_
 refine q1 4 20 2 rfl rfl (T_box rfl rfl flat_agg) rfl ?_
 refine qn 6 36 3 rfl rfl (T_nilbox [(3, 1)] (T_alloc D rfl rfl rfl) rfl (.cons (.nil rfl) <| .nil) (upd' := [(36, .box 60 [.r 37]), (37, .row 3 1 (List.map eI ([] : List (Int))))]) (nn' := 2) rfl rfl) rfl ?_
 refine k_done rfl ?_
 refine thenK_n ?_
 refine W_seq ?_
 refine W_seqK (b' := 116) rfl rfl ?_
 refine q0 13 52 1 rfl rfl (T_load_bA D (l := [_, _]) rfl rfl rfl rfl rfl rfl rfl) rfl ?_
 refine q0 14 68 2 rfl rfl (T_load_bA D (l := [_, _]) rfl rfl rfl rfl rfl rfl rfl) rfl ?_
 refine qn 15 84 3 rfl rfl (T_call (lvs := [_, _]) (L := [(1, 1), (2, 2), (3, 3)]) (lv := .p 84 0) (upd := [(84, .box 117 [.r 85, .r 86]), (85, .map _), (86, .row 4 1 _)]) (nn := 3) false (of28_spec f li lo hF hi ho hb) body82 rfl rfl rfl rfl (.fz rfl (.fz rfl (.fz rfl (.nil)))) rfl (.inl rfl) rfl rfl rfl) rfl ?_
 refine q0 7 100 4 rfl rfl (T_assign rfl rfl) rfl ?_
 refine k_done rfl ?_
 refine thenK_n ?_
 refine W_seq ?_
 refine W_seqK (b' := 132) rfl rfl ?_
 refine qn 8 116 1 rfl rfl (T_nilbox [(3, 1)] (T_alloc D rfl rfl rfl) rfl (.cons (.nil rfl) <| .nil) (upd' := [(116, .box 60 [.r 117]), (117, .row 3 1 (List.map eI ([] : List (Int))))]) (nn' := 2) rfl rfl) rfl ?_
 refine k_done rfl ?_
 refine thenK_n ?_
 refine W_seq ?_
 refine W_seq ?_
 refine W_seqK (b' := 180) rfl rfl ?_
 refine q0 16 132 1 rfl rfl (T_fa D (m := 0) rfl rfl rfl rfl rfl rfl) rfl ?_
 refine q0 17 148 2 rfl rfl (T_load_b D rfl rfl rfl rfl rfl rfl) rfl ?_
 refine q0 18 164 3 rfl rfl (T_move rfl rfl) rfl ?_
 refine k_done rfl ?_
 refine thenK_n ?_
 refine W_block ?_
 refine W_loop (ι := Nat) 11 (fun r => ⟨[(2, .v (.int .i64 k)), (6, .p 4 0), (7, .p 6 0), (8, .p 9 0), (17, .v (.int .i64 f.regs)), (18, .v (.int .i64 (r : Int)))], [(1, .fz 5 (f.blocks.map eBlock)), (2, .fz 1 (li.map eBs)), (3, .fz 1 (lo.map eBs)), (4, .box 60 [.r 5]), (5, .row 3 1 (([] : List Int).map eI)), (6, .box 117 [.r 7, .r 8]), (7, .map ((confl f li lo).1)), (8, .row 4 1 ((confl f li lo).2.map eB)), (9, .box 60 [.r 10]), (10, .row 3 1 ((ofJ (confl f li lo) k r).map eI))]⟩) (fun r => r ≤ f.regs.toNat) (fun r => f.regs.toNat - r) (0) (by exact Nat.zero_le _) ?_ (fun r hR => ?_)
 ·exact ⟨[(4, 36), (5, 37), (6, 84), (7, 85), (8, 86), (9, 116), (10, 117)], .eq rfl (.same rfl rfl (.same rfl rfl (.same rfl rfl (.eq rfl (.eq rfl (.nil) (by first | rfl | simp)) (by first | rfl | simp))))) (by first | rfl | simp), .fzE rfl (.fzE rfl (.fzE rfl (.box (by first | rfl | simp) (.rowE rfl (.box (by first | rfl | simp) (.mapE rfl (.rowE rfl (.box (by first | rfl | simp) (.rowE rfl (.nil) (by first | rfl | simp))) (by first | rfl | simp)) (by first | rfl | simp))) (by first | rfl | simp))) (by first | rfl | simp)) (by first | rfl | simp)) (by first | rfl | simp), rfl⟩
 have hol := ofJ_len (confl f li lo) k r
 refine W_seq ?_
 refine W_seqK (b' := 27) rfl rfl ?_
 refine q0 19 11 1 rfl rfl (T_cmp rfl rfl rfl rfl) rfl ?_
 refine k_done rfl ?_
 refine thenK_n ?_
 refine W_seq ?_
 refine W_cond rfl (fun g1 => ?_) (fun g1 => ?_)
 ·have h1 := c_lss_t g1
  refine W_skip ?_
  refine thenK_n ?_
  refine W_seq ?_
  refine W_block ?_
  refine W_seq ?_
  refine W_seqK (b' := 59) rfl rfl ?_
  refine q0 20 27 1 rfl rfl (T_move rfl rfl) rfl ?_
  refine q0 9 43 2 rfl rfl (T_assign rfl rfl) rfl ?_
  refine k_done rfl ?_
  refine thenK_n ?_
  refine W_seq ?_
  refine W_seqK (b' := 75) rfl rfl ?_
  refine q0 10 59 1 rfl rfl (T_assign rfl rfl) rfl ?_
  refine k_done rfl ?_
  refine thenK_n ?_
  refine W_join (ι := Unit) 11 (fun _u => ⟨[(2, .v (.int .i64 k)), (6, .p 4 0), (7, .p 6 0), (8, .p 9 0), (9, .v (.int .i64 (r : Int))), (10, .v (.int .i64 (regOf (confl f li lo) (ofJ (confl f li lo) k r) k r))), (17, .v (.int .i64 f.regs)), (18, .v (.int .i64 (r : Int)))], [(1, .fz 5 (f.blocks.map eBlock)), (2, .fz 1 (li.map eBs)), (3, .fz 1 (lo.map eBs)), (4, .box 60 [.r 5]), (5, .row 3 1 (([] : List Int).map eI)), (6, .box 117 [.r 7, .r 8]), (7, .map ((confl f li lo).1)), (8, .row 4 1 ((confl f li lo).2.map eB)), (9, .box 60 [.r 10]), (10, .row 3 1 ((ofJ (confl f li lo) k r).map eI))]⟩) (fun _ => True) ?_ (fun _u hJ => ?_)
  ·skip
   refine W_seq ?_
   refine W_seqK (b' := 91) rfl rfl ?_
   refine q0 11 75 1 rfl rfl (T_assign rfl rfl) rfl ?_
   refine k_done rfl ?_
   refine thenK_n ?_
   refine W_block ?_
   refine W_loop (ι := Nat) 11 (fun j => ⟨[(2, .v (.int .i64 k)), (6, .p 4 0), (7, .p 6 0), (8, .p 9 0), (9, .v (.int .i64 (r : Int))), (10, .v (.int .i64 (regAt (confl f li lo).1 (ofJ (confl f li lo) k r) r j))), (11, .v (.int .i64 ((j : Int) + 1))), (17, .v (.int .i64 f.regs)), (18, .v (.int .i64 (r : Int)))], [(1, .fz 5 (f.blocks.map eBlock)), (2, .fz 1 (li.map eBs)), (3, .fz 1 (lo.map eBs)), (4, .box 60 [.r 5]), (5, .row 3 1 (([] : List Int).map eI)), (6, .box 117 [.r 7, .r 8]), (7, .map ((confl f li lo).1)), (8, .row 4 1 ((confl f li lo).2.map eB)), (9, .box 60 [.r 10]), (10, .row 3 1 ((ofJ (confl f li lo) k r).map eI))]⟩) (fun j => (j = 0 ∨ (j : Int) ≤ k) ∧ (0 < j → (confl f li lo).2.getD r default = false)) (fun j => k.toNat - j) (0) (by exact ⟨.inl rfl, fun h => absurd h (Nat.lt_irrefl _)⟩) ?_ (fun j hM => ?_)
   ·exact ⟨[(4, 4), (5, 5), (6, 6), (7, 7), (8, 8), (9, 9), (10, 10)], .eq rfl (.same rfl rfl (.same rfl rfl (.same rfl rfl (.eq rfl (.eq rfl (.eq rfl (.eq rfl (.eq rfl (.nil) (by first | rfl | simp)) (by first | rfl | simp)) (by first | rfl | simp)) (by first | rfl | simp)) (by first | rfl | simp))))) (by first | rfl | simp), .fzE rfl (.fzE rfl (.fzE rfl (.box (by first | rfl | simp) (.rowE rfl (.box (by first | rfl | simp) (.mapE rfl (.rowE rfl (.box (by first | rfl | simp) (.rowE rfl (.nil) (by first | rfl | simp))) (by first | rfl | simp)) (by first | rfl | simp))) (by first | rfl | simp))) (by first | rfl | simp)) (by first | rfl | simp)) (by first | rfl | simp), rfl⟩
   refine W_seq ?_
   refine W_seq ?_
   refine W_seqK (b' := 283) rfl rfl ?_
   refine q0 21 11 1 rfl rfl (T_move rfl rfl) rfl ?_
   refine q0 22 27 2 rfl rfl (T_move rfl rfl) rfl ?_
   refine q0 23 43 3 rfl rfl (T_cmp rfl rfl rfl rfl) rfl ?_
   refine q0 24 59 4 rfl rfl (T_move rfl rfl) rfl ?_
   refine k_split (d := 24) rfl (fun g2 => ?_) (fun g2 => ?_)
   ·have h2 := c_leq_t g2
    refine k_op0 (d := 25) (b := 75) (j' := 5) rfl rfl rfl rfl (g_tt rfl rfl rfl g2) (T_move rfl rfl) rfl ?_
    refine k_op0 (d := 26) (b := 91) (j' := 6) rfl rfl rfl rfl (g_tt rfl rfl rfl g2) (T_cmp rfl rfl rfl rfl) rfl ?_
    refine q0 27 107 7 rfl rfl (T_pick_t rfl rfl rfl g2) rfl ?_
    refine q0 28 123 8 rfl rfl (T_move rfl rfl) rfl ?_
    refine k_split (d := 28) rfl (fun g3 => ?_) (fun g3 => ?_)
    ·have h3 := c_eql_t g3
     refine k_op0 (d := 29) (b := 139) (j' := 9) rfl rfl rfl rfl (g_tt rfl rfl rfl g3) (T_move rfl rfl) rfl ?_
     refine k_op0 (d := 30) (b := 155) (j' := 10) rfl rfl rfl rfl (g_tt rfl rfl rfl g3) (T_nilCheck rfl rfl) rfl ?_
     refine k_op0 (d := 31) (b := 171) (j' := 11) rfl rfl rfl rfl (g_tt rfl rfl rfl g3) (T_fa D (m := 1) rfl rfl rfl rfl rfl rfl) rfl ?_
     refine k_op0 (d := 32) (b := 187) (j' := 12) rfl rfl rfl rfl (g_tt rfl rfl rfl g3) (T_load_b D rfl rfl rfl rfl rfl rfl) rfl ?_
     refine k_op0 (d := 33) (b := 203) (j' := 13) rfl rfl rfl rfl (g_tt rfl rfl rfl g3) (T_move rfl rfl) rfl ?_
     first | refine k_op0 (d := 34) (b := 219) (j' := 14) rfl rfl rfl rfl (g_tt rfl rfl rfl g3) (T_indexAddr D rfl rfl rfl rfl rfl rfl rfl rfl (by first | assumption | omega | (simp; omega))) rfl ?_ | refine k_op0 (d := 34) (b := 219) (j' := 14) rfl rfl rfl rfl (g_tt rfl rfl rfl g3) (T_indexAddrZ D rfl rfl rfl rfl rfl rfl rfl rfl (by first | assumption | omega | (simp; omega)) (by first | assumption | omega | (simp; omega))) rfl ?_
     refine k_op0 (d := 35) (b := 235) (j' := 15) rfl rfl rfl rfl (g_tt rfl rfl rfl g3) (T_ldE D (lv := .v _) (nn := 0) (upd := []) rfl rfl rfl rfl rfl (by first | assumption | omega | (simp; omega)) rfl rfl rfl rfl) rfl ?_
     refine k_op0 (d := 36) (b := 251) (j' := 16) rfl rfl rfl rfl (g_tt rfl rfl rfl g3) (T_not rfl rfl) rfl ?_
     refine q0 37 267 17 rfl rfl (T_pick_t rfl rfl rfl g3) rfl ?_
     refine k_done rfl ?_
     refine thenK_n ?_
     refine W_cond rfl (fun g4 => ?_) (fun g4 => ?_)
     ·have h4 := g4; (try simp only [cmpB, decide_eq_true_eq, decide_eq_false_iff_not, beq_iff_eq, beq_eq_false_iff_ne, bne_iff_ne, ne_eq, bne_eq_false_iff_eq, Bool.not_eq_true', Bool.not_eq_false', Int.not_lt, Int.not_le] at h4)
      refine W_skip ?_
      refine thenK_n ?_
      refine W_seq ?_
      refine W_block ?_
      refine W_seq ?_
      refine W_seqK (b' := 379) rfl rfl ?_
      refine q0 40 283 1 rfl rfl (T_move rfl rfl) rfl ?_
      refine q0 41 299 2 rfl rfl (T_fa D (m := 0) rfl rfl rfl rfl rfl rfl) rfl ?_
      refine q0 42 315 3 rfl rfl (T_load_b D rfl rfl rfl rfl rfl rfl) rfl ?_
      refine q0 43 331 4 rfl rfl (T_move rfl rfl) rfl ?_
      refine q0 44 347 5 rfl rfl (T_move rfl rfl) rfl ?_
      refine qn 45 363 6 rfl rfl (T_call (lvs := [_, _, _, _]) (L := [(1, 6), (2, 7), (3, 8), (4, 10)]) (lv := .v _) (upd := [(6, .box 117 [.r 7, .r 8]), (7, .map _), (8, .row 4 1 _)]) (nn := 0) true (free_spec (confl f li lo).1 (confl f li lo).2 (ofJ (confl f li lo) k r) (r : Int) ((j : Int) + 1) (by omega)) body83 rfl rfl rfl rfl (.box rfl (.map rfl (.row rfl (.lend rfl (.nil))))) rfl (.inr (fun p hp => by simp at hp; rcases hp with rfl | rfl | rfl <;> first | exact trivial | exact flat_eB _)) rfl rfl rfl) rfl ?_
      refine k_done rfl ?_
      refine thenK_n ?_
      refine W_cond rfl (fun g5 => ?_) (fun g5 => ?_)
      ·have h5 := g5; (try simp only [cmpB, decide_eq_true_eq, decide_eq_false_iff_not, beq_iff_eq, beq_eq_false_iff_ne, bne_iff_ne, ne_eq, bne_eq_false_iff_eq, Bool.not_eq_true', Bool.not_eq_false', Int.not_lt, Int.not_le] at h5)
       refine W_seqK (b' := 411) rfl rfl ?_
       refine q0 46 379 1 rfl rfl (T_move rfl rfl) rfl ?_
       refine q0 10 395 2 rfl rfl (T_assign rfl rfl) rfl ?_
       refine k_done rfl ?_
       refine blockK_n ?_
       refine thenK_n ?_
       refine W_seqK (b' := 459) rfl rfl ?_
       refine q0 38 411 1 rfl rfl (T_move rfl rfl) rfl ?_
       refine q0 39 427 2 rfl rfl (T_add64 rfl rfl rfl (by first | assumption | omega | (simp; omega))) rfl ?_
       refine q0 11 443 3 rfl rfl (T_assign rfl rfl) rfl ?_
       refine k_done rfl ?_
       refine thenK_n ?_
       refine ⟨j + 1, by (try dsimp only); exact ⟨by omega, fun _ => by assumption⟩, by (try dsimp only); omega, ?_⟩
       exact ⟨[(4, 4), (5, 5), (6, 6), (7, 7), (8, 8), (9, 9), (10, 10)], .eq rfl (.same rfl rfl (.same rfl rfl (.same rfl rfl (.eq rfl (.eq rfl (.eq rfl (.eq rfl (.eq rfl (.nil) rfl) rfl) (by first | rfl | (rw [← regAt_t (by omega) (by assumption)]; first | done | rfl) | (rw [← regAt_f (by omega) (by assumption)]; first | done | rfl))) (by first | rfl | (rw [← regAt_t (by omega) (by assumption)]; first | done | rfl) | (rw [← regAt_f (by omega) (by assumption)]; first | done | rfl))) rfl)))) rfl, .fzE rfl (.fzE rfl (.fzE rfl (.box (by first | rfl | (rw [← regAt_t (by omega) (by assumption)]; first | done | rfl) | (rw [← regAt_f (by omega) (by assumption)]; first | done | rfl)) (.rowE rfl (.box (by first | rfl | (rw [← regAt_t (by omega) (by assumption)]; first | done | rfl) | (rw [← regAt_f (by omega) (by assumption)]; first | done | rfl)) (.mapE rfl (.rowE rfl (.box (by first | rfl | (rw [← regAt_t (by omega) (by assumption)]; first | done | rfl) | (rw [← regAt_f (by omega) (by assumption)]; first | done | rfl)) (.rowE rfl (.nil) (by first | rfl | (rw [← regAt_t (by omega) (by assumption)]; first | done | rfl) | (rw [← regAt_f (by omega) (by assumption)]; first | done | rfl)))) (by first | rfl | (rw [← regAt_t (by omega) (by assumption)]; first | done | rfl) | (rw [← regAt_f (by omega) (by assumption)]; first | done | rfl))) (by first | rfl | (rw [← regAt_t (by omega) (by assumption)]; first | done | rfl) | (rw [← regAt_f (by omega) (by assumption)]; first | done | rfl)))) (by first | rfl | (rw [← regAt_t (by omega) (by assumption)]; first | done | rfl) | (rw [← regAt_f (by omega) (by assumption)]; first | done | rfl)))) rfl) rfl) rfl, rfl⟩
      ·have h5 := g5; (try simp only [cmpB, decide_eq_true_eq, decide_eq_false_iff_not, beq_iff_eq, beq_eq_false_iff_ne, bne_iff_ne, ne_eq, bne_eq_false_iff_eq, Bool.not_eq_true', Bool.not_eq_false', Int.not_lt, Int.not_le] at h5)
       refine W_skip ?_
       refine blockK_n ?_
       refine thenK_n ?_
       refine W_seqK (b' := 427) rfl rfl ?_
       refine q0 38 379 1 rfl rfl (T_move rfl rfl) rfl ?_
       refine q0 39 395 2 rfl rfl (T_add64 rfl rfl rfl (by first | assumption | omega | (simp; omega))) rfl ?_
       refine q0 11 411 3 rfl rfl (T_assign rfl rfl) rfl ?_
       refine k_done rfl ?_
       refine thenK_n ?_
       refine ⟨j + 1, by (try dsimp only); exact ⟨by omega, fun _ => by assumption⟩, by (try dsimp only); omega, ?_⟩
       exact ⟨[(4, 4), (5, 5), (6, 6), (7, 7), (8, 8), (9, 9), (10, 10)], .eq rfl (.same rfl rfl (.same rfl rfl (.same rfl rfl (.eq rfl (.eq rfl (.eq rfl (.eq rfl (.eq rfl (.nil) rfl) rfl) (by first | rfl | (rw [← regAt_t (by omega) (by assumption)]; first | done | rfl) | (rw [← regAt_f (by omega) (by assumption)]; first | done | rfl))) (by first | rfl | (rw [← regAt_t (by omega) (by assumption)]; first | done | rfl) | (rw [← regAt_f (by omega) (by assumption)]; first | done | rfl))) rfl)))) rfl, .fzE rfl (.fzE rfl (.fzE rfl (.box (by first | rfl | (rw [← regAt_t (by omega) (by assumption)]; first | done | rfl) | (rw [← regAt_f (by omega) (by assumption)]; first | done | rfl)) (.rowE rfl (.box (by first | rfl | (rw [← regAt_t (by omega) (by assumption)]; first | done | rfl) | (rw [← regAt_f (by omega) (by assumption)]; first | done | rfl)) (.mapE rfl (.rowE rfl (.box (by first | rfl | (rw [← regAt_t (by omega) (by assumption)]; first | done | rfl) | (rw [← regAt_f (by omega) (by assumption)]; first | done | rfl)) (.rowE rfl (.nil) (by first | rfl | (rw [← regAt_t (by omega) (by assumption)]; first | done | rfl) | (rw [← regAt_f (by omega) (by assumption)]; first | done | rfl)))) (by first | rfl | (rw [← regAt_t (by omega) (by assumption)]; first | done | rfl) | (rw [← regAt_f (by omega) (by assumption)]; first | done | rfl))) (by first | rfl | (rw [← regAt_t (by omega) (by assumption)]; first | done | rfl) | (rw [← regAt_f (by omega) (by assumption)]; first | done | rfl)))) (by first | rfl | (rw [← regAt_t (by omega) (by assumption)]; first | done | rfl) | (rw [← regAt_f (by omega) (by assumption)]; first | done | rfl)))) rfl) rfl) rfl, rfl⟩
     ·have h4 := g4; (try simp only [cmpB, decide_eq_true_eq, decide_eq_false_iff_not, beq_iff_eq, beq_eq_false_iff_ne, bne_iff_ne, ne_eq, bne_eq_false_iff_eq, Bool.not_eq_true', Bool.not_eq_false', Int.not_lt, Int.not_le] at h4)
      refine W_exit ?_
      refine thenK_e ?_
      refine thenK_e ?_
      refine blockK_hit ?_
      refine thenK_n ?_
      refine ⟨(), by (try dsimp only); all_goals trivial, ?_⟩
      exact ⟨[(4, 4), (5, 5), (6, 6), (7, 7), (8, 8), (9, 9), (10, 10)], .eq rfl (.same rfl rfl (.same rfl rfl (.same rfl rfl (.eq rfl (.eq rfl (.eq rfl (.eq rfl (.nil) (by first | rfl | (rw [regOf_of (k := k) hM.1 hM.2 (.inl (by omega))]; first | done | rfl) | (rw [regOf_of (k := k) hM.1 hM.2 (.inr (.inl (by omega)))]; first | done | rfl) | (rw [regOf_of (k := k) hM.1 hM.2 (.inr (.inr (by assumption)))]; first | done | rfl))) (by first | rfl | (rw [regOf_of (k := k) hM.1 hM.2 (.inl (by omega))]; first | done | rfl) | (rw [regOf_of (k := k) hM.1 hM.2 (.inr (.inl (by omega)))]; first | done | rfl) | (rw [regOf_of (k := k) hM.1 hM.2 (.inr (.inr (by assumption)))]; first | done | rfl))) (by first | rfl | (rw [regOf_of (k := k) hM.1 hM.2 (.inl (by omega))]; first | done | rfl) | (rw [regOf_of (k := k) hM.1 hM.2 (.inr (.inl (by omega)))]; first | done | rfl) | (rw [regOf_of (k := k) hM.1 hM.2 (.inr (.inr (by assumption)))]; first | done | rfl))) (by first | rfl | (rw [regOf_of (k := k) hM.1 hM.2 (.inl (by omega))]; first | done | rfl) | (rw [regOf_of (k := k) hM.1 hM.2 (.inr (.inl (by omega)))]; first | done | rfl) | (rw [regOf_of (k := k) hM.1 hM.2 (.inr (.inr (by assumption)))]; first | done | rfl)))))) (by first | rfl | (rw [regOf_of (k := k) hM.1 hM.2 (.inl (by omega))]; first | done | rfl) | (rw [regOf_of (k := k) hM.1 hM.2 (.inr (.inl (by omega)))]; first | done | rfl) | (rw [regOf_of (k := k) hM.1 hM.2 (.inr (.inr (by assumption)))]; first | done | rfl)), .fzE rfl (.fzE rfl (.fzE rfl (.box (by first | rfl | (rw [regOf_of (k := k) hM.1 hM.2 (.inl (by omega))]; first | done | rfl) | (rw [regOf_of (k := k) hM.1 hM.2 (.inr (.inl (by omega)))]; first | done | rfl) | (rw [regOf_of (k := k) hM.1 hM.2 (.inr (.inr (by assumption)))]; first | done | rfl)) (.rowE rfl (.box (by first | rfl | (rw [regOf_of (k := k) hM.1 hM.2 (.inl (by omega))]; first | done | rfl) | (rw [regOf_of (k := k) hM.1 hM.2 (.inr (.inl (by omega)))]; first | done | rfl) | (rw [regOf_of (k := k) hM.1 hM.2 (.inr (.inr (by assumption)))]; first | done | rfl)) (.mapE rfl (.rowE rfl (.box (by first | rfl | (rw [regOf_of (k := k) hM.1 hM.2 (.inl (by omega))]; first | done | rfl) | (rw [regOf_of (k := k) hM.1 hM.2 (.inr (.inl (by omega)))]; first | done | rfl) | (rw [regOf_of (k := k) hM.1 hM.2 (.inr (.inr (by assumption)))]; first | done | rfl)) (.rowE rfl (.nil) (by first | rfl | (rw [regOf_of (k := k) hM.1 hM.2 (.inl (by omega))]; first | done | rfl) | (rw [regOf_of (k := k) hM.1 hM.2 (.inr (.inl (by omega)))]; first | done | rfl) | (rw [regOf_of (k := k) hM.1 hM.2 (.inr (.inr (by assumption)))]; first | done | rfl)))) (by first | rfl | (rw [regOf_of (k := k) hM.1 hM.2 (.inl (by omega))]; first | done | rfl) | (rw [regOf_of (k := k) hM.1 hM.2 (.inr (.inl (by omega)))]; first | done | rfl) | (rw [regOf_of (k := k) hM.1 hM.2 (.inr (.inr (by assumption)))]; first | done | rfl))) (by first | rfl | (rw [regOf_of (k := k) hM.1 hM.2 (.inl (by omega))]; first | done | rfl) | (rw [regOf_of (k := k) hM.1 hM.2 (.inr (.inl (by omega)))]; first | done | rfl) | (rw [regOf_of (k := k) hM.1 hM.2 (.inr (.inr (by assumption)))]; first | done | rfl)))) (by first | rfl | (rw [regOf_of (k := k) hM.1 hM.2 (.inl (by omega))]; first | done | rfl) | (rw [regOf_of (k := k) hM.1 hM.2 (.inr (.inl (by omega)))]; first | done | rfl) | (rw [regOf_of (k := k) hM.1 hM.2 (.inr (.inr (by assumption)))]; first | done | rfl)))) (by first | rfl | (rw [regOf_of (k := k) hM.1 hM.2 (.inl (by omega))]; first | done | rfl) | (rw [regOf_of (k := k) hM.1 hM.2 (.inr (.inl (by omega)))]; first | done | rfl) | (rw [regOf_of (k := k) hM.1 hM.2 (.inr (.inr (by assumption)))]; first | done | rfl))) (by first | rfl | (rw [regOf_of (k := k) hM.1 hM.2 (.inl (by omega))]; first | done | rfl) | (rw [regOf_of (k := k) hM.1 hM.2 (.inr (.inl (by omega)))]; first | done | rfl) | (rw [regOf_of (k := k) hM.1 hM.2 (.inr (.inr (by assumption)))]; first | done | rfl))) (by first | rfl | (rw [regOf_of (k := k) hM.1 hM.2 (.inl (by omega))]; first | done | rfl) | (rw [regOf_of (k := k) hM.1 hM.2 (.inr (.inl (by omega)))]; first | done | rfl) | (rw [regOf_of (k := k) hM.1 hM.2 (.inr (.inr (by assumption)))]; first | done | rfl)), rfl⟩
    ·have h3 := c_eql_f g3
     refine k_no (d := 29) (j' := 9) rfl rfl rfl (g_tf rfl rfl rfl g3) ?_
     refine k_no (d := 30) (j' := 10) rfl rfl rfl (g_tf rfl rfl rfl g3) ?_
     refine k_no (d := 31) (j' := 11) rfl rfl rfl (g_tf rfl rfl rfl g3) ?_
     refine k_no (d := 32) (j' := 12) rfl rfl rfl (g_tf rfl rfl rfl g3) ?_
     refine k_no (d := 33) (j' := 13) rfl rfl rfl (g_tf rfl rfl rfl g3) ?_
     refine k_no (d := 34) (j' := 14) rfl rfl rfl (g_tf rfl rfl rfl g3) ?_
     refine k_no (d := 35) (j' := 15) rfl rfl rfl (g_tf rfl rfl rfl g3) ?_
     refine k_no (d := 36) (j' := 16) rfl rfl rfl (g_tf rfl rfl rfl g3) ?_
     refine q0 37 267 17 rfl rfl (T_pick_f rfl rfl rfl g3) rfl ?_
     refine k_done rfl ?_
     refine thenK_n ?_
     refine W_cond rfl (fun g6 => ?_) (fun g6 => ?_)
     ·exact absurd (g6.symm.trans rfl) (by decide)
     ·skip
      refine W_exit ?_
      refine thenK_e ?_
      refine thenK_e ?_
      refine blockK_hit ?_
      refine thenK_n ?_
      refine ⟨(), by (try dsimp only); all_goals trivial, ?_⟩
      exact ⟨[(4, 4), (5, 5), (6, 6), (7, 7), (8, 8), (9, 9), (10, 10)], .eq rfl (.same rfl rfl (.same rfl rfl (.same rfl rfl (.eq rfl (.eq rfl (.eq rfl (.eq rfl (.nil) (by first | rfl | (rw [regOf_of (k := k) hM.1 hM.2 (.inl (by omega))]; first | done | rfl) | (rw [regOf_of (k := k) hM.1 hM.2 (.inr (.inl (by omega)))]; first | done | rfl) | (rw [regOf_of (k := k) hM.1 hM.2 (.inr (.inr (by assumption)))]; first | done | rfl))) (by first | rfl | (rw [regOf_of (k := k) hM.1 hM.2 (.inl (by omega))]; first | done | rfl) | (rw [regOf_of (k := k) hM.1 hM.2 (.inr (.inl (by omega)))]; first | done | rfl) | (rw [regOf_of (k := k) hM.1 hM.2 (.inr (.inr (by assumption)))]; first | done | rfl))) (by first | rfl | (rw [regOf_of (k := k) hM.1 hM.2 (.inl (by omega))]; first | done | rfl) | (rw [regOf_of (k := k) hM.1 hM.2 (.inr (.inl (by omega)))]; first | done | rfl) | (rw [regOf_of (k := k) hM.1 hM.2 (.inr (.inr (by assumption)))]; first | done | rfl))) (by first | rfl | (rw [regOf_of (k := k) hM.1 hM.2 (.inl (by omega))]; first | done | rfl) | (rw [regOf_of (k := k) hM.1 hM.2 (.inr (.inl (by omega)))]; first | done | rfl) | (rw [regOf_of (k := k) hM.1 hM.2 (.inr (.inr (by assumption)))]; first | done | rfl)))))) (by first | rfl | (rw [regOf_of (k := k) hM.1 hM.2 (.inl (by omega))]; first | done | rfl) | (rw [regOf_of (k := k) hM.1 hM.2 (.inr (.inl (by omega)))]; first | done | rfl) | (rw [regOf_of (k := k) hM.1 hM.2 (.inr (.inr (by assumption)))]; first | done | rfl)), .fzE rfl (.fzE rfl (.fzE rfl (.box (by first | rfl | (rw [regOf_of (k := k) hM.1 hM.2 (.inl (by omega))]; first | done | rfl) | (rw [regOf_of (k := k) hM.1 hM.2 (.inr (.inl (by omega)))]; first | done | rfl) | (rw [regOf_of (k := k) hM.1 hM.2 (.inr (.inr (by assumption)))]; first | done | rfl)) (.rowE rfl (.box (by first | rfl | (rw [regOf_of (k := k) hM.1 hM.2 (.inl (by omega))]; first | done | rfl) | (rw [regOf_of (k := k) hM.1 hM.2 (.inr (.inl (by omega)))]; first | done | rfl) | (rw [regOf_of (k := k) hM.1 hM.2 (.inr (.inr (by assumption)))]; first | done | rfl)) (.mapE rfl (.rowE rfl (.box (by first | rfl | (rw [regOf_of (k := k) hM.1 hM.2 (.inl (by omega))]; first | done | rfl) | (rw [regOf_of (k := k) hM.1 hM.2 (.inr (.inl (by omega)))]; first | done | rfl) | (rw [regOf_of (k := k) hM.1 hM.2 (.inr (.inr (by assumption)))]; first | done | rfl)) (.rowE rfl (.nil) (by first | rfl | (rw [regOf_of (k := k) hM.1 hM.2 (.inl (by omega))]; first | done | rfl) | (rw [regOf_of (k := k) hM.1 hM.2 (.inr (.inl (by omega)))]; first | done | rfl) | (rw [regOf_of (k := k) hM.1 hM.2 (.inr (.inr (by assumption)))]; first | done | rfl)))) (by first | rfl | (rw [regOf_of (k := k) hM.1 hM.2 (.inl (by omega))]; first | done | rfl) | (rw [regOf_of (k := k) hM.1 hM.2 (.inr (.inl (by omega)))]; first | done | rfl) | (rw [regOf_of (k := k) hM.1 hM.2 (.inr (.inr (by assumption)))]; first | done | rfl))) (by first | rfl | (rw [regOf_of (k := k) hM.1 hM.2 (.inl (by omega))]; first | done | rfl) | (rw [regOf_of (k := k) hM.1 hM.2 (.inr (.inl (by omega)))]; first | done | rfl) | (rw [regOf_of (k := k) hM.1 hM.2 (.inr (.inr (by assumption)))]; first | done | rfl)))) (by first | rfl | (rw [regOf_of (k := k) hM.1 hM.2 (.inl (by omega))]; first | done | rfl) | (rw [regOf_of (k := k) hM.1 hM.2 (.inr (.inl (by omega)))]; first | done | rfl) | (rw [regOf_of (k := k) hM.1 hM.2 (.inr (.inr (by assumption)))]; first | done | rfl)))) (by first | rfl | (rw [regOf_of (k := k) hM.1 hM.2 (.inl (by omega))]; first | done | rfl) | (rw [regOf_of (k := k) hM.1 hM.2 (.inr (.inl (by omega)))]; first | done | rfl) | (rw [regOf_of (k := k) hM.1 hM.2 (.inr (.inr (by assumption)))]; first | done | rfl))) (by first | rfl | (rw [regOf_of (k := k) hM.1 hM.2 (.inl (by omega))]; first | done | rfl) | (rw [regOf_of (k := k) hM.1 hM.2 (.inr (.inl (by omega)))]; first | done | rfl) | (rw [regOf_of (k := k) hM.1 hM.2 (.inr (.inr (by assumption)))]; first | done | rfl))) (by first | rfl | (rw [regOf_of (k := k) hM.1 hM.2 (.inl (by omega))]; first | done | rfl) | (rw [regOf_of (k := k) hM.1 hM.2 (.inr (.inl (by omega)))]; first | done | rfl) | (rw [regOf_of (k := k) hM.1 hM.2 (.inr (.inr (by assumption)))]; first | done | rfl)), rfl⟩
   ·have h2 := c_leq_f g2
    refine k_no (d := 25) (j' := 5) rfl rfl rfl (g_tf rfl rfl rfl g2) ?_
    refine k_no (d := 26) (j' := 6) rfl rfl rfl (g_tf rfl rfl rfl g2) ?_
    refine q0 27 107 7 rfl rfl (T_pick_f rfl rfl rfl g2) rfl ?_
    refine q0 28 123 8 rfl rfl (T_move rfl rfl) rfl ?_
    refine k_no (d := 29) (j' := 9) rfl rfl rfl (g_tf rfl rfl rfl rfl) ?_
    refine k_no (d := 30) (j' := 10) rfl rfl rfl (g_tf rfl rfl rfl rfl) ?_
    refine k_no (d := 31) (j' := 11) rfl rfl rfl (g_tf rfl rfl rfl rfl) ?_
    refine k_no (d := 32) (j' := 12) rfl rfl rfl (g_tf rfl rfl rfl rfl) ?_
    refine k_no (d := 33) (j' := 13) rfl rfl rfl (g_tf rfl rfl rfl rfl) ?_
    refine k_no (d := 34) (j' := 14) rfl rfl rfl (g_tf rfl rfl rfl rfl) ?_
    refine k_no (d := 35) (j' := 15) rfl rfl rfl (g_tf rfl rfl rfl rfl) ?_
    refine k_no (d := 36) (j' := 16) rfl rfl rfl (g_tf rfl rfl rfl rfl) ?_
    refine q0 37 267 17 rfl rfl (T_pick_f rfl rfl rfl rfl) rfl ?_
    refine k_done rfl ?_
    refine thenK_n ?_
    refine W_cond rfl (fun g7 => ?_) (fun g7 => ?_)
    ·exact absurd (g7.symm.trans rfl) (by decide)
    ·skip
     refine W_exit ?_
     refine thenK_e ?_
     refine thenK_e ?_
     refine blockK_hit ?_
     refine thenK_n ?_
     refine ⟨(), by (try dsimp only); all_goals trivial, ?_⟩
     exact ⟨[(4, 4), (5, 5), (6, 6), (7, 7), (8, 8), (9, 9), (10, 10)], .eq rfl (.same rfl rfl (.same rfl rfl (.same rfl rfl (.eq rfl (.eq rfl (.eq rfl (.eq rfl (.nil) (by first | rfl | (rw [regOf_of (k := k) hM.1 hM.2 (.inl (by omega))]; first | done | rfl) | (rw [regOf_of (k := k) hM.1 hM.2 (.inr (.inl (by omega)))]; first | done | rfl) | (rw [regOf_of (k := k) hM.1 hM.2 (.inr (.inr (by assumption)))]; first | done | rfl))) (by first | rfl | (rw [regOf_of (k := k) hM.1 hM.2 (.inl (by omega))]; first | done | rfl) | (rw [regOf_of (k := k) hM.1 hM.2 (.inr (.inl (by omega)))]; first | done | rfl) | (rw [regOf_of (k := k) hM.1 hM.2 (.inr (.inr (by assumption)))]; first | done | rfl))) (by first | rfl | (rw [regOf_of (k := k) hM.1 hM.2 (.inl (by omega))]; first | done | rfl) | (rw [regOf_of (k := k) hM.1 hM.2 (.inr (.inl (by omega)))]; first | done | rfl) | (rw [regOf_of (k := k) hM.1 hM.2 (.inr (.inr (by assumption)))]; first | done | rfl))) (by first | rfl | (rw [regOf_of (k := k) hM.1 hM.2 (.inl (by omega))]; first | done | rfl) | (rw [regOf_of (k := k) hM.1 hM.2 (.inr (.inl (by omega)))]; first | done | rfl) | (rw [regOf_of (k := k) hM.1 hM.2 (.inr (.inr (by assumption)))]; first | done | rfl)))))) (by first | rfl | (rw [regOf_of (k := k) hM.1 hM.2 (.inl (by omega))]; first | done | rfl) | (rw [regOf_of (k := k) hM.1 hM.2 (.inr (.inl (by omega)))]; first | done | rfl) | (rw [regOf_of (k := k) hM.1 hM.2 (.inr (.inr (by assumption)))]; first | done | rfl)), .fzE rfl (.fzE rfl (.fzE rfl (.box (by first | rfl | (rw [regOf_of (k := k) hM.1 hM.2 (.inl (by omega))]; first | done | rfl) | (rw [regOf_of (k := k) hM.1 hM.2 (.inr (.inl (by omega)))]; first | done | rfl) | (rw [regOf_of (k := k) hM.1 hM.2 (.inr (.inr (by assumption)))]; first | done | rfl)) (.rowE rfl (.box (by first | rfl | (rw [regOf_of (k := k) hM.1 hM.2 (.inl (by omega))]; first | done | rfl) | (rw [regOf_of (k := k) hM.1 hM.2 (.inr (.inl (by omega)))]; first | done | rfl) | (rw [regOf_of (k := k) hM.1 hM.2 (.inr (.inr (by assumption)))]; first | done | rfl)) (.mapE rfl (.rowE rfl (.box (by first | rfl | (rw [regOf_of (k := k) hM.1 hM.2 (.inl (by omega))]; first | done | rfl) | (rw [regOf_of (k := k) hM.1 hM.2 (.inr (.inl (by omega)))]; first | done | rfl) | (rw [regOf_of (k := k) hM.1 hM.2 (.inr (.inr (by assumption)))]; first | done | rfl)) (.rowE rfl (.nil) (by first | rfl | (rw [regOf_of (k := k) hM.1 hM.2 (.inl (by omega))]; first | done | rfl) | (rw [regOf_of (k := k) hM.1 hM.2 (.inr (.inl (by omega)))]; first | done | rfl) | (rw [regOf_of (k := k) hM.1 hM.2 (.inr (.inr (by assumption)))]; first | done | rfl)))) (by first | rfl | (rw [regOf_of (k := k) hM.1 hM.2 (.inl (by omega))]; first | done | rfl) | (rw [regOf_of (k := k) hM.1 hM.2 (.inr (.inl (by omega)))]; first | done | rfl) | (rw [regOf_of (k := k) hM.1 hM.2 (.inr (.inr (by assumption)))]; first | done | rfl))) (by first | rfl | (rw [regOf_of (k := k) hM.1 hM.2 (.inl (by omega))]; first | done | rfl) | (rw [regOf_of (k := k) hM.1 hM.2 (.inr (.inl (by omega)))]; first | done | rfl) | (rw [regOf_of (k := k) hM.1 hM.2 (.inr (.inr (by assumption)))]; first | done | rfl)))) (by first | rfl | (rw [regOf_of (k := k) hM.1 hM.2 (.inl (by omega))]; first | done | rfl) | (rw [regOf_of (k := k) hM.1 hM.2 (.inr (.inl (by omega)))]; first | done | rfl) | (rw [regOf_of (k := k) hM.1 hM.2 (.inr (.inr (by assumption)))]; first | done | rfl)))) (by first | rfl | (rw [regOf_of (k := k) hM.1 hM.2 (.inl (by omega))]; first | done | rfl) | (rw [regOf_of (k := k) hM.1 hM.2 (.inr (.inl (by omega)))]; first | done | rfl) | (rw [regOf_of (k := k) hM.1 hM.2 (.inr (.inr (by assumption)))]; first | done | rfl))) (by first | rfl | (rw [regOf_of (k := k) hM.1 hM.2 (.inl (by omega))]; first | done | rfl) | (rw [regOf_of (k := k) hM.1 hM.2 (.inr (.inl (by omega)))]; first | done | rfl) | (rw [regOf_of (k := k) hM.1 hM.2 (.inr (.inr (by assumption)))]; first | done | rfl))) (by first | rfl | (rw [regOf_of (k := k) hM.1 hM.2 (.inl (by omega))]; first | done | rfl) | (rw [regOf_of (k := k) hM.1 hM.2 (.inr (.inl (by omega)))]; first | done | rfl) | (rw [regOf_of (k := k) hM.1 hM.2 (.inr (.inr (by assumption)))]; first | done | rfl)), rfl⟩
  refine W_seq ?_
  refine W_seq ?_
  refine W_seqK (b' := 27) rfl rfl ?_
  refine q0 12 11 1 rfl rfl (T_assign rfl rfl) rfl ?_
  refine k_done rfl ?_
  refine thenK_n ?_
  refine W_block ?_
  refine W_loop (ι := Nat) 11 (fun j => ⟨[(2, .v (.int .i64 k)), (6, .p 4 0), (7, .p 6 0), (8, .p 9 0), (9, .v (.int .i64 (r : Int))), (10, .v (.int .i64 (memOf (confl f li lo) (ofJ (confl f li lo) k r) k r j))), (12, .v (.int .i64 (-1 - (j : Int)))), (17, .v (.int .i64 f.regs)), (18, .v (.int .i64 (r : Int)))], [(1, .fz 5 (f.blocks.map eBlock)), (2, .fz 1 (li.map eBs)), (3, .fz 1 (lo.map eBs)), (4, .box 60 [.r 5]), (5, .row 3 1 (([] : List Int).map eI)), (6, .box 117 [.r 7, .r 8]), (7, .map ((confl f li lo).1)), (8, .row 4 1 ((confl f li lo).2.map eB)), (9, .box 60 [.r 10]), (10, .row 3 1 ((ofJ (confl f li lo) k r).map eI))]⟩) (fun j => j ≤ (ofJ (confl f li lo) k r).length + 1) (fun j => (ofJ (confl f li lo) k r).length + 1 - j) (0) (by exact Nat.zero_le _) ?_ (fun j hJ => ?_)
  ·exact ⟨[(4, 4), (5, 5), (6, 6), (7, 7), (8, 8), (9, 9), (10, 10)], .eq rfl (.same rfl rfl (.same rfl rfl (.same rfl rfl (.eq rfl (.eq rfl (.eq rfl (.eq rfl (.eq rfl (.nil) (by first | rfl | (rw [memOf_zero]; first | done | rfl))) (by first | rfl | (rw [memOf_zero]; first | done | rfl))) (by first | rfl | (rw [memOf_zero]; first | done | rfl))) (by first | rfl | (rw [memOf_zero]; first | done | rfl))) (by first | rfl | (rw [memOf_zero]; first | done | rfl)))))) (by first | rfl | (rw [memOf_zero]; first | done | rfl)), .fzE rfl (.fzE rfl (.fzE rfl (.box (by first | rfl | (rw [memOf_zero]; first | done | rfl)) (.rowE rfl (.box (by first | rfl | (rw [memOf_zero]; first | done | rfl)) (.mapE rfl (.rowE rfl (.box (by first | rfl | (rw [memOf_zero]; first | done | rfl)) (.rowE rfl (.nil) (by first | rfl | (rw [memOf_zero]; first | done | rfl)))) (by first | rfl | (rw [memOf_zero]; first | done | rfl))) (by first | rfl | (rw [memOf_zero]; first | done | rfl)))) (by first | rfl | (rw [memOf_zero]; first | done | rfl)))) (by first | rfl | (rw [memOf_zero]; first | done | rfl))) (by first | rfl | (rw [memOf_zero]; first | done | rfl))) (by first | rfl | (rw [memOf_zero]; first | done | rfl)), rfl⟩
  refine W_seq ?_
  refine W_seq ?_
  refine W_seqK (b' := 43) rfl rfl ?_
  refine q0 47 11 1 rfl rfl (T_move rfl rfl) rfl ?_
  refine q0 48 27 2 rfl rfl (T_cmp rfl rfl rfl rfl) rfl ?_
  refine k_done rfl ?_
  refine thenK_n ?_
  refine W_cond rfl (fun g8 => ?_) (fun g8 => ?_)
  ·have h8 := c_eql_t g8
   refine W_skip ?_
   refine thenK_n ?_
   refine W_seq ?_
   refine W_block ?_
   refine W_seq ?_
   refine W_seqK (b' := 139) rfl rfl ?_
   refine q0 51 43 1 rfl rfl (T_move rfl rfl) rfl ?_
   refine q0 52 59 2 rfl rfl (T_fa D (m := 0) rfl rfl rfl rfl rfl rfl) rfl ?_
   refine q0 53 75 3 rfl rfl (T_load_b D rfl rfl rfl rfl rfl rfl) rfl ?_
   refine q0 54 91 4 rfl rfl (T_move rfl rfl) rfl ?_
   refine q0 55 107 5 rfl rfl (T_move rfl rfl) rfl ?_
   refine qn 56 123 6 rfl rfl (T_call (lvs := [_, _, _, _]) (L := [(1, 6), (2, 7), (3, 8), (4, 10)]) (lv := .v _) (upd := [(6, .box 117 [.r 7, .r 8]), (7, .map _), (8, .row 4 1 _)]) (nn := 0) true (free_spec (confl f li lo).1 (confl f li lo).2 (ofJ (confl f li lo) k r) (r : Int) (-1 - (j : Int)) (by omega)) body83 rfl rfl rfl rfl (.box rfl (.map rfl (.row rfl (.lend rfl (.nil))))) rfl (.inr (fun p hp => by simp at hp; rcases hp with rfl | rfl | rfl <;> first | exact trivial | exact flat_eB _)) rfl rfl rfl) rfl ?_
   refine k_done rfl ?_
   refine thenK_n ?_
   refine W_cond rfl (fun g9 => ?_) (fun g9 => ?_)
   ·have h9 := g9; (try simp only [cmpB, decide_eq_true_eq, decide_eq_false_iff_not, beq_iff_eq, beq_eq_false_iff_ne, bne_iff_ne, ne_eq, bne_eq_false_iff_eq, Bool.not_eq_true', Bool.not_eq_false', Int.not_lt, Int.not_le] at h9)
    refine W_seqK (b' := 171) rfl rfl ?_
    refine q0 57 139 1 rfl rfl (T_move rfl rfl) rfl ?_
    refine q0 10 155 2 rfl rfl (T_assign rfl rfl) rfl ?_
    refine k_done rfl ?_
    refine blockK_n ?_
    refine thenK_n ?_
    refine W_seqK (b' := 219) rfl rfl ?_
    refine q0 49 171 1 rfl rfl (T_move rfl rfl) rfl ?_
    refine q0 50 187 2 rfl rfl (T_sub64 rfl rfl rfl (by first | assumption | omega | (simp; omega))) rfl ?_
    refine q0 12 203 3 rfl rfl (T_assign rfl rfl) rfl ?_
    refine k_done rfl ?_
    refine thenK_n ?_
    have ejx : (-1 : Int) - ((j + 1 : Nat) : Int) = -1 - (j : Int) - 1 := by omega
    have hlt := memOf_lt (by assumption) hJ
    refine ⟨j + 1, by (try dsimp only); exact hlt, by (try dsimp only); omega, ?_⟩
    exact ⟨[(4, 4), (5, 5), (6, 6), (7, 7), (8, 8), (9, 9), (10, 10)], .eq rfl (.same rfl rfl (.same rfl rfl (.same rfl rfl (.eq rfl (.eq rfl (.eq rfl (.eq rfl (.eq rfl (.nil) rfl) rfl) (by first | rfl | (rw [ejx]; first | done | rfl) | (rw [← memOf_t (by omega) (by assumption)]; first | done | rfl) | (rw [← memOf_f (by omega) (by assumption)]; first | done | rfl))) (by first | rfl | (rw [ejx]; first | done | rfl) | (rw [← memOf_t (by omega) (by assumption)]; first | done | rfl) | (rw [← memOf_f (by omega) (by assumption)]; first | done | rfl))) rfl)))) rfl, .fzE rfl (.fzE rfl (.fzE rfl (.box (by first | rfl | (rw [ejx]; first | done | rfl) | (rw [← memOf_t (by omega) (by assumption)]; first | done | rfl) | (rw [← memOf_f (by omega) (by assumption)]; first | done | rfl)) (.rowE rfl (.box (by first | rfl | (rw [ejx]; first | done | rfl) | (rw [← memOf_t (by omega) (by assumption)]; first | done | rfl) | (rw [← memOf_f (by omega) (by assumption)]; first | done | rfl)) (.mapE rfl (.rowE rfl (.box (by first | rfl | (rw [ejx]; first | done | rfl) | (rw [← memOf_t (by omega) (by assumption)]; first | done | rfl) | (rw [← memOf_f (by omega) (by assumption)]; first | done | rfl)) (.rowE rfl (.nil) (by first | rfl | (rw [ejx]; first | done | rfl) | (rw [← memOf_t (by omega) (by assumption)]; first | done | rfl) | (rw [← memOf_f (by omega) (by assumption)]; first | done | rfl)))) (by first | rfl | (rw [ejx]; first | done | rfl) | (rw [← memOf_t (by omega) (by assumption)]; first | done | rfl) | (rw [← memOf_f (by omega) (by assumption)]; first | done | rfl))) (by first | rfl | (rw [ejx]; first | done | rfl) | (rw [← memOf_t (by omega) (by assumption)]; first | done | rfl) | (rw [← memOf_f (by omega) (by assumption)]; first | done | rfl)))) (by first | rfl | (rw [ejx]; first | done | rfl) | (rw [← memOf_t (by omega) (by assumption)]; first | done | rfl) | (rw [← memOf_f (by omega) (by assumption)]; first | done | rfl)))) rfl) rfl) rfl, rfl⟩
   ·have h9 := g9; (try simp only [cmpB, decide_eq_true_eq, decide_eq_false_iff_not, beq_iff_eq, beq_eq_false_iff_ne, bne_iff_ne, ne_eq, bne_eq_false_iff_eq, Bool.not_eq_true', Bool.not_eq_false', Int.not_lt, Int.not_le] at h9)
    refine W_skip ?_
    refine blockK_n ?_
    refine thenK_n ?_
    refine W_seqK (b' := 187) rfl rfl ?_
    refine q0 49 139 1 rfl rfl (T_move rfl rfl) rfl ?_
    refine q0 50 155 2 rfl rfl (T_sub64 rfl rfl rfl (by first | assumption | omega | (simp; omega))) rfl ?_
    refine q0 12 171 3 rfl rfl (T_assign rfl rfl) rfl ?_
    refine k_done rfl ?_
    refine thenK_n ?_
    have ejx : (-1 : Int) - ((j + 1 : Nat) : Int) = -1 - (j : Int) - 1 := by omega
    have hlt := memOf_lt (by assumption) hJ
    refine ⟨j + 1, by (try dsimp only); exact hlt, by (try dsimp only); omega, ?_⟩
    exact ⟨[(4, 4), (5, 5), (6, 6), (7, 7), (8, 8), (9, 9), (10, 10)], .eq rfl (.same rfl rfl (.same rfl rfl (.same rfl rfl (.eq rfl (.eq rfl (.eq rfl (.eq rfl (.eq rfl (.nil) rfl) rfl) (by first | rfl | (rw [ejx]; first | done | rfl) | (rw [← memOf_t (by omega) (by assumption)]; first | done | rfl) | (rw [← memOf_f (by omega) (by assumption)]; first | done | rfl))) (by first | rfl | (rw [ejx]; first | done | rfl) | (rw [← memOf_t (by omega) (by assumption)]; first | done | rfl) | (rw [← memOf_f (by omega) (by assumption)]; first | done | rfl))) rfl)))) rfl, .fzE rfl (.fzE rfl (.fzE rfl (.box (by first | rfl | (rw [ejx]; first | done | rfl) | (rw [← memOf_t (by omega) (by assumption)]; first | done | rfl) | (rw [← memOf_f (by omega) (by assumption)]; first | done | rfl)) (.rowE rfl (.box (by first | rfl | (rw [ejx]; first | done | rfl) | (rw [← memOf_t (by omega) (by assumption)]; first | done | rfl) | (rw [← memOf_f (by omega) (by assumption)]; first | done | rfl)) (.mapE rfl (.rowE rfl (.box (by first | rfl | (rw [ejx]; first | done | rfl) | (rw [← memOf_t (by omega) (by assumption)]; first | done | rfl) | (rw [← memOf_f (by omega) (by assumption)]; first | done | rfl)) (.rowE rfl (.nil) (by first | rfl | (rw [ejx]; first | done | rfl) | (rw [← memOf_t (by omega) (by assumption)]; first | done | rfl) | (rw [← memOf_f (by omega) (by assumption)]; first | done | rfl)))) (by first | rfl | (rw [ejx]; first | done | rfl) | (rw [← memOf_t (by omega) (by assumption)]; first | done | rfl) | (rw [← memOf_f (by omega) (by assumption)]; first | done | rfl))) (by first | rfl | (rw [ejx]; first | done | rfl) | (rw [← memOf_t (by omega) (by assumption)]; first | done | rfl) | (rw [← memOf_f (by omega) (by assumption)]; first | done | rfl)))) (by first | rfl | (rw [ejx]; first | done | rfl) | (rw [← memOf_t (by omega) (by assumption)]; first | done | rfl) | (rw [← memOf_f (by omega) (by assumption)]; first | done | rfl)))) rfl) rfl) rfl, rfl⟩
  ·have h8 := c_eql_f g8
   refine W_exit ?_
   refine thenK_e ?_
   refine thenK_e ?_
   refine blockK_hit ?_
   refine thenK_n ?_
   refine W_seqK (b' := 155) rfl rfl ?_
   refine q0 58 43 1 rfl rfl (T_fa D (m := 0) rfl rfl rfl rfl rfl rfl) rfl ?_
   refine q0 59 59 2 rfl rfl (T_load_b D rfl rfl rfl rfl rfl rfl) rfl ?_
   refine q0 60 75 3 rfl rfl (T_move rfl rfl) rfl ?_
   refine q1 61 91 4 rfl rfl (T_bs D (ys := [_]) (enc := eI) (l := [_]) rfl rfl rfl rfl rfl rfl (.cons rfl (flat_v rfl) (.nil)) rfl rfl rfl rfl (.v rfl (.nil)) rfl rfl) rfl ?_
   refine qn 62 107 5 rfl rfl (T_append D rfl rfl rfl rfl rfl rfl rfl rfl rfl rfl rfl rfl (by (try simp only [ty3]); first | assumption | omega | (simp; omega)) (by (try simp only [ty3]); first | assumption | omega | (simp; omega))) rfl ?_
   refine q0 63 123 6 rfl rfl (T_fa D (m := 0) rfl rfl rfl rfl rfl rfl) rfl ?_
   refine s1 139 7 rfl rfl (T_stB D (cs' := [_]) rfl rfl rfl rfl (flat_sl rfl) rfl rfl (Nat.le_of_ble_eq_true rfl) rfl) rfl ?_
   refine k_done rfl ?_
   refine blockK_n ?_
   refine thenK_n ?_
   refine W_seqK (b' := 187) rfl rfl ?_
   refine q0 64 155 1 rfl rfl (T_add64 rfl rfl rfl (by first | assumption | omega | (simp; omega))) rfl ?_
   refine q0 18 171 2 rfl rfl (T_move rfl rfl) rfl ?_
   refine k_done rfl ?_
   refine thenK_n ?_
   refine ⟨r + 1, by (try dsimp only); omega, by (try dsimp only); omega, ?_⟩
   exact ⟨[(4, 4), (5, 5), (6, 6), (7, 7), (8, 8), (9, 9), (10, 107)], .eq rfl (.same rfl rfl (.same rfl rfl (.same rfl rfl (.eq rfl (.eq rfl (.nil) (by first | rfl | (rw [memOf_fin (by omega) hJ]; first | done | rfl))) rfl)))) rfl, .fzE rfl (.fzE rfl (.fzE rfl (.box (by first | rfl | (rw [memOf_fin (by omega) hJ]; first | done | rfl)) (.rowE rfl (.box (by first | rfl | (rw [memOf_fin (by omega) hJ]; first | done | rfl)) (.mapE rfl (.rowE rfl (.box (by first | rfl | (rw [memOf_fin (by omega) hJ]; first | done | rfl)) (.rowE rfl (.nil) (by first | rfl | (rw [memOf_fin (by omega) hJ]; first | done | rfl)))) (by first | rfl | (rw [memOf_fin (by omega) hJ]; first | done | rfl))) (by first | rfl | (rw [memOf_fin (by omega) hJ]; first | done | rfl)))) (by first | rfl | (rw [memOf_fin (by omega) hJ]; first | done | rfl)))) rfl) rfl) rfl, rfl⟩
 ·have h1 := c_lss_f g1
  refine W_exit ?_
  refine thenK_e ?_
  refine thenK_e ?_
  refine blockK_hit ?_
  refine thenK_n ?_
  refine W_seq ?_
  refine W_seqK (b' := 59) rfl rfl ?_
  refine q0 65 27 1 rfl rfl (T_load_bA D (l := [_]) rfl rfl rfl rfl rfl rfl rfl) rfl ?_
  refine s1 43 2 rfl rfl (T_stB D (cs' := [_]) rfl rfl rfl rfl flat_agg rfl rfl (Nat.le_of_ble_eq_true rfl) rfl) rfl ?_
  refine k_done rfl ?_
  refine thenK_n ?_
  refine W_ret ?_
  exact .mk [(4, 10)] (.inr rfl) (.cellA rfl rfl rfl rfl rfl (.nil)) (by first | rfl | (have er : r = f.regs.toNat := (by omega); subst er; first | done | rfl)) (.rowE rfl (.nil) (by first | rfl | (have er : r = f.regs.toNat := (by omega); subst er; first | done | rfl))) rfl
end Lg
end Go.Proofs.Ytpfhmodjjljpjaa
