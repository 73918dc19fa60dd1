import Derived.Test.YtpfhmodjjljpjaaAlm6
set_option linter.unusedVariables false
set_option linter.unusedSimpArgs false
namespace Go.Proofs.Ytpfhmodjjljpjaa
open Go.RowKit
namespace Lg
set_option maxRecDepth 100000
set_option linter.unusedVariables false
set_option linter.unusedSimpArgs false
set_option maxHeartbeats 1600000
theorem body121 : (Try.prog.funcs[121]?).map (fun fn => (fn.name == "runtime.NumGoroutine" || fn.body.isNone)) = some false := by kernel_rfl
theorem oneIns_spec (p : GProg) (inp : ByteArray) (fuel : Int) (call : Int → RS → RS) (t : GTac) (regs : List Int) (s : RS) (num nr : Int) (hf : FB t nr p.words num) (hr : ROk nr regs) (hs : SOk p.words inp fuel s) (h0 : s.fin = 0) (hn : isW t.n) (hw : 0 ≤ p.words ∧ p.words ≤ 1048576) (hi : (inp.size : Int) ≤ 1000000) (hc : t.op = 10 → FunS p inp fuel call t.base) : Spec Try.prog 121 [.p 1 0, .agg [.v (.int .i64 t.op), .v (.int .i64 t.d), .v (.int .i64 t.a), .v (.int .i64 t.b), .v (.int .i64 t.k), .v (.int .i64 t.base), .v (.int .i64 t.size), .v (.int .u32 t.n)], .r 2] 6 [(1, .box 107 [.v (.int .i64 p.words), .r 3, .v (.string inp), .v (.int .i64 fuel), .r 4, .r 5, .v (.int .i64 s.read), .v (.int .i64 s.steps), .v (.int .i64 s.fin)]), (2, .row 68 1 (regs.map eU32)), (3, .fz 2 (p.funcs.map eFn)), (4, .row 68 1 (s.ws.map eU32)), (5, .row 5 1 (s.out.map eU8))] (.tup []) 7 [(1, .box 107 [.v (.int .i64 p.words), .r 3, .v (.string inp), .v (.int .i64 fuel), .r 4, .r 6, .v (.int .i64 (oneS inp call t regs s).read), .v (.int .i64 (oneS inp call t regs s).steps), .v (.int .i64 (oneS inp call t regs s).fin)]), (2, .row 68 1 ((oneR inp t regs s).map eU32)), (4, .row 68 1 ((oneS inp call t regs s).ws.map eU32)), (5, .no), (6, .row 5 1 ((oneS inp call t regs s).out.map eU8))] := by
 have f1 := hf.op
 have f2 := hf.d
 have f3 := hf.a
 have f4 := hf.b
 have f5 := hf.k
 have f6 := hf.base
 have f7 := hf.size
 have f8 := hf.call
 have f9 := hr.len
 have f10 := hs.len
 have f11 := hs.read
 have f12 := hs.steps
 have f13 := hs.out
 have f14 := hr.at t.a.toNat
 have f15 := hr.at t.b.toNat
 have f16 := f14.1
 have f17 := f14.2
 refine spec_of D (fn := Try.f121) rfl rfl (Nat.le_of_ble_eq_true rfl) ?_
 refine W_seq ?_
 refine W_seqK (b' := 22) rfl rfl ?_
 refine q1 4 6 1 rfl rfl (T_box rfl rfl flat_agg) rfl ?_
 refine k_done rfl ?_
 refine thenK_n ?_
 refine W_seq ?_
 refine W_seqK (b' := 54) rfl rfl ?_
 refine q0 8 22 1 rfl rfl (T_fa D (m := 0) rfl rfl rfl rfl rfl rfl) rfl ?_
 refine q0 9 38 2 rfl rfl (T_load_b D rfl rfl rfl rfl rfl rfl) rfl ?_
 refine k_done rfl ?_
 refine thenK_n ?_
 refine W_block ?_
 refine W_seq ?_
 refine W_seqK (b' := 86) rfl rfl ?_
 refine q0 11 54 1 rfl rfl (T_cmp rfl rfl rfl rfl) rfl ?_
 refine q0 10 70 2 rfl rfl (T_assign rfl rfl) rfl ?_
 refine k_done rfl ?_
 refine thenK_n ?_
 refine W_cond rfl (fun g1 => ?_) (fun g1 => ?_)
 ·have h1 := c_eql_t g1
  refine W_seqK (b' := 198) rfl rfl ?_
  refine q0 12 86 1 rfl rfl (T_move rfl rfl) rfl ?_
  refine q0 13 102 2 rfl rfl (T_fa D (m := 1) rfl rfl rfl rfl rfl rfl) rfl ?_
  refine q0 14 118 3 rfl rfl (T_load_b D rfl rfl rfl rfl rfl rfl) rfl ?_
  refine q0 15 134 4 rfl rfl (T_fa D (m := 7) rfl rfl rfl rfl rfl rfl) rfl ?_
  refine q0 16 150 5 rfl rfl (T_load_b D rfl rfl rfl rfl rfl rfl) rfl ?_
  refine q0 17 166 6 rfl rfl (T_indexAddrZ D rfl rfl rfl rfl rfl rfl rfl rfl (by omega) (by omega)) rfl ?_
  refine s1 182 7 rfl rfl (T_store_e D (z := _) rfl rfl rfl rfl (flat_v rfl) rfl rfl (by omega) (.v rfl (.nil)) rfl (Nat.le_of_ble_eq_true rfl) rfl) rfl ?_
  refine k_done rfl ?_
  refine blockK_n ?_
  have hO : oneS inp call t regs s = s := by unfold oneS; repeat rw [if_neg (by omega)]
  have hR : oneR inp t regs s = regs.set t.d.toNat t.n := by unfold oneR; repeat rw [if_pos (by omega)]
  exact .mk [(6, 5)] (.inl rfl) (.nil) rfl (.box (by (rw [hO]; rfl)) (.rowE rfl (.rowE rfl (.no (.rowE rfl (.nil) (by (rw [hO]; done)))) (by (rw [hO]; done))) (by (rw [hR]; done)))) rfl
 ·have h1 := c_eql_f g1
  refine W_seq ?_
  refine W_seqK (b' := 118) rfl rfl ?_
  refine q0 19 86 1 rfl rfl (T_cmp rfl rfl rfl rfl) rfl ?_
  refine q0 18 102 2 rfl rfl (T_assign rfl rfl) rfl ?_
  refine k_done rfl ?_
  refine thenK_n ?_
  refine W_cond rfl (fun g2 => ?_) (fun g2 => ?_)
  ·have h2 := c_eql_t g2
   refine W_anyK (b' := 278) rfl rfl rfl ?_
   refine q0 20 118 1 rfl rfl (T_move rfl rfl) rfl ?_
   refine q0 21 134 2 rfl rfl (T_fa D (m := 1) rfl rfl rfl rfl rfl rfl) rfl ?_
   refine q0 22 150 3 rfl rfl (T_load_b D rfl rfl rfl rfl rfl rfl) rfl ?_
   refine q0 23 166 4 rfl rfl (T_move rfl rfl) rfl ?_
   refine q0 24 182 5 rfl rfl (T_fa D (m := 2) rfl rfl rfl rfl rfl rfl) rfl ?_
   refine q0 25 198 6 rfl rfl (T_load_b D rfl rfl rfl rfl rfl rfl) rfl ?_
   refine q0 26 214 7 rfl rfl (T_indexAddrZ D rfl rfl rfl rfl rfl rfl rfl rfl (by omega) (by omega)) rfl ?_
   refine q0 27 230 8 rfl rfl (T_ldE D (lv := .v _) (nn := 0) (upd := []) rfl rfl rfl rfl rfl (by omega) rfl rfl rfl rfl) rfl ?_
   refine q0 28 246 9 rfl rfl (T_indexAddrZ D rfl rfl rfl rfl rfl rfl rfl rfl (by omega) (by omega)) rfl ?_
   refine s1 262 10 rfl rfl (T_store_e D (z := _) rfl rfl rfl rfl (flat_v rfl) rfl rfl (by omega) (.v rfl (.nil)) rfl (Nat.le_of_ble_eq_true rfl) rfl) rfl ?_
   refine k_done rfl ?_
   refine ⟨rfl, ?_⟩
   refine blockK_n ?_
   have hO : oneS inp call t regs s = s := by unfold oneS; repeat rw [if_neg (by omega)]
   have hR : oneR inp t regs s = regs.set t.d.toNat (regs.getD t.a.toNat default) := by unfold oneR; repeat first | rw [if_pos (by omega)] | rw [if_neg (by omega)]
   exact .mk [(6, 5)] (.inl rfl) (.nil) rfl (.box (by (rw [hO]; rfl)) (.rowE rfl (.rowE rfl (.no (.rowE rfl (.nil) (by (rw [hO]; done)))) (by (rw [hO]; done))) (by (rw [hR]; done)))) rfl
  ·have h2 := c_eql_f g2
   refine W_seq ?_
   refine W_seqK (b' := 150) rfl rfl ?_
   refine q0 30 118 1 rfl rfl (T_cmp rfl rfl rfl rfl) rfl ?_
   refine q0 29 134 2 rfl rfl (T_assign rfl rfl) rfl ?_
   refine k_done rfl ?_
   refine thenK_n ?_
   refine W_cond rfl (fun g3 => ?_) (fun g3 => ?_)
   ·have h3 := c_eql_t g3
    refine W_seq ?_
    refine W_anyK (b' := 438) rfl rfl rfl ?_
    refine q0 32 150 1 rfl rfl (T_fa D (m := 4) rfl rfl rfl rfl rfl rfl) rfl ?_
    refine q0 33 166 2 rfl rfl (T_load_b D rfl rfl rfl rfl rfl rfl) rfl ?_
    refine q0 34 182 3 rfl rfl (T_move rfl rfl) rfl ?_
    refine q0 35 198 4 rfl rfl (T_fa D (m := 2) rfl rfl rfl rfl rfl rfl) rfl ?_
    refine q0 36 214 5 rfl rfl (T_load_b D rfl rfl rfl rfl rfl rfl) rfl ?_
    refine q0 37 230 6 rfl rfl (T_indexAddrZ D rfl rfl rfl rfl rfl rfl rfl rfl (by omega) (by omega)) rfl ?_
    refine q0 38 246 7 rfl rfl (T_ldE D (lv := .v _) (nn := 0) (upd := []) rfl rfl rfl rfl rfl (by omega) rfl rfl rfl rfl) rfl ?_
    refine q0 39 262 8 rfl rfl (T_move rfl rfl) rfl ?_
    refine q0 40 278 9 rfl rfl (T_fa D (m := 3) rfl rfl rfl rfl rfl rfl) rfl ?_
    refine q0 41 294 10 rfl rfl (T_load_b D rfl rfl rfl rfl rfl rfl) rfl ?_
    refine q0 42 310 11 rfl rfl (T_indexAddrZ D rfl rfl rfl rfl rfl rfl rfl rfl (by omega) (by omega)) rfl ?_
    refine q0 43 326 12 rfl rfl (T_ldE D (lv := .v _) (nn := 0) (upd := []) rfl rfl rfl rfl rfl (by omega) rfl rfl rfl rfl) rfl ?_
    refine qn 44 342 13 rfl rfl (T_call (lvs := [_, _, _]) (L := []) (lv := .tup [.v _, .v _]) (upd := []) (nn := 0) false (apply_spec _ _ _ f14 f15) body134 rfl rfl rfl rfl (.nil) rfl (.inl rfl) rfl rfl rfl) rfl ?_
    refine q0 31 358 14 rfl rfl (T_move rfl rfl) rfl ?_
    refine q0 45 374 15 rfl rfl (T_extract rfl rfl rfl) rfl ?_
    refine q0 46 390 16 rfl rfl (T_extract rfl rfl rfl) rfl ?_
    refine q0 6 406 17 rfl rfl (T_assign rfl rfl) rfl ?_
    refine q0 7 422 18 rfl rfl (T_assign rfl rfl) rfl ?_
    refine k_done rfl ?_
    refine ⟨rfl, ?_⟩
    refine thenK_n ?_
    refine W_seq ?_
    refine W_seq ?_
    refine W_seqK (b' := 470) rfl rfl ?_
    refine q0 47 438 1 rfl rfl (T_move rfl rfl) rfl ?_
    refine q0 48 454 2 rfl rfl (T_cmp rfl rfl rfl rfl) rfl ?_
    refine k_done rfl ?_
    refine thenK_n ?_
    refine W_cond rfl (fun g4 => ?_) (fun g4 => ?_)
    ·have h4 := c_neq_t g4
     refine W_seq ?_
     refine W_seqK (b' := 534) rfl rfl ?_
     refine q0 49 470 1 rfl rfl (T_move rfl rfl) rfl ?_
     refine q0 50 486 2 rfl rfl (T_nilCheck rfl rfl) rfl ?_
     refine q0 51 502 3 rfl rfl (T_fa D (m := 8) rfl rfl rfl rfl rfl rfl) rfl ?_
     refine s1 518 4 rfl rfl (T_stB D (cs' := [_, _, _, _, _, _, _, _, _]) rfl rfl rfl rfl (flat_v rfl) rfl rfl (Nat.le_of_ble_eq_true rfl) rfl) rfl ?_
     refine k_done rfl ?_
     refine thenK_n ?_
     refine W_ret ?_
     refine thenK_r ?_
     refine blockK_r ?_
     have hO : oneS inp call t regs s = s.stop 2 := by unfold oneS; repeat first | rw [if_pos (by omega)] | rw [if_neg (by omega)]
     have hR : oneR inp t regs s = regs := by unfold oneR; repeat first | rw [if_pos (by omega)] | rw [if_neg (by omega)]
     exact .mk [(6, 5)] (.inr rfl) (.nil) rfl (.box (by (rw [hO]; rfl)) (.rowE rfl (.rowE rfl (.no (.rowE rfl (.nil) (by (rw [hO]; rfl)))) (by (rw [hO]; rfl))) (by (rw [hR]; done)))) rfl
    ·have h4 := c_neq_f g4
     refine W_skip ?_
     refine thenK_n ?_
     refine W_seqK (b' := 566) rfl rfl ?_
     refine q0 52 470 1 rfl rfl (T_move rfl rfl) rfl ?_
     refine q0 53 486 2 rfl rfl (T_fa D (m := 1) rfl rfl rfl rfl rfl rfl) rfl ?_
     refine q0 54 502 3 rfl rfl (T_load_b D rfl rfl rfl rfl rfl rfl) rfl ?_
     refine q0 55 518 4 rfl rfl (T_move rfl rfl) rfl ?_
     refine q0 56 534 5 rfl rfl (T_indexAddrZ D rfl rfl rfl rfl rfl rfl rfl rfl (by omega) (by omega)) rfl ?_
     refine s1 550 6 rfl rfl (T_store_e D (z := _) rfl rfl rfl rfl (flat_v rfl) rfl rfl (by omega) (.v rfl (.nil)) rfl (Nat.le_of_ble_eq_true rfl) rfl) rfl ?_
     refine k_done rfl ?_
     refine blockK_n ?_
     have hO : oneS inp call t regs s = s := by unfold oneS; repeat rw [if_pos (by omega)]
     have hR : oneR inp t regs s = regs.set t.d.toNat (appV t.k (regs.getD t.a.toNat default) (regs.getD t.b.toNat default)) := by unfold oneR; repeat first | rw [if_pos (by omega)] | rw [if_neg (by omega)]
     exact .mk [(6, 5)] (.inl rfl) (.nil) rfl (.box (by (rw [hO]; rfl)) (.rowE rfl (.rowE rfl (.no (.rowE rfl (.nil) (by (rw [hO]; done)))) (by (rw [hO]; done))) (by (rw [hR]; done)))) rfl
   ·have h3 := c_eql_f g3
    refine W_seq ?_
    refine W_seqK (b' := 182) rfl rfl ?_
    refine q0 58 150 1 rfl rfl (T_cmp rfl rfl rfl rfl) rfl ?_
    refine q0 57 166 2 rfl rfl (T_assign rfl rfl) rfl ?_
    refine k_done rfl ?_
    refine thenK_n ?_
    refine W_cond rfl (fun g5 => ?_) (fun g5 => ?_)
    ·have h5 := c_eql_t g5
     refine W_anyK (b' := 390) rfl rfl rfl ?_
     refine q0 59 182 1 rfl rfl (T_move rfl rfl) rfl ?_
     refine q0 60 198 2 rfl rfl (T_fa D (m := 1) rfl rfl rfl rfl rfl rfl) rfl ?_
     refine q0 61 214 3 rfl rfl (T_load_b D rfl rfl rfl rfl rfl rfl) rfl ?_
     refine q0 62 230 4 rfl rfl (T_move rfl rfl) rfl ?_
     refine q0 63 246 5 rfl rfl (T_nilCheck rfl rfl) rfl ?_
     refine q0 64 262 6 rfl rfl (T_fa D (m := 4) rfl rfl rfl rfl rfl rfl) rfl ?_
     refine q0 65 278 7 rfl rfl (T_load_b D rfl rfl rfl rfl rfl rfl) rfl ?_
     refine q0 66 294 8 rfl rfl (T_fa D (m := 5) rfl rfl rfl rfl rfl rfl) rfl ?_
     refine q0 67 310 9 rfl rfl (T_load_b D rfl rfl rfl rfl rfl rfl) rfl ?_
     refine q0 68 326 10 rfl rfl (T_indexAddrZ D rfl rfl rfl rfl rfl rfl rfl rfl (by omega) (by omega)) rfl ?_
     refine q0 69 342 11 rfl rfl (T_ldE D (lv := .v _) (nn := 0) (upd := []) rfl rfl rfl rfl rfl (by omega) rfl rfl rfl rfl) rfl ?_
     refine q0 70 358 12 rfl rfl (T_indexAddrZ D rfl rfl rfl rfl rfl rfl rfl rfl (by omega) (by omega)) rfl ?_
     refine s1 374 13 rfl rfl (T_store_e D (z := _) rfl rfl rfl rfl (flat_v rfl) rfl rfl (by omega) (.v rfl (.nil)) rfl (Nat.le_of_ble_eq_true rfl) rfl) rfl ?_
     refine k_done rfl ?_
     refine ⟨rfl, ?_⟩
     refine blockK_n ?_
     have hO : oneS inp call t regs s = s := by unfold oneS; repeat rw [if_neg (by omega)]
     have hR : oneR inp t regs s = regs.set t.d.toNat (s.ws.getD t.base.toNat default) := by unfold oneR; repeat first | rw [if_pos (by omega)] | rw [if_neg (by omega)]
     exact .mk [(6, 5)] (.inl rfl) (.nil) rfl (.box (by (rw [hO]; rfl)) (.rowE rfl (.rowE rfl (.no (.rowE rfl (.nil) (by (rw [hO]; done)))) (by (rw [hO]; done))) (by (rw [hR]; done)))) rfl
    ·have h5 := c_eql_f g5
     refine W_seq ?_
     refine W_seqK (b' := 214) rfl rfl ?_
     refine q0 72 182 1 rfl rfl (T_cmp rfl rfl rfl rfl) rfl ?_
     refine q0 71 198 2 rfl rfl (T_assign rfl rfl) rfl ?_
     refine k_done rfl ?_
     refine thenK_n ?_
     refine W_cond rfl (fun g6 => ?_) (fun g6 => ?_)
     ·have h6 := c_eql_t g6
      refine W_anyK (b' := 422) rfl rfl rfl ?_
      refine q0 73 214 1 rfl rfl (T_move rfl rfl) rfl ?_
      refine q0 74 230 2 rfl rfl (T_nilCheck rfl rfl) rfl ?_
      refine q0 75 246 3 rfl rfl (T_fa D (m := 4) rfl rfl rfl rfl rfl rfl) rfl ?_
      refine q0 76 262 4 rfl rfl (T_load_b D rfl rfl rfl rfl rfl rfl) rfl ?_
      refine q0 77 278 5 rfl rfl (T_fa D (m := 5) rfl rfl rfl rfl rfl rfl) rfl ?_
      refine q0 78 294 6 rfl rfl (T_load_b D rfl rfl rfl rfl rfl rfl) rfl ?_
      refine q0 79 310 7 rfl rfl (T_move rfl rfl) rfl ?_
      refine q0 80 326 8 rfl rfl (T_fa D (m := 2) rfl rfl rfl rfl rfl rfl) rfl ?_
      refine q0 81 342 9 rfl rfl (T_load_b D rfl rfl rfl rfl rfl rfl) rfl ?_
      refine q0 82 358 10 rfl rfl (T_indexAddrZ D rfl rfl rfl rfl rfl rfl rfl rfl (by omega) (by omega)) rfl ?_
      refine q0 83 374 11 rfl rfl (T_ldE D (lv := .v _) (nn := 0) (upd := []) rfl rfl rfl rfl rfl (by omega) rfl rfl rfl rfl) rfl ?_
      refine q0 84 390 12 rfl rfl (T_indexAddrZ D rfl rfl rfl rfl rfl rfl rfl rfl (by omega) (by omega)) rfl ?_
      refine s1 406 13 rfl rfl (T_store_e D (z := _) rfl rfl rfl rfl (flat_v rfl) rfl rfl (by omega) (.v rfl (.nil)) rfl (Nat.le_of_ble_eq_true rfl) rfl) rfl ?_
      refine k_done rfl ?_
      refine ⟨rfl, ?_⟩
      refine blockK_n ?_
      have hO : oneS inp call t regs s = { s with ws := s.ws.set t.base.toNat (regs.getD t.a.toNat default) } := by unfold oneS; repeat first | rw [if_pos (by omega)] | rw [if_neg (by omega)]
      have hR : oneR inp t regs s = regs := by unfold oneR; repeat rw [if_neg (by omega)]
      exact .mk [(6, 5)] (.inl rfl) (.nil) rfl (.box (by (rw [hO]; rfl)) (.rowE rfl (.rowE rfl (.no (.rowE rfl (.nil) (by (rw [hO]; done)))) (by (rw [hO]; done))) (by (rw [hR]; done)))) rfl
     ·have h6 := c_eql_f g6
      refine W_seq ?_
      refine W_seq ?_
      refine W_seqK (b' := 246) rfl rfl ?_
      refine q0 86 214 1 rfl rfl (T_cmp rfl rfl rfl rfl) rfl ?_
      refine q0 85 230 2 rfl rfl (T_assign rfl rfl) rfl ?_
      refine k_done rfl ?_
      refine thenK_n ?_
      refine W_cond rfl (fun g7 => ?_) (fun g7 => ?_)
      ·have h7 := c_eql_t g7
       refine W_skip ?_
       refine thenK_n ?_
       refine W_cond rfl (fun g8 => ?_) (fun g8 => ?_)
       ·skip
        refine W_seq ?_
        refine W_seq ?_
        refine W_anyK (b' := 406) rfl rfl rfl ?_
        refine q0 88 246 1 rfl rfl (T_move rfl rfl) rfl ?_
        refine q0 89 262 2 rfl rfl (T_fa D (m := 2) rfl rfl rfl rfl rfl rfl) rfl ?_
        refine q0 90 278 3 rfl rfl (T_load_b D rfl rfl rfl rfl rfl rfl) rfl ?_
        refine q0 91 294 4 rfl rfl (T_indexAddrZ D rfl rfl rfl rfl rfl rfl rfl rfl (by omega) (by omega)) rfl ?_
        refine q0 92 310 5 rfl rfl (T_ldE D (lv := .v _) (nn := 0) (upd := []) rfl rfl rfl rfl rfl (by omega) rfl rfl rfl rfl) rfl ?_
        refine q0 93 326 6 rfl rfl (T_convU (top := 18446744073709551616) rfl rfl (by rw [Try.underlying68]; rfl) Try.underlying164 rfl rfl (by omega)) rfl ?_
        refine q0 94 342 7 rfl rfl (T_fa D (m := 6) rfl rfl rfl rfl rfl rfl) rfl ?_
        refine q0 95 358 8 rfl rfl (T_load_b D rfl rfl rfl rfl rfl rfl) rfl ?_
        refine q0 96 374 9 rfl rfl (T_convU (top := 18446744073709551616) rfl rfl (by rw [Try.underlying3]; rfl) Try.underlying164 rfl rfl (by omega)) rfl ?_
        refine q0 97 390 10 rfl rfl (T_cmp rfl rfl rfl rfl) rfl ?_
        refine k_done rfl ?_
        refine ⟨rfl, ?_⟩
        refine thenK_n ?_
        refine W_cond rfl (fun g9 => ?_) (fun g9 => ?_)
        ·have h9 := c_geq_t g9
         refine W_seq ?_
         refine W_seqK (b' := 470) rfl rfl ?_
         refine q0 98 406 1 rfl rfl (T_move rfl rfl) rfl ?_
         refine q0 99 422 2 rfl rfl (T_nilCheck rfl rfl) rfl ?_
         refine q0 100 438 3 rfl rfl (T_fa D (m := 8) rfl rfl rfl rfl rfl rfl) rfl ?_
         refine s1 454 4 rfl rfl (T_stB D (cs' := [_, _, _, _, _, _, _, _, _]) rfl rfl rfl rfl (flat_v rfl) rfl rfl (Nat.le_of_ble_eq_true rfl) rfl) rfl ?_
         refine k_done rfl ?_
         refine thenK_n ?_
         refine W_ret ?_
         refine thenK_r ?_
         refine blockK_r ?_
         have hO : oneS inp call t regs s = s.stop 3 := by unfold oneS; repeat first | rw [if_pos (by omega)] | rw [if_neg (by omega)]
         have hR : oneR inp t regs s = regs := by unfold oneR; repeat first | rw [if_pos (by omega)] | rw [if_neg (by omega)]
         exact .mk [(6, 5)] (.inr rfl) (.nil) rfl (.box (by (rw [hO]; rfl)) (.rowE rfl (.rowE rfl (.no (.rowE rfl (.nil) (by (rw [hO]; rfl)))) (by (rw [hO]; rfl))) (by (rw [hR]; done)))) rfl
        ·have h9 := c_geq_f g9
         refine W_skip ?_
         refine thenK_n ?_
         refine W_seq ?_
         refine W_seqK (b' := 454) rfl rfl ?_
         refine q0 101 406 1 rfl rfl (T_fa D (m := 0) rfl rfl rfl rfl rfl rfl) rfl ?_
         refine q0 102 422 2 rfl rfl (T_load_b D rfl rfl rfl rfl rfl rfl) rfl ?_
         refine q0 103 438 3 rfl rfl (T_cmp rfl rfl rfl rfl) rfl ?_
         refine k_done rfl ?_
         refine thenK_n ?_
         refine W_cond rfl (fun g10 => ?_) (fun g10 => ?_)
         ·have h10 := c_eql_t g10
          refine W_anyK (b' := 774) rfl rfl rfl ?_
          refine q0 104 454 1 rfl rfl (T_move rfl rfl) rfl ?_
          refine q0 105 470 2 rfl rfl (T_fa D (m := 1) rfl rfl rfl rfl rfl rfl) rfl ?_
          refine q0 106 486 3 rfl rfl (T_load_b D rfl rfl rfl rfl rfl rfl) rfl ?_
          refine q0 107 502 4 rfl rfl (T_move rfl rfl) rfl ?_
          refine q0 108 518 5 rfl rfl (T_nilCheck rfl rfl) rfl ?_
          refine q0 109 534 6 rfl rfl (T_fa D (m := 4) rfl rfl rfl rfl rfl rfl) rfl ?_
          refine q0 110 550 7 rfl rfl (T_load_b D rfl rfl rfl rfl rfl rfl) rfl ?_
          refine q0 111 566 8 rfl rfl (T_fa D (m := 5) rfl rfl rfl rfl rfl rfl) rfl ?_
          refine q0 112 582 9 rfl rfl (T_load_b D rfl rfl rfl rfl rfl rfl) rfl ?_
          refine q0 113 598 10 rfl rfl (T_move rfl rfl) rfl ?_
          refine q0 114 614 11 rfl rfl (T_fa D (m := 2) rfl rfl rfl rfl rfl rfl) rfl ?_
          refine q0 115 630 12 rfl rfl (T_load_b D rfl rfl rfl rfl rfl rfl) rfl ?_
          refine q0 116 646 13 rfl rfl (T_indexAddrZ D rfl rfl rfl rfl rfl rfl rfl rfl (by omega) (by omega)) rfl ?_
          refine q0 117 662 14 rfl rfl (T_ldE D (lv := .v _) (nn := 0) (upd := []) rfl rfl rfl rfl rfl (by omega) rfl rfl rfl rfl) rfl ?_
          refine q0 118 678 15 rfl rfl (T_conv64 rfl rfl (by rw [Try.underlying68]; rfl) (by omega)) rfl ?_
          refine q0 119 694 16 rfl rfl (T_add64 rfl rfl rfl (by omega)) rfl ?_
          refine q0 120 710 17 rfl rfl (T_indexAddrZ D rfl rfl rfl rfl rfl rfl rfl rfl (by omega) (by omega)) rfl ?_
          refine q0 121 726 18 rfl rfl (T_ldE D (lv := .v _) (nn := 0) (upd := []) rfl rfl rfl rfl rfl (by omega) rfl rfl rfl rfl) rfl ?_
          refine q0 122 742 19 rfl rfl (T_indexAddrZ D rfl rfl rfl rfl rfl rfl rfl rfl (by omega) (by omega)) rfl ?_
          refine s1 758 20 rfl rfl (T_store_e D (z := _) rfl rfl rfl rfl (flat_v rfl) rfl rfl (by omega) (.v rfl (.nil)) rfl (Nat.le_of_ble_eq_true rfl) rfl) rfl ?_
          refine k_done rfl ?_
          refine ⟨rfl, ?_⟩
          refine blockK_n ?_
          have hO : oneS inp call t regs s = s := by unfold oneS; repeat first | rw [if_pos (by omega)] | rw [if_neg (by omega)]
          have hR : oneR inp t regs s = regs.set t.d.toNat (s.ws.getD (t.base + (regs.getD t.a.toNat default)).toNat default) := by unfold oneR; repeat first | rw [if_pos (by omega)] | rw [if_neg (by omega)]
          exact .mk [(6, 5)] (.inl rfl) (.nil) rfl (.box (by (rw [hO]; rfl)) (.rowE rfl (.rowE rfl (.no (.rowE rfl (.nil) (by (rw [hO]; done)))) (by (rw [hO]; done))) (by (rw [hR]; done)))) rfl
         ·have h10 := c_eql_f g10
          refine W_anyK (b' := 774) rfl rfl rfl ?_
          refine q0 123 454 1 rfl rfl (T_move rfl rfl) rfl ?_
          refine q0 124 470 2 rfl rfl (T_nilCheck rfl rfl) rfl ?_
          refine q0 125 486 3 rfl rfl (T_fa D (m := 4) rfl rfl rfl rfl rfl rfl) rfl ?_
          refine q0 126 502 4 rfl rfl (T_load_b D rfl rfl rfl rfl rfl rfl) rfl ?_
          refine q0 127 518 5 rfl rfl (T_fa D (m := 5) rfl rfl rfl rfl rfl rfl) rfl ?_
          refine q0 128 534 6 rfl rfl (T_load_b D rfl rfl rfl rfl rfl rfl) rfl ?_
          refine q0 129 550 7 rfl rfl (T_move rfl rfl) rfl ?_
          refine q0 130 566 8 rfl rfl (T_fa D (m := 2) rfl rfl rfl rfl rfl rfl) rfl ?_
          refine q0 131 582 9 rfl rfl (T_load_b D rfl rfl rfl rfl rfl rfl) rfl ?_
          refine q0 132 598 10 rfl rfl (T_indexAddrZ D rfl rfl rfl rfl rfl rfl rfl rfl (by omega) (by omega)) rfl ?_
          refine q0 133 614 11 rfl rfl (T_ldE D (lv := .v _) (nn := 0) (upd := []) rfl rfl rfl rfl rfl (by omega) rfl rfl rfl rfl) rfl ?_
          refine q0 134 630 12 rfl rfl (T_conv64 rfl rfl (by rw [Try.underlying68]; rfl) (by omega)) rfl ?_
          refine q0 135 646 13 rfl rfl (T_add64 rfl rfl rfl (by omega)) rfl ?_
          refine q0 136 662 14 rfl rfl (T_move rfl rfl) rfl ?_
          refine q0 137 678 15 rfl rfl (T_fa D (m := 3) rfl rfl rfl rfl rfl rfl) rfl ?_
          refine q0 138 694 16 rfl rfl (T_load_b D rfl rfl rfl rfl rfl rfl) rfl ?_
          refine q0 139 710 17 rfl rfl (T_indexAddrZ D rfl rfl rfl rfl rfl rfl rfl rfl (by omega) (by omega)) rfl ?_
          refine q0 140 726 18 rfl rfl (T_ldE D (lv := .v _) (nn := 0) (upd := []) rfl rfl rfl rfl rfl (by omega) rfl rfl rfl rfl) rfl ?_
          refine q0 141 742 19 rfl rfl (T_indexAddrZ D rfl rfl rfl rfl rfl rfl rfl rfl (by omega) (by omega)) rfl ?_
          refine s1 758 20 rfl rfl (T_store_e D (z := _) rfl rfl rfl rfl (flat_v rfl) rfl rfl (by omega) (.v rfl (.nil)) rfl (Nat.le_of_ble_eq_true rfl) rfl) rfl ?_
          refine k_done rfl ?_
          refine ⟨rfl, ?_⟩
          refine blockK_n ?_
          exact .mk [(6, 5)] (.inl rfl) (.nil) rfl (.box (by exfalso; omega) (.rowE rfl (.rowE rfl (.no (.rowE rfl (.nil) (by exfalso; omega))) (by exfalso; omega)) (by exfalso; omega))) rfl
       ·exact absurd (g8.symm.trans g7) (by decide)
      ·have h7 := c_eql_f g7
       refine W_seqK (b' := 278) rfl rfl ?_
       refine q0 87 246 1 rfl rfl (T_cmp rfl rfl rfl rfl) rfl ?_
       refine q0 85 262 2 rfl rfl (T_assign rfl rfl) rfl ?_
       refine k_done rfl ?_
       refine thenK_n ?_
       refine W_cond rfl (fun g11 => ?_) (fun g11 => ?_)
       ·have h11 := c_eql_t g11
        refine W_seq ?_
        refine W_seq ?_
        refine W_anyK (b' := 438) rfl rfl rfl ?_
        refine q0 88 278 1 rfl rfl (T_move rfl rfl) rfl ?_
        refine q0 89 294 2 rfl rfl (T_fa D (m := 2) rfl rfl rfl rfl rfl rfl) rfl ?_
        refine q0 90 310 3 rfl rfl (T_load_b D rfl rfl rfl rfl rfl rfl) rfl ?_
        refine q0 91 326 4 rfl rfl (T_indexAddrZ D rfl rfl rfl rfl rfl rfl rfl rfl (by omega) (by omega)) rfl ?_
        refine q0 92 342 5 rfl rfl (T_ldE D (lv := .v _) (nn := 0) (upd := []) rfl rfl rfl rfl rfl (by omega) rfl rfl rfl rfl) rfl ?_
        refine q0 93 358 6 rfl rfl (T_convU (top := 18446744073709551616) rfl rfl (by rw [Try.underlying68]; rfl) Try.underlying164 rfl rfl (by omega)) rfl ?_
        refine q0 94 374 7 rfl rfl (T_fa D (m := 6) rfl rfl rfl rfl rfl rfl) rfl ?_
        refine q0 95 390 8 rfl rfl (T_load_b D rfl rfl rfl rfl rfl rfl) rfl ?_
        refine q0 96 406 9 rfl rfl (T_convU (top := 18446744073709551616) rfl rfl (by rw [Try.underlying3]; rfl) Try.underlying164 rfl rfl (by omega)) rfl ?_
        refine q0 97 422 10 rfl rfl (T_cmp rfl rfl rfl rfl) rfl ?_
        refine k_done rfl ?_
        refine ⟨rfl, ?_⟩
        refine thenK_n ?_
        refine W_cond rfl (fun g12 => ?_) (fun g12 => ?_)
        ·have h12 := c_geq_t g12
         refine W_seq ?_
         refine W_seqK (b' := 502) rfl rfl ?_
         refine q0 98 438 1 rfl rfl (T_move rfl rfl) rfl ?_
         refine q0 99 454 2 rfl rfl (T_nilCheck rfl rfl) rfl ?_
         refine q0 100 470 3 rfl rfl (T_fa D (m := 8) rfl rfl rfl rfl rfl rfl) rfl ?_
         refine s1 486 4 rfl rfl (T_stB D (cs' := [_, _, _, _, _, _, _, _, _]) rfl rfl rfl rfl (flat_v rfl) rfl rfl (Nat.le_of_ble_eq_true rfl) rfl) rfl ?_
         refine k_done rfl ?_
         refine thenK_n ?_
         refine W_ret ?_
         refine thenK_r ?_
         refine blockK_r ?_
         have hO : oneS inp call t regs s = s.stop 3 := by unfold oneS; repeat first | rw [if_pos (by omega)] | rw [if_neg (by omega)]
         have hR : oneR inp t regs s = regs := by unfold oneR; repeat rw [if_neg (by omega)]
         exact .mk [(6, 5)] (.inr rfl) (.nil) rfl (.box (by (rw [hO]; rfl)) (.rowE rfl (.rowE rfl (.no (.rowE rfl (.nil) (by (rw [hO]; rfl)))) (by (rw [hO]; rfl))) (by (rw [hR]; done)))) rfl
        ·have h12 := c_geq_f g12
         refine W_skip ?_
         refine thenK_n ?_
         refine W_seq ?_
         refine W_seqK (b' := 486) rfl rfl ?_
         refine q0 101 438 1 rfl rfl (T_fa D (m := 0) rfl rfl rfl rfl rfl rfl) rfl ?_
         refine q0 102 454 2 rfl rfl (T_load_b D rfl rfl rfl rfl rfl rfl) rfl ?_
         refine q0 103 470 3 rfl rfl (T_cmp rfl rfl rfl rfl) rfl ?_
         refine k_done rfl ?_
         refine thenK_n ?_
         refine W_cond rfl (fun g13 => ?_) (fun g13 => ?_)
         ·have h13 := c_eql_t g13
          refine W_anyK (b' := 806) rfl rfl rfl ?_
          refine q0 104 486 1 rfl rfl (T_move rfl rfl) rfl ?_
          refine q0 105 502 2 rfl rfl (T_fa D (m := 1) rfl rfl rfl rfl rfl rfl) rfl ?_
          refine q0 106 518 3 rfl rfl (T_load_b D rfl rfl rfl rfl rfl rfl) rfl ?_
          refine q0 107 534 4 rfl rfl (T_move rfl rfl) rfl ?_
          refine q0 108 550 5 rfl rfl (T_nilCheck rfl rfl) rfl ?_
          refine q0 109 566 6 rfl rfl (T_fa D (m := 4) rfl rfl rfl rfl rfl rfl) rfl ?_
          refine q0 110 582 7 rfl rfl (T_load_b D rfl rfl rfl rfl rfl rfl) rfl ?_
          refine q0 111 598 8 rfl rfl (T_fa D (m := 5) rfl rfl rfl rfl rfl rfl) rfl ?_
          refine q0 112 614 9 rfl rfl (T_load_b D rfl rfl rfl rfl rfl rfl) rfl ?_
          refine q0 113 630 10 rfl rfl (T_move rfl rfl) rfl ?_
          refine q0 114 646 11 rfl rfl (T_fa D (m := 2) rfl rfl rfl rfl rfl rfl) rfl ?_
          refine q0 115 662 12 rfl rfl (T_load_b D rfl rfl rfl rfl rfl rfl) rfl ?_
          refine q0 116 678 13 rfl rfl (T_indexAddrZ D rfl rfl rfl rfl rfl rfl rfl rfl (by omega) (by omega)) rfl ?_
          refine q0 117 694 14 rfl rfl (T_ldE D (lv := .v _) (nn := 0) (upd := []) rfl rfl rfl rfl rfl (by omega) rfl rfl rfl rfl) rfl ?_
          refine q0 118 710 15 rfl rfl (T_conv64 rfl rfl (by rw [Try.underlying68]; rfl) (by omega)) rfl ?_
          refine q0 119 726 16 rfl rfl (T_add64 rfl rfl rfl (by omega)) rfl ?_
          refine q0 120 742 17 rfl rfl (T_indexAddrZ D rfl rfl rfl rfl rfl rfl rfl rfl (by omega) (by omega)) rfl ?_
          refine q0 121 758 18 rfl rfl (T_ldE D (lv := .v _) (nn := 0) (upd := []) rfl rfl rfl rfl rfl (by omega) rfl rfl rfl rfl) rfl ?_
          refine q0 122 774 19 rfl rfl (T_indexAddrZ D rfl rfl rfl rfl rfl rfl rfl rfl (by omega) (by omega)) rfl ?_
          refine s1 790 20 rfl rfl (T_store_e D (z := _) rfl rfl rfl rfl (flat_v rfl) rfl rfl (by omega) (.v rfl (.nil)) rfl (Nat.le_of_ble_eq_true rfl) rfl) rfl ?_
          refine k_done rfl ?_
          refine ⟨rfl, ?_⟩
          refine blockK_n ?_
          exact .mk [(6, 5)] (.inl rfl) (.nil) rfl (.box (by exfalso; omega) (.rowE rfl (.rowE rfl (.no (.rowE rfl (.nil) (by exfalso; omega))) (by exfalso; omega)) (by exfalso; omega))) rfl
         ·have h13 := c_eql_f g13
          refine W_anyK (b' := 806) rfl rfl rfl ?_
          refine q0 123 486 1 rfl rfl (T_move rfl rfl) rfl ?_
          refine q0 124 502 2 rfl rfl (T_nilCheck rfl rfl) rfl ?_
          refine q0 125 518 3 rfl rfl (T_fa D (m := 4) rfl rfl rfl rfl rfl rfl) rfl ?_
          refine q0 126 534 4 rfl rfl (T_load_b D rfl rfl rfl rfl rfl rfl) rfl ?_
          refine q0 127 550 5 rfl rfl (T_fa D (m := 5) rfl rfl rfl rfl rfl rfl) rfl ?_
          refine q0 128 566 6 rfl rfl (T_load_b D rfl rfl rfl rfl rfl rfl) rfl ?_
          refine q0 129 582 7 rfl rfl (T_move rfl rfl) rfl ?_
          refine q0 130 598 8 rfl rfl (T_fa D (m := 2) rfl rfl rfl rfl rfl rfl) rfl ?_
          refine q0 131 614 9 rfl rfl (T_load_b D rfl rfl rfl rfl rfl rfl) rfl ?_
          refine q0 132 630 10 rfl rfl (T_indexAddrZ D rfl rfl rfl rfl rfl rfl rfl rfl (by omega) (by omega)) rfl ?_
          refine q0 133 646 11 rfl rfl (T_ldE D (lv := .v _) (nn := 0) (upd := []) rfl rfl rfl rfl rfl (by omega) rfl rfl rfl rfl) rfl ?_
          refine q0 134 662 12 rfl rfl (T_conv64 rfl rfl (by rw [Try.underlying68]; rfl) (by omega)) rfl ?_
          refine q0 135 678 13 rfl rfl (T_add64 rfl rfl rfl (by omega)) rfl ?_
          refine q0 136 694 14 rfl rfl (T_move rfl rfl) rfl ?_
          refine q0 137 710 15 rfl rfl (T_fa D (m := 3) rfl rfl rfl rfl rfl rfl) rfl ?_
          refine q0 138 726 16 rfl rfl (T_load_b D rfl rfl rfl rfl rfl rfl) rfl ?_
          refine q0 139 742 17 rfl rfl (T_indexAddrZ D rfl rfl rfl rfl rfl rfl rfl rfl (by omega) (by omega)) rfl ?_
          refine q0 140 758 18 rfl rfl (T_ldE D (lv := .v _) (nn := 0) (upd := []) rfl rfl rfl rfl rfl (by omega) rfl rfl rfl rfl) rfl ?_
          refine q0 141 774 19 rfl rfl (T_indexAddrZ D rfl rfl rfl rfl rfl rfl rfl rfl (by omega) (by omega)) rfl ?_
          refine s1 790 20 rfl rfl (T_store_e D (z := _) rfl rfl rfl rfl (flat_v rfl) rfl rfl (by omega) (.v rfl (.nil)) rfl (Nat.le_of_ble_eq_true rfl) rfl) rfl ?_
          refine k_done rfl ?_
          refine ⟨rfl, ?_⟩
          refine blockK_n ?_
          have hO : oneS inp call t regs s = { s with ws := s.ws.set (t.base + (regs.getD t.a.toNat default)).toNat (regs.getD t.b.toNat default) } := by unfold oneS; repeat first | rw [if_pos (by omega)] | rw [if_neg (by omega)]
          have hR : oneR inp t regs s = regs := by unfold oneR; repeat rw [if_neg (by omega)]
          exact .mk [(6, 5)] (.inl rfl) (.nil) rfl (.box (by (rw [hO]; rfl)) (.rowE rfl (.rowE rfl (.no (.rowE rfl (.nil) (by (rw [hO]; done)))) (by (rw [hO]; done))) (by (rw [hR]; done)))) rfl
       ·have h11 := c_eql_f g11
        refine W_seq ?_
        refine W_seqK (b' := 310) rfl rfl ?_
        refine q0 143 278 1 rfl rfl (T_cmp rfl rfl rfl rfl) rfl ?_
        refine q0 142 294 2 rfl rfl (T_assign rfl rfl) rfl ?_
        refine k_done rfl ?_
        refine thenK_n ?_
        refine W_cond rfl (fun g14 => ?_) (fun g14 => ?_)
        ·have h14 := c_eql_t g14
         refine W_seq ?_
         refine W_seqK (b' := 390) rfl rfl ?_
         refine q0 144 310 1 rfl rfl (T_move rfl rfl) rfl ?_
         refine q0 145 326 2 rfl rfl (T_fa D (m := 1) rfl rfl rfl rfl rfl rfl) rfl ?_
         refine q0 146 342 3 rfl rfl (T_load_b D rfl rfl rfl rfl rfl rfl) rfl ?_
         refine q0 147 358 4 rfl rfl (T_indexAddrZ D rfl rfl rfl rfl rfl rfl rfl rfl (by omega) (by omega)) rfl ?_
         refine s1 374 5 rfl rfl (T_store_e D (z := _) rfl rfl rfl rfl (flat_v rfl) rfl rfl (by omega) (.v rfl (.nil)) rfl (Nat.le_of_ble_eq_true rfl) rfl) rfl ?_
         refine k_done rfl ?_
         refine thenK_n ?_
         refine W_seq ?_
         refine W_anyK (b' := 550) rfl rfl rfl ?_
         refine q0 148 390 1 rfl rfl (T_move rfl rfl) rfl ?_
         refine q0 149 406 2 rfl rfl (T_nilCheck rfl rfl) rfl ?_
         refine q0 150 422 3 rfl rfl (T_fa D (m := 6) rfl rfl rfl rfl rfl rfl) rfl ?_
         refine q0 151 438 4 rfl rfl (T_load_b D rfl rfl rfl rfl rfl rfl) rfl ?_
         refine q0 152 454 5 rfl rfl (T_move rfl rfl) rfl ?_
         refine q0 153 470 6 rfl rfl (T_nilCheck rfl rfl) rfl ?_
         refine q0 154 486 7 rfl rfl (T_fa D (m := 2) rfl rfl rfl rfl rfl rfl) rfl ?_
         refine q0 155 502 8 rfl rfl (T_load_b D rfl rfl rfl rfl rfl rfl) rfl ?_
         refine q0 156 518 9 rfl rfl (T_lenS Try.underlying9 rfl rfl) rfl ?_
         refine q0 157 534 10 rfl rfl (T_cmp rfl rfl rfl rfl) rfl ?_
         refine k_done rfl ?_
         refine ⟨rfl, ?_⟩
         refine thenK_n ?_
         refine W_cond rfl (fun g15 => ?_) (fun g15 => ?_)
         ·have h15 := c_lss_t g15
          refine W_seq ?_
          refine W_anyK (b' := 790) rfl rfl rfl ?_
          refine q0 158 550 1 rfl rfl (T_move rfl rfl) rfl ?_
          refine q0 159 566 2 rfl rfl (T_fa D (m := 1) rfl rfl rfl rfl rfl rfl) rfl ?_
          refine q0 160 582 3 rfl rfl (T_load_b D rfl rfl rfl rfl rfl rfl) rfl ?_
          refine q0 161 598 4 rfl rfl (T_move rfl rfl) rfl ?_
          refine q0 162 614 5 rfl rfl (T_nilCheck rfl rfl) rfl ?_
          refine q0 163 630 6 rfl rfl (T_fa D (m := 2) rfl rfl rfl rfl rfl rfl) rfl ?_
          refine q0 164 646 7 rfl rfl (T_load_b D rfl rfl rfl rfl rfl rfl) rfl ?_
          refine q0 165 662 8 rfl rfl (T_move rfl rfl) rfl ?_
          refine q0 166 678 9 rfl rfl (T_nilCheck rfl rfl) rfl ?_
          refine q0 167 694 10 rfl rfl (T_fa D (m := 6) rfl rfl rfl rfl rfl rfl) rfl ?_
          refine q0 168 710 11 rfl rfl (T_load_b D rfl rfl rfl rfl rfl rfl) rfl ?_
          refine q0 169 726 12 rfl rfl (T_ixS Try.underlying9 rfl rfl rfl (by omega)) rfl ?_
          refine q0 170 742 13 rfl rfl (T_convU (top := 4294967296) rfl rfl (by rw [Try.underlying5]; rfl) Try.underlying68 rfl rfl (by exact byteAt_isW _ _)) rfl ?_
          refine q0 171 758 14 rfl rfl (T_indexAddrZ D rfl rfl rfl rfl rfl rfl rfl rfl (by omega) (by (simp; omega))) rfl ?_
          refine s1 774 15 rfl rfl (T_store_e D (z := _) rfl rfl rfl rfl (flat_v rfl) rfl rfl (by (simp; omega)) (.v rfl (.nil)) rfl (Nat.le_of_ble_eq_true rfl) rfl) rfl ?_
          refine k_done rfl ?_
          refine ⟨rfl, ?_⟩
          refine thenK_n ?_
          refine W_seqK (b' := 918) rfl rfl ?_
          refine q0 172 790 1 rfl rfl (T_move rfl rfl) rfl ?_
          refine q0 173 806 2 rfl rfl (T_nilCheck rfl rfl) rfl ?_
          refine q0 174 822 3 rfl rfl (T_fa D (m := 6) rfl rfl rfl rfl rfl rfl) rfl ?_
          refine q0 175 838 4 rfl rfl (T_load_b D rfl rfl rfl rfl rfl rfl) rfl ?_
          refine q0 176 854 5 rfl rfl (T_add64 rfl rfl rfl (by omega)) rfl ?_
          refine q0 177 870 6 rfl rfl (T_nilCheck rfl rfl) rfl ?_
          refine q0 178 886 7 rfl rfl (T_fa D (m := 6) rfl rfl rfl rfl rfl rfl) rfl ?_
          refine s1 902 8 rfl rfl (T_stB D (cs' := [_, _, _, _, _, _, _, _, _]) rfl rfl rfl rfl (flat_v rfl) rfl rfl (Nat.le_of_ble_eq_true rfl) rfl) rfl ?_
          refine k_done rfl ?_
          refine blockK_n ?_
          have hO : oneS inp call t regs s = { s with read := s.read + 1 } := by unfold oneS; repeat first | rw [if_pos (by omega)] | rw [if_neg (by omega)]
          have hR : oneR inp t regs s = (regs.set t.d.toNat 256).set t.d.toNat (byteAt inp s.read) := by unfold oneR; repeat first | rw [if_pos (by omega)] | rw [if_neg (by omega)]
          exact .mk [(6, 5)] (.inl rfl) (.nil) rfl (.box (by (rw [hO]; rfl)) (.rowE rfl (.rowE rfl (.no (.rowE rfl (.nil) (by (rw [hO]; done)))) (by (rw [hO]; done))) (by (rw [hR]; done)))) rfl
         ·have h15 := c_lss_f g15
          refine W_skip ?_
          refine blockK_n ?_
          have hO : oneS inp call t regs s = s := by unfold oneS; repeat first | rw [if_pos (by omega)] | rw [if_neg (by omega)]
          have hR : oneR inp t regs s = regs.set t.d.toNat 256 := by unfold oneR; repeat first | rw [if_pos (by omega)] | rw [if_neg (by omega)]
          exact .mk [(6, 5)] (.inl rfl) (.nil) rfl (.box (by (rw [hO]; rfl)) (.rowE rfl (.rowE rfl (.no (.rowE rfl (.nil) (by (rw [hO]; done)))) (by (rw [hO]; done))) (by (rw [hR]; done)))) rfl
        ·have h14 := c_eql_f g14
         refine W_seq ?_
         refine W_seqK (b' := 342) rfl rfl ?_
         refine q0 180 310 1 rfl rfl (T_cmp rfl rfl rfl rfl) rfl ?_
         refine q0 179 326 2 rfl rfl (T_assign rfl rfl) rfl ?_
         refine k_done rfl ?_
         refine thenK_n ?_
         refine W_cond rfl (fun g16 => ?_) (fun g16 => ?_)
         ·have h16 := c_eql_t g16
          refine W_seq ?_
          refine W_seq ?_
          refine W_seqK (b' := 438) rfl rfl ?_
          refine q0 181 342 1 rfl rfl (T_move rfl rfl) rfl ?_
          refine q0 182 358 2 rfl rfl (T_nilCheck rfl rfl) rfl ?_
          refine q0 183 374 3 rfl rfl (T_fa D (m := 5) rfl rfl rfl rfl rfl rfl) rfl ?_
          refine q0 184 390 4 rfl rfl (T_load_b D rfl rfl rfl rfl rfl rfl) rfl ?_
          refine q0 185 406 5 rfl rfl (T_len D rfl rfl rfl rfl rfl rfl) rfl ?_
          refine q0 186 422 6 rfl rfl (T_cmp rfl rfl rfl rfl) rfl ?_
          refine k_done rfl ?_
          refine thenK_n ?_
          refine W_cond rfl (fun g17 => ?_) (fun g17 => ?_)
          ·have h17 := c_geq_t g17
           refine W_seq ?_
           refine W_seqK (b' := 502) rfl rfl ?_
           refine q0 187 438 1 rfl rfl (T_move rfl rfl) rfl ?_
           refine q0 188 454 2 rfl rfl (T_nilCheck rfl rfl) rfl ?_
           refine q0 189 470 3 rfl rfl (T_fa D (m := 8) rfl rfl rfl rfl rfl rfl) rfl ?_
           refine s1 486 4 rfl rfl (T_stB D (cs' := [_, _, _, _, _, _, _, _, _]) rfl rfl rfl rfl (flat_v rfl) rfl rfl (Nat.le_of_ble_eq_true rfl) rfl) rfl ?_
           refine k_done rfl ?_
           refine thenK_n ?_
           refine W_ret ?_
           refine thenK_r ?_
           refine blockK_r ?_
           have hO : oneS inp call t regs s = s.stop 4 := by unfold oneS; repeat first | rw [if_pos (by omega)] | rw [if_neg (by omega)]
           have hR : oneR inp t regs s = regs := by unfold oneR; repeat rw [if_neg (by omega)]
           exact .mk [(6, 5)] (.inr rfl) (.nil) rfl (.box (by (rw [hO]; rfl)) (.rowE rfl (.rowE rfl (.no (.rowE rfl (.nil) (by (rw [hO]; rfl)))) (by (rw [hO]; rfl))) (by (rw [hR]; done)))) rfl
          ·have h17 := c_geq_f g17
           refine W_skip ?_
           refine thenK_n ?_
           refine W_anyK (b' := 694) rfl rfl rfl ?_
           refine q0 190 438 1 rfl rfl (T_move rfl rfl) rfl ?_
           refine q0 191 454 2 rfl rfl (T_move rfl rfl) rfl ?_
           refine q0 192 470 3 rfl rfl (T_nilCheck rfl rfl) rfl ?_
           refine q0 193 486 4 rfl rfl (T_fa D (m := 5) rfl rfl rfl rfl rfl rfl) rfl ?_
           refine q0 194 502 5 rfl rfl (T_load_b D rfl rfl rfl rfl rfl rfl) rfl ?_
           refine q0 195 518 6 rfl rfl (T_move rfl rfl) rfl ?_
           refine q0 196 534 7 rfl rfl (T_fa D (m := 2) rfl rfl rfl rfl rfl rfl) rfl ?_
           refine q0 197 550 8 rfl rfl (T_load_b D rfl rfl rfl rfl rfl rfl) rfl ?_
           refine q0 198 566 9 rfl rfl (T_indexAddrZ D rfl rfl rfl rfl rfl rfl rfl rfl (by omega) (by omega)) rfl ?_
           refine q0 199 582 10 rfl rfl (T_ldE D (lv := .v _) (nn := 0) (upd := []) rfl rfl rfl rfl rfl (by omega) rfl rfl rfl rfl) rfl ?_
           refine q0 200 598 11 rfl rfl (T_convM (top := 256) rfl rfl (by rw [Try.underlying68]; rfl) Try.underlying5 rfl rfl) rfl ?_
           refine q1 201 614 12 rfl rfl (T_bs D (ys := [_]) (enc := eU8) (l := [_]) rfl rfl rfl rfl rfl rfl (.cons rfl (flat_v rfl) (.nil)) rfl rfl rfl rfl (.v rfl (.nil)) rfl rfl) rfl ?_
           refine qn 202 630 13 rfl rfl (T_append D rfl rfl rfl rfl rfl rfl rfl rfl rfl rfl rfl rfl (by (try simp only [ty5]); (simp; omega)) (by (try simp only [ty5]); (simp; omega))) rfl ?_
           refine q0 203 646 14 rfl rfl (T_nilCheck rfl rfl) rfl ?_
           refine q0 204 662 15 rfl rfl (T_fa D (m := 5) rfl rfl rfl rfl rfl rfl) rfl ?_
           refine s1 678 16 rfl rfl (T_stB D (cs' := [_, _, _, _, _, _, _, _, _]) rfl rfl rfl rfl (flat_sl rfl) rfl rfl (Nat.le_of_ble_eq_true rfl) rfl) rfl ?_
           refine k_done rfl ?_
           refine ⟨rfl, ?_⟩
           refine blockK_n ?_
           have hO : oneS inp call t regs s = { s with out := s.out ++ [(regs.getD t.a.toNat default) % 256] } := by unfold oneS; repeat first | rw [if_pos (by omega)] | rw [if_neg (by omega)]
           have hR : oneR inp t regs s = regs := by unfold oneR; repeat rw [if_neg (by omega)]
           exact .mk [(6, 630)] (.inl rfl) (.nil) rfl (.box (by (rw [hO]; rfl)) (.rowE rfl (.rowE rfl (.no (.rowE rfl (.nil) (by (rw [hO]; done)))) (by (rw [hO]; done))) (by (rw [hR]; done)))) rfl
         ·have h16 := c_eql_f g16
          refine W_seq ?_
          refine W_seqK (b' := 374) rfl rfl ?_
          refine q0 206 342 1 rfl rfl (T_cmp rfl rfl rfl rfl) rfl ?_
          refine q0 205 358 2 rfl rfl (T_assign rfl rfl) rfl ?_
          refine k_done rfl ?_
          refine thenK_n ?_
          refine W_cond rfl (fun g18 => ?_) (fun g18 => ?_)
          ·have h18 := c_eql_t g18
           refine W_seqK (b' := 438) rfl rfl ?_
           refine q0 207 374 1 rfl rfl (T_move rfl rfl) rfl ?_
           refine q0 208 390 2 rfl rfl (T_fa D (m := 5) rfl rfl rfl rfl rfl rfl) rfl ?_
           refine q0 209 406 3 rfl rfl (T_load_b D rfl rfl rfl rfl rfl rfl) rfl ?_
           refine qn 210 422 4 rfl rfl (T_call (lvs := [_, _]) (L := [(1, 1), (2, 3), (3, 4), (4, 5)]) (lv := .tup []) (upd := [(1, .box 107 [.v _, .r 3, .v _, .v _, .r 4, .r 422, .v _, .v _, .v _]), (4, .row 68 1 _), (5, .no), (422, .row 5 1 _)]) (nn := 1) false (hc (by omega) s hs h0) body77 rfl rfl rfl rfl (.box rfl (.fz rfl (.row rfl (.row rfl (.nil))))) rfl (.inl rfl) rfl rfl rfl) rfl ?_
           refine k_done rfl ?_
           refine blockK_n ?_
           have hO : oneS inp call t regs s = call t.base s := by unfold oneS; repeat first | rw [if_pos (by omega)] | rw [if_neg (by omega)]
           have hR : oneR inp t regs s = regs := by unfold oneR; repeat rw [if_neg (by omega)]
           exact .mk [(6, 422)] (.inl rfl) (.nil) rfl (.box (by (rw [hO]; rfl)) (.rowE rfl (.rowE rfl (.no (.rowE rfl (.nil) (by (rw [hO]; done)))) (by (rw [hO]; done))) (by (rw [hR]; done)))) rfl
          ·have h18 := c_eql_f g18
           refine W_skip ?_
           refine blockK_n ?_
           exact .mk [(6, 5)] (.inl rfl) (.nil) rfl (.box (by exfalso; omega) (.rowE rfl (.rowE rfl (.no (.rowE rfl (.nil) (by exfalso; omega))) (by exfalso; omega)) (by exfalso; omega))) rfl
end Lg
end Go.Proofs.Ytpfhmodjjljpjaa

namespace Go.Proofs.Ytpfhmodjjljpjaa
open Go.RowKit
namespace Lg
set_option linter.unusedSimpArgs false
set_option linter.unusedVariables false
section
variable {inp : ByteArray} {fuel : Int} {call : Int → RS → RS} {l : List GTac} {j m : Nat} {regs regs' : List Int} {s s' R : RS} {f : GFn} {at_ : Int} {q : List Int × RS × Bool}
theorem ins_stop (hq : insL inp fuel call (l.drop j) regs' s' = insL inp fuel call l regs s) (hj : j < l.length) (hn : ¬ s'.steps < fuel) : insL inp fuel call l regs s = (regs', s'.stop 5, true) := by
  rw [← hq, List.drop_eq_getElem_cons hj]
  simp only [insL]
  rw [if_neg hn]
theorem ins_end (hq : insL inp fuel call (l.drop j) regs' s' = insL inp fuel call l regs s) (hj : j < l.length) (hn : s'.steps < fuel) (hf : ¬ (oneS inp call (l.getD j default) regs' s'.tick).fin = 0) :
    insL inp fuel call l regs s = (oneR inp (l.getD j default) regs' s'.tick, oneS inp call (l.getD j default) regs' s'.tick, true) := by
  have e : l[j] = l.getD j default := by simp [List.getD, hj]
  rw [← hq, List.drop_eq_getElem_cons hj]
  simp only [insL]
  rw [if_pos hn, e, if_neg hf]
theorem ins_next (hq : insL inp fuel call (l.drop j) regs' s' = insL inp fuel call l regs s) (hj : j < l.length) (hn : s'.steps < fuel) (hf : (oneS inp call (l.getD j default) regs' s'.tick).fin = 0) :
    insL inp fuel call (l.drop (j + 1)) (oneR inp (l.getD j default) regs' s'.tick) (oneS inp call (l.getD j default) regs' s'.tick) = insL inp fuel call l regs s := by
  have e : l[j] = l.getD j default := by simp [List.getD, hj]
  rw [← hq, List.drop_eq_getElem_cons hj]
  simp only [insL]
  rw [if_pos hn, e, if_pos hf]
theorem ins_done (hq : insL inp fuel call (l.drop j) regs' s' = insL inp fuel call l regs s) (hj : l.length ≤ j) : insL inp fuel call l regs s = (regs', s', false) := by
  rw [← hq, List.drop_of_length_le hj]
  rfl
theorem blk_unf (hm : 0 < m) (hJ : blkL inp fuel call f m at_ regs s = R) (hq : insL inp fuel call (f.blocks.getD at_.toNat default).ins regs s = q) :
    R = if q.2.2 = true then q.2.1 else if q.2.1.steps < fuel then (if (f.blocks.getD at_.toNat default).fin = 3 then q.2.1.tick else blkL inp fuel call f (m - 1) (nextB (f.blocks.getD at_.toNat default) q.1) q.1 q.2.1.tick) else q.2.1.stop 5 := by
  obtain ⟨k, rfl⟩ : ∃ k, m = k + 1 := ⟨m - 1, by omega⟩
  rw [← hJ, ← hq]
  rfl
theorem run_halt (hm : 0 < m) (hJ : blkL inp fuel call f m at_ regs s = R) (hq : insL inp fuel call (f.blocks.getD at_.toNat default).ins regs s = (regs', s', true)) : R = s' := by
  rw [blk_unf hm hJ hq, if_pos rfl]
theorem run_fuel (hm : 0 < m) (hJ : blkL inp fuel call f m at_ regs s = R) (hq : insL inp fuel call (f.blocks.getD at_.toNat default).ins regs s = (regs', s', false)) (hn : ¬ s'.steps < fuel) : R = s'.stop 5 := by
  rw [blk_unf hm hJ hq, if_neg (by simp), if_neg hn]
theorem run_ret (hm : 0 < m) (hJ : blkL inp fuel call f m at_ regs s = R) (hq : insL inp fuel call (f.blocks.getD at_.toNat default).ins regs s = (regs', s', false)) (hn : s'.steps < fuel) (h3 : (f.blocks.getD at_.toNat default).fin = 3) : R = s'.tick := by
  rw [blk_unf hm hJ hq, if_neg (by simp), if_pos hn, if_pos h3]
theorem run_next (hm : 0 < m) (hJ : blkL inp fuel call f m at_ regs s = R) (hq : insL inp fuel call (f.blocks.getD at_.toNat default).ins regs s = (regs', s', false)) (hn : s'.steps < fuel) (h3 : ¬ (f.blocks.getD at_.toNat default).fin = 3) {nx : Int} (hx : nextB (f.blocks.getD at_.toNat default) regs' = nx) :
    blkL inp fuel call f (m - 1) nx regs' s'.tick = R := by
  rw [blk_unf hm hJ hq, if_neg (by simp), if_pos hn, if_neg h3, ← hx]
end
theorem ends_to {b : GBlock} {k regs : Int} (h : endsB b k regs = true) : (b.fin = 1 ∨ b.fin = 2 → 0 ≤ b.to ∧ b.to < k) ∧ (b.fin = 2 → (0 ≤ b.els ∧ b.els < k) ∧ 0 ≤ b.v ∧ b.v < regs) ∧ (b.fin = 1 ∨ b.fin = 2 ∨ b.fin = 3) := by
  unfold endsB at h
  split at h
  · rename_i h1
    simp only [Bool.and_eq_true] at h
    have := within_iff h.1.1
    exact ⟨fun _ => this, fun h2 => by omega, .inl h1⟩
  · split at h
    · rename_i h1 h2
      simp only [Bool.and_eq_true] at h
      have k1 := within_iff h.1.1
      have k2 := within_iff h.1.2
      have k3 := within_iff h.2
      exact ⟨fun _ => k1, fun _ => ⟨k2, k3⟩, .inr (.inl h2)⟩
    · rename_i h1 h2
      simp only [Bool.and_eq_true, beq_iff_eq] at h
      exact ⟨fun h3 => by omega, fun h3 => by omega, .inr (.inr h.1.1.1)⟩
theorem nextB_els {b : GBlock} {regs : List Int} (h : b.fin = 2) (h2 : regs.getD b.v.toNat default = 0) : nextB b regs = b.els := by unfold nextB; rw [if_pos ⟨h, h2⟩]
theorem nextB_to {b : GBlock} {regs : List Int} (h : ¬ (b.fin = 2 ∧ regs.getD b.v.toNat default = 0)) : nextB b regs = b.to := by unfold nextB; rw [if_neg h]
end Lg
end Go.Proofs.Ytpfhmodjjljpjaa

namespace Go.Proofs.Ytpfhmodjjljpjaa
open Go.RowKit
namespace Lg
set_option maxRecDepth 100000
set_option linter.unusedVariables false
set_option linter.unusedSimpArgs false
set_option maxHeartbeats 1600000
theorem fun_spec (p : GProg) (inp : ByteArray) (fuel : Int) (d : Nat) (i : Int) (hp : RunOk p) (hi : 0 ≤ i ∧ i < (p.funcs.length : Int)) (hz : (inp.size : Int) ≤ 1000000) (hfu : fuel ≤ 1000000) (hbn : ∀ f ∈ p.funcs, f.blocks.length ≤ 1000000 ∧ ∀ b ∈ f.blocks, b.ins.length ≤ 1000000) (hc : ∀ k : Int, 0 ≤ k → k < i → FunS p inp fuel (callF inp fuel p.funcs d) k) (hk : ∀ k : Int, 0 ≤ k → k < i → Keeps p.words inp fuel (callF inp fuel p.funcs d) k) (s0 : RS) (hs0 : SOk p.words inp fuel s0) (h0 : s0.fin = 0) : Spec Try.prog 77 [.p 1 0, .v (.int .i64 i)] 5 [(1, .box 107 [.v (.int .i64 p.words), .r 2, .v (.string inp), .v (.int .i64 fuel), .r 3, .r 4, .v (.int .i64 s0.read), .v (.int .i64 s0.steps), .v (.int .i64 s0.fin)]), (2, .fz 2 (p.funcs.map eFn)), (3, .row 68 1 (s0.ws.map eU32)), (4, .row 5 1 (s0.out.map eU8))] (.tup []) 6 [(1, .box 107 [.v (.int .i64 p.words), .r 2, .v (.string inp), .v (.int .i64 fuel), .r 3, .r 5, .v (.int .i64 (callF inp fuel p.funcs (d + 1) i s0).read), .v (.int .i64 (callF inp fuel p.funcs (d + 1) i s0).steps), .v (.int .i64 (callF inp fuel p.funcs (d + 1) i s0).fin)]), (3, .row 68 1 ((callF inp fuel p.funcs (d + 1) i s0).ws.map eU32)), (4, .no), (5, .row 5 1 ((callF inp fuel p.funcs (d + 1) i s0).out.map eU8))] := by
 have g0 : oneB (p.funcs.getD i.toNat default) i p.words = true := by have q := right_oneB hp.right (i := i.toNat) (by omega); rwa [Int.toNat_of_nonneg hi.1] at q
 have g1 := one_regs g0
 have g2 := one_blk g0
 have g3 := right_words hp.right
 have g4 := hbn (p.funcs.getD i.toNat default) (getD_mem (by omega))
 have g5 := hs0.steps
 refine spec_of D (fn := Try.f77) rfl rfl (Nat.le_of_ble_eq_true rfl) ?_
 refine W_seq ?_
 refine W_seqK (b' := 165) rfl rfl ?_
 refine q0 9 5 1 rfl rfl (T_move rfl rfl) rfl ?_
 refine q0 10 21 2 rfl rfl (T_nilCheck rfl rfl) rfl ?_
 refine q0 11 37 3 rfl rfl (T_fa D (m := 0) rfl rfl rfl rfl rfl rfl) rfl ?_
 refine q0 12 53 4 rfl rfl (T_fa D (m := 1) rfl rfl rfl rfl rfl rfl) rfl ?_
 refine q0 13 69 5 rfl rfl (T_load_b D rfl rfl rfl rfl rfl rfl) rfl ?_
 refine q0 14 85 6 rfl rfl (T_move rfl rfl) rfl ?_
 refine q0 15 101 7 rfl rfl (T_indexAddrZ D rfl rfl rfl rfl rfl rfl rfl rfl (by omega) (by omega)) rfl ?_
 refine q1 16 117 8 rfl rfl (T_ldEA D (l := [.v _, .r 117]) (nn := 1) (upd := [(117, .fz 5 _)]) rfl rfl rfl rfl rfl (by omega) rfl rfl rfl rfl rfl) rfl ?_
 refine qn 4 133 9 rfl rfl (T_nilbox [(72, 5)] (T_alloc D rfl rfl rfl) rfl (.cons (.same _) <| .cons (.nil rfl) <| .nil) (upd' := [(133, .box 29 [.v (.int .i64 0), .r 134]), (134, .row 72 5 (List.map eBlock ([] : List (GBlock))))]) (nn' := 2) rfl rfl) rfl ?_
 refine s1 149 10 rfl rfl (T_stB D (cs' := [_, _]) rfl rfl rfl rfl flat_agg rfl rfl (Nat.le_of_ble_eq_true rfl) rfl) rfl ?_
 refine k_done rfl ?_
 refine thenK_n ?_
 refine W_seq ?_
 refine W_seqK (b' := 229) rfl rfl ?_
 refine q0 17 165 1 rfl rfl (T_fa D (m := 0) rfl rfl rfl rfl rfl rfl) rfl ?_
 refine q0 18 181 2 rfl rfl (T_load_b D rfl rfl rfl rfl rfl rfl) rfl ?_
 refine q1 19 197 3 rfl rfl (T_makeZ (x := .tmp 18) (y := .tmp 18) (m := (p.funcs.getD i.toNat default).regs.toNat) (by omega) rfl rfl (fun k1 k2 => T_make D (zx := (0 : Int)) (enc := eU32) rfl k1 k2 rfl rfl rfl rfl (.v rfl (.nil)) rfl (by (try simp only [ty68]); omega) (by (try simp only [ty68]); omega))) rfl ?_
 refine q0 5 213 4 rfl rfl (T_assign rfl rfl) rfl ?_
 refine k_done rfl ?_
 refine thenK_n ?_
 refine W_seq ?_
 refine W_seqK (b' := 245) rfl rfl ?_
 refine q0 6 229 1 rfl rfl (T_assign rfl rfl) rfl ?_
 refine k_done rfl ?_
 refine thenK_n ?_
 refine W_block ?_
 refine W_loop (ι := Nat × Int × List Int × RS) 9 (fun x => ⟨[(0, .p 1 0), (4, .p 6 0), (5, .r 8), (6, .v (.int .i64 x.2.1))], [(1, .box 107 [.v (.int .i64 p.words), .r 2, .v (.string inp), .v (.int .i64 fuel), .r 3, .r 5, .v (.int .i64 x.2.2.2.read), .v (.int .i64 x.2.2.2.steps), .v (.int .i64 x.2.2.2.fin)]), (2, .fz 2 (p.funcs.map eFn)), (3, .row 68 1 (x.2.2.2.ws.map eU32)), (5, .row 5 1 (x.2.2.2.out.map eU8)), (6, .box 29 [.v (.int .i64 (p.funcs.getD i.toNat default).regs), .r 7]), (7, .fz 5 ((p.funcs.getD i.toNat default).blocks.map eBlock)), (8, .row 68 1 (x.2.2.1.map eU32))]⟩) (fun x => blkL inp fuel (callF inp fuel p.funcs d) (p.funcs.getD i.toNat default) x.1 x.2.1 x.2.2.1 x.2.2.2 = (callF inp fuel p.funcs (d + 1) i s0) ∧ ROk (p.funcs.getD i.toNat default).regs x.2.2.1 ∧ SOk p.words inp fuel x.2.2.2 ∧ x.2.2.2.fin = 0 ∧ (0 ≤ x.2.1 ∧ x.2.1 < ((p.funcs.getD i.toNat default).blocks.length : Int)) ∧ fuel - x.2.2.2.steps < (x.1 : Int)) (fun x => x.1) (((fuel - s0.steps).toNat + 1, 0, List.replicate (p.funcs.getD i.toNat default).regs.toNat 0, s0)) (by refine ⟨rfl, ⟨by rw [List.length_replicate]; omega, fun z hz => by rw [List.eq_of_mem_replicate hz]; exact isW0⟩, hs0, h0, ⟨?_, ?_⟩, ?_⟩ <;> dsimp only <;> omega) ?_ (fun x hJ => ?_)
 ·exact ⟨[(5, 4), (6, 133), (7, 117), (8, 197)], .same rfl rfl (.same rfl rfl (.same rfl rfl (.eq rfl (.nil) (by rfl)))), .box (by rfl) (.fzE rfl (.rowE rfl (.rowE rfl (.box (by rfl) (.fzE rfl (.rowE rfl (.nil) (by rfl)) (by rfl))) (by rfl)) (by rfl)) (by rfl)), rfl⟩
 have j2 := hJ.2.2.2.1
 have j3 := hJ.2.2.2.2.1
 have j4 := hJ.2.2.2.2.2
 have j5 := hJ.2.2.1.steps
 have j6 := g4.2 ((p.funcs.getD i.toNat default).blocks.getD x.2.1.toNat default) (getD_mem (by omega))
 have j7 := blk_fits (g2 ((p.funcs.getD i.toNat default).blocks.getD x.2.1.toNat default) (getD_mem (by omega)))
 have j8 := ends_to j7.1
 have j9 := hJ.2.1.len
 refine W_seq ?_
 refine W_seq ?_
 refine W_seqK (b' := 89) rfl rfl ?_
 refine q0 20 9 1 rfl rfl (T_move rfl rfl) rfl ?_
 refine q0 21 25 2 rfl rfl (T_nilCheck rfl rfl) rfl ?_
 refine q0 22 41 3 rfl rfl (T_fa D (m := 8) rfl rfl rfl rfl rfl rfl) rfl ?_
 refine q0 23 57 4 rfl rfl (T_load_b D rfl rfl rfl rfl rfl rfl) rfl ?_
 refine q0 24 73 5 rfl rfl (T_cmp rfl rfl rfl rfl) rfl ?_
 refine k_done rfl ?_
 refine thenK_n ?_
 refine W_cond rfl (fun g1 => ?_) (fun g1 => ?_)
 ·have h1 := c_eql_t g1
  refine W_skip ?_
  refine thenK_n ?_
  refine W_block ?_
  refine W_seq ?_
  refine W_seqK (b' := 201) rfl rfl ?_
  refine q0 25 89 1 rfl rfl (T_fa D (m := 1) rfl rfl rfl rfl rfl rfl) rfl ?_
  refine q0 26 105 2 rfl rfl (T_load_b D rfl rfl rfl rfl rfl rfl) rfl ?_
  refine q0 27 121 3 rfl rfl (T_move rfl rfl) rfl ?_
  refine q0 28 137 4 rfl rfl (T_indexAddrZ D rfl rfl rfl rfl rfl rfl rfl rfl (by omega) (by omega)) rfl ?_
  refine q1 29 153 5 rfl rfl (T_ldEA D (l := [.r 153, .v _, .v _, .v _, .v _]) (nn := 1) (upd := [(153, .fz 8 _)]) rfl rfl rfl rfl rfl (by omega) rfl rfl rfl rfl rfl) rfl ?_
  refine qn 7 169 6 rfl rfl (T_nilbox [(70, 8)] (T_alloc D rfl rfl rfl) rfl (.cons (.nil rfl) <| .cons (.same _) <| .cons (.same _) <| .cons (.same _) <| .cons (.same _) <| .nil) (upd' := [(169, .box 72 [.r 170, .v (.int .i64 0), .v (.int .i64 0), .v (.int .i64 0), .v (.int .i64 0)]), (170, .row 70 8 (List.map eTac ([] : List (GTac))))]) (nn' := 2) rfl rfl) rfl ?_
  refine s1 185 7 rfl rfl (T_stB D (cs' := [_, _, _, _, _]) rfl rfl rfl rfl flat_agg rfl rfl (Nat.le_of_ble_eq_true rfl) rfl) rfl ?_
  refine k_done rfl ?_
  refine thenK_n ?_
  refine W_seq ?_
  refine W_seq ?_
  refine W_seqK (b' := 217) rfl rfl ?_
  refine q0 8 201 1 rfl rfl (T_assign rfl rfl) rfl ?_
  refine k_done rfl ?_
  refine thenK_n ?_
  refine W_block ?_
  refine W_loop (ι := Nat × List Int × RS) 11 (fun y => ⟨[(0, .p 1 0), (4, .p 6 0), (5, .r 8), (7, .p 9 0), (8, .v (.int .i64 (y.1 : Int)))], [(1, .box 107 [.v (.int .i64 p.words), .r 2, .v (.string inp), .v (.int .i64 fuel), .r 3, .r 5, .v (.int .i64 y.2.2.read), .v (.int .i64 y.2.2.steps), .v (.int .i64 y.2.2.fin)]), (2, .fz 2 (p.funcs.map eFn)), (3, .row 68 1 (y.2.2.ws.map eU32)), (5, .row 5 1 (y.2.2.out.map eU8)), (6, .box 29 [.v (.int .i64 (p.funcs.getD i.toNat default).regs), .r 7]), (7, .fz 5 ((p.funcs.getD i.toNat default).blocks.map eBlock)), (8, .row 68 1 (y.2.1.map eU32)), (9, .box 72 [.r 10, .v (.int .i64 ((p.funcs.getD i.toNat default).blocks.getD x.2.1.toNat default).fin), .v (.int .i64 ((p.funcs.getD i.toNat default).blocks.getD x.2.1.toNat default).v), .v (.int .i64 ((p.funcs.getD i.toNat default).blocks.getD x.2.1.toNat default).to), .v (.int .i64 ((p.funcs.getD i.toNat default).blocks.getD x.2.1.toNat default).els)]), (10, .fz 8 (((p.funcs.getD i.toNat default).blocks.getD x.2.1.toNat default).ins.map eTac))]⟩) (fun y => insL inp fuel (callF inp fuel p.funcs d) (((p.funcs.getD i.toNat default).blocks.getD x.2.1.toNat default).ins.drop y.1) y.2.1 y.2.2 = insL inp fuel (callF inp fuel p.funcs d) ((p.funcs.getD i.toNat default).blocks.getD x.2.1.toNat default).ins x.2.2.1 x.2.2.2 ∧ ROk (p.funcs.getD i.toNat default).regs y.2.1 ∧ SOk p.words inp fuel y.2.2 ∧ y.2.2.fin = 0 ∧ x.2.2.2.steps ≤ y.2.2.steps ∧ y.1 ≤ ((p.funcs.getD i.toNat default).blocks.getD x.2.1.toNat default).ins.length) (fun y => ((p.funcs.getD i.toNat default).blocks.getD x.2.1.toNat default).ins.length - y.1) ((0, x.2.2.1, x.2.2.2)) (by exact ⟨rfl, hJ.2.1, hJ.2.2.1, hJ.2.2.2.1, Int.le_refl _, Nat.zero_le _⟩) ?_ (fun y hI => ?_)
  ·exact ⟨[(5, 5), (6, 6), (7, 7), (8, 8), (9, 169), (10, 153)], .same rfl rfl (.same rfl rfl (.same rfl rfl (.same rfl rfl (.eq rfl (.nil) (by rfl))))), .box (by rfl) (.fzE rfl (.rowE rfl (.rowE rfl (.box (by rfl) (.fzE rfl (.rowE rfl (.box (by rfl) (.fzE rfl (.nil) (by rfl))) (by rfl)) (by rfl))) (by rfl)) (by rfl)) (by rfl)), rfl⟩
  have i2 := hI.2.2.2.1
  have i3 := hI.2.2.2.2.1
  have i4 := hI.2.2.2.2.2
  have i5 := hI.2.2.1.steps
  have i6 := hI.2.1.len
  refine W_seq ?_
  refine W_seq ?_
  refine W_seqK (b' := 91) rfl rfl ?_
  refine q0 30 11 1 rfl rfl (T_move rfl rfl) rfl ?_
  refine q0 31 27 2 rfl rfl (T_fa D (m := 0) rfl rfl rfl rfl rfl rfl) rfl ?_
  refine q0 32 43 3 rfl rfl (T_load_b D rfl rfl rfl rfl rfl rfl) rfl ?_
  refine q0 33 59 4 rfl rfl (T_len D rfl rfl rfl rfl rfl rfl) rfl ?_
  refine q0 34 75 5 rfl rfl (T_cmp rfl rfl rfl rfl) rfl ?_
  refine k_done rfl ?_
  refine thenK_n ?_
  refine W_cond rfl (fun g2 => ?_) (fun g2 => ?_)
  ·have h2 := c_lss_t g2
   refine W_skip ?_
   refine thenK_n ?_
   refine W_seq ?_
   refine W_block ?_
   refine W_seq ?_
   refine W_seq ?_
   refine W_seqK (b' := 139) rfl rfl ?_
   refine q0 37 91 1 rfl rfl (T_move rfl rfl) rfl ?_
   by_cases h3 : y.2.2.steps < fuel
   ·skip
    refine qn 38 107 2 rfl rfl (T_call (lvs := [_]) (L := [(1, 1), (2, 2), (3, 3), (4, 5)]) (lv := .v _) (upd := [(1, .box 107 [.v _, .r 2, .v _, .v _, .r 3, .r 5, .v _, .v _, .v _]), (3, .row 68 1 _), (5, .row 5 1 _)]) (nn := 0) false (step_yes _ _ _ _ _ _ _ _ _ (by omega) (by assumption)) body120 rfl rfl rfl rfl (.box rfl (.fz rfl (.row rfl (.row rfl (.nil))))) rfl (.inl rfl) rfl rfl rfl) rfl ?_
    refine q0 39 123 3 rfl rfl (T_not rfl rfl) rfl ?_
    refine k_done rfl ?_
    refine thenK_n ?_
    refine W_cond rfl (fun g4 => ?_) (fun g4 => ?_)
    ·exact absurd (g4.symm.trans rfl) (by decide)
    ·skip
     refine W_skip ?_
     refine thenK_n ?_
     refine W_seq ?_
     refine W_seqK (b' := 267) rfl rfl ?_
     refine q0 40 139 1 rfl rfl (T_move rfl rfl) rfl ?_
     refine q0 41 155 2 rfl rfl (T_fa D (m := 0) rfl rfl rfl rfl rfl rfl) rfl ?_
     refine q0 42 171 3 rfl rfl (T_load_b D rfl rfl rfl rfl rfl rfl) rfl ?_
     refine q0 43 187 4 rfl rfl (T_move rfl rfl) rfl ?_
     refine q0 44 203 5 rfl rfl (T_indexAddr D rfl rfl rfl rfl rfl rfl rfl rfl (by omega)) rfl ?_
     refine q0 45 219 6 rfl rfl (T_ldEA D (l := [.v _, .v _, .v _, .v _, .v _, .v _, .v _, .v _]) (nn := 0) (upd := []) rfl rfl rfl rfl rfl (by omega) rfl rfl rfl rfl rfl) rfl ?_
     refine q0 46 235 7 rfl rfl (T_move rfl rfl) rfl ?_
     refine qn 47 251 8 rfl rfl (T_call (lvs := [_, _, _]) (L := [(1, 1), (2, 8), (3, 2), (4, 3), (5, 5)]) (lv := .tup []) (upd := [(1, .box 107 [.v _, .r 2, .v _, .v _, .r 3, .r 251, .v _, .v _, .v _]), (8, .row 68 1 _), (3, .row 68 1 _), (5, .no), (251, .row 5 1 _)]) (nn := 1) false (oneIns_spec p inp fuel (callF inp fuel p.funcs d) (((p.funcs.getD i.toNat default).blocks.getD x.2.1.toNat default).ins.getD y.1 default) y.2.1 y.2.2.tick i (p.funcs.getD i.toNat default).regs (fits_fb (j7.2 (((p.funcs.getD i.toNat default).blocks.getD x.2.1.toNat default).ins.getD y.1 default) (getD_mem (by omega)))) hI.2.1 (hI.2.2.1.tick (by assumption)) i2 (hp.n _ (getD_mem (by omega)) _ (getD_mem (by omega)) _ (getD_mem (by omega))) g3 hz (fun ho => hc _ (fits_call (j7.2 (((p.funcs.getD i.toNat default).blocks.getD x.2.1.toNat default).ins.getD y.1 default) (getD_mem (by omega))) ho).1 (fits_call (j7.2 (((p.funcs.getD i.toNat default).blocks.getD x.2.1.toNat default).ins.getD y.1 default) (getD_mem (by omega))) ho).2)) body121 rfl rfl rfl rfl (.box rfl (.row rfl (.fz rfl (.row rfl (.row rfl (.nil)))))) rfl (.inl rfl) rfl rfl rfl) rfl ?_
     refine k_done rfl ?_
     refine thenK_n ?_
     refine W_seq ?_
     refine W_seqK (b' := 347) rfl rfl ?_
     refine q0 48 267 1 rfl rfl (T_move rfl rfl) rfl ?_
     refine q0 49 283 2 rfl rfl (T_nilCheck rfl rfl) rfl ?_
     refine q0 50 299 3 rfl rfl (T_fa D (m := 8) rfl rfl rfl rfl rfl rfl) rfl ?_
     refine q0 51 315 4 rfl rfl (T_load_b D rfl rfl rfl rfl rfl rfl) rfl ?_
     refine q0 52 331 5 rfl rfl (T_cmp rfl rfl rfl rfl) rfl ?_
     refine k_done rfl ?_
     refine thenK_n ?_
     refine W_cond rfl (fun g5 => ?_) (fun g5 => ?_)
     ·have h5 := c_neq_t g5
      refine W_ret ?_
      refine blockK_r ?_
      refine thenK_r ?_
      refine thenK_r ?_
      refine blockK_r ?_
      refine thenK_r ?_
      refine blockK_r ?_
      refine thenK_r ?_
      refine blockK_r ?_
      have hO := run_halt (by omega) hJ.1 (ins_end hI.1 (by omega) (by assumption) (by omega))
      exact .mk [(5, 251)] (.inr rfl) (.nil) rfl (.box (by (rw [hO]; rfl)) (.rowE rfl (.no (.rowE rfl (.nil) (by (rw [hO]; done)))) (by (rw [hO]; done)))) rfl
     ·have h5 := c_neq_f g5
      refine W_skip ?_
      refine blockK_n ?_
      refine thenK_n ?_
      refine W_seqK (b' := 395) rfl rfl ?_
      refine q0 35 347 1 rfl rfl (T_move rfl rfl) rfl ?_
      refine q0 36 363 2 rfl rfl (T_add64 rfl rfl rfl (by omega)) rfl ?_
      refine q0 8 379 3 rfl rfl (T_assign rfl rfl) rfl ?_
      refine k_done rfl ?_
      refine thenK_n ?_
      have o1 := oneS_ok (call := (callF inp fuel p.funcs d)) (t := (((p.funcs.getD i.toNat default).blocks.getD x.2.1.toNat default).ins.getD y.1 default)) hI.2.1 (hI.2.2.1.tick (by assumption)) (fun ho => hk _ (fits_call (j7.2 (((p.funcs.getD i.toNat default).blocks.getD x.2.1.toNat default).ins.getD y.1 default) (getD_mem (by omega))) ho).1 (fits_call (j7.2 (((p.funcs.getD i.toNat default).blocks.getD x.2.1.toNat default).ins.getD y.1 default) (getD_mem (by omega))) ho).2)
      have o2 : y.2.2.steps + 1 ≤ (oneS inp (callF inp fuel p.funcs d) (((p.funcs.getD i.toNat default).blocks.getD x.2.1.toNat default).ins.getD y.1 default) y.2.1 y.2.2.tick).steps := o1.2
      refine ⟨(y.1 + 1, oneR inp (((p.funcs.getD i.toNat default).blocks.getD x.2.1.toNat default).ins.getD y.1 default) y.2.1 y.2.2.tick, oneS inp (callF inp fuel p.funcs d) (((p.funcs.getD i.toNat default).blocks.getD x.2.1.toNat default).ins.getD y.1 default) y.2.1 y.2.2.tick), by (try dsimp only); exact ⟨ins_next hI.1 (by omega) (by assumption) (by omega), oneR_ok hI.2.1 (hI.2.2.1.tick (by assumption)) (hp.n _ (getD_mem (by omega)) _ (getD_mem (by omega)) _ (getD_mem (by omega))), o1.1, by omega, by omega, by omega⟩, by (try dsimp only); omega, ?_⟩
      exact ⟨[(5, 251), (6, 6), (7, 7), (8, 8), (9, 9), (10, 10)], .same rfl rfl (.same rfl rfl (.same rfl rfl (.same rfl rfl (.eq rfl (.nil) (by rfl))))), .box (by rfl) (.fzE rfl (.rowE rfl (.rowE rfl (.box (by rfl) (.fzE rfl (.rowE rfl (.box (by rfl) (.fzE rfl (.nil) rfl)) (by rfl)) rfl)) (by rfl)) (by rfl)) rfl), rfl⟩
   ·skip
    refine qn 38 107 2 rfl rfl (T_call (lvs := [_]) (L := [(1, 1), (2, 2), (3, 3), (4, 5)]) (lv := .v _) (upd := [(1, .box 107 [.v _, .r 2, .v _, .v _, .r 3, .r 5, .v _, .v _, .v _]), (3, .row 68 1 _), (5, .row 5 1 _)]) (nn := 0) false (step_no _ _ _ _ _ _ _ _ _ (by omega) (by assumption)) body120 rfl rfl rfl rfl (.box rfl (.fz rfl (.row rfl (.row rfl (.nil))))) rfl (.inl rfl) rfl rfl rfl) rfl ?_
    refine q0 39 123 3 rfl rfl (T_not rfl rfl) rfl ?_
    refine k_done rfl ?_
    refine thenK_n ?_
    refine W_cond rfl (fun g6 => ?_) (fun g6 => ?_)
    ·skip
     refine W_ret ?_
     refine thenK_r ?_
     refine blockK_r ?_
     refine thenK_r ?_
     refine thenK_r ?_
     refine blockK_r ?_
     refine thenK_r ?_
     refine blockK_r ?_
     refine thenK_r ?_
     refine blockK_r ?_
     have hO := run_halt (by omega) hJ.1 (ins_stop hI.1 (by omega) (by assumption))
     exact .mk [(5, 5)] (.inr rfl) (.nil) rfl (.box (by (rw [hO]; rfl)) (.rowE rfl (.no (.rowE rfl (.nil) (by (rw [hO]; rfl)))) (by (rw [hO]; rfl)))) rfl
    ·exact absurd (g6.symm.trans rfl) (by decide)
  ·have h2 := c_lss_f g2
   refine W_exit ?_
   refine thenK_e ?_
   refine thenK_e ?_
   refine blockK_hit ?_
   refine thenK_n ?_
   refine W_seq ?_
   refine W_seq ?_
   refine W_seqK (b' := 219) rfl rfl ?_
   refine q0 53 91 1 rfl rfl (T_move rfl rfl) rfl ?_
   by_cases h7 : y.2.2.steps < fuel
   ·skip
    refine qn 54 107 2 rfl rfl (T_call (lvs := [_]) (L := [(1, 1), (2, 2), (3, 3), (4, 5)]) (lv := .v _) (upd := [(1, .box 107 [.v _, .r 2, .v _, .v _, .r 3, .r 5, .v _, .v _, .v _]), (3, .row 68 1 _), (5, .row 5 1 _)]) (nn := 0) false (step_yes _ _ _ _ _ _ _ _ _ (by omega) (by assumption)) body120 rfl rfl rfl rfl (.box rfl (.fz rfl (.row rfl (.row rfl (.nil))))) rfl (.inl rfl) rfl rfl rfl) rfl ?_
    refine q0 55 123 3 rfl rfl (T_not rfl rfl) rfl ?_
    refine q0 56 139 4 rfl rfl (T_move rfl rfl) rfl ?_
    refine k_op0 (d := 57) (b := 155) (j' := 5) rfl rfl rfl rfl (g_ff rfl rfl rfl rfl) (T_fa D (m := 1) rfl rfl rfl rfl rfl rfl) rfl ?_
    refine k_op0 (d := 58) (b := 171) (j' := 6) rfl rfl rfl rfl (g_ff rfl rfl rfl rfl) (T_load_b D rfl rfl rfl rfl rfl rfl) rfl ?_
    refine k_op0 (d := 59) (b := 187) (j' := 7) rfl rfl rfl rfl (g_ff rfl rfl rfl rfl) (T_cmp rfl rfl rfl rfl) rfl ?_
    refine q0 60 203 8 rfl rfl (T_pick_f rfl rfl rfl rfl) rfl ?_
    refine k_done rfl ?_
    refine thenK_n ?_
    refine W_cond rfl (fun g8 => ?_) (fun g8 => ?_)
    ·have h8 := c_eql_t g8
     refine W_ret ?_
     refine thenK_r ?_
     refine blockK_r ?_
     refine thenK_r ?_
     refine blockK_r ?_
     have hO := run_ret (by omega) hJ.1 (ins_done hI.1 (by omega)) (by assumption) (by omega)
     exact .mk [(5, 5)] (.inr rfl) (.nil) rfl (.box (by (rw [hO]; rfl)) (.rowE rfl (.no (.rowE rfl (.nil) (by (rw [hO]; rfl)))) (by (rw [hO]; rfl)))) rfl
    ·have h8 := c_eql_f g8
     refine W_skip ?_
     refine thenK_n ?_
     refine W_seq ?_
     refine W_seqK (b' := 267) rfl rfl ?_
     refine q0 61 219 1 rfl rfl (T_fa D (m := 3) rfl rfl rfl rfl rfl rfl) rfl ?_
     refine q0 62 235 2 rfl rfl (T_load_b D rfl rfl rfl rfl rfl rfl) rfl ?_
     refine q0 6 251 3 rfl rfl (T_assign rfl rfl) rfl ?_
     refine k_done rfl ?_
     refine thenK_n ?_
     refine W_seq ?_
     refine W_seqK (b' := 443) rfl rfl ?_
     refine q0 63 267 1 rfl rfl (T_fa D (m := 1) rfl rfl rfl rfl rfl rfl) rfl ?_
     refine q0 64 283 2 rfl rfl (T_load_b D rfl rfl rfl rfl rfl rfl) rfl ?_
     refine q0 65 299 3 rfl rfl (T_cmp rfl rfl rfl rfl) rfl ?_
     refine q0 66 315 4 rfl rfl (T_move rfl rfl) rfl ?_
     refine k_split (d := 66) rfl (fun g9 => ?_) (fun g9 => ?_)
     ·have h9 := c_eql_t g9
      refine k_op0 (d := 67) (b := 331) (j' := 5) rfl rfl rfl rfl (g_tt rfl rfl rfl g9) (T_move rfl rfl) rfl ?_
      refine k_op0 (d := 68) (b := 347) (j' := 6) rfl rfl rfl rfl (g_tt rfl rfl rfl g9) (T_fa D (m := 2) rfl rfl rfl rfl rfl rfl) rfl ?_
      refine k_op0 (d := 69) (b := 363) (j' := 7) rfl rfl rfl rfl (g_tt rfl rfl rfl g9) (T_load_b D rfl rfl rfl rfl rfl rfl) rfl ?_
      refine k_op0 (d := 70) (b := 379) (j' := 8) rfl rfl rfl rfl (g_tt rfl rfl rfl g9) (T_indexAddrZ D rfl rfl rfl rfl rfl rfl rfl rfl (by omega) (by omega)) rfl ?_
      refine k_op0 (d := 71) (b := 395) (j' := 9) rfl rfl rfl rfl (g_tt rfl rfl rfl g9) (T_ldE D (lv := .v _) (nn := 0) (upd := []) rfl rfl rfl rfl rfl (by omega) rfl rfl rfl rfl) rfl ?_
      refine k_op0 (d := 72) (b := 411) (j' := 10) rfl rfl rfl rfl (g_tt rfl rfl rfl g9) (T_cmp rfl rfl rfl rfl) rfl ?_
      refine q0 73 427 11 rfl rfl (T_pick_t rfl rfl rfl g9) rfl ?_
      refine k_done rfl ?_
      refine thenK_n ?_
      refine W_cond rfl (fun g10 => ?_) (fun g10 => ?_)
      ·have h10 := c_eql_t g10
       refine W_seqK (b' := 491) rfl rfl ?_
       refine q0 74 443 1 rfl rfl (T_fa D (m := 4) rfl rfl rfl rfl rfl rfl) rfl ?_
       refine q0 75 459 2 rfl rfl (T_load_b D rfl rfl rfl rfl rfl rfl) rfl ?_
       refine q0 6 475 3 rfl rfl (T_assign rfl rfl) rfl ?_
       refine k_done rfl ?_
       refine blockK_n ?_
       refine thenK_n ?_
       refine ⟨(x.1 - 1, ((p.funcs.getD i.toNat default).blocks.getD x.2.1.toNat default).els, y.2.1, y.2.2.tick), by (try dsimp only); exact ⟨run_next (by omega) hJ.1 (ins_done hI.1 (by omega)) (by assumption) (by omega) (nextB_els (by omega) (by omega)), hI.2.1, hI.2.2.1.tick (by assumption), i2, ⟨by omega, by omega⟩, (by show fuel - (y.2.2.steps + 1) < _; omega)⟩, by (try dsimp only); omega, ?_⟩
       exact ⟨[(5, 5), (6, 6), (7, 7), (8, 8)], .same rfl rfl (.same rfl rfl (.same rfl rfl (.eq rfl (.nil) (by rfl)))), .box (by rfl) (.fzE rfl (.rowE rfl (.rowE rfl (.box (by rfl) (.fzE rfl (.rowE rfl (.nil) (by rfl)) rfl)) (by rfl)) (by rfl)) rfl), rfl⟩
      ·have h10 := c_eql_f g10
       refine W_skip ?_
       refine blockK_n ?_
       refine thenK_n ?_
       refine ⟨(x.1 - 1, ((p.funcs.getD i.toNat default).blocks.getD x.2.1.toNat default).to, y.2.1, y.2.2.tick), by (try dsimp only); exact ⟨run_next (by omega) hJ.1 (ins_done hI.1 (by omega)) (by assumption) (by omega) (nextB_to (by omega)), hI.2.1, hI.2.2.1.tick (by assumption), i2, ⟨by omega, by omega⟩, (by show fuel - (y.2.2.steps + 1) < _; omega)⟩, by (try dsimp only); omega, ?_⟩
       exact ⟨[(5, 5), (6, 6), (7, 7), (8, 8)], .same rfl rfl (.same rfl rfl (.same rfl rfl (.eq rfl (.nil) (by rfl)))), .box (by rfl) (.fzE rfl (.rowE rfl (.rowE rfl (.box (by rfl) (.fzE rfl (.rowE rfl (.nil) (by rfl)) rfl)) (by rfl)) (by rfl)) rfl), rfl⟩
     ·have h9 := c_eql_f g9
      refine k_no (d := 67) (j' := 5) rfl rfl rfl (g_tf rfl rfl rfl g9) ?_
      refine k_no (d := 68) (j' := 6) rfl rfl rfl (g_tf rfl rfl rfl g9) ?_
      refine k_no (d := 69) (j' := 7) rfl rfl rfl (g_tf rfl rfl rfl g9) ?_
      refine k_no (d := 70) (j' := 8) rfl rfl rfl (g_tf rfl rfl rfl g9) ?_
      refine k_no (d := 71) (j' := 9) rfl rfl rfl (g_tf rfl rfl rfl g9) ?_
      refine k_no (d := 72) (j' := 10) rfl rfl rfl (g_tf rfl rfl rfl g9) ?_
      refine q0 73 427 11 rfl rfl (T_pick_f rfl rfl rfl g9) rfl ?_
      refine k_done rfl ?_
      refine thenK_n ?_
      refine W_cond rfl (fun g11 => ?_) (fun g11 => ?_)
      ·exact absurd (g11.symm.trans rfl) (by decide)
      ·skip
       refine W_skip ?_
       refine blockK_n ?_
       refine thenK_n ?_
       refine ⟨(x.1 - 1, ((p.funcs.getD i.toNat default).blocks.getD x.2.1.toNat default).to, y.2.1, y.2.2.tick), by (try dsimp only); exact ⟨run_next (by omega) hJ.1 (ins_done hI.1 (by omega)) (by assumption) (by omega) (nextB_to (by omega)), hI.2.1, hI.2.2.1.tick (by assumption), i2, ⟨by omega, by omega⟩, (by show fuel - (y.2.2.steps + 1) < _; omega)⟩, by (try dsimp only); omega, ?_⟩
       exact ⟨[(5, 5), (6, 6), (7, 7), (8, 8)], .same rfl rfl (.same rfl rfl (.same rfl rfl (.eq rfl (.nil) (by rfl)))), .box (by rfl) (.fzE rfl (.rowE rfl (.rowE rfl (.box (by rfl) (.fzE rfl (.rowE rfl (.nil) (by rfl)) rfl)) (by rfl)) (by rfl)) rfl), rfl⟩
   ·skip
    refine qn 54 107 2 rfl rfl (T_call (lvs := [_]) (L := [(1, 1), (2, 2), (3, 3), (4, 5)]) (lv := .v _) (upd := [(1, .box 107 [.v _, .r 2, .v _, .v _, .r 3, .r 5, .v _, .v _, .v _]), (3, .row 68 1 _), (5, .row 5 1 _)]) (nn := 0) false (step_no _ _ _ _ _ _ _ _ _ (by omega) (by assumption)) body120 rfl rfl rfl rfl (.box rfl (.fz rfl (.row rfl (.row rfl (.nil))))) rfl (.inl rfl) rfl rfl rfl) rfl ?_
    refine q0 55 123 3 rfl rfl (T_not rfl rfl) rfl ?_
    refine q0 56 139 4 rfl rfl (T_move rfl rfl) rfl ?_
    refine k_no (d := 57) (j' := 5) rfl rfl rfl (g_ft rfl rfl rfl rfl) ?_
    refine k_no (d := 58) (j' := 6) rfl rfl rfl (g_ft rfl rfl rfl rfl) ?_
    refine k_no (d := 59) (j' := 7) rfl rfl rfl (g_ft rfl rfl rfl rfl) ?_
    refine q0 60 203 8 rfl rfl (T_pick_t rfl rfl rfl rfl) rfl ?_
    refine k_done rfl ?_
    refine thenK_n ?_
    refine W_cond rfl (fun g12 => ?_) (fun g12 => ?_)
    ·skip
     refine W_ret ?_
     refine thenK_r ?_
     refine blockK_r ?_
     refine thenK_r ?_
     refine blockK_r ?_
     have hO := run_fuel (by omega) hJ.1 (ins_done hI.1 (by omega)) (by assumption)
     exact .mk [(5, 5)] (.inr rfl) (.nil) rfl (.box (by (rw [hO]; rfl)) (.rowE rfl (.no (.rowE rfl (.nil) (by (rw [hO]; rfl)))) (by (rw [hO]; rfl)))) rfl
    ·exact absurd (g12.symm.trans rfl) (by decide)
 ·have h1 := c_eql_f g1
  refine W_exit ?_
  refine thenK_e ?_
  refine thenK_e ?_
  refine blockK_hit ?_
  exact .mk [(5, 5)] (.inl rfl) (.nil) rfl (.box (by exfalso; omega) (.rowE rfl (.no (.rowE rfl (.nil) (by exfalso; omega))) (by exfalso; omega))) rfl
end Lg
end Go.Proofs.Ytpfhmodjjljpjaa

namespace Go.Proofs.Ytpfhmodjjljpjaa
open Go.RowKit
namespace Lg
set_option linter.unusedSimpArgs false
set_option linter.unusedVariables false
theorem funs_all {p : GProg} {inp : ByteArray} {fuel : Int} (hp : RunOk p) (hz : (inp.size : Int) ≤ 1000000) (hfu : fuel ≤ 1000000) (hbn : ∀ f ∈ p.funcs, f.blocks.length ≤ 1000000 ∧ ∀ b ∈ f.blocks, b.ins.length ≤ 1000000) :
    ∀ (d : Nat) (i : Int), 0 ≤ i → i < d → i < p.funcs.length → FunS p inp fuel (callF inp fuel p.funcs d) i
  | 0, i, h0, h1, _ => by omega
  | d + 1, i, h0, h1, h2 => fun s hs hs0 => fun_spec p inp fuel d i hp ⟨h0, h2⟩ hz hfu hbn (fun k k0 k1 => funs_all hp hz hfu hbn d k k0 (by omega) (by omega)) (fun k k0 k1 => callF_keeps hp d k k0 (by omega) (by omega)) s hs hs0
def rs0 (p : GProg) : RS := ⟨List.replicate p.words.toNat 0, [], 0, 0, 0⟩
def runS (p : GProg) (inp : ByteArray) (fuel : Int) : RS := callF inp fuel p.funcs p.funcs.length ((p.funcs.length : Int) - 1) (rs0 p)
def runE (p : GProg) (inp : ByteArray) (fuel : Int) : Int := if (runS p inp fuel).fin = 0 then 1 else (runS p inp fuel).fin
theorem rs0_ok {p : GProg} (hp : RunOk p) {inp : ByteArray} {fuel : Int} (hf : 0 ≤ fuel) : SOk p.words inp fuel (rs0 p) := by
  have h := right_words hp.right
  exact ⟨by show ((List.replicate _ _).length : Int) = _; rw [List.length_replicate]; omega, fun x hx => by rw [List.eq_of_mem_replicate hx]; exact isW0, by show ((([] : List Int)).length : Int) ≤ _; simp, ⟨Int.le_refl _, by show (0 : Int) ≤ _; omega⟩, ⟨Int.le_refl _, hf⟩⟩
theorem right_pos {p : GProg} (h : rightB p = true) : 0 < p.funcs.length := by
  unfold rightB at h
  simp only [Bool.and_eq_true, decide_eq_true_eq] at h
  exact List.length_pos_iff.2 h.1.2.2
end Lg
end Go.Proofs.Ytpfhmodjjljpjaa

namespace Go.Proofs.Ytpfhmodjjljpjaa
open Go.RowKit
namespace Lg
set_option maxRecDepth 100000
set_option linter.unusedVariables false
set_option linter.unusedSimpArgs false
theorem body36 : (Try.prog.funcs[36]?).map (fun fn => (fn.name == "runtime.NumGoroutine" || fn.body.isNone)) = some false := by kernel_rfl
theorem runs_spec (p : GProg) (inp : ByteArray) (fuel : Int) (hp : RunOk p) (hz : (inp.size : Int) ≤ 1000000) (hf0 : 0 ≤ fuel) (hfu : fuel ≤ 1000000) (hbn : ∀ f ∈ p.funcs, f.blocks.length ≤ 1000000 ∧ ∀ b ∈ f.blocks, b.ins.length ≤ 1000000) (hl : p.funcs.length ≤ 1000000) : Spec Try.prog 36 [.agg [.v (.int .i64 p.words), .r 1], .v (.string inp), .v (.int .i64 fuel)] 2 [(1, .fz 2 (p.funcs.map eFn))] (.agg [.v (.int .i64 (runE p inp fuel)), .v (.string (strOfNums (runS p inp fuel).out)), .v (.int .i64 (runS p inp fuel).steps)]) 2 [] := by
 have g3 := right_words hp.right
 have g4 := right_pos hp.right
 refine spec_of D (fn := Try.f36) rfl rfl (Nat.le_of_ble_eq_true rfl) ?_
 refine W_seq ?_
 refine W_seqK (b' := 34) rfl rfl ?_
 refine q1 3 2 1 rfl rfl (T_box rfl rfl flat_agg) rfl ?_
 refine q1 6 18 2 rfl rfl (T_alloc D rfl rfl rfl) rfl ?_
 refine k_done rfl ?_
 refine thenK_n ?_
 refine W_seq ?_
 refine W_seq ?_
 refine W_seqK (b' := 98) rfl rfl ?_
 refine q0 8 34 1 rfl rfl (T_fa D (m := 1) rfl rfl rfl rfl rfl rfl) rfl ?_
 refine q0 9 50 2 rfl rfl (T_load_b D rfl rfl rfl rfl rfl rfl) rfl ?_
 refine q0 10 66 3 rfl rfl (T_len D rfl rfl rfl rfl rfl rfl) rfl ?_
 refine q0 11 82 4 rfl rfl (T_cmp rfl rfl rfl rfl) rfl ?_
 refine k_done rfl ?_
 refine thenK_n ?_
 refine W_cond rfl (fun g1 => ?_) (fun g1 => ?_)
 ·have h1 := c_eql_t g1
  refine W_seq ?_
  exfalso; omega
 ·have h1 := c_eql_f g1
  refine W_skip ?_
  refine thenK_n ?_
  refine W_seq ?_
  refine W_seq ?_
  refine W_seqK (b' := 130) rfl rfl ?_
  refine q0 13 98 1 rfl rfl (T_move rfl rfl) rfl ?_
  refine q0 14 114 2 rfl rfl (T_cmp rfl rfl rfl rfl) rfl ?_
  refine k_done rfl ?_
  refine thenK_n ?_
  refine W_cond rfl (fun g2 => ?_) (fun g2 => ?_)
  ·have h2 := c_lss_t g2
   exfalso; omega
  ·have h2 := c_lss_f g2
   refine W_skip ?_
   refine thenK_n ?_
   refine W_seq ?_
   refine W_anyK (b' := 274) rfl rfl rfl ?_
   refine q0 15 130 1 rfl rfl (T_load_bA D (l := [_, _]) rfl rfl rfl rfl rfl rfl rfl) rfl ?_
   refine q0 16 146 2 rfl rfl (T_move rfl rfl) rfl ?_
   refine q0 17 162 3 rfl rfl (T_move rfl rfl) rfl ?_
   refine q0 18 178 4 rfl rfl (T_fa D (m := 0) rfl rfl rfl rfl rfl rfl) rfl ?_
   refine q0 19 194 5 rfl rfl (T_load_b D rfl rfl rfl rfl rfl rfl) rfl ?_
   refine q1 20 210 6 rfl rfl (T_makeZ (x := .tmp 19) (y := .tmp 19) (m := p.words.toNat) (by omega) rfl rfl (fun k1 k2 => T_make D (zx := (0 : Int)) (enc := eU32) rfl k1 k2 rfl rfl rfl rfl (.v rfl (.nil)) rfl (by (try simp only [ty68]); omega) (by (try simp only [ty68]); omega))) rfl ?_
   refine q1 21 226 7 rfl rfl (T_nils [(5, 1)] (T_build D (l := [_, _, _, _, _, _, _, _, _]) rfl rfl rfl rfl (.cons rfl flat_agg (.cons rfl (flat_v rfl) (.cons rfl (flat_v rfl) (.cons rfl (flat_sl rfl) (.nil))))) rfl rfl) rfl (.inl ⟨rfl, rfl⟩) (.cons (.same _) <| .cons (.same _) <| .cons (.same _) <| .cons (.same _) <| .cons (.same _) <| .cons (.nil rfl) <| .cons (.same _) <| .cons (.same _) <| .cons (.same _) <| .nil) (lv' := .agg [_, _, _, _, _, .r 226, _, _, _]) (upd' := [(226, .row 5 1 (List.map eU8 ([] : List (Int))))]) (nn' := 1) rfl rfl) rfl ?_
   refine q1 22 242 8 rfl rfl (T_box rfl rfl flat_agg) rfl ?_
   refine q0 7 258 9 rfl rfl (T_assign rfl rfl) rfl ?_
   refine k_done rfl ?_
   refine ⟨rfl, ?_⟩
   refine thenK_n ?_
   refine W_seq ?_
   refine W_seqK (b' := 370) rfl rfl ?_
   refine q0 23 274 1 rfl rfl (T_move rfl rfl) rfl ?_
   refine q0 24 290 2 rfl rfl (T_fa D (m := 1) rfl rfl rfl rfl rfl rfl) rfl ?_
   refine q0 25 306 3 rfl rfl (T_load_b D rfl rfl rfl rfl rfl rfl) rfl ?_
   refine q0 26 322 4 rfl rfl (T_len D rfl rfl rfl rfl rfl rfl) rfl ?_
   refine q0 27 338 5 rfl rfl (T_sub64 rfl rfl rfl (by omega)) rfl ?_
   refine qn 28 354 6 rfl rfl (T_call (lvs := [_, _]) (L := [(1, 242), (2, 1), (3, 210), (4, 226)]) (lv := .tup []) (upd := [(242, .box 107 [.v _, .r 1, .v _, .v _, .r 210, .r 354, .v _, .v _, .v _]), (210, .row 68 1 _), (226, .no), (354, .row 5 1 _)]) (nn := 1) false (funs_all hp hz hfu hbn p.funcs.length ((p.funcs.length : Int) - 1) (by omega) (by omega) (by omega) (rs0 p) (rs0_ok hp hf0) rfl) body77 rfl rfl rfl rfl (.box rfl (.fz rfl (.row rfl (.row rfl (.nil))))) rfl (.inl rfl) rfl rfl rfl) rfl ?_
   refine k_done rfl ?_
   refine thenK_n ?_
   refine W_seq ?_
   refine W_seq ?_
   refine W_seqK (b' := 450) rfl rfl ?_
   refine q0 29 370 1 rfl rfl (T_move rfl rfl) rfl ?_
   refine q0 30 386 2 rfl rfl (T_nilCheck rfl rfl) rfl ?_
   refine q0 31 402 3 rfl rfl (T_fa D (m := 8) rfl rfl rfl rfl rfl rfl) rfl ?_
   refine q0 32 418 4 rfl rfl (T_load_b D rfl rfl rfl rfl rfl rfl) rfl ?_
   refine q0 33 434 5 rfl rfl (T_cmp rfl rfl rfl rfl) rfl ?_
   refine k_done rfl ?_
   refine thenK_n ?_
   refine W_cond rfl (fun g3 => ?_) (fun g3 => ?_)
   ·have h3 := c_eql_t g3
    refine W_seqK (b' := 514) rfl rfl ?_
    refine q0 34 450 1 rfl rfl (T_move rfl rfl) rfl ?_
    refine q0 35 466 2 rfl rfl (T_nilCheck rfl rfl) rfl ?_
    refine q0 36 482 3 rfl rfl (T_fa D (m := 8) rfl rfl rfl rfl rfl rfl) rfl ?_
    refine s1 498 4 rfl rfl (T_stB D (cs' := [_, _, _, _, _, _, _, _, _]) rfl rfl rfl rfl (flat_v rfl) rfl rfl (Nat.le_of_ble_eq_true rfl) rfl) rfl ?_
    refine k_done rfl ?_
    refine thenK_n ?_
    refine W_seq ?_
    refine W_anyK (b' := 754) rfl rfl rfl ?_
    refine q0 37 514 1 rfl rfl (T_move rfl rfl) rfl ?_
    refine q0 38 530 2 rfl rfl (T_nilCheck rfl rfl) rfl ?_
    refine q0 39 546 3 rfl rfl (T_fa D (m := 8) rfl rfl rfl rfl rfl rfl) rfl ?_
    refine q0 40 562 4 rfl rfl (T_load_b D rfl rfl rfl rfl rfl rfl) rfl ?_
    refine q0 41 578 5 rfl rfl (T_move rfl rfl) rfl ?_
    refine q0 42 594 6 rfl rfl (T_nilCheck rfl rfl) rfl ?_
    refine q0 43 610 7 rfl rfl (T_fa D (m := 5) rfl rfl rfl rfl rfl rfl) rfl ?_
    refine q0 44 626 8 rfl rfl (T_load_b D rfl rfl rfl rfl rfl rfl) rfl ?_
    refine q0 45 642 9 rfl rfl (T_convS (xs := _) Try.underlying66 Try.underlying5 Try.underlying9 rfl rfl rfl) rfl ?_
    refine q0 46 658 10 rfl rfl (T_move rfl rfl) rfl ?_
    refine q0 47 674 11 rfl rfl (T_nilCheck rfl rfl) rfl ?_
    refine q0 48 690 12 rfl rfl (T_fa D (m := 7) rfl rfl rfl rfl rfl rfl) rfl ?_
    refine q0 49 706 13 rfl rfl (T_load_b D rfl rfl rfl rfl rfl rfl) rfl ?_
    refine q0 50 722 14 rfl rfl (T_build D (l := [_, _, _]) rfl rfl rfl rfl (.cons rfl (flat_v rfl) (.cons rfl (flat_v rfl) (.cons rfl (flat_v rfl) (.nil)))) rfl rfl) rfl ?_
    refine s1 738 15 rfl rfl (T_stB D (cs' := [_, _, _]) rfl rfl rfl rfl flat_agg rfl rfl (Nat.le_of_ble_eq_true rfl) rfl) rfl ?_
    refine k_done rfl ?_
    refine ⟨rfl, ?_⟩
    refine thenK_n ?_
    refine W_ret ?_
    have hE : runE p inp fuel = 1 := by unfold runE; rw [if_pos (by assumption)]
    exact .mk [] (.inr rfl) (.cellA rfl rfl rfl rfl rfl (.nil)) (by (rw [hE]; rfl)) (.nil) rfl
   ·have h3 := c_eql_f g3
    refine W_skip ?_
    refine thenK_n ?_
    refine W_seq ?_
    refine W_anyK (b' := 690) rfl rfl rfl ?_
    refine q0 37 450 1 rfl rfl (T_move rfl rfl) rfl ?_
    refine q0 38 466 2 rfl rfl (T_nilCheck rfl rfl) rfl ?_
    refine q0 39 482 3 rfl rfl (T_fa D (m := 8) rfl rfl rfl rfl rfl rfl) rfl ?_
    refine q0 40 498 4 rfl rfl (T_load_b D rfl rfl rfl rfl rfl rfl) rfl ?_
    refine q0 41 514 5 rfl rfl (T_move rfl rfl) rfl ?_
    refine q0 42 530 6 rfl rfl (T_nilCheck rfl rfl) rfl ?_
    refine q0 43 546 7 rfl rfl (T_fa D (m := 5) rfl rfl rfl rfl rfl rfl) rfl ?_
    refine q0 44 562 8 rfl rfl (T_load_b D rfl rfl rfl rfl rfl rfl) rfl ?_
    refine q0 45 578 9 rfl rfl (T_convS (xs := _) Try.underlying66 Try.underlying5 Try.underlying9 rfl rfl rfl) rfl ?_
    refine q0 46 594 10 rfl rfl (T_move rfl rfl) rfl ?_
    refine q0 47 610 11 rfl rfl (T_nilCheck rfl rfl) rfl ?_
    refine q0 48 626 12 rfl rfl (T_fa D (m := 7) rfl rfl rfl rfl rfl rfl) rfl ?_
    refine q0 49 642 13 rfl rfl (T_load_b D rfl rfl rfl rfl rfl rfl) rfl ?_
    refine q0 50 658 14 rfl rfl (T_build D (l := [_, _, _]) rfl rfl rfl rfl (.cons rfl (flat_v rfl) (.cons rfl (flat_v rfl) (.cons rfl (flat_v rfl) (.nil)))) rfl rfl) rfl ?_
    refine s1 674 15 rfl rfl (T_stB D (cs' := [_, _, _]) rfl rfl rfl rfl flat_agg rfl rfl (Nat.le_of_ble_eq_true rfl) rfl) rfl ?_
    refine k_done rfl ?_
    refine ⟨rfl, ?_⟩
    refine thenK_n ?_
    refine W_ret ?_
    have hE : runE p inp fuel = (runS p inp fuel).fin := by unfold runE; rw [if_neg (by assumption)]
    exact .mk [] (.inr rfl) (.cellA rfl rfl rfl rfl rfl (.nil)) (by (rw [hE]; rfl)) (.nil) rfl
end Lg
end Go.Proofs.Ytpfhmodjjljpjaa

namespace Go.Proofs.Ytpfhmodjjljpjaa
open Go.RowKit
namespace Lg
set_option linter.unusedSimpArgs false
set_option linter.unusedVariables false
theorem prI_comm (a b : Int) : prI a b = prI b a := by
  unfold prI mnI mxI
  refine Prod.ext ?_ ?_ <;> dsimp only <;> split <;> split <;> omega
section
variable {s v : List Bool} {m : List (Int × Int)} {p : Int × Int} {t : GTac} {i j n : Nat}
theorem allJ_mono (h : p ∈ m) : ∀ j, p ∈ allJ s i m j
  | 0 => h
  | j + 1 => by rw [allJ]; split; exact putM_mem.2 (.inr (allJ_mono h j)); exact allJ_mono h j
theorem allJ_in (h1 : s.getD i default = true) (h2 : s.getD j default = true) : ∀ n, j < n → prI i j ∈ allJ s i m n
  | 0, h => by omega
  | n + 1, h => by
    rw [allJ]
    rcases Nat.lt_or_ge j n with hj | hj
    · have := allJ_in h1 h2 n hj
      split
      · exact putM_mem.2 (.inr this)
      · exact this
    · obtain rfl : j = n := by omega
      rw [if_pos ⟨h1, h2⟩]; exact putM_mem.2 (.inl rfl)
theorem allI_mono (h : p ∈ m) : ∀ n, p ∈ allI s m n
  | 0 => h
  | n + 1 => allJ_mono (allI_mono h n) n
theorem allI_in (hj : j < i) (h1 : s.getD i default = true) (h2 : s.getD j default = true) : ∀ n, i < n → prI i j ∈ allI s m n
  | 0, h => by omega
  | n + 1, h => by
    rw [allI]
    rcases Nat.lt_or_ge i n with hi | hi
    · exact allJ_mono (allI_in hj h1 h2 n hi) n
    · obtain rfl : i = n := by omega
      exact allJ_in h1 h2 _ hj
theorem oneM_mono (h : p ∈ m) : ∀ n, p ∈ oneM t s m n
  | 0 => h
  | n + 1 => by rw [oneM]; split; exact putM_mem.2 (.inr (oneM_mono h n)); exact oneM_mono h n
theorem oneM_in (h1 : s.getD i default = true) (h2 : 0 ≤ setsT t) (h3 : (i : Int) ≠ setsT t) : ∀ n, i < n → prI i (setsT t) ∈ oneM t s m n
  | 0, h => by omega
  | n + 1, h => by
    rw [oneM]
    rcases Nat.lt_or_ge i n with hi | hi
    · have := oneM_in h1 h2 h3 n hi
      split
      · exact putM_mem.2 (.inr this)
      · exact this
    · obtain rfl : i = n := by omega
      rw [if_pos ⟨h1, h2, h3⟩]; exact putM_mem.2 (.inl rfl)
theorem set_true {l : List Bool} {a b : Nat} (h : l.getD a default = true) : (l.set b true).getD a default = true := by
  by_cases hb : b < l.length
  · rw [getD_set hb]; split
    · rfl
    · exact h
  · rw [List.set_eq_of_length_le (by omega)]; exact h
theorem oneB'_mono (h : v.getD i default = true) : ∀ n, (oneB' t s v n).getD i default = true
  | 0 => h
  | n + 1 => by rw [oneB']; split; exact set_true (oneB'_mono h n); exact oneB'_mono h n
theorem oneB'_in (h1 : s.getD i default = true) (h2 : t.op = 10) (hv : i < v.length) : ∀ n, i < n → (oneB' t s v n).getD i default = true
  | 0, h => by omega
  | n + 1, h => by
    rw [oneB']
    rcases Nat.lt_or_ge i n with hi | hi
    · have := oneB'_in h1 h2 hv n hi
      split
      · exact set_true this
      · exact this
    · obtain rfl : i = n := by omega
      rw [if_pos ⟨h1, h2⟩, getD_set (by rw [oneB'_len]; exact hv), if_pos rfl]
end
section
variable {b : GBlock} {out : List Bool} {c : Cf} {p : Int × Int} {a q : Nat}
theorem blkC_mono (h : p ∈ c.1) : ∀ n, p ∈ (blkC b out c n).1
  | 0 => h
  | n + 1 => oneM_mono (blkC_mono h n) _
theorem blkC_mono2 (h : c.2.getD a default = true) : ∀ n, (blkC b out c n).2.getD a default = true
  | 0 => h
  | n + 1 => oneB'_mono (blkC_mono2 h n) _
theorem blkC_in (h1 : ((behL b out).getD q default).getD a default = true) (h2 : 0 ≤ setsT (b.ins.getD q default)) (h3 : (a : Int) ≠ setsT (b.ins.getD q default)) : ∀ n, q < n → prI a (setsT (b.ins.getD q default)) ∈ (blkC b out c n).1
  | 0, h => by omega
  | n + 1, h => by
    rcases Nat.lt_or_ge q n with hq | hq
    · exact oneM_mono (blkC_in h1 h2 h3 n hq) _
    · obtain rfl : q = n := by omega
      exact oneM_in h1 h2 h3 _ (getD_lt h1)
theorem blkC_in2 (h1 : ((behL b out).getD q default).getD a default = true) (h2 : (b.ins.getD q default).op = 10) (hc : a < c.2.length) : ∀ n, q < n → (blkC b out c n).2.getD a default = true
  | 0, h => by omega
  | n + 1, h => by
    rcases Nat.lt_or_ge q n with hq | hq
    · exact oneB'_mono (blkC_in2 h1 h2 hc n hq) _
    · obtain rfl : q = n := by omega
      exact oneB'_in h1 h2 (by rw [blkC_len]; exact hc) _ (getD_lt h1)
end
section
variable {f : GFn} {li lo : List (List Bool)} {p : Int × Int} {a b q i j : Nat}
theorem ofC_mono (h : p ∈ (ofC f li lo 0).1) : ∀ n, p ∈ (ofC f li lo n).1
  | 0 => h
  | n + 1 => blkC_mono (ofC_mono h n) _
theorem confl_all (hj : j < i) (h1 : (li.getD 0 default).getD i default = true) (h2 : (li.getD 0 default).getD j default = true) : prI i j ∈ (confl f li lo).1 := ofC_mono (allI_in hj h1 h2 _ (getD_lt h1)) _
theorem ofC_in (hq : q < (f.blocks.getD b default).ins.length) (h1 : ((behL (f.blocks.getD b default) (lo.getD b default)).getD q default).getD a default = true) (h2 : 0 ≤ setsT ((f.blocks.getD b default).ins.getD q default)) (h3 : (a : Int) ≠ setsT ((f.blocks.getD b default).ins.getD q default)) : ∀ n, b < n → prI a (setsT ((f.blocks.getD b default).ins.getD q default)) ∈ (ofC f li lo n).1
  | 0, h => by omega
  | n + 1, h => by
    rcases Nat.lt_or_ge b n with hb | hb
    · exact blkC_mono (ofC_in hq h1 h2 h3 n hb) _
    · obtain rfl : b = n := by omega
      exact blkC_in h1 h2 h3 _ hq
theorem ofC_in2 (hq : q < (f.blocks.getD b default).ins.length) (h1 : ((behL (f.blocks.getD b default) (lo.getD b default)).getD q default).getD a default = true) (h2 : ((f.blocks.getD b default).ins.getD q default).op = 10) (ha : a < f.regs.toNat) : ∀ n, b < n → (ofC f li lo n).2.getD a default = true
  | 0, h => by omega
  | n + 1, h => by
    rcases Nat.lt_or_ge b n with hb | hb
    · exact blkC_mono2 (ofC_in2 hq h1 h2 ha n hb) _
    · obtain rfl : b = n := by omega
      exact blkC_in2 h1 h2 (by rw [ofC_len]; exact ha) _ hq
end
section
variable {m : List (Int × Int)} {ps : List Int} {r k : Int} {c : Cf}
theorem regAt_spec : ∀ j, regAt m ps r j ≠ 0 → ∃ i, i < j ∧ regAt m ps r j = (i : Int) + 1 ∧ freeB m ps r ((i : Int) + 1) = true
  | 0, h => absurd rfl h
  | j + 1, h => by
    rw [regAt] at h ⊢
    by_cases h0 : regAt m ps r j = 0
    · rw [if_pos h0] at h ⊢
      by_cases h1 : freeB m ps r ((j : Int) + 1) = true
      · rw [if_pos h1]; exact ⟨j, by omega, rfl, h1⟩
      · rw [if_neg h1] at h; exact absurd rfl h
    · rw [if_neg h0]
      obtain ⟨i, h1, h2, h3⟩ := regAt_spec j h0
      exact ⟨i, by omega, h2, h3⟩
theorem memAt_spec : ∀ j, memAt m ps r j ≠ 0 → ∃ i, i < j ∧ memAt m ps r j = -1 - (i : Int) ∧ freeB m ps r (-1 - (i : Int)) = true
  | 0, h => absurd rfl h
  | j + 1, h => by
    rw [memAt] at h ⊢
    by_cases h0 : memAt m ps r j = 0
    · rw [if_pos h0] at h ⊢
      by_cases h1 : freeB m ps r (-1 - (j : Int)) = true
      · rw [if_pos h1]; exact ⟨j, by omega, rfl, h1⟩
      · rw [if_neg h1] at h; exact absurd rfl h
    · rw [if_neg h0]
      obtain ⟨i, h1, h2, h3⟩ := memAt_spec j h0
      exact ⟨i, by omega, h2, h3⟩
structure PlaceOk (c : Cf) (ps : List Int) (k : Int) (r : Nat) (x : Int) : Prop where
  free : freeB c.1 ps r x = true
  fits : (1 ≤ x ∧ x ≤ k) ∨ (-1 - (ps.length : Int) ≤ x ∧ x ≤ -1)
  word : c.2.getD r default = true → x ≤ -1
theorem placeOne_ok (hk : 0 ≤ k) (q : Nat) : PlaceOk c ps k q (placeOne c ps k q) := by
  unfold placeOne memOf
  by_cases h0 : regOf c ps k q = 0
  · rw [if_pos h0]
    obtain ⟨i, h1, h2, h3⟩ := memAt_spec _ (memAt_end (m := c.1) (r := q) ps)
    rw [h2]
    exact ⟨h3, .inr (by omega), fun _ => by omega⟩
  · rw [if_neg h0]
    unfold regOf at h0 ⊢
    by_cases hc : c.2.getD q default = true
    · rw [if_pos hc] at h0; exact absurd rfl h0
    · rw [if_neg hc] at h0 ⊢
      obtain ⟨i, h1, h2, h3⟩ := regAt_spec _ h0
      rw [h2]
      exact ⟨h3, .inl (by omega), fun h => absurd h hc⟩
theorem ofJ_get {n r : Nat} (h : r < n) : (ofJ c k n).getD r default = placeOne c (ofJ c k r) k r := by
  induction n with
  | zero => omega
  | succ n ih =>
    rw [ofJ]
    rcases Nat.lt_or_ge r n with hr | hr
    · rw [← ih hr]
      simp only [List.getD]
      rw [List.getElem?_append_left (by rw [ofJ_len]; exact hr)]
    · obtain rfl : r = n := by omega
      simp only [List.getD]
      rw [List.getElem?_append_right (by rw [ofJ_len]; exact Nat.le_refl _), ofJ_len]
      simp
theorem ofJ_take {n r : Nat} (h : r ≤ n) : (ofJ c k n).take r = ofJ c k r := by
  induction n with
  | zero =>
    obtain rfl : r = 0 := by omega
    rfl
  | succ n ih =>
    rcases Nat.lt_or_ge r (n + 1) with hr | hr
    · rw [ofJ, List.take_append_of_le_length (by rw [ofJ_len]; omega)]
      exact ih (by omega)
    · obtain rfl : r = n + 1 := by omega
      rw [List.take_of_length_le (by rw [ofJ_len]; exact Nat.le_refl _)]
theorem free_ne {i : Nat} {x : Int} (h : freeB m ps r x = true) (hi : i < ps.length) (hp : prI i r ∈ m) : ps.getD i default ≠ x := fun e => by
  have := List.all_eq_true.1 h i (List.mem_range.2 hi)
  rw [decide_eq_true e, decide_eq_true hp] at this
  cases this
theorem ofJ_ne (hk : 0 ≤ k) {n a d : Nat} (ha : a < n) (hd : d < n) (hne : a ≠ d) (hp : prI a d ∈ c.1) : (ofJ c k n).getD a default ≠ (ofJ c k n).getD d default := by
  have key : ∀ a d : Nat, a < d → d < n → prI a d ∈ c.1 → (ofJ c k n).getD a default ≠ (ofJ c k n).getD d default := fun a d h1 h2 h3 => by
    have h4 := (placeOne_ok (c := c) (ps := ofJ c k d) hk d).free
    have h5 := free_ne h4 (i := a) (by rw [ofJ_len]; exact h1) h3
    rw [← ofJ_take (c := c) (k := k) (n := n) (r := d) (by omega), getD_take h1, ofJ_take (by omega), ← ofJ_get h2] at h5
    exact h5
  rcases Nat.lt_or_ge a d with h | h
  · exact key a d h hd hp
  · exact (key d a (by omega) ha (by rw [prI_comm]; exact hp)).symm
end
theorem alloc_ok {f : GFn} (hF : LF f) (hreg : f.regs ≤ 3000) {li lo : List (List Bool)} (h : checkL f li lo = true) {k : Int} (hk : 0 ≤ k) : acheck f li lo (allocP f li lo k) k = true := by
  have hr := hF.regs
  have hlen : (allocP f li lo k).length = f.regs.toNat := ofJ_len _ _ _
  have hok : ∀ i, i < f.regs.toNat → PlaceOk (confl f li lo) (ofJ (confl f li lo) k i) k i ((allocP f li lo k).getD i default) := fun i hi => by
    have := placeOne_ok (c := confl f li lo) (ps := ofJ (confl f li lo) k i) hk i
    rw [← ofJ_get hi] at this; exact this
  refine (acheck_yes h (by omega) ?_ (fun i hi => ?_)).symm
  · rw [List.any_eq_false]
    intro x hx
    obtain ⟨i, hi, rfl⟩ := mem_getD hx
    have := (hok i (by omega)).fits
    rw [ofJ_len] at this
    have : fitsP k ((allocP f li lo k).getD i default) = true := by
      unfold fitsP
      simp only [Bool.or_eq_true, Bool.and_eq_true, decide_eq_true_eq]; omega
    unfold nofit; rw [this]; decide
  · have hi2 : i < f.regs.toNat := by omega
    have hfr : freeB (confl f li lo).1 ((allocP f li lo k).take i) i ((allocP f li lo k).getD i default) = true := by
      have h1 : (allocP f li lo k).take i = ofJ (confl f li lo) k i := ofJ_take (by omega)
      rw [h1]; exact (hok i hi2).free
    by_cases hc : (confl f li lo).2.getD i default = true
    · exact okP_yes2 (by have := (hok i hi2).word hc; omega) hfr
    · exact okP_yes1 (by simpa using hc) hfr
end Lg
end Go.Proofs.Ytpfhmodjjljpjaa

namespace Go.Proofs.Ytpfhmodjjljpjaa
open Go.RowKit
namespace Lg
set_option linter.unusedSimpArgs false
set_option linter.unusedVariables false
section
variable {f : GFn} {li lo : List (List Bool)} {ps : List Int} {k : Int}
structure AOk (f : GFn) (li lo : List (List Bool)) (ps : List Int) (k : Int) : Prop where
  chk : checkL f li lo = true
  len : (ps.length : Int) = f.regs
  fit : ∀ x ∈ ps, (1 ≤ x ∧ x ≤ k) ∨ (x ≤ -1 ∧ -4000 ≤ x)
  ok : ∀ i, i < ps.length → okP (confl f li lo) ps i = true
theorem fits_iff {k x : Int} : fitsP k x = true ↔ (1 ≤ x ∧ x ≤ k) ∨ (x ≤ -1 ∧ -4000 ≤ x) := by
  unfold fitsP; simp only [Bool.or_eq_true, Bool.and_eq_true, decide_eq_true_eq]
theorem acheck_iff : acheck f li lo ps k = true ↔ AOk f li lo ps k := by
  constructor
  · intro h
    unfold acheck at h
    simp only [Bool.and_eq_true, decide_eq_true_eq, Bool.not_eq_true', List.any_eq_false, List.all_eq_true] at h
    refine ⟨h.1, h.2.1, fun x hx => fits_iff.1 ?_, fun i hi => h.2.2.2 i (List.mem_range.2 hi)⟩
    have := h.2.2.1 x hx
    unfold nofit at this
    simpa using this
  · intro h
    refine (acheck_yes h.chk h.len ?_ h.ok).symm
    rw [List.any_eq_false]
    intro x hx
    unfold nofit
    rw [fits_iff.2 (h.fit x hx)]; decide
theorem acheck_bd (h : acheck f li lo ps k = true) (hk : k ≤ 9223372036854775807) : ∀ x ∈ ps, -9223372036854775807 ≤ x ∧ x ≤ 9223372036854775807 := fun x hx => by have := (acheck_iff.1 h).fit x hx; omega
theorem wordsJ_ge : ∀ (n : Nat) (i : Nat), i < n → -(ps.getD i default) ≤ wordsJ ps n
  | 0, i, h => by omega
  | n + 1, i, h => by
    rw [wordsJ]
    unfold mxI
    rcases Nat.lt_or_ge i n with hi | hi
    · have := wordsJ_ge n i hi
      split <;> omega
    · obtain rfl : i = n := by omega
      split <;> omega
end
end Lg
end Go.Proofs.Ytpfhmodjjljpjaa

namespace Go.Proofs.Ytpfhmodjjljpjaa
open Go.RowKit
namespace Lg
set_option linter.unusedSimpArgs false
set_option linter.unusedVariables false
structure AgrM (L : List Bool) (at_ : List Int) (n m : Nat) (r r' : List Int) : Prop where
  len : r.length = n
  len' : r'.length = m
  rng : ∀ i, i < n → 0 ≤ at_.getD i default ∧ at_.getD i default < (m : Int)
  at_ : ∀ i, L.getD i default = true → r.getD i default = r'.getD (at_.getD i default).toNat default
section
variable {L M : List Bool} {at_ : List Int} {n m : Nat} {r r' : List Int}
theorem AgrM.sub (h : AgrM L at_ n m r r') (k : Sub M L) : AgrM M at_ n m r r' := ⟨h.len, h.len', h.rng, fun i hi => h.at_ i (k i hi)⟩
theorem getD_setJ {r : List Int} {d i : Nat} {v : Int} : (r.set d v).getD i default = if i = d ∧ d < r.length then v else r.getD i default := by
  simp only [List.getD, List.getElem?_set]
  by_cases h : d = i
  · subst h
    by_cases h2 : d < r.length
    · simp [h2]
    · simp [h2]
  · rw [if_neg h, if_neg (fun e => h e.1.symm)]
theorem AgrM.set {t : GTac} (h : AgrM (aheadT t L) at_ n m r r') (hL : L.length = n) {d : Nat} (hd : d < n) (hk : ∀ i, Kill t i → i = d) (hne : ∀ i, L.getD i default = true → i ≠ d → at_.getD i default ≠ at_.getD d default) (v : Int) : AgrM L at_ n m (r.set d v) (r'.set (at_.getD d default).toNat v) := by
  have hdr := h.rng d hd
  refine ⟨by rw [List.length_set]; exact h.len, by rw [List.length_set]; exact h.len', h.rng, fun i hi => ?_⟩
  have hin : i < n := by rw [← hL]; exact getD_lt hi
  have hir := h.rng i hin
  rw [getD_setJ, getD_setJ]
  by_cases e : i = d
  · subst e
    rw [if_pos ⟨rfl, by rw [h.len]; exact hd⟩, if_pos ⟨rfl, by rw [h.len']; omega⟩]
  · rw [if_neg (fun q => e q.1), if_neg (fun q => hne i hi e (by omega))]
    exact h.at_ i ((aheadT_get t L i).2 ⟨getD_lt hi, .inr ⟨fun hkk => e (hk i hkk), hi⟩⟩)
theorem AgrM.keep {t : GTac} (h : AgrM (aheadT t L) at_ n m r r') (hk : ∀ i, ¬ Kill t i) : AgrM L at_ n m r r' :=
  h.sub (fun i hi => (aheadT_get t L i).2 ⟨getD_lt hi, .inr ⟨hk i, hi⟩⟩)
theorem AgrM.use {t : GTac} (h : AgrM (aheadT t L) at_ n m r r') {u : Int} (hu : u ∈ usesT t) (hl : u.toNat < L.length) : r'.getD (at_.getD u.toNat default).toNat default = r.getD u.toNat default :=
  (h.at_ _ ((aheadT_get t L _).2 ⟨hl, .inl ⟨u, hu, rfl⟩⟩)).symm
theorem kill_d' {t : GTac} : ∀ i, Kill t i → i = t.d.toNat := fun i hk => by
  obtain ⟨h1, h2⟩ := hk
  rw [sets_d h1] at h2
  exact h2.symm
theorem kill_no' {t : GTac} (h : ¬ (t.op = 1 ∨ t.op = 2 ∨ t.op = 3 ∨ t.op = 4 ∨ t.op = 6 ∨ t.op = 8)) : ∀ i, ¬ Kill t i := fun i hk => by
  have h3 := setsT_ge hk.1
  rw [setsOp_f h] at h3; cases h3
theorem uses_len1 {t : GTac} (h : t.op = 2 ∨ t.op = 5 ∨ t.op = 6 ∨ t.op = 9 ∨ t.op = 3 ∨ t.op = 7) : 0 < (usesT t).length := by
  unfold usesT
  by_cases h1 : t.op = 2 ∨ t.op = 5 ∨ t.op = 6 ∨ t.op = 9
  · rw [if_pos h1]; simp
  · rw [if_neg h1, if_pos (by omega)]; simp
theorem uses_len2 {t : GTac} (h : t.op = 3 ∨ t.op = 7) : 1 < (usesT t).length := by
  unfold usesT
  rw [if_neg (by omega), if_pos h]; simp
theorem mapT_a {at_ : List Int} {t : GTac} (h : t.op = 2 ∨ t.op = 5 ∨ t.op = 6 ∨ t.op = 9 ∨ t.op = 3 ∨ t.op = 7) : (mapT at_ t).a = at_.getD t.a.toNat default := if_pos (uses_len1 h)
theorem mapT_b {at_ : List Int} {t : GTac} (h : t.op = 3 ∨ t.op = 7) : (mapT at_ t).b = at_.getD t.b.toNat default := if_pos (uses_len2 h)
theorem mapT_d {at_ : List Int} {t : GTac} (h : setsT t ≥ 0) : (mapT at_ t).d = at_.getD t.d.toNat default := if_pos h
variable {inp : ByteArray} {call call' : Int → RS → RS} {t : GTac} {s : RS}
theorem oneS_map (hT : TOk L.length t) (h : AgrM (aheadT t L) at_ n m r r') (h0 : s.fin = 0) (hc : t.op = 10 → ∀ s, s.fin = 0 → call' t.base s = call t.base s) : oneS inp call' (mapT at_ t) r' s = oneS inp call t r s := by
  have ha : (t.op = 2 ∨ t.op = 5 ∨ t.op = 6 ∨ t.op = 9 ∨ t.op = 3 ∨ t.op = 7) → r'.getD (mapT at_ t).a.toNat default = r.getD t.a.toNat default := fun ho => by
    rw [mapT_a ho]
    have hu := len_a (uses_len1 ho)
    exact h.use hu (by have := hT.2 _ hu; omega)
  have hb : (t.op = 3 ∨ t.op = 7) → r'.getD (mapT at_ t).b.toNat default = r.getD t.b.toNat default := fun ho => by
    rw [mapT_b ho]
    have hu := len_b (uses_len2 ho)
    exact h.use hu (by have := hT.2 _ hu; omega)
  have e1 : (mapT at_ t).op = t.op := rfl
  have e2 : (mapT at_ t).k = t.k := rfl
  have e3 : (mapT at_ t).base = t.base := rfl
  have e4 : (mapT at_ t).size = t.size := rfl
  unfold oneS
  rw [e1, e2, e3, e4]
  by_cases h3 : t.op = 3
  · rw [if_pos h3, if_pos h3, hb (.inl h3)]
  rw [if_neg h3, if_neg h3]
  by_cases h5 : t.op = 5
  · rw [if_pos h5, if_pos h5, ha (by omega)]
  rw [if_neg h5, if_neg h5]
  by_cases h6 : t.op = 6
  · rw [if_pos h6, if_pos h6, ha (by omega)]
  rw [if_neg h6, if_neg h6]
  by_cases h7 : t.op = 7
  · rw [if_pos h7, if_pos h7, ha (by omega), hb (by omega)]
  rw [if_neg h7, if_neg h7]
  by_cases h8 : t.op = 8
  · rw [if_pos h8, if_pos h8]
  rw [if_neg h8, if_neg h8]
  by_cases h9 : t.op = 9
  · rw [if_pos h9, if_pos h9, ha (by omega)]
  rw [if_neg h9, if_neg h9]
  by_cases h10 : t.op = 10
  · rw [if_pos h10, if_pos h10]; exact hc h10 s h0
  · rw [if_neg h10, if_neg h10]
theorem oneR_map (hL : L.length = n) (hT : TOk L.length t) (hd0 : setsOp t.op = true → 0 ≤ t.d) (h : AgrM (aheadT t L) at_ n m r r') (hne : 0 ≤ setsT t → ∀ i, L.getD i default = true → (i : Int) ≠ setsT t → at_.getD i default ≠ at_.getD (setsT t).toNat default) (hf : (oneS inp call t r s).fin = 0) (h0 : s.fin = 0) : AgrM L at_ n m (oneR inp t r s) (oneR inp (mapT at_ t) r' s) := by
  have ha : (t.op = 2 ∨ t.op = 5 ∨ t.op = 6 ∨ t.op = 9 ∨ t.op = 3 ∨ t.op = 7) → r'.getD (mapT at_ t).a.toNat default = r.getD t.a.toNat default := fun ho => by
    rw [mapT_a ho]
    have hu := len_a (uses_len1 ho)
    exact h.use hu (by have := hT.2 _ hu; omega)
  have hb : (t.op = 3 ∨ t.op = 7) → r'.getD (mapT at_ t).b.toNat default = r.getD t.b.toNat default := fun ho => by
    rw [mapT_b ho]
    have hu := len_b (uses_len2 ho)
    exact h.use hu (by have := hT.2 _ hu; omega)
  have hset : (t.op = 1 ∨ t.op = 2 ∨ t.op = 3 ∨ t.op = 4 ∨ t.op = 6 ∨ t.op = 8) → 0 ≤ t.d → ∀ v, AgrM L at_ n m (r.set t.d.toNat v) (r'.set (mapT at_ t).d.toNat v) := fun ho hd0 v => by
    have hs : setsT t = t.d := by unfold setsT; rw [if_pos (setsOp_t ho)]
    rw [mapT_d (by omega)]
    have hdn := hT.1 (by omega)
    exact h.set hL (d := t.d.toNat) (by omega) kill_d' (fun i hi hid => by
      have := hne (by omega) i hi (by omega)
      rwa [hs] at this) v
  have hneg : (t.op = 1 ∨ t.op = 2 ∨ t.op = 3 ∨ t.op = 4 ∨ t.op = 6 ∨ t.op = 8) → 0 ≤ t.d := fun ho => hd0 (setsOp_t ho)
  have e1 : (mapT at_ t).op = t.op := rfl
  have e2 : (mapT at_ t).k = t.k := rfl
  have e3 : (mapT at_ t).base = t.base := rfl
  have e4 : (mapT at_ t).size = t.size := rfl
  have e5 : (mapT at_ t).n = t.n := rfl
  unfold oneR
  rw [e1, e2, e3, e4, e5]
  by_cases h1 : t.op = 1
  · rw [if_pos h1, if_pos h1]; exact hset (by omega) (hneg (by omega)) _
  rw [if_neg h1, if_neg h1]
  by_cases h2 : t.op = 2
  · rw [if_pos h2, if_pos h2, ha (by omega)]; exact hset (by omega) (hneg (by omega)) _
  rw [if_neg h2, if_neg h2]
  by_cases h3 : t.op = 3
  · rw [if_pos h3, if_pos h3, ha (by omega), hb (by omega)]
    split
    · exact hset (by omega) (hneg (by omega)) _
    · rename_i hn
      unfold oneS at hf
      rw [if_pos h3, if_neg hn] at hf
      exact absurd (show (2 : Int) = 0 from hf) (by decide)
  rw [if_neg h3, if_neg h3]
  by_cases h4 : t.op = 4
  · rw [if_pos h4, if_pos h4]; exact hset (by omega) (hneg (by omega)) _
  rw [if_neg h4, if_neg h4]
  by_cases h6 : t.op = 6
  · rw [if_pos h6, if_pos h6, ha (by omega)]
    split
    · exact hset (by omega) (hneg (by omega)) _
    · rename_i hn
      unfold oneS at hf
      rw [if_neg h3, if_neg (by omega), if_pos h6, if_neg hn] at hf
      exact absurd (show (3 : Int) = 0 from hf) (by decide)
  rw [if_neg h6, if_neg h6]
  by_cases h8 : t.op = 8
  · rw [if_pos h8, if_pos h8]
    split
    · rw [List.set_set, List.set_set]; exact hset (by omega) (hneg (by omega)) _
    · exact hset (by omega) (hneg (by omega)) _
  rw [if_neg h8, if_neg h8]
  exact h.keep (kill_no' (by omega))
end
section
variable {inp : ByteArray} {call call' : Int → RS → RS} {F : Int} {at_ : List Int} {n m : Nat}
def Apart (at_ : List Int) (t : GTac) (L : List Bool) : Prop := 0 ≤ setsT t → ∀ i, L.getD i default = true → (i : Int) ≠ setsT t → at_.getD i default ≠ at_.getD (setsT t).toNat default
theorem insL_map {E : List Bool} (hE : E.length = n) : ∀ (l : List GTac) (r r' : List Int) (s : RS), (∀ t ∈ l, TOk n t ∧ (t.op = 10 → ∀ s, s.fin = 0 → call' t.base s = call t.base s) ∧ (setsOp t.op = true → 0 ≤ t.d)) → (∀ i, i < l.length → Apart at_ (l.getD i default) ((l.drop (i + 1)).foldr aheadT E)) → AgrM (l.foldr aheadT E) at_ n m r r' → s.fin = 0 →
    (insL inp F call' (l.map (mapT at_)) r' s).2 = (insL inp F call l r s).2 ∧ ((insL inp F call l r s).2.2 = false → AgrM E at_ n m (insL inp F call l r s).1 (insL inp F call' (l.map (mapT at_)) r' s).1)
  | [], r, r', s, _, _, h, h0 => ⟨rfl, fun _ => h⟩
  | t :: ts, r, r', s, hl, hap, h, h0 => by
    have hlen : (ts.foldr aheadT E).length = n := by
      clear hl h hap
      induction ts with
      | nil => exact hE
      | cons t ts ih => rw [List.foldr_cons, aheadT_len, ih]
    have ht := hl t (by simp)
    have hT : TOk (ts.foldr aheadT E).length t := by rw [hlen]; exact ht.1
    have hS := oneS_map (inp := inp) (call := call) (call' := call') (s := s.tick) hT h h0 ht.2.1
    simp only [List.map_cons, insL]
    by_cases h1 : s.steps < F
    · rw [if_pos h1, if_pos h1, hS]
      by_cases h2 : (oneS inp call t r s.tick).fin = 0
      · rw [if_pos h2, if_pos h2]
        exact insL_map hE ts _ _ _ (fun t ht => hl t (List.mem_cons_of_mem _ ht)) (fun i hi => by simpa using hap (i + 1) (by simpa using hi)) (oneR_map (call := call) hlen hT ht.2.2 h (by simpa [Apart] using hap 0 (by simp)) h2 h0) h2
      · rw [if_neg h2, if_neg h2]
        exact ⟨rfl, fun h => by cases h⟩
    · rw [if_neg h1, if_neg h1]
      exact ⟨rfl, fun h => by cases h⟩
end
section
variable {f : GFn} {li lo : List (List Bool)} {ps : List Int} {k : Int} {inp : ByteArray} {call call' : Int → RS → RS} {F : Int} {at_ : List Int} {m : Nat}
theorem map_getD {α β : Type} [Inhabited α] [Inhabited β] (g : α → β) {l : List α} {i : Nat} (h : i < l.length) : (l.map g).getD i default = g (l.getD i default) := by simp [List.getD, h]
theorem nextB_map {b : GBlock} {L : List Bool} {n : Nat} {r r' : List Int} (h : AgrM (endS b L) at_ n m r r') (hv : b.fin = 2 → 0 ≤ b.v ∧ b.v < (L.length : Int)) : nextB (mapB at_ b) r' = nextB b r := by
  unfold nextB
  have e1 : (mapB at_ b).fin = b.fin := rfl
  have e3 : (mapB at_ b).to = b.to := rfl
  have e4 : (mapB at_ b).els = b.els := rfl
  rw [e1, e3, e4]
  by_cases h2 : b.fin = 2
  · have hv2 := hv h2
    have e2 : (mapB at_ b).v = at_.getD b.v.toNat default := if_pos h2
    rw [e2, ← h.at_ b.v.toNat ((endS_get b L _).2 ⟨by omega, .inl ⟨h2, rfl⟩⟩)]
  · rw [if_neg (fun e => h2 e.1), if_neg (fun e => h2 e.1)]
theorem next_mem' {b : GBlock} {r : List Int} (h : b.fin = 1 ∨ b.fin = 2) : nextB b r ∈ follows b := by
  unfold nextB follows
  rcases h with h | h
  · rw [if_pos h, if_neg (by omega)]; simp
  · rw [if_neg (by omega), if_pos h]; split <;> simp
theorem insL_go2' {inp : ByteArray} {fuel : Int} {call : Int → RS → RS} : ∀ (l : List GTac) (regs : List Int) (s : RS), s.fin = 0 → (insL inp fuel call l regs s).2.2 = false → (insL inp fuel call l regs s).2.1.fin = 0
  | [], regs, s, h, _ => h
  | t :: ts, regs, s, h, hf => by
    simp only [insL] at hf ⊢
    by_cases h1 : s.steps < fuel
    · by_cases h2 : (oneS inp call t regs s.tick).fin = 0
      · simp only [if_pos h1, if_pos h2] at hf ⊢
        exact insL_go2' ts _ _ h2 hf
      · simp only [if_pos h1, if_neg h2] at hf
        cases hf
    · simp only [if_neg h1] at hf
      cases hf
theorem blkL_map (hF : LF f) (hfit : ∀ b ∈ f.blocks, ∀ t ∈ b.ins, (t.op = 10 → ∀ s, s.fin = 0 → call' t.base s = call t.base s) ∧ (setsOp t.op = true → 0 ≤ t.d)) (hends : ∀ b ∈ f.blocks, b.fin = 1 ∨ b.fin = 2 ∨ b.fin = 3) (hc : checkL f li lo = true)
    (hap : ∀ b, b < f.blocks.length → ∀ q, q < (f.blocks.getD b default).ins.length → Apart at_ ((f.blocks.getD b default).ins.getD q default) ((behL (f.blocks.getD b default) (lo.getD b default)).getD q default)) {rg : Int} :
    ∀ (mm : Nat) (a : Int) (r r' : List Int) (s : RS), 0 ≤ a → a < (f.blocks.length : Int) → AgrM (li.getD a.toNat default) at_ f.regs.toNat m r r' → s.fin = 0 → blkL inp F call' ⟨rg, f.blocks.map (mapB at_)⟩ mm a r' s = blkL inp F call f mm a r s
  | 0, _, _, _, _, _, _, _, _ => rfl
  | mm + 1, a, r, r', s, ha0, ha, hag, h0 => by
    have haN : a.toNat < f.blocks.length := by omega
    have hb := getD_mem haN
    obtain ⟨c1, c2, hcl⟩ := closed_iff hc
    obtain ⟨hc1, hc2⟩ := hcl a.toNat haN
    have hol := c2.at haN
    have hE : (endS (f.blocks.getD a.toNat default) (lo.getD a.toNat default)).length = f.regs.toNat := by rw [endS_len]; exact hol
    have hins := insL_map (inp := inp) (call := call) (call' := call') (F := F) (at_ := at_) (m := m) hE (f.blocks.getD a.toNat default).ins r r' s
      (fun t ht => ⟨(hF.ok _ hb).1 t ht, hfit _ hb t ht⟩) (fun i hi => by
        have := hap a.toNat haN i hi
        rw [behL_getD _ _ hi] at this
        exact this) (hag.sub hc2) h0
    obtain ⟨h1, h2⟩ := hins
    have hgo := insL_go2' (inp := inp) (fuel := F) (call := call) (f.blocks.getD a.toNat default).ins r s h0
    simp only [blkL]
    rw [map_getD (mapB at_) haN]
    have e1 : (mapB at_ (f.blocks.getD a.toNat default)).ins = (f.blocks.getD a.toNat default).ins.map (mapT at_) := rfl
    have e2 : (mapB at_ (f.blocks.getD a.toNat default)).fin = (f.blocks.getD a.toNat default).fin := rfl
    rw [e1, e2, h1]
    generalize insL inp F call (f.blocks.getD a.toNat default).ins r s = q at *
    by_cases hfl : q.2.2 = true
    · rw [if_pos hfl, if_pos hfl]
    · rw [if_neg hfl, if_neg hfl]
      by_cases hst : q.2.1.steps < F
      · rw [if_pos hst, if_pos hst]
        by_cases hf3 : (f.blocks.getD a.toNat default).fin = 3
        · rw [if_pos hf3, if_pos hf3]
        · rw [if_neg hf3, if_neg hf3]
          have hA := h2 (by simpa using hfl)
          rw [nextB_map hA (by rw [hol]; exact (hF.ok _ hb).2)]
          have hmem := next_mem' (r := q.1) (show (f.blocks.getD a.toNat default).fin = 1 ∨ (f.blocks.getD a.toNat default).fin = 2 by have := hends _ hb; omega)
          have hran := hF.nx _ hb _ hmem
          obtain ⟨j, hj, hje⟩ := mem_getD hmem
          have hnl : (nextL f).getD a.toNat default = follows (f.blocks.getD a.toNat default) := nextL_getD _ _
          rw [← hnl] at hj hje
          have hsub := hc1 j hj
          rw [hje] at hsub
          exact blkL_map hF hfit hends hc hap mm _ _ _ _ hran.1 hran.2 (hA.sub (hsub.trans (fun i hi => (endS_get _ _ i).2 ⟨getD_lt hi, .inr hi⟩))) (hgo (by simpa using hfl))
      · rw [if_neg hst, if_neg hst]
theorem ne_of_ok (hA : AOk f li lo ps k) {a d : Nat} (ha : a < ps.length) (hd : d < ps.length) (hne : a ≠ d) (hp : prI a d ∈ (confl f li lo).1) : ps.getD a default ≠ ps.getD d default := by
  have hfr : ∀ i, i < ps.length → freeB (confl f li lo).1 (ps.take i) i (ps.getD i default) = true := fun i hi => by
    have h1 := hA.ok i hi
    unfold okP at h1
    cases hq : freeB (confl f li lo).1 (ps.take i) i (ps.getD i default)
    · rw [hq] at h1; simp at h1
    · rfl
  have key : ∀ a d : Nat, a < d → d < ps.length → prI a d ∈ (confl f li lo).1 → ps.getD a default ≠ ps.getD d default := fun a d h1 h2 h3 => by
    have h5 := free_ne (hfr d h2) (i := a) (by rw [List.length_take]; omega) h3
    rwa [getD_take h1] at h5
  rcases Nat.lt_or_ge a d with h | h
  · exact key a d h hd hp
  · exact (key d a (by omega) ha (by rw [prI_comm]; exact hp)).symm
theorem atP_inj {x y : Int} (hx : (1 ≤ x ∧ x ≤ k) ∨ (x ≤ -1 ∧ -4000 ≤ x)) (hy : (1 ≤ y ∧ y ≤ k) ∨ (y ≤ -1 ∧ -4000 ≤ y)) (h : atP k x = atP k y) : x = y := by
  unfold atP at h
  split at h <;> split at h <;> omega
theorem apart_of (hF : LF f) (hA : AOk f li lo ps k) : ∀ b, b < f.blocks.length → ∀ q, q < (f.blocks.getD b default).ins.length → Apart (atL ps k) ((f.blocks.getD b default).ins.getD q default) ((behL (f.blocks.getD b default) (lo.getD b default)).getD q default) := fun b hb q hq h0 i hi hne => by
  have hr := hF.regs
  have hl := hA.len
  have hd := ((hF.ok _ (getD_mem hb)).1 _ (getD_mem hq)).1 h0
  have c2 := (closed_iff hA.chk).2.1
  have hir : i < f.regs.toNat := by
    have := getD_lt hi
    rw [behL_getD _ _ hq, thrK_len, c2.at hb] at this; exact this
  have hin := ofC_in (f := f) (li := li) hq hi h0 hne f.blocks.length hb
  generalize setsT ((f.blocks.getD b default).ins.getD q default) = d at *
  obtain ⟨d', rfl⟩ := Int.eq_ofNat_of_zero_le h0
  have hne2 := ne_of_ok hA (a := i) (d := d') (by omega) (by omega) (by omega) hin
  rw [show ((d' : Int)).toNat = d' by omega, atL_get (by omega), atL_get (by omega)]
  exact fun e => hne2 (atP_inj (hA.fit _ (getD_mem (by omega))) (hA.fit _ (getD_mem (by omega))) e)
theorem AOk.up (hA : AOk f li lo ps k) {k' : Int} (h : k ≤ k') : AOk f li lo ps k' := ⟨hA.chk, hA.len, fun x hx => by have := hA.fit x hx; omega, hA.ok⟩
theorem wordsP_nn (ps : List Int) : 0 ≤ wordsP ps := by unfold wordsP; rw [← wordsR_eq]; exact wordsR_nn ps _
theorem at_rng (hk : 0 ≤ k) (hA : AOk f li lo ps k) {i : Nat} (hi : i < ps.length) : 0 ≤ (atL ps k).getD i default ∧ (atL ps k).getD i default < k + wordsP ps := by
  rw [atL_get hi]
  have h1 := hA.fit _ (getD_mem hi)
  have h2 := wordsJ_ge (ps := ps) ps.length i hi
  have h3 := wordsP_nn ps
  have : wordsP ps = wordsJ ps ps.length := rfl
  unfold atP
  split <;> omega
end
section
variable {f : GFn} {ps : List Int} {k : Int} {at_ : List Int} {m w i : Int} {t : GTac} {b : GBlock} {n : Nat}
theorem setsT_f (h : ¬ setsT t ≥ 0) : setsOp t.op = true → t.d < 0 := fun hs => by
  unfold setsT at h; rw [if_pos hs] at h; omega
theorem uses_mapT_len (at_ : List Int) (t : GTac) : (usesT (mapT at_ t)).length = (usesT t).length := by
  unfold usesT
  have e1 : (mapT at_ t).op = t.op := rfl
  rw [e1]
  split
  · rfl
  · split <;> rfl
theorem uses_mapT {u : Int} (hu : u ∈ usesT (mapT at_ t)) : ∃ x ∈ usesT t, u = at_.getD x.toNat default := by
  have e1 : (mapT at_ t).op = t.op := rfl
  unfold usesT at hu
  rw [e1] at hu
  split at hu
  · rename_i h
    have h2 : (mapT at_ t).a = at_.getD t.a.toNat default := mapT_a (by omega)
    rw [h2] at hu
    exact ⟨t.a, len_a (uses_len1 (by omega)), by simpa using hu⟩
  · split at hu
    · rename_i h
      have h2 : (mapT at_ t).a = at_.getD t.a.toNat default := mapT_a (by omega)
      have h3 : (mapT at_ t).b = at_.getD t.b.toNat default := mapT_b (by omega)
      rw [h2, h3] at hu
      rcases List.mem_cons.1 hu with h4 | h4
      · exact ⟨t.a, len_a (uses_len1 (by omega)), h4⟩
      · exact ⟨t.b, len_b (uses_len2 (by omega)), by simpa using h4⟩
    · cases hu
theorem fits_map (hr : ∀ i, i < n → 0 ≤ at_.getD i default ∧ at_.getD i default < m) {g : Int} (h : FitsP t i g w) (hg : g ≤ (n : Int)) : FitsP (mapT at_ t) i m w := by
  obtain ⟨h1, h2, h3, h4, h5, h6, h7, h8⟩ := h
  have e1 : (mapT at_ t).op = t.op := rfl
  have hsd : setsOp t.op = true → setsT t = t.d := fun hs => by unfold setsT; rw [if_pos hs]
  refine ⟨h1, fun hs => ?_, fun u hu => ?_, h4, h5, h6, h7, ?_⟩
  · have hs' : setsOp t.op = true := hs
    have hd := withinB_iff.1 (h2 hs')
    rw [mapT_d (by rw [hsd hs']; exact hd.1)]
    exact withinB_iff.2 (hr _ (by omega))
  · obtain ⟨x, hx, rfl⟩ := uses_mapT hu
    have hd := withinB_iff.1 (h3 x hx)
    exact withinB_iff.2 (hr _ (by omega))
  · have hl := uses_mapT_len at_ t
    have c1 := congrArg GTac.d h8
    have c2 := congrArg GTac.a h8
    have c3 := congrArg GTac.b h8
    have c4 := congrArg GTac.k h8
    have c5 := congrArg GTac.base h8
    have c6 := congrArg GTac.size h8
    have c7 := congrArg GTac.n h8
    unfold wantT at c1 c2 c3 c4 c5 c6 c7 ⊢
    dsimp only at c1 c2 c3 c4 c5 c6 c7
    rw [hl, e1]
    show (⟨t.op, _, _, _, t.k, t.base, t.size, t.n⟩ : GTac) = _
    rw [GTac.mk.injEq]
    refine ⟨rfl, ?_, ?_, ?_, c4, c5, c6, c7⟩
    · by_cases hs : setsOp t.op = true
      · rw [if_pos hs]; rfl
      · rw [if_neg hs] at c1 ⊢
        rw [if_neg (fun h0 => hs (setsT_ge h0))]; exact c1
    · by_cases hs : 0 < (usesT t).length
      · rw [if_pos hs, if_pos hs]; show _ = (mapT at_ t).a; exact (if_pos hs).symm
      · rw [if_neg hs] at c2 ⊢; rw [if_neg hs]; exact c2
    · by_cases hs : 1 < (usesT t).length
      · rw [if_pos hs, if_pos hs]; show _ = (mapT at_ t).b; exact (if_pos hs).symm
      · rw [if_neg hs] at c3 ⊢; rw [if_neg hs]; exact c3
theorem ends_map (hr : ∀ i, i < n → 0 ≤ at_.getD i default ∧ at_.getD i default < m) {g : Int} {q : Int} (h : endsB b q g = true) (hg : g ≤ (n : Int)) : endsB (mapB at_ b) q m = true := by
  unfold endsB at h ⊢
  have e1 : (mapB at_ b).fin = b.fin := rfl
  have e3 : (mapB at_ b).to = b.to := rfl
  have e4 : (mapB at_ b).els = b.els := rfl
  rw [e1, e3, e4]
  by_cases h1 : b.fin = 1
  · rw [if_pos h1] at h ⊢
    have e2 : (mapB at_ b).v = b.v := if_neg (by omega)
    rw [e2]; exact h
  · rw [if_neg h1] at h ⊢
    by_cases h2 : b.fin = 2
    · rw [if_pos h2] at h ⊢
      have e2 : (mapB at_ b).v = at_.getD b.v.toNat default := if_pos h2
      simp only [Bool.and_eq_true] at h ⊢
      have hv := withinB_iff.1 h.2
      rw [e2]
      exact ⟨h.1, withinB_iff.2 (hr _ (by omega))⟩
    · rw [if_neg h2] at h ⊢
      have e2 : (mapB at_ b).v = b.v := if_neg h2
      rw [e2]; exact h
theorem other_one {li lo : List (List Bool)} {nu wo : Int} (h : oneB f nu wo = true) (hk : 0 ≤ k) (hA : AOk f li lo ps k) (hm : k + wordsP ps ≤ 4000) : oneB (otherP f ps k) nu wo = true := by
  have hw := wordsP_nn ps
  have hr : ∀ i, i < ps.length → 0 ≤ (atL ps k).getD i default ∧ (atL ps k).getD i default < (otherP f ps k).regs := fun i hi => at_rng hk hA hi
  have hl := hA.len
  obtain ⟨o1, o2⟩ := one_all h
  unfold oneB
  rw [Bool.and_eq_true, List.all_eq_true]
  refine ⟨decide_eq_true ⟨by show 0 ≤ k + wordsP ps; omega, hm, fun e => o1.2.2 (by simpa [otherP] using e)⟩, fun b' hb' => ?_⟩
  obtain ⟨b, hb, rfl⟩ := List.mem_map.1 hb'
  have hq : (otherP f ps k).blocks.length = f.blocks.length := by simp [otherP]
  unfold blockB
  rw [Bool.and_eq_true, List.all_eq_true, hq]
  refine ⟨ends_map hr (o2 b hb).1 (by omega), fun t' ht' => ?_⟩
  obtain ⟨t, ht, rfl⟩ := List.mem_map.1 ht'
  exact decide_eq_true (fits_map hr ((o2 b hb).2 t ht) (by omega))
theorem other_n (hn : ∀ b ∈ f.blocks, ∀ t ∈ b.ins, isW t.n) : ∀ b ∈ (otherP f ps k).blocks, ∀ t ∈ b.ins, isW t.n := fun b' hb' t' ht' => by
  obtain ⟨b, hb, rfl⟩ := List.mem_map.1 hb'
  obtain ⟨t, ht, rfl⟩ := List.mem_map.1 ht'
  exact hn b hb t ht
end
end Lg
end Go.Proofs.Ytpfhmodjjljpjaa

namespace Go.Proofs.Ytpfhmodjjljpjaa
open Go.RowKit
namespace Lg
set_option linter.unusedSimpArgs false
set_option linter.unusedVariables false
theorem eq42_run (d : Nat) (w : World) (a c a' c' : Int) (s s' : ByteArray) : (Op.equalIn (d + 2) 42 (.agg #[.int .i64 a, .string s, .int .i64 c]) (.agg #[.int .i64 a', .string s', .int .i64 c'])).run Try.prog w = .ok (a == a' && (s.toList == s'.toList && (c == c' && true))) w := by
  refine eqA_of Try.underlying42 (by kernel_rfl) ?_
  refine eqf_cons (by rfl) (by go_simp; rfl) (by go_simp; rfl) (by go_simp) ?_
  refine eqf_cons (by rfl) (by go_simp; rfl) (by go_simp; rfl) (by go_simp) ?_
  exact eqf_cons (by rfl) (by go_simp; rfl) (by go_simp; rfl) (by go_simp) eqf_nil
theorem T_eq42 {N b : Nat} {o : Oper} {st : St} {x y : Operand} {a c a' c' : Int} {s s' : ByteArray} {t' : TypeId} (ho : o.op = .binOp .eql 42 x y t') (hx : st.ev x = some (.agg [.v (.int .i64 a), .v (.string s), .v (.int .i64 c)])) (hy : st.ev y = some (.agg [.v (.int .i64 a'), .v (.string s'), .v (.int .i64 c')])) : T Try.prog N o b [] st (.v (.bool (a == a' && (s.toList == s'.toList && (c == c' && true))))) 0 [] :=
  T_pure2 ho hx hy (fun ρ w => by
    show (do eqGuard .eql 42 x y (.agg #[.int .i64 a, .string s, .int .i64 c]) (.agg #[.int .i64 a', .string s', .int .i64 c']); binOp .eql 42 (.agg #[.int .i64 a, .string s, .int .i64 c]) (.agg #[.int .i64 a', .string s', .int .i64 c']) : Sem Value).run Try.prog w = _
    rw [Sem.run_bind, run_eqGuard_agg _ _ _ _ _ _ _ (by kernel_rfl), Result.andThen_ok, run_eql_struct, eq42_run]
    rfl)
end Lg
end Go.Proofs.Ytpfhmodjjljpjaa

namespace Go.Proofs.Ytpfhmodjjljpjaa
open Go.RowKit
namespace Lg
set_option linter.unusedSimpArgs false
set_option linter.unusedVariables false
def allocF (k : Int) (f : GFn) : GFn := otherP f (allocP f (liveL f).1 (liveL f).2 k) k
def allocG (p : GProg) (k : Int) : GProg := ⟨p.words, p.funcs.map (allocF k)⟩
theorem allocA {f : GFn} (h : S28 f) {k : Int} (hk : 0 ≤ k) : AOk f (liveL f).1 (liveL f).2 (allocP f (liveL f).1 (liveL f).2 k) k := acheck_iff.1 (alloc_ok h.lf (by have := h.regs; omega) (live_closed h.lf) hk)
theorem alloc_words {f : GFn} (h : S28 f) {k : Int} (hk : 0 ≤ k) : wordsP (allocP f (liveL f).1 (liveL f).2 k) ≤ 4000 := by
  have hA := allocA h hk
  generalize allocP f (liveL f).1 (liveL f).2 k = ps at *
  have : ∀ j, j ≤ ps.length → wordsJ ps j ≤ 4000 := by
    intro j
    induction j with
    | zero => intro _; show (0 : Int) ≤ 4000; decide
    | succ j ih =>
      intro hj
      have h1 := ih (by omega)
      have h2 := hA.fit _ (getD_mem (by omega : j < ps.length))
      rw [wordsJ]; unfold mxI
      split
      · omega
      · exact h1
  exact this _ (Nat.le_refl _)
section
variable {p : GProg} {k : Int} {inp : ByteArray} {F : Int}
theorem callF_alloc (hp : rightB p = true) (hS : ∀ i, i < p.funcs.length → S28 (p.funcs.getD i default)) (hk : 0 ≤ k) : ∀ (d : Nat) (i : Int), 0 ≤ i → i < d → i < p.funcs.length → ∀ s : RS, s.fin = 0 → callF inp F (p.funcs.map (allocF k)) d i s = callF inp F p.funcs d i s
  | 0, i, h0, h1, _, _, _ => by omega
  | d + 1, i, h0, h1, h2, s, hs => by
    have hi : i.toNat < p.funcs.length := by omega
    have h3 := right_oneB hp hi
    have hf := hS i.toNat hi
    have hA := allocA hf hk
    obtain ⟨o1, o2⟩ := one_all h3
    simp only [callF]
    rw [map_getD (allocF k) hi]
    have hr := hf.regs
    have hl := hA.len
    have hw := wordsP_nn (allocP (p.funcs.getD i.toNat default) (liveL (p.funcs.getD i.toNat default)).1 (liveL (p.funcs.getD i.toNat default)).2 k)
    generalize p.funcs.getD i.toNat default = f at *
    generalize hps : allocP f (liveL f).1 (liveL f).2 k = ps at *
    have hfn : allocF k f = ⟨k + wordsP ps, f.blocks.map (mapB (atL ps k))⟩ := by unfold allocF; rw [hps]; rfl
    rw [hfn]
    refine blkL_map hf.lf (fun b hb t ht => ?_) (fun b hb => (follows_in (o2 b hb).1).2.2) hA.chk (apart_of hf.lf hA) (m := (k + wordsP ps).toNat) _ _ _ _ _ (Int.le_refl _) (by have := hf.pos; omega) ⟨List.length_replicate, List.length_replicate, fun i hi => ?_, fun i _ => ?_⟩ hs
    · have hft := (o2 b hb).2 t ht
      refine ⟨fun ho s hs => ?_, fun hss => (withinB_iff.1 (hft.2.1 hss)).1⟩
      have h4 := withinB_iff.1 (hft.2.2.2.2.2.2.1 ho)
      exact callF_alloc hp hS hk d t.base h4.1 (by omega) (by omega) s hs
    · have := at_rng hk hA (i := i) (by omega); omega
    · have hz : ∀ (n i : Nat), (List.replicate n (0 : Int)).getD i default = 0 := fun n i => by
        simp only [List.getD, List.getElem?_replicate]; split <;> rfl
      rw [hz]; exact (hz _ _).symm
theorem alloc_run (hp : rightB p = true) (hS : ∀ i, i < p.funcs.length → S28 (p.funcs.getD i default)) (hk : 0 ≤ k) : runS (allocG p k) inp F = runS p inp F := by
  have hpos := right_pos hp
  have e : (allocG p k).funcs.length = p.funcs.length := by simp [allocG]
  unfold runS
  rw [e]
  exact callF_alloc hp hS hk _ _ (by omega) (by omega) (by omega) _ rfl
theorem alloc_same (hp : rightB p = true) (hS : ∀ i, i < p.funcs.length → S28 (p.funcs.getD i default)) (hk : 0 ≤ k) : (runE p inp F == runE (allocG p k) inp F && ((strOfNums (runS p inp F).out).toList == (strOfNums (runS (allocG p k) inp F).out).toList && ((runS p inp F).steps == (runS (allocG p k) inp F).steps && true))) = true := by
  have h := alloc_run (inp := inp) (F := F) hp hS hk
  unfold runE
  rw [h]; simp
theorem alloc_right (hp : rightB p = true) (hS : ∀ i, i < p.funcs.length → S28 (p.funcs.getD i default)) (hk : 0 ≤ k ∧ k ≤ 100) (hw : ∀ i, i < p.funcs.length → wordsP (allocP (p.funcs.getD i default) (liveL (p.funcs.getD i default)).1 (liveL (p.funcs.getD i default)).2 k) ≤ 3000) : rightB (allocG p k) = true := by
  have hpos := right_pos hp
  have hwo := right_words hp
  have e : (allocG p k).funcs.length = p.funcs.length := by simp [allocG]
  unfold rightB
  rw [Bool.and_eq_true, List.all_eq_true]
  refine ⟨decide_eq_true ⟨hwo.1, hwo.2, fun h => ?_⟩, fun i hi => ?_⟩
  · rw [h] at e; simp at e; omega
  · have hi := List.mem_range.1 hi
    rw [e] at hi
    have h3 := right_oneB hp hi
    show oneB ((p.funcs.map (allocF k)).getD i default) _ _ = true
    rw [map_getD (allocF k) hi]
    exact other_one h3 hk.1 (allocA (hS i hi) hk.1) (by have := hw i hi; omega)
theorem alloc_n (hn : ∀ f ∈ p.funcs, ∀ b ∈ f.blocks, ∀ t ∈ b.ins, isW t.n) : ∀ f ∈ (allocG p k).funcs, ∀ b ∈ f.blocks, ∀ t ∈ b.ins, isW t.n := fun g hg => by
  obtain ⟨f, hf, rfl⟩ := List.mem_map.1 hg
  exact other_n (hn f hf)
theorem prog_each (hS : ∀ i, i < p.funcs.length → S28 (p.funcs.getD i default)) : ∀ f ∈ p.funcs, f.blocks.length ≤ 1000000 ∧ ∀ b ∈ f.blocks, b.ins.length ≤ 1000000 := fun f hf => by
  obtain ⟨i, hi, rfl⟩ := mem_getD hf
  exact ⟨by have := (hS i hi).len; omega, fun b hb => by have := (hS i hi).ins b hb; omega⟩
theorem allocG_each (hS : ∀ i, i < p.funcs.length → S28 (p.funcs.getD i default)) : ∀ f ∈ (allocG p k).funcs, f.blocks.length ≤ 1000000 ∧ ∀ b ∈ f.blocks, b.ins.length ≤ 1000000 := fun g hg => by
  obtain ⟨f, hf, rfl⟩ := List.mem_map.1 hg
  have h := prog_each hS f hf
  refine ⟨by show (f.blocks.map _).length ≤ _; rw [List.length_map]; exact h.1, fun b' hb' => ?_⟩
  obtain ⟨b, hb, rfl⟩ := List.mem_map.1 hb'
  show (b.ins.map _).length ≤ _
  rw [List.length_map]; exact h.2 b hb
def GoodF (k : Int) (f : GFn) : Prop := S28 f ∧ wordsP (allocP f (liveL f).1 (liveL f).2 k) ≤ 3000
theorem allocG_ok (h : ∀ i, i < p.funcs.length → S28 (p.funcs.getD i default)) (hl : p.funcs.length ≤ 1000) : PgOk (allocG p k) := ⟨by show (p.funcs.map _).length ≤ _; rw [List.length_map]; omega, fun g hg => by
  have := allocG_each h g hg
  exact ⟨by omega, fun b hb => by have := this.2 b hb; omega⟩⟩
theorem alloc_bd {f : GFn} (h : S28 f) (hk : 0 ≤ k ∧ k ≤ 100) : ∀ x ∈ allocP f (liveL f).1 (liveL f).2 k, -4000 ≤ x ∧ x ≤ 1000 := fun x hx => by have := (allocA h hk.1).fit x hx; omega
theorem alloc_len {f : GFn} (h : S28 f) : (allocP f (liveL f).1 (liveL f).2 k).length = f.regs.toNat := ofJ_len _ _ _
end
end Lg
end Go.Proofs.Ytpfhmodjjljpjaa

namespace Go.Proofs.Ytpfhmodjjljpjaa
open Go.RowKit
namespace Lg
set_option maxRecDepth 100000
set_option linter.unusedVariables false
set_option linter.unusedSimpArgs false
theorem body35 : (Try.prog.funcs[35]?).map (fun fn => (fn.name == "runtime.NumGoroutine" || fn.body.isNone)) = some false := by kernel_rfl
theorem right_spec (p : GProg) (hp : PgOk p) : Spec Try.prog 35 [.agg [.v (.int .i64 p.words), .r 1]] 2 [(1, .fz 2 (p.funcs.map eFn))] (.v (.bool (rightB p))) 2 [] := by
 have hp1 := hp.1
 refine spec_of D (fn := Try.f35) rfl rfl (Nat.le_of_ble_eq_true rfl) ?_
 refine W_seq ?_
 refine W_seqK (b' := 34) rfl rfl ?_
 refine q1 1 2 1 rfl rfl (T_box rfl rfl flat_agg) rfl ?_
 refine q0 2 18 2 rfl rfl (T_assign rfl rfl) rfl ?_
 refine k_done rfl ?_
 refine thenK_n ?_
 refine W_seq ?_
 refine W_seq ?_
 refine W_seqK (b' := 258) rfl rfl ?_
 refine q0 4 34 1 rfl rfl (T_fa D (m := 0) rfl rfl rfl rfl rfl rfl) rfl ?_
 refine q0 5 50 2 rfl rfl (T_load_b D rfl rfl rfl rfl rfl rfl) rfl ?_
 refine q0 6 66 3 rfl rfl (T_cmp rfl rfl rfl rfl) rfl ?_
 refine q0 7 82 4 rfl rfl (T_move rfl rfl) rfl ?_
 refine k_split (d := 7) rfl (fun g1 => ?_) (fun g1 => ?_)
 ·have h1 := c_lss_t g1
  refine k_no (d := 8) (j' := 5) rfl rfl rfl (g_ft rfl rfl rfl g1) ?_
  refine k_no (d := 9) (j' := 6) rfl rfl rfl (g_ft rfl rfl rfl g1) ?_
  refine k_no (d := 10) (j' := 7) rfl rfl rfl (g_ft rfl rfl rfl g1) ?_
  refine q0 11 146 8 rfl rfl (T_pick_t rfl rfl rfl g1) rfl ?_
  refine q0 12 162 9 rfl rfl (T_move rfl rfl) rfl ?_
  refine k_no (d := 13) (j' := 10) rfl rfl rfl (g_ft rfl rfl rfl rfl) ?_
  refine k_no (d := 14) (j' := 11) rfl rfl rfl (g_ft rfl rfl rfl rfl) ?_
  refine k_no (d := 15) (j' := 12) rfl rfl rfl (g_ft rfl rfl rfl rfl) ?_
  refine k_no (d := 16) (j' := 13) rfl rfl rfl (g_ft rfl rfl rfl rfl) ?_
  refine q0 17 242 14 rfl rfl (T_pick_t rfl rfl rfl rfl) rfl ?_
  refine k_done rfl ?_
  refine thenK_n ?_
  refine W_cond rfl (fun g2 => ?_) (fun g2 => ?_)
  ·skip
   refine W_seq ?_
   refine W_seqK (b' := 274) rfl rfl ?_
   refine q0 2 258 1 rfl rfl (T_assign rfl rfl) rfl ?_
   refine k_done rfl ?_
   refine thenK_n ?_
   refine W_ret ?_
   refine thenK_r ?_
   exact .mk [] (.inr rfl) (.tmp rfl (.nil)) (by (simp only [resLV, LV.ren, LV.v.injEq, Value.bool.injEq]; exact right_no1 (by omega))) (.nil) rfl
  ·exact absurd (g2.symm.trans rfl) (by decide)
 ·have h1 := c_lss_f g1
  refine k_op0 (d := 8) (b := 98) (j' := 5) rfl rfl rfl rfl (g_ff rfl rfl rfl g1) (T_fa D (m := 0) rfl rfl rfl rfl rfl rfl) rfl ?_
  refine k_op0 (d := 9) (b := 114) (j' := 6) rfl rfl rfl rfl (g_ff rfl rfl rfl g1) (T_load_b D rfl rfl rfl rfl rfl rfl) rfl ?_
  refine k_op0 (d := 10) (b := 130) (j' := 7) rfl rfl rfl rfl (g_ff rfl rfl rfl g1) (T_cmp rfl rfl rfl rfl) rfl ?_
  refine q0 11 146 8 rfl rfl (T_pick_f rfl rfl rfl g1) rfl ?_
  refine q0 12 162 9 rfl rfl (T_move rfl rfl) rfl ?_
  refine k_split (d := 12) rfl (fun g3 => ?_) (fun g3 => ?_)
  ·have h3 := c_gtr_t g3
   refine k_no (d := 13) (j' := 10) rfl rfl rfl (g_ft rfl rfl rfl g3) ?_
   refine k_no (d := 14) (j' := 11) rfl rfl rfl (g_ft rfl rfl rfl g3) ?_
   refine k_no (d := 15) (j' := 12) rfl rfl rfl (g_ft rfl rfl rfl g3) ?_
   refine k_no (d := 16) (j' := 13) rfl rfl rfl (g_ft rfl rfl rfl g3) ?_
   refine q0 17 242 14 rfl rfl (T_pick_t rfl rfl rfl g3) rfl ?_
   refine k_done rfl ?_
   refine thenK_n ?_
   refine W_cond rfl (fun g4 => ?_) (fun g4 => ?_)
   ·skip
    refine W_seq ?_
    refine W_seqK (b' := 274) rfl rfl ?_
    refine q0 2 258 1 rfl rfl (T_assign rfl rfl) rfl ?_
    refine k_done rfl ?_
    refine thenK_n ?_
    refine W_ret ?_
    refine thenK_r ?_
    exact .mk [] (.inr rfl) (.tmp rfl (.nil)) (by (simp only [resLV, LV.ren, LV.v.injEq, Value.bool.injEq]; exact right_no1 (by omega))) (.nil) rfl
   ·exact absurd (g4.symm.trans rfl) (by decide)
  ·have h3 := c_gtr_f g3
   refine k_op0 (d := 13) (b := 178) (j' := 10) rfl rfl rfl rfl (g_ff rfl rfl rfl g3) (T_fa D (m := 1) rfl rfl rfl rfl rfl rfl) rfl ?_
   refine k_op0 (d := 14) (b := 194) (j' := 11) rfl rfl rfl rfl (g_ff rfl rfl rfl g3) (T_load_b D rfl rfl rfl rfl rfl rfl) rfl ?_
   refine k_op0 (d := 15) (b := 210) (j' := 12) rfl rfl rfl rfl (g_ff rfl rfl rfl g3) (T_len D rfl rfl rfl rfl rfl rfl) rfl ?_
   refine k_op0 (d := 16) (b := 226) (j' := 13) rfl rfl rfl rfl (g_ff rfl rfl rfl g3) (T_cmp rfl rfl rfl rfl) rfl ?_
   refine q0 17 242 14 rfl rfl (T_pick_f rfl rfl rfl g3) rfl ?_
   refine k_done rfl ?_
   refine thenK_n ?_
   refine W_cond rfl (fun g5 => ?_) (fun g5 => ?_)
   ·have h5 := c_eql_t g5
    refine W_seq ?_
    refine W_seqK (b' := 274) rfl rfl ?_
    refine q0 2 258 1 rfl rfl (T_assign rfl rfl) rfl ?_
    refine k_done rfl ?_
    refine thenK_n ?_
    refine W_ret ?_
    refine thenK_r ?_
    exact .mk [] (.inr rfl) (.tmp rfl (.nil)) (by (simp only [resLV, LV.ren, LV.v.injEq, Value.bool.injEq]; exact right_no1 (by omega))) (.nil) rfl
   ·have h5 := c_eql_f g5
    refine W_skip ?_
    refine thenK_n ?_
    refine W_seq ?_
    refine W_seq ?_
    refine W_seqK (b' := 274) rfl rfl ?_
    refine q0 3 258 1 rfl rfl (T_assign rfl rfl) rfl ?_
    refine k_done rfl ?_
    refine thenK_n ?_
    refine W_block ?_
    refine W_loop (ι := Nat) 3 (fun j => ⟨[(1, .p 2 0), (3, .v (.int .i64 (j : Int)))], [(1, .fz 2 (p.funcs.map eFn)), (2, .box 24 [.v (.int .i64 p.words), .r 1])]⟩) (fun j => j ≤ p.funcs.length ∧ ∀ i, i < j → oneB (p.funcs.getD i default) (i : Int) p.words = true) (fun j => p.funcs.length - j) (0) (by exact ⟨Nat.zero_le _, fun i h => absurd h (Nat.not_lt_zero _)⟩) ?_ (fun j hJ => ?_)
    ·exact ⟨[(2, 2)], .same rfl rfl (.eq rfl (.nil) (by rfl)), .fzE rfl (.box (by rfl) (.nil)) (by rfl), rfl⟩
    refine W_seq ?_
    refine W_seq ?_
    refine W_seqK (b' := 83) rfl rfl ?_
    refine q0 18 3 1 rfl rfl (T_move rfl rfl) rfl ?_
    refine q0 19 19 2 rfl rfl (T_fa D (m := 1) rfl rfl rfl rfl rfl rfl) rfl ?_
    refine q0 20 35 3 rfl rfl (T_load_b D rfl rfl rfl rfl rfl rfl) rfl ?_
    refine q0 21 51 4 rfl rfl (T_len D rfl rfl rfl rfl rfl rfl) rfl ?_
    refine q0 22 67 5 rfl rfl (T_cmp rfl rfl rfl rfl) rfl ?_
    refine k_done rfl ?_
    refine thenK_n ?_
    refine W_cond rfl (fun g6 => ?_) (fun g6 => ?_)
    ·have h6 := c_lss_t g6
     refine W_skip ?_
     refine thenK_n ?_
     refine W_seq ?_
     refine W_block ?_
     refine W_seq ?_
     refine W_anyK (b' := 243) rfl rfl rfl ?_
     refine q0 25 83 1 rfl rfl (T_fa D (m := 1) rfl rfl rfl rfl rfl rfl) rfl ?_
     refine q0 26 99 2 rfl rfl (T_load_b D rfl rfl rfl rfl rfl rfl) rfl ?_
     refine q0 27 115 3 rfl rfl (T_move rfl rfl) rfl ?_
     refine q0 28 131 4 rfl rfl (T_indexAddr D rfl rfl rfl rfl rfl rfl rfl rfl (by omega)) rfl ?_
     refine q1 29 147 5 rfl rfl (T_ldEA D (l := [.v _, .r 147]) (nn := 1) (upd := [(147, .fz 5 _)]) rfl rfl rfl rfl rfl (by omega) rfl rfl rfl rfl rfl) rfl ?_
     refine q0 30 163 6 rfl rfl (T_move rfl rfl) rfl ?_
     refine q0 31 179 7 rfl rfl (T_fa D (m := 0) rfl rfl rfl rfl rfl rfl) rfl ?_
     refine q0 32 195 8 rfl rfl (T_load_b D rfl rfl rfl rfl rfl rfl) rfl ?_
     refine q0 33 211 9 rfl rfl (T_callV (lvs := [_, _, _]) (L := [(1, 147)]) (one_fn_spec _ _ _ (hp.2 _ (getD_mem (by omega))) (by omega)) body47 rfl rfl rfl rfl (.fz rfl (.nil)) rfl) rfl ?_
     refine q0 34 227 10 rfl rfl (T_not rfl rfl) rfl ?_
     refine k_done rfl ?_
     refine ⟨rfl, ?_⟩
     refine thenK_n ?_
     refine W_cond rfl (fun g7 => ?_) (fun g7 => ?_)
     ·have h7 := g7; (try simp only [cmpB, decide_eq_true_eq, decide_eq_false_iff_not, beq_iff_eq, beq_eq_false_iff_ne, bne_iff_ne, ne_eq, bne_eq_false_iff_eq, Bool.not_eq_true', Bool.not_eq_false', Int.not_lt, Int.not_le] at h7)
      refine W_seq ?_
      refine W_seqK (b' := 259) rfl rfl ?_
      refine q0 2 243 1 rfl rfl (T_assign rfl rfl) rfl ?_
      refine k_done rfl ?_
      refine thenK_n ?_
      refine W_ret ?_
      refine blockK_r ?_
      refine thenK_r ?_
      refine thenK_r ?_
      refine blockK_r ?_
      refine thenK_r ?_
      exact .mk [] (.inr rfl) (.tmp rfl (.nil)) (by (simp only [resLV, LV.ren, LV.v.injEq, Value.bool.injEq]; exact right_no2 (j := j) (by omega) (by assumption))) (.nil) rfl
     ·have h7 := g7; (try simp only [cmpB, decide_eq_true_eq, decide_eq_false_iff_not, beq_iff_eq, beq_eq_false_iff_ne, bne_iff_ne, ne_eq, bne_eq_false_iff_eq, Bool.not_eq_true', Bool.not_eq_false', Int.not_lt, Int.not_le] at h7)
      refine W_skip ?_
      refine blockK_n ?_
      refine thenK_n ?_
      refine W_seqK (b' := 291) rfl rfl ?_
      refine q0 23 243 1 rfl rfl (T_move rfl rfl) rfl ?_
      refine q0 24 259 2 rfl rfl (T_add64 rfl rfl rfl (by omega)) rfl ?_
      refine q0 3 275 3 rfl rfl (T_assign rfl rfl) rfl ?_
      refine k_done rfl ?_
      refine thenK_n ?_
      refine ⟨j + 1, by (try dsimp only); exact ⟨by omega, fun i1 h => by rcases Nat.lt_or_ge i1 j with h0 | h0; exact hJ.2 i1 h0; rw [show i1 = j by omega]; assumption⟩, by (try dsimp only); omega, ?_⟩
      exact ⟨[(2, 2)], .same rfl rfl (.eq rfl (.nil) (by rfl)), .fzE rfl (.box (by rfl) (.nil)) rfl, rfl⟩
    ·have h6 := c_lss_f g6
     refine W_exit ?_
     refine thenK_e ?_
     refine thenK_e ?_
     refine blockK_hit ?_
     refine thenK_n ?_
     refine W_seq ?_
     refine W_seqK (b' := 99) rfl rfl ?_
     refine q0 2 83 1 rfl rfl (T_assign rfl rfl) rfl ?_
     refine k_done rfl ?_
     refine thenK_n ?_
     refine W_ret ?_
     exact .mk [] (.inr rfl) (.tmp rfl (.nil)) (by (simp only [resLV, LV.ren, LV.v.injEq, Value.bool.injEq]; exact right_yes (by omega) (by omega) (fun i h => hJ.2 i (by omega)))) (.nil) rfl
theorem body25 : (Try.prog.funcs[25]?).map (fun fn => (fn.name == "runtime.NumGoroutine" || fn.body.isNone)) = some false := by kernel_rfl
theorem small30_spec (p : GProg) (most : Int) (hp : PgOk p) : Spec Try.prog 25 [.agg [.v (.int .i64 p.words), .r 1], .v (.int .i64 most)] 2 [(1, .fz 2 (p.funcs.map eFn))] (.v (.bool (smallG p most))) 2 [] := by
 have hp1 := hp.1
 refine spec_of D (fn := Try.f25) rfl rfl (Nat.le_of_ble_eq_true rfl) ?_
 refine W_seq ?_
 refine W_seqK (b' := 34) rfl rfl ?_
 refine q1 2 2 1 rfl rfl (T_box rfl rfl flat_agg) rfl ?_
 refine q0 4 18 2 rfl rfl (T_assign rfl rfl) rfl ?_
 refine k_done rfl ?_
 refine thenK_n ?_
 refine W_seq ?_
 refine W_seqK (b' := 50) rfl rfl ?_
 refine q0 5 34 1 rfl rfl (T_assign rfl rfl) rfl ?_
 refine k_done rfl ?_
 refine thenK_n ?_
 refine W_seq ?_
 refine W_seq ?_
 refine W_seqK (b' := 194) rfl rfl ?_
 refine q0 8 50 1 rfl rfl (T_fa D (m := 0) rfl rfl rfl rfl rfl rfl) rfl ?_
 refine q0 9 66 2 rfl rfl (T_load_b D rfl rfl rfl rfl rfl rfl) rfl ?_
 refine q0 10 82 3 rfl rfl (T_cmp rfl rfl rfl rfl) rfl ?_
 refine q0 11 98 4 rfl rfl (T_move rfl rfl) rfl ?_
 refine k_split (d := 11) rfl (fun g1 => ?_) (fun g1 => ?_)
 ·have h1 := c_gtr_t g1
  refine k_no (d := 12) (j' := 5) rfl rfl rfl (g_ft rfl rfl rfl g1) ?_
  refine k_no (d := 13) (j' := 6) rfl rfl rfl (g_ft rfl rfl rfl g1) ?_
  refine k_no (d := 14) (j' := 7) rfl rfl rfl (g_ft rfl rfl rfl g1) ?_
  refine k_no (d := 15) (j' := 8) rfl rfl rfl (g_ft rfl rfl rfl g1) ?_
  refine q0 16 178 9 rfl rfl (T_pick_t rfl rfl rfl g1) rfl ?_
  refine k_done rfl ?_
  refine thenK_n ?_
  refine W_cond rfl (fun g2 => ?_) (fun g2 => ?_)
  ·skip
   refine W_seq ?_
   refine W_seqK (b' := 210) rfl rfl ?_
   refine q0 4 194 1 rfl rfl (T_assign rfl rfl) rfl ?_
   refine k_done rfl ?_
   refine thenK_n ?_
   refine W_ret ?_
   refine thenK_r ?_
   exact .mk [] (.inr rfl) (.tmp rfl (.nil)) (by (simp only [resLV, LV.ren, LV.v.injEq, Value.bool.injEq]; exact small_no1 (by omega))) (.nil) rfl
  ·exact absurd (g2.symm.trans rfl) (by decide)
 ·have h1 := c_gtr_f g1
  refine k_op0 (d := 12) (b := 114) (j' := 5) rfl rfl rfl rfl (g_ff rfl rfl rfl g1) (T_fa D (m := 1) rfl rfl rfl rfl rfl rfl) rfl ?_
  refine k_op0 (d := 13) (b := 130) (j' := 6) rfl rfl rfl rfl (g_ff rfl rfl rfl g1) (T_load_b D rfl rfl rfl rfl rfl rfl) rfl ?_
  refine k_op0 (d := 14) (b := 146) (j' := 7) rfl rfl rfl rfl (g_ff rfl rfl rfl g1) (T_len D rfl rfl rfl rfl rfl rfl) rfl ?_
  refine k_op0 (d := 15) (b := 162) (j' := 8) rfl rfl rfl rfl (g_ff rfl rfl rfl g1) (T_cmp rfl rfl rfl rfl) rfl ?_
  refine q0 16 178 9 rfl rfl (T_pick_f rfl rfl rfl g1) rfl ?_
  refine k_done rfl ?_
  refine thenK_n ?_
  refine W_cond rfl (fun g3 => ?_) (fun g3 => ?_)
  ·have h3 := c_gtr_t g3
   refine W_seq ?_
   refine W_seqK (b' := 210) rfl rfl ?_
   refine q0 4 194 1 rfl rfl (T_assign rfl rfl) rfl ?_
   refine k_done rfl ?_
   refine thenK_n ?_
   refine W_ret ?_
   refine thenK_r ?_
   exact .mk [] (.inr rfl) (.tmp rfl (.nil)) (by (simp only [resLV, LV.ren, LV.v.injEq, Value.bool.injEq]; exact small_no1 (by omega))) (.nil) rfl
  ·have h3 := c_gtr_f g3
   refine W_skip ?_
   refine thenK_n ?_
   refine W_seq ?_
   refine W_seq ?_
   refine W_seqK (b' := 210) rfl rfl ?_
   refine q0 6 194 1 rfl rfl (T_assign rfl rfl) rfl ?_
   refine k_done rfl ?_
   refine thenK_n ?_
   refine W_block ?_
   refine W_loop (ι := Nat) 3 (fun j => ⟨[(1, .v (.int .i64 most)), (2, .p 2 0), (5, .v (.int .i64 (szP p j : Int))), (6, .v (.int .i64 (j : Int)))], [(1, .fz 2 (p.funcs.map eFn)), (2, .box 24 [.v (.int .i64 p.words), .r 1])]⟩) (fun j => (j ≤ p.funcs.length ∧ szP p j ≤ j * 5629499534049320) ∧ ∀ i, i < j → (p.funcs.getD i default).regs ≤ 60 ∧ ((p.funcs.getD i default).blocks.length : Int) ≤ 40) (fun j => p.funcs.length - j) (0) (by exact ⟨⟨Nat.zero_le _, by simp [szP]⟩, fun i h => absurd h (Nat.not_lt_zero _)⟩) ?_ (fun j hJ => ?_)
   ·exact ⟨[(2, 2)], .eq rfl (.same rfl rfl (.eq rfl (.eq rfl (.nil) (by rfl)) (by rfl))) (by rfl), .fzE rfl (.box (by rfl) (.nil)) (by rfl), rfl⟩
   have hfo := fun h => hp.2 (p.funcs.getD j default) (getD_mem h)
   have hsp := fun h => szP_succ (p := p) (j := j) h
   refine W_seq ?_
   refine W_seq ?_
   refine W_seqK (b' := 83) rfl rfl ?_
   refine q0 17 3 1 rfl rfl (T_move rfl rfl) rfl ?_
   refine q0 18 19 2 rfl rfl (T_fa D (m := 1) rfl rfl rfl rfl rfl rfl) rfl ?_
   refine q0 19 35 3 rfl rfl (T_load_b D rfl rfl rfl rfl rfl rfl) rfl ?_
   refine q0 20 51 4 rfl rfl (T_len D rfl rfl rfl rfl rfl rfl) rfl ?_
   refine q0 21 67 5 rfl rfl (T_cmp rfl rfl rfl rfl) rfl ?_
   refine k_done rfl ?_
   refine thenK_n ?_
   refine W_cond rfl (fun g4 => ?_) (fun g4 => ?_)
   ·have h4 := c_lss_t g4
    refine W_skip ?_
    refine thenK_n ?_
    refine W_seq ?_
    refine W_block ?_
    refine W_seq ?_
    refine W_seq ?_
    refine W_seqK (b' := 355) rfl rfl ?_
    refine q0 24 83 1 rfl rfl (T_fa D (m := 1) rfl rfl rfl rfl rfl rfl) rfl ?_
    refine q0 25 99 2 rfl rfl (T_load_b D rfl rfl rfl rfl rfl rfl) rfl ?_
    refine q0 26 115 3 rfl rfl (T_move rfl rfl) rfl ?_
    refine q0 27 131 4 rfl rfl (T_indexAddr D rfl rfl rfl rfl rfl rfl rfl rfl (by omega)) rfl ?_
    refine q0 28 147 5 rfl rfl (T_fae D (m := 0) rfl rfl rfl rfl rfl rfl) rfl ?_
    refine q0 29 163 6 rfl rfl (T_ldE D (lv := .v _) (nn := 0) (upd := []) rfl rfl rfl rfl rfl (by omega) rfl rfl rfl rfl) rfl ?_
    refine q0 30 179 7 rfl rfl (T_cmp rfl rfl rfl rfl) rfl ?_
    refine q0 31 195 8 rfl rfl (T_move rfl rfl) rfl ?_
    refine k_split (d := 31) rfl (fun g5 => ?_) (fun g5 => ?_)
    ·have h5 := c_gtr_t g5
     refine k_no (d := 32) (j' := 9) rfl rfl rfl (g_ft rfl rfl rfl g5) ?_
     refine k_no (d := 33) (j' := 10) rfl rfl rfl (g_ft rfl rfl rfl g5) ?_
     refine k_no (d := 34) (j' := 11) rfl rfl rfl (g_ft rfl rfl rfl g5) ?_
     refine k_no (d := 35) (j' := 12) rfl rfl rfl (g_ft rfl rfl rfl g5) ?_
     refine k_no (d := 36) (j' := 13) rfl rfl rfl (g_ft rfl rfl rfl g5) ?_
     refine k_no (d := 37) (j' := 14) rfl rfl rfl (g_ft rfl rfl rfl g5) ?_
     refine k_no (d := 38) (j' := 15) rfl rfl rfl (g_ft rfl rfl rfl g5) ?_
     refine k_no (d := 39) (j' := 16) rfl rfl rfl (g_ft rfl rfl rfl g5) ?_
     refine q0 40 339 17 rfl rfl (T_pick_t rfl rfl rfl g5) rfl ?_
     refine k_done rfl ?_
     refine thenK_n ?_
     refine W_cond rfl (fun g6 => ?_) (fun g6 => ?_)
     ·skip
      refine W_seq ?_
      refine W_seqK (b' := 371) rfl rfl ?_
      refine q0 4 355 1 rfl rfl (T_assign rfl rfl) rfl ?_
      refine k_done rfl ?_
      refine thenK_n ?_
      refine W_ret ?_
      refine thenK_r ?_
      refine blockK_r ?_
      refine thenK_r ?_
      refine thenK_r ?_
      refine blockK_r ?_
      refine thenK_r ?_
      exact .mk [] (.inr rfl) (.tmp rfl (.nil)) (by (simp only [resLV, LV.ren, LV.v.injEq, Value.bool.injEq]; exact small_no2 (j := j) (by omega) (by omega))) (.nil) rfl
     ·exact absurd (g6.symm.trans rfl) (by decide)
    ·have h5 := c_gtr_f g5
     refine k_op0 (d := 32) (b := 211) (j' := 9) rfl rfl rfl rfl (g_ff rfl rfl rfl g5) (T_fa D (m := 1) rfl rfl rfl rfl rfl rfl) rfl ?_
     refine k_op0 (d := 33) (b := 227) (j' := 10) rfl rfl rfl rfl (g_ff rfl rfl rfl g5) (T_load_b D rfl rfl rfl rfl rfl rfl) rfl ?_
     refine k_op0 (d := 34) (b := 243) (j' := 11) rfl rfl rfl rfl (g_ff rfl rfl rfl g5) (T_move rfl rfl) rfl ?_
     refine k_op0 (d := 35) (b := 259) (j' := 12) rfl rfl rfl rfl (g_ff rfl rfl rfl g5) (T_indexAddr D rfl rfl rfl rfl rfl rfl rfl rfl (by omega)) rfl ?_
     refine k_op0 (d := 36) (b := 275) (j' := 13) rfl rfl rfl rfl (g_ff rfl rfl rfl g5) (T_fae D (m := 1) rfl rfl rfl rfl rfl rfl) rfl ?_
     refine k_op1 (d := 37) (b := 291) (j' := 14) rfl rfl rfl rfl (g_ff rfl rfl rfl g5) (T_ldE D (lv := .r 291) (nn := 1) (upd := [(291, .fz 5 _)]) rfl rfl rfl rfl rfl (by omega) rfl rfl rfl rfl) rfl ?_
     refine k_op0 (d := 38) (b := 307) (j' := 15) rfl rfl rfl rfl (g_ff rfl rfl rfl g5) (T_len D rfl rfl rfl rfl rfl rfl) rfl ?_
     refine k_op0 (d := 39) (b := 323) (j' := 16) rfl rfl rfl rfl (g_ff rfl rfl rfl g5) (T_cmp rfl rfl rfl rfl) rfl ?_
     refine q0 40 339 17 rfl rfl (T_pick_f rfl rfl rfl g5) rfl ?_
     refine k_done rfl ?_
     refine thenK_n ?_
     refine W_cond rfl (fun g7 => ?_) (fun g7 => ?_)
     ·have h7 := c_gtr_t g7
      refine W_seq ?_
      refine W_seqK (b' := 371) rfl rfl ?_
      refine q0 4 355 1 rfl rfl (T_assign rfl rfl) rfl ?_
      refine k_done rfl ?_
      refine thenK_n ?_
      refine W_ret ?_
      refine thenK_r ?_
      refine blockK_r ?_
      refine thenK_r ?_
      refine thenK_r ?_
      refine blockK_r ?_
      refine thenK_r ?_
      exact .mk [] (.inr rfl) (.tmp rfl (.nil)) (by (simp only [resLV, LV.ren, LV.v.injEq, Value.bool.injEq]; exact small_no2 (j := j) (by omega) (by omega))) (.nil) rfl
     ·have h7 := c_gtr_f g7
      refine W_skip ?_
      refine thenK_n ?_
      refine W_seq ?_
      refine W_seqK (b' := 371) rfl rfl ?_
      refine q0 7 355 1 rfl rfl (T_assign rfl rfl) rfl ?_
      refine k_done rfl ?_
      refine thenK_n ?_
      refine W_block ?_
      have hfj := hfo (by omega)
      refine W_loop (ι := Nat) 3 (fun i => ⟨[(1, .v (.int .i64 most)), (2, .p 2 0), (5, .v (.int .i64 ((szP p j + szB (p.funcs.getD j default) i : Nat) : Int))), (6, .v (.int .i64 (j : Int))), (7, .v (.int .i64 (i : Int)))], [(1, .fz 2 (p.funcs.map eFn)), (2, .box 24 [.v (.int .i64 p.words), .r 1])]⟩) (fun i => i ≤ (p.funcs.getD j default).blocks.length) (fun i => (p.funcs.getD j default).blocks.length - i) (0) (by exact Nat.zero_le _) ?_ (fun i hI => ?_)
      ·exact ⟨[(2, 2)], .eq rfl (.same rfl rfl (.eq rfl (.eq rfl (.eq rfl (.nil) (by rfl)) (by rfl)) (by rfl))) (by rfl), .fzE rfl (.box (by rfl) (.nil)) (by rfl), rfl⟩
      have hsi := szB_le hfj i hI
      have hss := fun h => szB_succ (f := p.funcs.getD j default) (i := i) h
      have hil := fun h => hfj.2 ((p.funcs.getD j default).blocks.getD i default) (getD_mem h)
      refine W_seq ?_
      refine W_seq ?_
      refine W_seqK (b' := 147) rfl rfl ?_
      refine q0 41 3 1 rfl rfl (T_move rfl rfl) rfl ?_
      refine q0 42 19 2 rfl rfl (T_fa D (m := 1) rfl rfl rfl rfl rfl rfl) rfl ?_
      refine q0 43 35 3 rfl rfl (T_load_b D rfl rfl rfl rfl rfl rfl) rfl ?_
      refine q0 44 51 4 rfl rfl (T_move rfl rfl) rfl ?_
      refine q0 45 67 5 rfl rfl (T_indexAddr D rfl rfl rfl rfl rfl rfl rfl rfl (by omega)) rfl ?_
      refine q0 46 83 6 rfl rfl (T_fae D (m := 1) rfl rfl rfl rfl rfl rfl) rfl ?_
      refine q1 47 99 7 rfl rfl (T_ldE D (lv := .r 99) (nn := 1) (upd := [(99, .fz 5 _)]) rfl rfl rfl rfl rfl (by omega) rfl rfl rfl rfl) rfl ?_
      refine q0 48 115 8 rfl rfl (T_len D rfl rfl rfl rfl rfl rfl) rfl ?_
      refine q0 49 131 9 rfl rfl (T_cmp rfl rfl rfl rfl) rfl ?_
      refine k_done rfl ?_
      refine thenK_n ?_
      refine W_cond rfl (fun g8 => ?_) (fun g8 => ?_)
      ·have h8 := c_lss_t g8
       refine W_skip ?_
       refine thenK_n ?_
       refine W_seq ?_
       refine W_block ?_
       refine W_seqK (b' := 387) rfl rfl ?_
       refine q0 52 147 1 rfl rfl (T_move rfl rfl) rfl ?_
       refine q0 53 163 2 rfl rfl (T_add64 rfl rfl rfl (by omega)) rfl ?_
       refine q0 54 179 3 rfl rfl (T_fa D (m := 1) rfl rfl rfl rfl rfl rfl) rfl ?_
       refine q0 55 195 4 rfl rfl (T_load_b D rfl rfl rfl rfl rfl rfl) rfl ?_
       refine q0 56 211 5 rfl rfl (T_move rfl rfl) rfl ?_
       refine q0 57 227 6 rfl rfl (T_indexAddr D rfl rfl rfl rfl rfl rfl rfl rfl (by omega)) rfl ?_
       refine q0 58 243 7 rfl rfl (T_fae D (m := 1) rfl rfl rfl rfl rfl rfl) rfl ?_
       refine q1 59 259 8 rfl rfl (T_ldE D (lv := .r 259) (nn := 1) (upd := [(259, .fz 5 _)]) rfl rfl rfl rfl rfl (by omega) rfl rfl rfl rfl) rfl ?_
       refine q0 60 275 9 rfl rfl (T_move rfl rfl) rfl ?_
       refine q0 61 291 10 rfl rfl (T_indexAddr D rfl rfl rfl rfl rfl rfl rfl rfl (by omega)) rfl ?_
       refine q0 62 307 11 rfl rfl (T_fae D (m := 0) rfl rfl rfl rfl rfl rfl) rfl ?_
       refine q1 63 323 12 rfl rfl (T_ldE D (lv := .r 323) (nn := 1) (upd := [(323, .fz 8 _)]) rfl rfl rfl rfl rfl (by omega) rfl rfl rfl rfl) rfl ?_
       refine q0 64 339 13 rfl rfl (T_len D rfl rfl rfl rfl rfl rfl) rfl ?_
       refine q0 65 355 14 rfl rfl (T_add64 rfl rfl rfl (by omega)) rfl ?_
       refine q0 5 371 15 rfl rfl (T_assign rfl rfl) rfl ?_
       refine k_done rfl ?_
       refine blockK_n ?_
       refine thenK_n ?_
       refine W_seqK (b' := 435) rfl rfl ?_
       refine q0 50 387 1 rfl rfl (T_move rfl rfl) rfl ?_
       refine q0 51 403 2 rfl rfl (T_add64 rfl rfl rfl (by omega)) rfl ?_
       refine q0 7 419 3 rfl rfl (T_assign rfl rfl) rfl ?_
       refine k_done rfl ?_
       refine thenK_n ?_
       refine ⟨i + 1, by (try dsimp only); omega, by (try dsimp only); omega, ?_⟩
       exact ⟨[(2, 2)], .eq rfl (.same rfl rfl (.eq rfl (.eq rfl (.eq rfl (.nil) (by rfl)) rfl) (by (have hss2 := hss (by omega); congr 3; omega)))) rfl, .fzE rfl (.box (by rfl) (.nil)) rfl, rfl⟩
      ·have h8 := c_lss_f g8
       refine W_exit ?_
       refine thenK_e ?_
       refine thenK_e ?_
       refine blockK_hit ?_
       refine blockK_n ?_
       refine thenK_n ?_
       refine W_seqK (b' := 195) rfl rfl ?_
       refine q0 22 147 1 rfl rfl (T_move rfl rfl) rfl ?_
       refine q0 23 163 2 rfl rfl (T_add64 rfl rfl rfl (by omega)) rfl ?_
       refine q0 6 179 3 rfl rfl (T_assign rfl rfl) rfl ?_
       refine k_done rfl ?_
       refine thenK_n ?_
       have ei : i = (p.funcs.getD j default).blocks.length := by omega
       have hsp2 := hsp (by omega)
       refine ⟨j + 1, by (try dsimp only); exact ⟨⟨by omega, by rw [ei] at hsi; omega⟩, fun i1 h => by rcases Nat.lt_or_ge i1 j with h0 | h0; exact hJ.2 i1 h0; rw [show i1 = j by omega]; omega⟩, by (try dsimp only); omega, ?_⟩
       exact ⟨[(2, 2)], .eq rfl (.same rfl rfl (.eq rfl (.eq rfl (.nil) (by rfl)) (by (rw [hsp2, ei]; done)))) rfl, .fzE rfl (.box (by rfl) (.nil)) rfl, rfl⟩
   ·have h4 := c_lss_f g4
    refine W_exit ?_
    refine thenK_e ?_
    refine thenK_e ?_
    refine blockK_hit ?_
    refine thenK_n ?_
    refine W_seq ?_
    refine W_seqK (b' := 211) rfl rfl ?_
    refine q0 66 83 1 rfl rfl (T_move rfl rfl) rfl ?_
    refine q0 67 99 2 rfl rfl (T_move rfl rfl) rfl ?_
    refine q0 68 115 3 rfl rfl (T_cmp rfl rfl rfl rfl) rfl ?_
    refine q0 69 131 4 rfl rfl (T_move rfl rfl) rfl ?_
    refine k_split (d := 69) rfl (fun g9 => ?_) (fun g9 => ?_)
    ·have h9 := c_leq_t g9
     refine k_op0 (d := 70) (b := 147) (j' := 5) rfl rfl rfl rfl (g_tt rfl rfl rfl g9) (T_load_bA D (l := [_, _]) rfl rfl rfl rfl rfl rfl rfl) rfl ?_
     refine k_op0 (d := 71) (b := 163) (j' := 6) rfl rfl rfl rfl (g_tt rfl rfl rfl g9) (T_callV (lvs := [_]) (L := [(1, 1)]) (right_spec _ hp) body35 rfl rfl rfl rfl (.fz rfl (.nil)) rfl) rfl ?_
     refine q0 72 179 7 rfl rfl (T_pick_t rfl rfl rfl g9) rfl ?_
     refine q0 4 195 8 rfl rfl (T_assign rfl rfl) rfl ?_
     refine k_done rfl ?_
     refine thenK_n ?_
     refine W_ret ?_
     exact .mk [] (.inr rfl) (.tmp rfl (.nil)) (by (simp only [resLV, LV.ren, LV.v.injEq, Value.bool.injEq]; exact small_yes (by omega) (fun i h => hJ.2 i (by omega)) (by have e : j = p.funcs.length := (by omega); subst e; first | rfl | (rw [decide_eq_true (by omega)]; rfl) | (rw [decide_eq_false (by omega)]; rfl) | (simp [*, cmpB]; done)))) (.nil) rfl
    ·have h9 := c_leq_f g9
     refine k_no (d := 70) (j' := 5) rfl rfl rfl (g_tf rfl rfl rfl g9) ?_
     refine k_no (d := 71) (j' := 6) rfl rfl rfl (g_tf rfl rfl rfl g9) ?_
     refine q0 72 179 7 rfl rfl (T_pick_f rfl rfl rfl g9) rfl ?_
     refine q0 4 195 8 rfl rfl (T_assign rfl rfl) rfl ?_
     refine k_done rfl ?_
     refine thenK_n ?_
     refine W_ret ?_
     exact .mk [] (.inr rfl) (.tmp rfl (.nil)) (by (simp only [resLV, LV.ren, LV.v.injEq, Value.bool.injEq]; exact small_yes (by omega) (fun i h => hJ.2 i (by omega)) (by have e : j = p.funcs.length := (by omega); subst e; first | rfl | (rw [decide_eq_true (by omega)]; rfl) | (rw [decide_eq_false (by omega)]; rfl) | (simp [*, cmpB]; done)))) (.nil) rfl
end Lg
end Go.Proofs.Ytpfhmodjjljpjaa

namespace Go.Proofs.Ytpfhmodjjljpjaa
open Go.RowKit
namespace Lg
section
variable {P : Program} {N b : Nat} {o : Oper} {st : St} (D : Tab P)
theorem T_ixA {t i n len e m : Nat} {x y : Operand} {k : IntKind} {j : Int} {ety : TyI} (ho : o.op = .indexAddr t x y) (hx : st.ev x = some (.p i n)) (hy : st.ev y = some (.v (.int k j))) (hu : P.underlying t = some (.array len e)) (he : D.get e = some ety) (hs : ety.size = 1) (h0 : 0 ≤ j) (h1 : j < (len : Int)) (hm : n + j.toNat = m) :
    T P N o b [] st (.p i m) 0 [] := by
  subst hm
  intro w0 M U ρ own st' a w hev hp hfr fr hr
  obtain ⟨hv, hu1⟩ := fr.eval ((hev x (by simp [ho, Op.operands])).trans hx)
  obtain ⟨hv2, _⟩ := fr.eval ((hev y (by simp [ho, Op.operands])).trans hy)
  obtain ⟨ad, had⟩ := hu1.2
  have hpv : a.eval x = .pointer (some (ad.add n)) := by rw [hv]; simp [LV.val, ptrOf, had]
  have hrun : (execOp a.eval o).run P w = .ok (.value (.pointer (some (ad.add (n + j.toNat))))) w := by
    simp only [execOp, ho, hpv, hv2, LV.val]
    rw [Sem.run_bind]
    have : (Instr.indexAt t (.pointer (some (ad.add n))) (.int k j)).run P w = .ok (.pointer (some ((ad.add n).add (j.toNat * 1)))) w := by
      simp only [Instr.indexAt, asIntOf, Instr.sureAddr, Sem.run_bind, Sem.run_pure, Result.andThen_ok, run_underlying hu, if_pos (And.intro h0 h1), (D.ok _ ety he).sizeOf, hs]
    rw [this, Nat.mul_one, add_add]
    rfl
  exact does_value hrun ⟨ρ, own, by simp [LV.val, ptrOf, had], fun _ _ => rfl, ⟨.inl hu1.1, hu1.2⟩, hr.mono (fun i hi => .inl hi)⟩
end
end Lg
end Go.Proofs.Ytpfhmodjjljpjaa

namespace Go.Proofs.Ytpfhmodjjljpjaa
end Go.Proofs.Ytpfhmodjjljpjaa

namespace Go.Proofs.Ytpfhmodjjljpjaa
open Go.RowKit
namespace Lg
set_option maxRecDepth 100000
set_option linter.unusedVariables false
set_option linter.unusedSimpArgs false
theorem body8 : (Try.prog.funcs[8]?).map (fun fn => (fn.name == "runtime.NumGoroutine" || fn.body.isNone)) = some false := by kernel_rfl
theorem law8 (p : GProg) (inp : ByteArray) (y z : Int) (hp : PgOk p) (hn : ∀ f ∈ p.funcs, ∀ b ∈ f.blocks, ∀ t ∈ b.ins, isW t.n) (hy : 0 ≤ y ∧ y < 256) (hz : 0 ≤ z ∧ z < 256) : Spec Try.prog 8 [.agg [.v (.int .i64 p.words), .r 1], .v (.string inp), .agg [.v (.int .u8 y), .v (.int .u8 z)]] 2 [(1, .fz 2 (p.funcs.map eFn))] (.v (.bool true)) 2 [] := by
 have hp1 := hp.1
 refine spec_of D (fn := Try.f8) rfl rfl (Nat.le_of_ble_eq_true rfl) ?_
 refine W_seq ?_
 refine W_seqK (b' := 50) rfl rfl ?_
 refine q1 3 2 1 rfl rfl (T_box rfl rfl flat_agg) rfl ?_
 refine q1 5 18 2 rfl rfl (T_box rfl rfl flat_agg) rfl ?_
 refine q0 6 34 3 rfl rfl (T_assign rfl rfl) rfl ?_
 refine k_done rfl ?_
 refine thenK_n ?_
 refine W_seq ?_
 refine W_seq ?_
 refine W_seqK (b' := 354) rfl rfl ?_
 refine q0 14 50 1 rfl rfl (T_fa D (m := 1) rfl rfl rfl rfl rfl rfl) rfl ?_
 refine q0 15 66 2 rfl rfl (T_load_b D rfl rfl rfl rfl rfl rfl) rfl ?_
 refine q0 16 82 3 rfl rfl (T_len D rfl rfl rfl rfl rfl rfl) rfl ?_
 refine q0 17 98 4 rfl rfl (T_cmp rfl rfl rfl rfl) rfl ?_
 refine q0 18 114 5 rfl rfl (T_move rfl rfl) rfl ?_
 refine k_split (d := 18) rfl (fun g1 => ?_) (fun g1 => ?_)
 ·have h1 := c_gtr_t g1
  refine k_no (d := 19) (j' := 6) rfl rfl rfl (g_ft rfl rfl rfl g1) ?_
  refine k_no (d := 20) (j' := 7) rfl rfl rfl (g_ft rfl rfl rfl g1) ?_
  refine k_no (d := 21) (j' := 8) rfl rfl rfl (g_ft rfl rfl rfl g1) ?_
  refine q0 22 178 9 rfl rfl (T_pick_t rfl rfl rfl g1) rfl ?_
  refine q0 23 194 10 rfl rfl (T_move rfl rfl) rfl ?_
  refine k_no (d := 24) (j' := 11) rfl rfl rfl (g_ft rfl rfl rfl rfl) ?_
  refine k_no (d := 25) (j' := 12) rfl rfl rfl (g_ft rfl rfl rfl rfl) ?_
  refine k_no (d := 26) (j' := 13) rfl rfl rfl (g_ft rfl rfl rfl rfl) ?_
  refine q0 27 258 14 rfl rfl (T_pick_t rfl rfl rfl rfl) rfl ?_
  refine q0 28 274 15 rfl rfl (T_move rfl rfl) rfl ?_
  refine k_no (d := 29) (j' := 16) rfl rfl rfl (g_ft rfl rfl rfl rfl) ?_
  refine k_no (d := 30) (j' := 17) rfl rfl rfl (g_ft rfl rfl rfl rfl) ?_
  refine k_no (d := 31) (j' := 18) rfl rfl rfl (g_ft rfl rfl rfl rfl) ?_
  refine q0 32 338 19 rfl rfl (T_pick_t rfl rfl rfl rfl) rfl ?_
  refine k_done rfl ?_
  refine thenK_n ?_
  refine W_cond rfl (fun g2 => ?_) (fun g2 => ?_)
  ·skip
   refine W_seq ?_
   refine W_seqK (b' := 386) rfl rfl ?_
   refine q0 33 354 1 rfl rfl (T_callV (lvs := []) (L := []) (awake28_spec) body40 rfl rfl rfl rfl (.nil) rfl) rfl ?_
   refine q0 6 370 2 rfl rfl (T_assign rfl rfl) rfl ?_
   refine k_done rfl ?_
   refine thenK_n ?_
   refine W_ret ?_
   refine thenK_r ?_
   exact .mk [] (.inr rfl) (.tmp rfl (.nil)) (by rfl) (.nil) rfl
  ·exact absurd (g2.symm.trans rfl) (by decide)
 ·have h1 := c_gtr_f g1
  refine k_op0 (d := 19) (b := 130) (j' := 6) rfl rfl rfl rfl (g_ff rfl rfl rfl g1) (T_fa D (m := 0) rfl rfl rfl rfl rfl rfl) rfl ?_
  refine k_op0 (d := 20) (b := 146) (j' := 7) rfl rfl rfl rfl (g_ff rfl rfl rfl g1) (T_load_b D rfl rfl rfl rfl rfl rfl) rfl ?_
  refine k_op0 (d := 21) (b := 162) (j' := 8) rfl rfl rfl rfl (g_ff rfl rfl rfl g1) (T_cmp rfl rfl rfl rfl) rfl ?_
  refine q0 22 178 9 rfl rfl (T_pick_f rfl rfl rfl g1) rfl ?_
  refine q0 23 194 10 rfl rfl (T_move rfl rfl) rfl ?_
  refine k_split (d := 23) rfl (fun g3 => ?_) (fun g3 => ?_)
  ·have h3 := c_gtr_t g3
   refine k_no (d := 24) (j' := 11) rfl rfl rfl (g_ft rfl rfl rfl g3) ?_
   refine k_no (d := 25) (j' := 12) rfl rfl rfl (g_ft rfl rfl rfl g3) ?_
   refine k_no (d := 26) (j' := 13) rfl rfl rfl (g_ft rfl rfl rfl g3) ?_
   refine q0 27 258 14 rfl rfl (T_pick_t rfl rfl rfl g3) rfl ?_
   refine q0 28 274 15 rfl rfl (T_move rfl rfl) rfl ?_
   refine k_no (d := 29) (j' := 16) rfl rfl rfl (g_ft rfl rfl rfl rfl) ?_
   refine k_no (d := 30) (j' := 17) rfl rfl rfl (g_ft rfl rfl rfl rfl) ?_
   refine k_no (d := 31) (j' := 18) rfl rfl rfl (g_ft rfl rfl rfl rfl) ?_
   refine q0 32 338 19 rfl rfl (T_pick_t rfl rfl rfl rfl) rfl ?_
   refine k_done rfl ?_
   refine thenK_n ?_
   refine W_cond rfl (fun g4 => ?_) (fun g4 => ?_)
   ·skip
    refine W_seq ?_
    refine W_seqK (b' := 386) rfl rfl ?_
    refine q0 33 354 1 rfl rfl (T_callV (lvs := []) (L := []) (awake28_spec) body40 rfl rfl rfl rfl (.nil) rfl) rfl ?_
    refine q0 6 370 2 rfl rfl (T_assign rfl rfl) rfl ?_
    refine k_done rfl ?_
    refine thenK_n ?_
    refine W_ret ?_
    refine thenK_r ?_
    exact .mk [] (.inr rfl) (.tmp rfl (.nil)) (by rfl) (.nil) rfl
   ·exact absurd (g4.symm.trans rfl) (by decide)
  ·have h3 := c_gtr_f g3
   refine k_op0 (d := 24) (b := 210) (j' := 11) rfl rfl rfl rfl (g_ff rfl rfl rfl g3) (T_move rfl rfl) rfl ?_
   refine k_op0 (d := 25) (b := 226) (j' := 12) rfl rfl rfl rfl (g_ff rfl rfl rfl g3) (T_lenS Try.underlying9 rfl rfl) rfl ?_
   refine k_op0 (d := 26) (b := 242) (j' := 13) rfl rfl rfl rfl (g_ff rfl rfl rfl g3) (T_cmp rfl rfl rfl rfl) rfl ?_
   refine q0 27 258 14 rfl rfl (T_pick_f rfl rfl rfl g3) rfl ?_
   refine q0 28 274 15 rfl rfl (T_move rfl rfl) rfl ?_
   refine k_split (d := 28) rfl (fun g5 => ?_) (fun g5 => ?_)
   ·have h5 := c_gtr_t g5
    refine k_no (d := 29) (j' := 16) rfl rfl rfl (g_ft rfl rfl rfl g5) ?_
    refine k_no (d := 30) (j' := 17) rfl rfl rfl (g_ft rfl rfl rfl g5) ?_
    refine k_no (d := 31) (j' := 18) rfl rfl rfl (g_ft rfl rfl rfl g5) ?_
    refine q0 32 338 19 rfl rfl (T_pick_t rfl rfl rfl g5) rfl ?_
    refine k_done rfl ?_
    refine thenK_n ?_
    refine W_cond rfl (fun g6 => ?_) (fun g6 => ?_)
    ·skip
     refine W_seq ?_
     refine W_seqK (b' := 386) rfl rfl ?_
     refine q0 33 354 1 rfl rfl (T_callV (lvs := []) (L := []) (awake28_spec) body40 rfl rfl rfl rfl (.nil) rfl) rfl ?_
     refine q0 6 370 2 rfl rfl (T_assign rfl rfl) rfl ?_
     refine k_done rfl ?_
     refine thenK_n ?_
     refine W_ret ?_
     refine thenK_r ?_
     exact .mk [] (.inr rfl) (.tmp rfl (.nil)) (by rfl) (.nil) rfl
    ·exact absurd (g6.symm.trans rfl) (by decide)
   ·have h5 := c_gtr_f g5
    refine k_op0 (d := 29) (b := 290) (j' := 16) rfl rfl rfl rfl (g_ff rfl rfl rfl g5) (T_load_bA D (l := [_, _]) rfl rfl rfl rfl rfl rfl rfl) rfl ?_
    refine k_op0 (d := 30) (b := 306) (j' := 17) rfl rfl rfl rfl (g_ff rfl rfl rfl g5) (T_callV (lvs := [_]) (L := [(1, 1)]) (right_spec p hp) body35 rfl rfl rfl rfl (.fz rfl (.nil)) rfl) rfl ?_
    refine k_op0 (d := 31) (b := 322) (j' := 18) rfl rfl rfl rfl (g_ff rfl rfl rfl g5) (T_not rfl rfl) rfl ?_
    refine q0 32 338 19 rfl rfl (T_pick_f rfl rfl rfl g5) rfl ?_
    refine k_done rfl ?_
    refine thenK_n ?_
    refine W_cond rfl (fun g7 => ?_) (fun g7 => ?_)
    ·have h7 := g7; (try simp only [cmpB, decide_eq_true_eq, decide_eq_false_iff_not, beq_iff_eq, beq_eq_false_iff_ne, bne_iff_ne, ne_eq, bne_eq_false_iff_eq, Bool.not_eq_true', Bool.not_eq_false', Int.not_lt, Int.not_le] at h7)
     refine W_seq ?_
     refine W_seqK (b' := 386) rfl rfl ?_
     refine q0 33 354 1 rfl rfl (T_callV (lvs := []) (L := []) (awake28_spec) body40 rfl rfl rfl rfl (.nil) rfl) rfl ?_
     refine q0 6 370 2 rfl rfl (T_assign rfl rfl) rfl ?_
     refine k_done rfl ?_
     refine thenK_n ?_
     refine W_ret ?_
     refine thenK_r ?_
     exact .mk [] (.inr rfl) (.tmp rfl (.nil)) (by rfl) (.nil) rfl
    ·have h7 := g7; (try simp only [cmpB, decide_eq_true_eq, decide_eq_false_iff_not, beq_iff_eq, beq_eq_false_iff_ne, bne_iff_ne, ne_eq, bne_eq_false_iff_eq, Bool.not_eq_true', Bool.not_eq_false', Int.not_lt, Int.not_le] at h7)
     refine W_skip ?_
     refine thenK_n ?_
     refine W_seq ?_
     refine W_seqK (b' := 434) rfl rfl ?_
     refine q0 34 354 1 rfl rfl (T_ixA D (m := 0) rfl rfl rfl Try.underlying53 rfl rfl (by decide) (by decide) rfl) rfl ?_
     refine q0 35 370 2 rfl rfl (T_load_b D rfl rfl rfl rfl rfl rfl) rfl ?_
     refine q0 36 386 3 rfl rfl (T_remU rfl rfl rfl (by omega)) rfl ?_
     refine q0 37 402 4 rfl rfl (T_conv64 rfl rfl (by rw [Try.underlying5]; rfl) (by omega)) rfl ?_
     refine q0 7 418 5 rfl rfl (T_assign rfl rfl) rfl ?_
     refine k_done rfl ?_
     refine thenK_n ?_
     refine W_seq ?_
     refine W_seqK (b' := 514) rfl rfl ?_
     refine q0 38 434 1 rfl rfl (T_fa D (m := 0) rfl rfl rfl rfl rfl rfl) rfl ?_
     refine q0 39 450 2 rfl rfl (T_load_b D rfl rfl rfl rfl rfl rfl) rfl ?_
     refine q1 40 466 3 rfl rfl (T_nils [(29, 2)] (T_build D (l := [_, _]) rfl rfl rfl rfl (.cons rfl (flat_v rfl) (.nil)) rfl rfl) rfl (.inl ⟨rfl, rfl⟩) (.cons (.same _) <| .cons (.nil rfl) <| .nil) (lv' := .agg [_, .r 466]) (upd' := [(466, .row 29 2 (List.map eFn ([] : List (GFn))))]) (nn' := 1) rfl rfl) rfl ?_
     refine qn 8 482 4 rfl rfl (T_nilbox [(29, 2)] (T_alloc D rfl rfl rfl) rfl (.cons (.same _) <| .cons (.nil rfl) <| .nil) (upd' := [(482, .box 24 [.v (.int .i64 0), .r 483]), (483, .row 29 2 (List.map eFn ([] : List (GFn))))]) (nn' := 2) rfl rfl) rfl ?_
     refine s1 498 5 rfl rfl (T_stB D (cs' := [_, _]) rfl rfl rfl rfl flat_agg rfl rfl (Nat.le_of_ble_eq_true rfl) rfl) rfl ?_
     refine k_done rfl ?_
     refine thenK_n ?_
     refine W_join (ι := Unit) 6 (fun _u => ⟨[(1, .v (.string inp)), (3, .p 2 0), (5, .p 3 0), (8, .p 4 0)], [(1, .fz 2 (p.funcs.map eFn)), (2, .box 24 [.v (.int .i64 p.words), .r 1]), (3, .box 53 [.v (.int .u8 y), .v (.int .u8 z)]), (4, .box 24 [.v (.int .i64 p.words), .r 5]), (5, .row 29 2 ((p.funcs.map (allocF (y % 9))).map eFn))]⟩) (fun _ => ∀ i, i < p.funcs.length → GoodF (y % 9) (p.funcs.getD i default)) ?_ (fun _u hA18 => ?_)
     ·skip
      refine W_seq ?_
      refine W_seqK (b' := 530) rfl rfl ?_
      refine q0 9 514 1 rfl rfl (T_assign rfl rfl) rfl ?_
      refine k_done rfl ?_
      refine thenK_n ?_
      refine W_block ?_
      refine W_loop (ι := Nat) 6 (fun j => ⟨[(1, .v (.string inp)), (3, .p 2 0), (5, .p 3 0), (7, .v (.int .i64 (y % 9))), (8, .p 4 0), (9, .v (.int .i64 (j : Int)))], [(1, .fz 2 (p.funcs.map eFn)), (2, .box 24 [.v (.int .i64 p.words), .r 1]), (3, .box 53 [.v (.int .u8 y), .v (.int .u8 z)]), (4, .box 24 [.v (.int .i64 p.words), .r 5]), (5, .row 29 2 (((p.funcs.take j).map (allocF (y % 9))).map eFn))]⟩) (fun j => j ≤ p.funcs.length ∧ ∀ i, i < j → GoodF (y % 9) (p.funcs.getD i default)) (fun j => p.funcs.length - j) (0) (by exact ⟨Nat.zero_le _, fun i h => absurd h (Nat.not_lt_zero _)⟩) ?_ (fun j hJ => ?_)
      ·exact ⟨[(2, 2), (3, 18), (4, 482), (5, 466)], .eq rfl (.same rfl rfl (.same rfl rfl (.eq rfl (.same rfl rfl (.eq rfl (.nil) (by rfl))) (by rfl)))) (by rfl), .fzE rfl (.box (by rfl) (.box (by rfl) (.box (by rfl) (.rowE rfl (.nil) (by rfl))))) (by rfl), rfl⟩
      refine W_seq ?_
      refine W_seq ?_
      refine W_seqK (b' := 86) rfl rfl ?_
      refine q0 41 6 1 rfl rfl (T_move rfl rfl) rfl ?_
      refine q0 42 22 2 rfl rfl (T_fa D (m := 1) rfl rfl rfl rfl rfl rfl) rfl ?_
      refine q0 43 38 3 rfl rfl (T_load_b D rfl rfl rfl rfl rfl rfl) rfl ?_
      refine q0 44 54 4 rfl rfl (T_len D rfl rfl rfl rfl rfl rfl) rfl ?_
      refine q0 45 70 5 rfl rfl (T_cmp rfl rfl rfl rfl) rfl ?_
      refine k_done rfl ?_
      refine thenK_n ?_
      refine W_cond rfl (fun g8 => ?_) (fun g8 => ?_)
      ·have h8 := c_lss_t g8
       refine W_skip ?_
       refine thenK_n ?_
       refine W_seq ?_
       refine W_block ?_
       refine W_seq ?_
       refine W_seqK (b' := 198) rfl rfl ?_
       refine q0 48 86 1 rfl rfl (T_fa D (m := 1) rfl rfl rfl rfl rfl rfl) rfl ?_
       refine q0 49 102 2 rfl rfl (T_load_b D rfl rfl rfl rfl rfl rfl) rfl ?_
       refine q0 50 118 3 rfl rfl (T_move rfl rfl) rfl ?_
       refine q0 51 134 4 rfl rfl (T_indexAddr D rfl rfl rfl rfl rfl rfl rfl rfl (by omega)) rfl ?_
       refine q1 52 150 5 rfl rfl (T_ldEA D (l := [.v _, .r 150]) (nn := 1) (upd := [(150, .fz 5 _)]) rfl rfl rfl rfl rfl (by omega) rfl rfl rfl rfl rfl) rfl ?_
       refine qn 10 166 6 rfl rfl (T_nilbox [(72, 5)] (T_alloc D rfl rfl rfl) rfl (.cons (.same _) <| .cons (.nil rfl) <| .nil) (upd' := [(166, .box 29 [.v (.int .i64 0), .r 167]), (167, .row 72 5 (List.map eBlock ([] : List (GBlock))))]) (nn' := 2) rfl rfl) rfl ?_
       refine s1 182 7 rfl rfl (T_stB D (cs' := [_, _]) rfl rfl rfl rfl flat_agg rfl rfl (Nat.le_of_ble_eq_true rfl) rfl) rfl ?_
       refine k_done rfl ?_
       refine thenK_n ?_
       refine W_seq ?_
       refine W_seq ?_
       refine W_seqK (b' := 246) rfl rfl ?_
       refine q0 53 198 1 rfl rfl (T_load_bA D (l := [_, _]) rfl rfl rfl rfl rfl rfl rfl) rfl ?_
       refine q0 54 214 2 rfl rfl (T_callV (lvs := [_]) (L := [(1, 150)]) (small28_spec (p.funcs.getD j default) (hp.2 _ (getD_mem (by omega)))) body41 rfl rfl rfl rfl (.fz rfl (.nil)) rfl) rfl ?_
       refine q0 55 230 3 rfl rfl (T_not rfl rfl) rfl ?_
       refine k_done rfl ?_
       refine thenK_n ?_
       refine W_cond rfl (fun g9 => ?_) (fun g9 => ?_)
       ·have h9 := g9; (try simp only [cmpB, decide_eq_true_eq, decide_eq_false_iff_not, beq_iff_eq, beq_eq_false_iff_ne, bne_iff_ne, ne_eq, bne_eq_false_iff_eq, Bool.not_eq_true', Bool.not_eq_false', Int.not_lt, Int.not_le] at h9)
        refine W_seq ?_
        refine W_seqK (b' := 278) rfl rfl ?_
        refine q0 56 246 1 rfl rfl (T_callV (lvs := []) (L := []) (awake28_spec) body40 rfl rfl rfl rfl (.nil) rfl) rfl ?_
        refine q0 6 262 2 rfl rfl (T_assign rfl rfl) rfl ?_
        refine k_done rfl ?_
        refine thenK_n ?_
        refine W_ret ?_
        refine thenK_r ?_
        refine blockK_r ?_
        refine thenK_r ?_
        refine thenK_r ?_
        refine blockK_r ?_
        refine thenK_r ?_
        exact .mk [] (.inr rfl) (.tmp rfl (.nil)) (by rfl) (.nil) rfl
       ·have h9 := g9; (try simp only [cmpB, decide_eq_true_eq, decide_eq_false_iff_not, beq_iff_eq, beq_eq_false_iff_ne, bne_iff_ne, ne_eq, bne_eq_false_iff_eq, Bool.not_eq_true', Bool.not_eq_false', Int.not_lt, Int.not_le] at h9)
        refine W_skip ?_
        refine thenK_n ?_
        refine W_seq ?_
        have hS := s28 (by assumption : small28 (p.funcs.getD j default) = true)
        have hSr := hS.regs
        have hSl := hS.len
        have hlen := alloc_len (k := (y % 9)) hS
        have hbd := alloc_bd (k := (y % 9)) hS (by omega)
        have hac := alloc_ok hS.lf (by omega) (live_closed hS.lf) (k := (y % 9)) (by omega)
        refine W_seqK (b' := 310) rfl rfl ?_
        refine q0 57 246 1 rfl rfl (T_load_bA D (l := [_, _]) rfl rfl rfl rfl rfl rfl rfl) rfl ?_
        refine qn 58 262 2 rfl rfl (T_call (lvs := [_]) (L := [(1, 150)]) (lv := .agg [.r 262, .r 263]) (upd := [(262, .fz 1 _), (263, .fz 1 _)]) (nn := 2) false (rlive_spec (p.funcs.getD j default) hS.lf) body42 rfl rfl rfl rfl (.fz rfl (.nil)) rfl (.inl rfl) rfl rfl rfl) rfl ?_
        refine qn 11 278 3 rfl rfl (T_nilbox [(48, 1), (48, 1)] (T_alloc D rfl rfl rfl) rfl (.cons (.nil rfl) <| .cons (.nil rfl) <| .nil) (upd' := [(278, .box 57 [.r 279, .r 280]), (279, .row 48 1 (List.map eBs ([] : List (List Bool)))), (280, .row 48 1 (List.map eBs ([] : List (List Bool))))]) (nn' := 3) rfl rfl) rfl ?_
        refine s1 294 4 rfl rfl (T_stB D (cs' := [_, _]) rfl rfl rfl rfl flat_agg rfl rfl (Nat.le_of_ble_eq_true rfl) rfl) rfl ?_
        refine k_done rfl ?_
        refine thenK_n ?_
        refine W_seq ?_
        refine W_seqK (b' := 406) rfl rfl ?_
        refine q0 59 310 1 rfl rfl (T_load_bA D (l := [_, _]) rfl rfl rfl rfl rfl rfl rfl) rfl ?_
        refine q0 60 326 2 rfl rfl (T_load_bA D (l := [_, _]) rfl rfl rfl rfl rfl rfl rfl) rfl ?_
        refine q0 61 342 3 rfl rfl (T_move rfl rfl) rfl ?_
        refine q1 62 358 4 rfl rfl (T_call (lvs := [_, _, _]) (L := [(1, 150), (2, 262), (3, 263)]) (lv := .agg [.r 358]) (upd := [(358, .row 3 1 _)]) (nn := 1) false (allocOf_spec (p.funcs.getD j default) (liveL (p.funcs.getD j default)).1 (liveL (p.funcs.getD j default)).2 (y % 9) hS.lf (live_sz (p.funcs.getD j default)).i (live_sz (p.funcs.getD j default)).o hS.pos (by omega)) body43 rfl rfl rfl rfl (.fz rfl (.fz rfl (.fz rfl (.nil)))) rfl (.inl rfl) rfl rfl rfl) rfl ?_
        refine qn 12 374 5 rfl rfl (T_nilbox [(3, 1)] (T_alloc D rfl rfl rfl) rfl (.cons (.nil rfl) <| .nil) (upd' := [(374, .box 60 [.r 375]), (375, .row 3 1 (List.map eI ([] : List (Int))))]) (nn' := 2) rfl rfl) rfl ?_
        refine s1 390 6 rfl rfl (T_stB D (cs' := [_]) rfl rfl rfl rfl flat_agg rfl rfl (Nat.le_of_ble_eq_true rfl) rfl) rfl ?_
        refine k_done rfl ?_
        refine thenK_n ?_
        refine W_seq ?_
        refine W_seq ?_
        refine W_seqK (b' := 630) rfl rfl ?_
        refine q0 63 406 1 rfl rfl (T_load_bA D (l := [_, _]) rfl rfl rfl rfl rfl rfl rfl) rfl ?_
        refine q0 64 422 2 rfl rfl (T_load_bA D (l := [_, _]) rfl rfl rfl rfl rfl rfl rfl) rfl ?_
        refine q0 65 438 3 rfl rfl (T_load_bA D (l := [_]) rfl rfl rfl rfl rfl rfl rfl) rfl ?_
        refine q0 66 454 4 rfl rfl (T_move rfl rfl) rfl ?_
        refine q0 67 470 5 rfl rfl (T_callV (lvs := [_, _, _, _]) (L := [(1, 150), (2, 262), (3, 263), (4, 358)]) (acheck_spec (p.funcs.getD j default) (liveL (p.funcs.getD j default)).1 (liveL (p.funcs.getD j default)).2 (allocP (p.funcs.getD j default) (liveL (p.funcs.getD j default)).1 (liveL (p.funcs.getD j default)).2 (y % 9)) (y % 9) hS.lf (by have := (live_sz (p.funcs.getD j default)).i.len; omega) (by have := (live_sz (p.funcs.getD j default)).o.len; omega) hS.pos (by omega)) body44 rfl rfl rfl rfl (.fz rfl (.fz rfl (.fz rfl (.lend rfl (.nil))))) rfl) rfl ?_
        refine q0 68 486 6 rfl rfl (T_not rfl rfl) rfl ?_
        refine q0 69 502 7 rfl rfl (T_move rfl rfl) rfl ?_
        refine k_split (d := 69) rfl (fun g10 => ?_) (fun g10 => ?_)
        ·have h10 := g10; (try simp only [cmpB, decide_eq_true_eq, decide_eq_false_iff_not, beq_iff_eq, beq_eq_false_iff_ne, bne_iff_ne, ne_eq, bne_eq_false_iff_eq, Bool.not_eq_true', Bool.not_eq_false', Int.not_lt, Int.not_le] at h10)
         refine k_no (d := 70) (j' := 8) rfl rfl rfl (g_ft rfl rfl rfl g10) ?_
         refine k_no (d := 71) (j' := 9) rfl rfl rfl (g_ft rfl rfl rfl g10) ?_
         refine k_no (d := 72) (j' := 10) rfl rfl rfl (g_ft rfl rfl rfl g10) ?_
         refine k_no (d := 73) (j' := 11) rfl rfl rfl (g_ft rfl rfl rfl g10) ?_
         refine k_no (d := 74) (j' := 12) rfl rfl rfl (g_ft rfl rfl rfl g10) ?_
         refine k_no (d := 75) (j' := 13) rfl rfl rfl (g_ft rfl rfl rfl g10) ?_
         refine q0 76 614 14 rfl rfl (T_pick_t rfl rfl rfl g10) rfl ?_
         refine k_done rfl ?_
         refine thenK_n ?_
         refine W_cond rfl (fun g11 => ?_) (fun g11 => ?_)
         ·skip
          refine W_seq ?_
          refine W_seqK (b' := 646) rfl rfl ?_
          refine q0 6 630 1 rfl rfl (T_assign rfl rfl) rfl ?_
          refine k_done rfl ?_
          refine thenK_n ?_
          refine W_ret ?_
          refine thenK_r ?_
          refine blockK_r ?_
          refine thenK_r ?_
          refine thenK_r ?_
          refine blockK_r ?_
          refine thenK_r ?_
          exact .mk [] (.inr rfl) (.tmp rfl (.nil)) (by exact absurd (hac.symm.trans (by assumption)) (by decide)) (.nil) rfl
         ·exact absurd (g11.symm.trans rfl) (by decide)
        ·have h10 := g10; (try simp only [cmpB, decide_eq_true_eq, decide_eq_false_iff_not, beq_iff_eq, beq_eq_false_iff_ne, bne_iff_ne, ne_eq, bne_eq_false_iff_eq, Bool.not_eq_true', Bool.not_eq_false', Int.not_lt, Int.not_le] at h10)
         refine k_op0 (d := 70) (b := 518) (j' := 8) rfl rfl rfl rfl (g_ff rfl rfl rfl g10) (T_fa D (m := 0) rfl rfl rfl rfl rfl rfl) rfl ?_
         refine k_op0 (d := 71) (b := 534) (j' := 9) rfl rfl rfl rfl (g_ff rfl rfl rfl g10) (T_load_b D rfl rfl rfl rfl rfl rfl) rfl ?_
         refine k_op0 (d := 72) (b := 550) (j' := 10) rfl rfl rfl rfl (g_ff rfl rfl rfl g10) (T_len D rfl rfl rfl rfl rfl rfl) rfl ?_
         refine k_op0 (d := 73) (b := 566) (j' := 11) rfl rfl rfl rfl (g_ff rfl rfl rfl g10) (T_fa D (m := 0) rfl rfl rfl rfl rfl rfl) rfl ?_
         refine k_op0 (d := 74) (b := 582) (j' := 12) rfl rfl rfl rfl (g_ff rfl rfl rfl g10) (T_load_b D rfl rfl rfl rfl rfl rfl) rfl ?_
         refine k_op0 (d := 75) (b := 598) (j' := 13) rfl rfl rfl rfl (g_ff rfl rfl rfl g10) (T_cmp rfl rfl rfl rfl) rfl ?_
         refine q0 76 614 14 rfl rfl (T_pick_f rfl rfl rfl g10) rfl ?_
         refine k_done rfl ?_
         refine thenK_n ?_
         refine W_cond rfl (fun g12 => ?_) (fun g12 => ?_)
         ·have h12 := c_neq_t g12
          refine W_seq ?_
          refine W_seqK (b' := 646) rfl rfl ?_
          refine q0 6 630 1 rfl rfl (T_assign rfl rfl) rfl ?_
          refine k_done rfl ?_
          refine thenK_n ?_
          refine W_ret ?_
          refine thenK_r ?_
          refine blockK_r ?_
          refine thenK_r ?_
          refine thenK_r ?_
          refine blockK_r ?_
          refine thenK_r ?_
          exact .mk [] (.inr rfl) (.tmp rfl (.nil)) (by (exfalso; omega)) (.nil) rfl
         ·have h12 := c_neq_f g12
          refine W_skip ?_
          refine thenK_n ?_
          refine W_seq ?_
          refine W_seq ?_
          refine W_seqK (b' := 678) rfl rfl ?_
          refine q0 77 630 1 rfl rfl (T_load_bA D (l := [_]) rfl rfl rfl rfl rfl rfl rfl) rfl ?_
          refine q0 78 646 2 rfl rfl (T_callV (lvs := [_]) (L := [(1, 358)]) (rwords_spec (allocP (p.funcs.getD j default) (liveL (p.funcs.getD j default)).1 (liveL (p.funcs.getD j default)).2 (y % 9)) (by omega) (fun x h => by have := hbd x h; omega)) body45 rfl rfl rfl rfl (.lend rfl (.nil)) rfl) rfl ?_
          refine q0 79 662 3 rfl rfl (T_cmp rfl rfl rfl rfl) rfl ?_
          refine k_done rfl ?_
          refine thenK_n ?_
          refine W_cond rfl (fun g13 => ?_) (fun g13 => ?_)
          ·have h13 := c_gtr_t g13
           refine W_seq ?_
           refine W_seqK (b' := 710) rfl rfl ?_
           refine q0 80 678 1 rfl rfl (T_callV (lvs := []) (L := []) (awake28_spec) body40 rfl rfl rfl rfl (.nil) rfl) rfl ?_
           refine q0 6 694 2 rfl rfl (T_assign rfl rfl) rfl ?_
           refine k_done rfl ?_
           refine thenK_n ?_
           refine W_ret ?_
           refine thenK_r ?_
           refine blockK_r ?_
           refine thenK_r ?_
           refine thenK_r ?_
           refine blockK_r ?_
           refine thenK_r ?_
           exact .mk [] (.inr rfl) (.tmp rfl (.nil)) (by rfl) (.nil) rfl
          ·have h13 := c_gtr_f g13
           refine W_skip ?_
           refine thenK_n ?_
           refine W_anyK (b' := 838) rfl rfl rfl ?_
           refine q0 81 678 1 rfl rfl (T_fa D (m := 1) rfl rfl rfl rfl rfl rfl) rfl ?_
           refine q0 82 694 2 rfl rfl (T_load_b D rfl rfl rfl rfl rfl rfl) rfl ?_
           refine q0 83 710 3 rfl rfl (T_load_bA D (l := [_, _]) rfl rfl rfl rfl rfl rfl rfl) rfl ?_
           refine q0 84 726 4 rfl rfl (T_load_bA D (l := [_]) rfl rfl rfl rfl rfl rfl rfl) rfl ?_
           refine q0 85 742 5 rfl rfl (T_move rfl rfl) rfl ?_
           refine qn 86 758 6 rfl rfl (T_call (lvs := [_, _, _]) (L := [(1, 150), (2, 358)]) (lv := .agg [.v _, .r 758]) (upd := [(758, .row 72 5 _), (358, .fz 1 _)]) (nn := 1) false (other_spec (p.funcs.getD j default) (allocP (p.funcs.getD j default) (liveL (p.funcs.getD j default)).1 (liveL (p.funcs.getD j default)).2 (y % 9)) (y % 9) hS.lf (by omega) hbd (by omega) (by have q := wordsP_nn (allocP (p.funcs.getD j default) (liveL (p.funcs.getD j default)).1 (liveL (p.funcs.getD j default)).2 (y % 9)); omega)) body46 rfl rfl rfl rfl (.fz rfl (.lend rfl (.nil))) rfl (.inl rfl) rfl rfl rfl) rfl ?_
           refine qn 87 774 7 rfl rfl (T_bs D (ys := [(otherP (p.funcs.getD j default) (allocP (p.funcs.getD j default) (liveL (p.funcs.getD j default)).1 (liveL (p.funcs.getD j default)).2 (y % 9)) (y % 9))]) (enc := eFn) (l := [_, _]) rfl rfl rfl rfl rfl rfl (.cons rfl flat_agg (.nil)) rfl rfl rfl rfl (.v rfl (.row rfl (.nil) (by rfl))) rfl rfl) rfl ?_
           refine qn 88 790 8 rfl rfl (T_append D rfl rfl rfl rfl rfl rfl rfl rfl rfl rfl rfl rfl (by (try simp only [ty29]); (simp; omega)) (by (try simp only [ty29]); (simp; omega))) rfl ?_
           refine q0 89 806 9 rfl rfl (T_fa D (m := 1) rfl rfl rfl rfl rfl rfl) rfl ?_
           refine s1 822 10 rfl rfl (T_stB D (cs' := [_, _]) rfl rfl rfl rfl (flat_sl rfl) rfl rfl (Nat.le_of_ble_eq_true rfl) rfl) rfl ?_
           refine k_done rfl ?_
           refine ⟨rfl, ?_⟩
           refine blockK_n ?_
           refine thenK_n ?_
           refine W_seqK (b' := 886) rfl rfl ?_
           refine q0 46 838 1 rfl rfl (T_move rfl rfl) rfl ?_
           refine q0 47 854 2 rfl rfl (T_add64 rfl rfl rfl (by omega)) rfl ?_
           refine q0 9 870 3 rfl rfl (T_assign rfl rfl) rfl ?_
           refine k_done rfl ?_
           refine thenK_n ?_
           refine ⟨j + 1, by (try dsimp only); exact ⟨by omega, fun i hi => by rcases Nat.lt_or_ge i j with h | h; exact hJ.2 i h; rw [show i = j by omega]; exact ⟨hS, by omega⟩⟩, by (try dsimp only); omega, ?_⟩
           exact ⟨[(2, 2), (3, 3), (4, 4), (5, 790)], .eq rfl (.same rfl rfl (.same rfl rfl (.eq rfl (.same rfl rfl (.eq rfl (.nil) (by rfl))) rfl))) rfl, .fzE rfl (.box (by rfl) (.box (by rfl) (.box (by rfl) (.rowE rfl (.nil) (by (exact congrArg (List.map eFn) (map_step _ (by omega) rfl))))))) rfl, rfl⟩
      ·have h8 := c_lss_f g8
       refine W_exit ?_
       refine thenK_e ?_
       refine thenK_e ?_
       refine blockK_hit ?_
       refine thenK_n ?_
       refine ⟨(), by (try dsimp only); exact fun i hi => hJ.2 i (by omega), ?_⟩
       exact ⟨[(2, 2), (3, 3), (4, 4), (5, 5)], .eq rfl (.same rfl rfl (.same rfl rfl (.same rfl rfl (.nil)))) (by rfl), .fzE rfl (.box (by rfl) (.box (by rfl) (.box (by rfl) (.rowE rfl (.nil) (by (have ej : j = p.funcs.length := (by omega); subst ej; rw [List.take_of_length_le (Nat.le_refl _)]; done)))))) (by rfl), rfl⟩
     refine W_seq ?_
     have hR := (by assumption : rightB p = true)
     have hRq := alloc_right hR (fun i hi => (hA18 i hi).1) (k := (y % 9)) (by omega) (fun i hi => (hA18 i hi).2)
     have hsame := alloc_same (inp := inp) (F := z) hR (fun i hi => (hA18 i hi).1) (k := (y % 9)) (by omega)
     refine W_seqK (b' := 70) rfl rfl ?_
     refine q0 90 6 1 rfl rfl (T_ixA D (m := 1) rfl rfl rfl Try.underlying53 rfl rfl (by decide) (by decide) rfl) rfl ?_
     refine q0 91 22 2 rfl rfl (T_load_b D rfl rfl rfl rfl rfl rfl) rfl ?_
     refine q0 92 38 3 rfl rfl (T_conv64 rfl rfl (by rw [Try.underlying5]; rfl) (by omega)) rfl ?_
     refine q0 13 54 4 rfl rfl (T_assign rfl rfl) rfl ?_
     refine k_done rfl ?_
     refine thenK_n ?_
     refine W_seq ?_
     refine W_anyK (b' := 342) rfl rfl rfl ?_
     refine q0 93 70 1 rfl rfl (T_callV (lvs := []) (L := []) (awake28_spec) body40 rfl rfl rfl rfl (.nil) rfl) rfl ?_
     refine q0 94 86 2 rfl rfl (T_move rfl rfl) rfl ?_
     refine k_op0 (d := 95) (b := 102) (j' := 3) rfl rfl rfl rfl (g_tt rfl rfl rfl rfl) (T_load_bA D (l := [_, _]) rfl rfl rfl rfl rfl rfl rfl) rfl ?_
     refine k_op0 (d := 96) (b := 118) (j' := 4) rfl rfl rfl rfl (g_tt rfl rfl rfl rfl) (T_callV (lvs := [_]) (L := [(1, 5)]) (right_spec (allocG p (y % 9)) (allocG_ok (fun i hi => (hA18 i hi).1) (by omega))) body35 rfl rfl rfl rfl (.lend rfl (.nil)) rfl) rfl ?_
     refine q0 97 134 5 rfl rfl (T_pick_t rfl rfl rfl rfl) rfl ?_
     refine q0 98 150 6 rfl rfl (T_move rfl rfl) rfl ?_
     refine k_split (d := 98) rfl (fun g14 => ?_) (fun g14 => ?_)
     ·have h14 := g14; (try simp only [cmpB, decide_eq_true_eq, decide_eq_false_iff_not, beq_iff_eq, beq_eq_false_iff_ne, bne_iff_ne, ne_eq, bne_eq_false_iff_eq, Bool.not_eq_true', Bool.not_eq_false', Int.not_lt, Int.not_le] at h14)
      refine k_op0 (d := 99) (b := 166) (j' := 7) rfl rfl rfl rfl (g_tt rfl rfl rfl g14) (T_load_bA D (l := [_, _]) rfl rfl rfl rfl rfl rfl rfl) rfl ?_
      refine k_op0 (d := 100) (b := 182) (j' := 8) rfl rfl rfl rfl (g_tt rfl rfl rfl g14) (T_move rfl rfl) rfl ?_
      refine k_op0 (d := 101) (b := 198) (j' := 9) rfl rfl rfl rfl (g_tt rfl rfl rfl g14) (T_move rfl rfl) rfl ?_
      refine k_opn (d := 102) (b := 214) (j' := 10) rfl rfl rfl rfl (g_tt rfl rfl rfl g14) (T_call (lvs := [_, _, _]) (L := [(1, 1)]) (lv := .agg [.v _, .v _, .v _]) (upd := []) (nn := 0) false (runs_spec p inp z ⟨hR, hn⟩ (by omega) (by omega) (by omega) (prog_each (fun i hi => (hA18 i hi).1)) (by omega)) body36 rfl rfl rfl rfl (.fz rfl (.nil)) rfl (.inl rfl) rfl rfl rfl) rfl ?_
      refine k_op0 (d := 103) (b := 230) (j' := 11) rfl rfl rfl rfl (g_tt rfl rfl rfl g14) (T_load_bA D (l := [_, _]) rfl rfl rfl rfl rfl rfl rfl) rfl ?_
      refine k_op0 (d := 104) (b := 246) (j' := 12) rfl rfl rfl rfl (g_tt rfl rfl rfl g14) (T_move rfl rfl) rfl ?_
      refine k_op0 (d := 105) (b := 262) (j' := 13) rfl rfl rfl rfl (g_tt rfl rfl rfl g14) (T_move rfl rfl) rfl ?_
      refine k_op1 (d := 106) (b := 278) (j' := 14) rfl rfl rfl rfl (g_tt rfl rfl rfl g14) (T_call (lvs := [_, _, _]) (L := [(1, 5)]) (lv := .agg [.v _, .v _, .v _]) (upd := [(5, .fz 2 _)]) (nn := 0) false (runs_spec (allocG p (y % 9)) inp z ⟨hRq, alloc_n hn⟩ (by omega) (by omega) (by omega) (allocG_each (fun i hi => (hA18 i hi).1)) (by show (p.funcs.map _).length ≤ _; rw [List.length_map]; omega)) body36 rfl rfl rfl rfl (.lend rfl (.nil)) rfl (.inl rfl) rfl rfl rfl) rfl ?_
      refine k_op0 (d := 107) (b := 294) (j' := 15) rfl rfl rfl rfl (g_tt rfl rfl rfl g14) (T_eq42 rfl rfl rfl) rfl ?_
      refine q0 108 310 16 rfl rfl (T_pick_t rfl rfl rfl g14) rfl ?_
      refine q0 6 326 17 rfl rfl (T_assign rfl rfl) rfl ?_
      refine k_done rfl ?_
      refine ⟨rfl, ?_⟩
      refine thenK_n ?_
      refine W_ret ?_
      exact .mk [] (.inr rfl) (.tmp rfl (.nil)) (by (rw [hsame]; rfl)) (.nil) rfl
     ·have h14 := g14; (try simp only [cmpB, decide_eq_true_eq, decide_eq_false_iff_not, beq_iff_eq, beq_eq_false_iff_ne, bne_iff_ne, ne_eq, bne_eq_false_iff_eq, Bool.not_eq_true', Bool.not_eq_false', Int.not_lt, Int.not_le] at h14)
      refine k_no (d := 99) (j' := 7) rfl rfl rfl (g_tf rfl rfl rfl g14) ?_
      refine k_no (d := 100) (j' := 8) rfl rfl rfl (g_tf rfl rfl rfl g14) ?_
      refine k_no (d := 101) (j' := 9) rfl rfl rfl (g_tf rfl rfl rfl g14) ?_
      refine k_no (d := 102) (j' := 10) rfl rfl rfl (g_tf rfl rfl rfl g14) ?_
      refine k_no (d := 103) (j' := 11) rfl rfl rfl (g_tf rfl rfl rfl g14) ?_
      refine k_no (d := 104) (j' := 12) rfl rfl rfl (g_tf rfl rfl rfl g14) ?_
      refine k_no (d := 105) (j' := 13) rfl rfl rfl (g_tf rfl rfl rfl g14) ?_
      refine k_no (d := 106) (j' := 14) rfl rfl rfl (g_tf rfl rfl rfl g14) ?_
      refine k_no (d := 107) (j' := 15) rfl rfl rfl (g_tf rfl rfl rfl g14) ?_
      refine q0 108 310 16 rfl rfl (T_pick_f rfl rfl rfl g14) rfl ?_
      refine q0 6 326 17 rfl rfl (T_assign rfl rfl) rfl ?_
      refine k_done rfl ?_
      refine ⟨rfl, ?_⟩
      refine thenK_n ?_
      refine W_ret ?_
      exact .mk [] (.inr rfl) (.tmp rfl (.nil)) (by exact absurd (hRq.symm.trans (by assumption)) (by decide)) (.nil) rfl
end Lg
end Go.Proofs.Ytpfhmodjjljpjaa
