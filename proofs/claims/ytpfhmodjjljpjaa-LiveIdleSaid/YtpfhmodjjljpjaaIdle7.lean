import Derived.Test.YtpfhmodjjljpjaaIdle6
set_option linter.unusedVariables false
set_option linter.unusedSimpArgs false
namespace Go.Proofs.Ytpfhmodjjljpjaa
open Go.RowKit
namespace Lg
set_option maxRecDepth 100000
set_option linter.unusedVariables false
set_option linter.unusedSimpArgs false
set_option maxHeartbeats 1600000
theorem fun_spec (p : GProg) (inp : ByteArray) (fuel : Int) (d : Nat) (i : Int) (hp : RunOk p) (hi : 0 ≤ i ∧ i < (p.funcs.length : Int)) (hz : (inp.size : Int) ≤ 1000000) (hfu : fuel ≤ 1000000) (hbn : ∀ f ∈ p.funcs, f.blocks.length ≤ 1000000 ∧ ∀ b ∈ f.blocks, b.ins.length ≤ 1000000) (hc : ∀ k : Int, 0 ≤ k → k < i → FunS p inp fuel (callF inp fuel p.funcs d) k) (hk : ∀ k : Int, 0 ≤ k → k < i → Keeps p.words inp fuel (callF inp fuel p.funcs d) k) (s0 : RS) (hs0 : SOk p.words inp fuel s0) (h0 : s0.fin = 0) : Spec Try.prog 77 [.p 1 0, .v (.int .i64 i)] 5 [(1, .box 107 [.v (.int .i64 p.words), .r 2, .v (.string inp), .v (.int .i64 fuel), .r 3, .r 4, .v (.int .i64 s0.read), .v (.int .i64 s0.steps), .v (.int .i64 s0.fin)]), (2, .fz 2 (p.funcs.map eFn)), (3, .row 68 1 (s0.ws.map eU32)), (4, .row 5 1 (s0.out.map eU8))] (.tup []) 6 [(1, .box 107 [.v (.int .i64 p.words), .r 2, .v (.string inp), .v (.int .i64 fuel), .r 3, .r 5, .v (.int .i64 (callF inp fuel p.funcs (d + 1) i s0).read), .v (.int .i64 (callF inp fuel p.funcs (d + 1) i s0).steps), .v (.int .i64 (callF inp fuel p.funcs (d + 1) i s0).fin)]), (3, .row 68 1 ((callF inp fuel p.funcs (d + 1) i s0).ws.map eU32)), (4, .no), (5, .row 5 1 ((callF inp fuel p.funcs (d + 1) i s0).out.map eU8))] := by
 have g0 : oneB (p.funcs.getD i.toNat default) i p.words = true := by have q := right_oneB hp.right (i := i.toNat) (by omega); rwa [Int.toNat_of_nonneg hi.1] at q
 have g1 := one_regs g0
 have g2 := one_blk g0
 have g3 := right_words hp.right
 have g4 := hbn (p.funcs.getD i.toNat default) (getD_mem (by omega))
 have g5 := hs0.steps
 refine spec_of D (fn := Try.f77) rfl rfl (Nat.le_of_ble_eq_true rfl) ?_
 refine W_seq ?_
 refine W_seqK (b' := 165) rfl rfl ?_
 refine q0 9 5 1 rfl rfl (T_move rfl rfl) rfl ?_
 refine q0 10 21 2 rfl rfl (T_nilCheck rfl rfl) rfl ?_
 refine q0 11 37 3 rfl rfl (T_fa D (m := 0) rfl rfl rfl rfl rfl rfl) rfl ?_
 refine q0 12 53 4 rfl rfl (T_fa D (m := 1) rfl rfl rfl rfl rfl rfl) rfl ?_
 refine q0 13 69 5 rfl rfl (T_load_b D rfl rfl rfl rfl rfl rfl) rfl ?_
 refine q0 14 85 6 rfl rfl (T_move rfl rfl) rfl ?_
 first | refine q0 15 101 7 rfl rfl (T_indexAddr D rfl rfl rfl rfl rfl rfl rfl rfl (by first | assumption | omega | (simp; omega))) rfl ?_ | refine q0 15 101 7 rfl rfl (T_indexAddrZ D rfl rfl rfl rfl rfl rfl rfl rfl (by first | assumption | omega | (simp; omega)) (by first | assumption | omega | (simp; omega))) rfl ?_
 refine q1 16 117 8 rfl rfl (T_ldEA D (l := [.v _, .r 117]) (nn := 1) (upd := [(117, .fz 5 _)]) rfl rfl rfl rfl rfl (by first | assumption | omega | (simp; omega)) rfl rfl rfl rfl rfl) rfl ?_
 refine qn 4 133 9 rfl rfl (T_nilbox [(72, 5)] (T_alloc D rfl rfl rfl) rfl (.cons (.same _) <| .cons (.nil rfl) <| .nil) (upd' := [(133, .box 29 [.v (.int .i64 0), .r 134]), (134, .row 72 5 (List.map eBlock ([] : List (GBlock))))]) (nn' := 2) rfl rfl) rfl ?_
 refine s1 149 10 rfl rfl (T_stB D (cs' := [_, _]) rfl rfl rfl rfl flat_agg rfl rfl (Nat.le_of_ble_eq_true rfl) rfl) rfl ?_
 refine k_done rfl ?_
 refine thenK_n ?_
 refine W_seq ?_
 refine W_seqK (b' := 229) rfl rfl ?_
 refine q0 17 165 1 rfl rfl (T_fa D (m := 0) rfl rfl rfl rfl rfl rfl) rfl ?_
 refine q0 18 181 2 rfl rfl (T_load_b D rfl rfl rfl rfl rfl rfl) rfl ?_
 refine q1 19 197 3 rfl rfl (T_makeZ (x := .tmp 18) (y := .tmp 18) (m := (p.funcs.getD i.toNat default).regs.toNat) (by omega) rfl rfl (fun k1 k2 => T_make D (zx := (0 : Int)) (enc := eU32) rfl k1 k2 rfl rfl rfl rfl (.v rfl (.nil)) rfl (by (try simp only [ty68]); first | assumption | omega | (simp; omega)) (by (try simp only [ty68]); first | assumption | omega | (simp; omega)))) rfl ?_
 refine q0 5 213 4 rfl rfl (T_assign rfl rfl) rfl ?_
 refine k_done rfl ?_
 refine thenK_n ?_
 refine W_seq ?_
 refine W_seqK (b' := 245) rfl rfl ?_
 refine q0 6 229 1 rfl rfl (T_assign rfl rfl) rfl ?_
 refine k_done rfl ?_
 refine thenK_n ?_
 refine W_block ?_
 refine W_loop (ι := Nat × Int × List Int × RS) 9 (fun x => ⟨[(0, .p 1 0), (4, .p 6 0), (5, .r 8), (6, .v (.int .i64 x.2.1))], [(1, .box 107 [.v (.int .i64 p.words), .r 2, .v (.string inp), .v (.int .i64 fuel), .r 3, .r 5, .v (.int .i64 x.2.2.2.read), .v (.int .i64 x.2.2.2.steps), .v (.int .i64 x.2.2.2.fin)]), (2, .fz 2 (p.funcs.map eFn)), (3, .row 68 1 (x.2.2.2.ws.map eU32)), (5, .row 5 1 (x.2.2.2.out.map eU8)), (6, .box 29 [.v (.int .i64 (p.funcs.getD i.toNat default).regs), .r 7]), (7, .fz 5 ((p.funcs.getD i.toNat default).blocks.map eBlock)), (8, .row 68 1 (x.2.2.1.map eU32))]⟩) (fun x => blkL inp fuel (callF inp fuel p.funcs d) (p.funcs.getD i.toNat default) x.1 x.2.1 x.2.2.1 x.2.2.2 = (callF inp fuel p.funcs (d + 1) i s0) ∧ ROk (p.funcs.getD i.toNat default).regs x.2.2.1 ∧ SOk p.words inp fuel x.2.2.2 ∧ x.2.2.2.fin = 0 ∧ (0 ≤ x.2.1 ∧ x.2.1 < ((p.funcs.getD i.toNat default).blocks.length : Int)) ∧ fuel - x.2.2.2.steps < (x.1 : Int)) (fun x => x.1) (((fuel - s0.steps).toNat + 1, 0, List.replicate (p.funcs.getD i.toNat default).regs.toNat 0, s0)) (by refine ⟨rfl, ⟨by rw [List.length_replicate]; omega, fun z hz => by rw [List.eq_of_mem_replicate hz]; exact isW0⟩, hs0, h0, ⟨?_, ?_⟩, ?_⟩ <;> dsimp only <;> omega) ?_ (fun x hJ => ?_)
 ·exact ⟨[(5, 4), (6, 133), (7, 117), (8, 197)], .same rfl rfl (.same rfl rfl (.same rfl rfl (.eq rfl (.nil) (by first | rfl | simp)))), .box (by first | rfl | simp) (.fzE rfl (.rowE rfl (.rowE rfl (.box (by first | rfl | simp) (.fzE rfl (.rowE rfl (.nil) (by first | rfl | simp)) (by first | rfl | simp))) (by first | rfl | simp)) (by first | rfl | simp)) (by first | rfl | simp)), rfl⟩
 have j2 := hJ.2.2.2.1
 have j3 := hJ.2.2.2.2.1
 have j4 := hJ.2.2.2.2.2
 have j5 := hJ.2.2.1.steps
 have j6 := g4.2 ((p.funcs.getD i.toNat default).blocks.getD x.2.1.toNat default) (getD_mem (by omega))
 have j7 := blk_fits (g2 ((p.funcs.getD i.toNat default).blocks.getD x.2.1.toNat default) (getD_mem (by omega)))
 have j8 := ends_to j7.1
 have j9 := hJ.2.1.len
 refine W_seq ?_
 refine W_seq ?_
 refine W_seqK (b' := 89) rfl rfl ?_
 refine q0 20 9 1 rfl rfl (T_move rfl rfl) rfl ?_
 refine q0 21 25 2 rfl rfl (T_nilCheck rfl rfl) rfl ?_
 refine q0 22 41 3 rfl rfl (T_fa D (m := 8) rfl rfl rfl rfl rfl rfl) rfl ?_
 refine q0 23 57 4 rfl rfl (T_load_b D rfl rfl rfl rfl rfl rfl) rfl ?_
 refine q0 24 73 5 rfl rfl (T_cmp rfl rfl rfl rfl) rfl ?_
 refine k_done rfl ?_
 refine thenK_n ?_
 refine W_cond rfl (fun g1 => ?_) (fun g1 => ?_)
 ·have h1 := c_eql_t g1
  refine W_skip ?_
  refine thenK_n ?_
  refine W_block ?_
  refine W_seq ?_
  refine W_seqK (b' := 201) rfl rfl ?_
  refine q0 25 89 1 rfl rfl (T_fa D (m := 1) rfl rfl rfl rfl rfl rfl) rfl ?_
  refine q0 26 105 2 rfl rfl (T_load_b D rfl rfl rfl rfl rfl rfl) rfl ?_
  refine q0 27 121 3 rfl rfl (T_move rfl rfl) rfl ?_
  first | refine q0 28 137 4 rfl rfl (T_indexAddr D rfl rfl rfl rfl rfl rfl rfl rfl (by first | assumption | omega | (simp; omega))) rfl ?_ | refine q0 28 137 4 rfl rfl (T_indexAddrZ D rfl rfl rfl rfl rfl rfl rfl rfl (by first | assumption | omega | (simp; omega)) (by first | assumption | omega | (simp; omega))) rfl ?_
  refine q1 29 153 5 rfl rfl (T_ldEA D (l := [.r 153, .v _, .v _, .v _, .v _]) (nn := 1) (upd := [(153, .fz 8 _)]) rfl rfl rfl rfl rfl (by first | assumption | omega | (simp; omega)) rfl rfl rfl rfl rfl) rfl ?_
  refine qn 7 169 6 rfl rfl (T_nilbox [(70, 8)] (T_alloc D rfl rfl rfl) rfl (.cons (.nil rfl) <| .cons (.same _) <| .cons (.same _) <| .cons (.same _) <| .cons (.same _) <| .nil) (upd' := [(169, .box 72 [.r 170, .v (.int .i64 0), .v (.int .i64 0), .v (.int .i64 0), .v (.int .i64 0)]), (170, .row 70 8 (List.map eTac ([] : List (GTac))))]) (nn' := 2) rfl rfl) rfl ?_
  refine s1 185 7 rfl rfl (T_stB D (cs' := [_, _, _, _, _]) rfl rfl rfl rfl flat_agg rfl rfl (Nat.le_of_ble_eq_true rfl) rfl) rfl ?_
  refine k_done rfl ?_
  refine thenK_n ?_
  refine W_seq ?_
  refine W_seq ?_
  refine W_seqK (b' := 217) rfl rfl ?_
  refine q0 8 201 1 rfl rfl (T_assign rfl rfl) rfl ?_
  refine k_done rfl ?_
  refine thenK_n ?_
  refine W_block ?_
  refine W_loop (ι := Nat × List Int × RS) 11 (fun y => ⟨[(0, .p 1 0), (4, .p 6 0), (5, .r 8), (7, .p 9 0), (8, .v (.int .i64 (y.1 : Int)))], [(1, .box 107 [.v (.int .i64 p.words), .r 2, .v (.string inp), .v (.int .i64 fuel), .r 3, .r 5, .v (.int .i64 y.2.2.read), .v (.int .i64 y.2.2.steps), .v (.int .i64 y.2.2.fin)]), (2, .fz 2 (p.funcs.map eFn)), (3, .row 68 1 (y.2.2.ws.map eU32)), (5, .row 5 1 (y.2.2.out.map eU8)), (6, .box 29 [.v (.int .i64 (p.funcs.getD i.toNat default).regs), .r 7]), (7, .fz 5 ((p.funcs.getD i.toNat default).blocks.map eBlock)), (8, .row 68 1 (y.2.1.map eU32)), (9, .box 72 [.r 10, .v (.int .i64 ((p.funcs.getD i.toNat default).blocks.getD x.2.1.toNat default).fin), .v (.int .i64 ((p.funcs.getD i.toNat default).blocks.getD x.2.1.toNat default).v), .v (.int .i64 ((p.funcs.getD i.toNat default).blocks.getD x.2.1.toNat default).to), .v (.int .i64 ((p.funcs.getD i.toNat default).blocks.getD x.2.1.toNat default).els)]), (10, .fz 8 (((p.funcs.getD i.toNat default).blocks.getD x.2.1.toNat default).ins.map eTac))]⟩) (fun y => insL inp fuel (callF inp fuel p.funcs d) (((p.funcs.getD i.toNat default).blocks.getD x.2.1.toNat default).ins.drop y.1) y.2.1 y.2.2 = insL inp fuel (callF inp fuel p.funcs d) ((p.funcs.getD i.toNat default).blocks.getD x.2.1.toNat default).ins x.2.2.1 x.2.2.2 ∧ ROk (p.funcs.getD i.toNat default).regs y.2.1 ∧ SOk p.words inp fuel y.2.2 ∧ y.2.2.fin = 0 ∧ x.2.2.2.steps ≤ y.2.2.steps ∧ y.1 ≤ ((p.funcs.getD i.toNat default).blocks.getD x.2.1.toNat default).ins.length) (fun y => ((p.funcs.getD i.toNat default).blocks.getD x.2.1.toNat default).ins.length - y.1) ((0, x.2.2.1, x.2.2.2)) (by exact ⟨rfl, hJ.2.1, hJ.2.2.1, hJ.2.2.2.1, Int.le_refl _, Nat.zero_le _⟩) ?_ (fun y hI => ?_)
  ·exact ⟨[(5, 5), (6, 6), (7, 7), (8, 8), (9, 169), (10, 153)], .same rfl rfl (.same rfl rfl (.same rfl rfl (.same rfl rfl (.eq rfl (.nil) (by first | rfl | simp))))), .box (by first | rfl | simp) (.fzE rfl (.rowE rfl (.rowE rfl (.box (by first | rfl | simp) (.fzE rfl (.rowE rfl (.box (by first | rfl | simp) (.fzE rfl (.nil) (by first | rfl | simp))) (by first | rfl | simp)) (by first | rfl | simp))) (by first | rfl | simp)) (by first | rfl | simp)) (by first | rfl | simp)), rfl⟩
  have i2 := hI.2.2.2.1
  have i3 := hI.2.2.2.2.1
  have i4 := hI.2.2.2.2.2
  have i5 := hI.2.2.1.steps
  have i6 := hI.2.1.len
  refine W_seq ?_
  refine W_seq ?_
  refine W_seqK (b' := 91) rfl rfl ?_
  refine q0 30 11 1 rfl rfl (T_move rfl rfl) rfl ?_
  refine q0 31 27 2 rfl rfl (T_fa D (m := 0) rfl rfl rfl rfl rfl rfl) rfl ?_
  refine q0 32 43 3 rfl rfl (T_load_b D rfl rfl rfl rfl rfl rfl) rfl ?_
  refine q0 33 59 4 rfl rfl (T_len D rfl rfl rfl rfl rfl rfl) rfl ?_
  refine q0 34 75 5 rfl rfl (T_cmp rfl rfl rfl rfl) rfl ?_
  refine k_done rfl ?_
  refine thenK_n ?_
  refine W_cond rfl (fun g2 => ?_) (fun g2 => ?_)
  ·have h2 := c_lss_t g2
   refine W_skip ?_
   refine thenK_n ?_
   refine W_seq ?_
   refine W_block ?_
   refine W_seq ?_
   refine W_seq ?_
   refine W_seqK (b' := 139) rfl rfl ?_
   refine q0 37 91 1 rfl rfl (T_move rfl rfl) rfl ?_
   by_cases h3 : y.2.2.steps < fuel
   ·skip
    refine qn 38 107 2 rfl rfl (T_call (lvs := [_]) (L := [(1, 1), (2, 2), (3, 3), (4, 5)]) (lv := .v _) (upd := [(1, .box 107 [.v _, .r 2, .v _, .v _, .r 3, .r 5, .v _, .v _, .v _]), (3, .row 68 1 _), (5, .row 5 1 _)]) (nn := 0) false (step_yes _ _ _ _ _ _ _ _ _ (by omega) (by assumption)) body120 rfl rfl rfl rfl (.box rfl (.fz rfl (.row rfl (.row rfl (.nil))))) rfl (.inl rfl) rfl rfl rfl) rfl ?_
    refine q0 39 123 3 rfl rfl (T_not rfl rfl) rfl ?_
    refine k_done rfl ?_
    refine thenK_n ?_
    refine W_cond rfl (fun g4 => ?_) (fun g4 => ?_)
    ·exact absurd (g4.symm.trans rfl) (by decide)
    ·skip
     refine W_skip ?_
     refine thenK_n ?_
     refine W_seq ?_
     refine W_seqK (b' := 267) rfl rfl ?_
     refine q0 40 139 1 rfl rfl (T_move rfl rfl) rfl ?_
     refine q0 41 155 2 rfl rfl (T_fa D (m := 0) rfl rfl rfl rfl rfl rfl) rfl ?_
     refine q0 42 171 3 rfl rfl (T_load_b D rfl rfl rfl rfl rfl rfl) rfl ?_
     refine q0 43 187 4 rfl rfl (T_move rfl rfl) rfl ?_
     first | refine q0 44 203 5 rfl rfl (T_indexAddr D rfl rfl rfl rfl rfl rfl rfl rfl (by first | assumption | omega | (simp; omega))) rfl ?_ | refine q0 44 203 5 rfl rfl (T_indexAddrZ D rfl rfl rfl rfl rfl rfl rfl rfl (by first | assumption | omega | (simp; omega)) (by first | assumption | omega | (simp; omega))) rfl ?_
     refine q0 45 219 6 rfl rfl (T_ldEA D (l := [.v _, .v _, .v _, .v _, .v _, .v _, .v _, .v _]) (nn := 0) (upd := []) rfl rfl rfl rfl rfl (by first | assumption | omega | (simp; omega)) rfl rfl rfl rfl rfl) rfl ?_
     refine q0 46 235 7 rfl rfl (T_move rfl rfl) rfl ?_
     refine qn 47 251 8 rfl rfl (T_call (lvs := [_, _, _]) (L := [(1, 1), (2, 8), (3, 2), (4, 3), (5, 5)]) (lv := .tup []) (upd := [(1, .box 107 [.v _, .r 2, .v _, .v _, .r 3, .r 251, .v _, .v _, .v _]), (8, .row 68 1 _), (3, .row 68 1 _), (5, .no), (251, .row 5 1 _)]) (nn := 1) false (oneIns_spec p inp fuel (callF inp fuel p.funcs d) (((p.funcs.getD i.toNat default).blocks.getD x.2.1.toNat default).ins.getD y.1 default) y.2.1 y.2.2.tick i (p.funcs.getD i.toNat default).regs (fits_fb (j7.2 (((p.funcs.getD i.toNat default).blocks.getD x.2.1.toNat default).ins.getD y.1 default) (getD_mem (by omega)))) hI.2.1 (hI.2.2.1.tick (by assumption)) i2 (hp.n _ (getD_mem (by omega)) _ (getD_mem (by omega)) _ (getD_mem (by omega))) g3 hz (fun ho => hc _ (fits_call (j7.2 (((p.funcs.getD i.toNat default).blocks.getD x.2.1.toNat default).ins.getD y.1 default) (getD_mem (by omega))) ho).1 (fits_call (j7.2 (((p.funcs.getD i.toNat default).blocks.getD x.2.1.toNat default).ins.getD y.1 default) (getD_mem (by omega))) ho).2)) body121 rfl rfl rfl rfl (.box rfl (.row rfl (.fz rfl (.row rfl (.row rfl (.nil)))))) rfl (.inl rfl) rfl rfl rfl) rfl ?_
     refine k_done rfl ?_
     refine thenK_n ?_
     refine W_seq ?_
     refine W_seqK (b' := 347) rfl rfl ?_
     refine q0 48 267 1 rfl rfl (T_move rfl rfl) rfl ?_
     refine q0 49 283 2 rfl rfl (T_nilCheck rfl rfl) rfl ?_
     refine q0 50 299 3 rfl rfl (T_fa D (m := 8) rfl rfl rfl rfl rfl rfl) rfl ?_
     refine q0 51 315 4 rfl rfl (T_load_b D rfl rfl rfl rfl rfl rfl) rfl ?_
     refine q0 52 331 5 rfl rfl (T_cmp rfl rfl rfl rfl) rfl ?_
     refine k_done rfl ?_
     refine thenK_n ?_
     refine W_cond rfl (fun g5 => ?_) (fun g5 => ?_)
     ·have h5 := c_neq_t g5
      refine W_ret ?_
      refine blockK_r ?_
      refine thenK_r ?_
      refine thenK_r ?_
      refine blockK_r ?_
      refine thenK_r ?_
      refine blockK_r ?_
      refine thenK_r ?_
      refine blockK_r ?_
      have hO := run_halt (by omega) hJ.1 (ins_end hI.1 (by omega) (by assumption) (by omega))
      exact .mk [(5, 251)] (.inr rfl) (.nil) rfl (.box (by first | rfl | (rw [hO]; first | done | rfl) | exact box9 (by first | rfl | (rw [hO]; first | done | rfl)) (by first | rfl | (rw [hO]; first | done | rfl)) (by first | rfl | (rw [hO]; first | done | rfl))) (.rowE rfl (.no (.rowE rfl (.nil) (by first | rfl | (rw [hO]; first | done | rfl) | exact box9 (by first | rfl | (rw [hO]; first | done | rfl)) (by first | rfl | (rw [hO]; first | done | rfl)) (by first | rfl | (rw [hO]; first | done | rfl))))) (by first | rfl | (rw [hO]; first | done | rfl) | exact box9 (by first | rfl | (rw [hO]; first | done | rfl)) (by first | rfl | (rw [hO]; first | done | rfl)) (by first | rfl | (rw [hO]; first | done | rfl))))) rfl
     ·have h5 := c_neq_f g5
      refine W_skip ?_
      refine blockK_n ?_
      refine thenK_n ?_
      refine W_seqK (b' := 395) rfl rfl ?_
      refine q0 35 347 1 rfl rfl (T_move rfl rfl) rfl ?_
      refine q0 36 363 2 rfl rfl (T_add64 rfl rfl rfl (by first | assumption | omega | (simp; omega))) rfl ?_
      refine q0 8 379 3 rfl rfl (T_assign rfl rfl) rfl ?_
      refine k_done rfl ?_
      refine thenK_n ?_
      have o1 := oneS_ok (call := (callF inp fuel p.funcs d)) (t := (((p.funcs.getD i.toNat default).blocks.getD x.2.1.toNat default).ins.getD y.1 default)) hI.2.1 (hI.2.2.1.tick (by assumption)) (fun ho => hk _ (fits_call (j7.2 (((p.funcs.getD i.toNat default).blocks.getD x.2.1.toNat default).ins.getD y.1 default) (getD_mem (by omega))) ho).1 (fits_call (j7.2 (((p.funcs.getD i.toNat default).blocks.getD x.2.1.toNat default).ins.getD y.1 default) (getD_mem (by omega))) ho).2)
      have o2 : y.2.2.steps + 1 ≤ (oneS inp (callF inp fuel p.funcs d) (((p.funcs.getD i.toNat default).blocks.getD x.2.1.toNat default).ins.getD y.1 default) y.2.1 y.2.2.tick).steps := o1.2
      refine ⟨(y.1 + 1, oneR inp (((p.funcs.getD i.toNat default).blocks.getD x.2.1.toNat default).ins.getD y.1 default) y.2.1 y.2.2.tick, oneS inp (callF inp fuel p.funcs d) (((p.funcs.getD i.toNat default).blocks.getD x.2.1.toNat default).ins.getD y.1 default) y.2.1 y.2.2.tick), by (try dsimp only); exact ⟨ins_next hI.1 (by omega) (by assumption) (by omega), oneR_ok hI.2.1 (hI.2.2.1.tick (by assumption)) (hp.n _ (getD_mem (by omega)) _ (getD_mem (by omega)) _ (getD_mem (by omega))), o1.1, by omega, by omega, by omega⟩, by (try dsimp only); omega, ?_⟩
      exact ⟨[(5, 251), (6, 6), (7, 7), (8, 8), (9, 9), (10, 10)], .same rfl rfl (.same rfl rfl (.same rfl rfl (.same rfl rfl (.eq rfl (.nil) (by first | rfl | simp))))), .box (by first | rfl | simp) (.fzE rfl (.rowE rfl (.rowE rfl (.box (by first | rfl | simp) (.fzE rfl (.rowE rfl (.box (by first | rfl | simp) (.fzE rfl (.nil) rfl)) (by first | rfl | simp)) rfl)) (by first | rfl | simp)) (by first | rfl | simp)) rfl), rfl⟩
   ·skip
    refine qn 38 107 2 rfl rfl (T_call (lvs := [_]) (L := [(1, 1), (2, 2), (3, 3), (4, 5)]) (lv := .v _) (upd := [(1, .box 107 [.v _, .r 2, .v _, .v _, .r 3, .r 5, .v _, .v _, .v _]), (3, .row 68 1 _), (5, .row 5 1 _)]) (nn := 0) false (step_no _ _ _ _ _ _ _ _ _ (by omega) (by assumption)) body120 rfl rfl rfl rfl (.box rfl (.fz rfl (.row rfl (.row rfl (.nil))))) rfl (.inl rfl) rfl rfl rfl) rfl ?_
    refine q0 39 123 3 rfl rfl (T_not rfl rfl) rfl ?_
    refine k_done rfl ?_
    refine thenK_n ?_
    refine W_cond rfl (fun g6 => ?_) (fun g6 => ?_)
    ·skip
     refine W_ret ?_
     refine thenK_r ?_
     refine blockK_r ?_
     refine thenK_r ?_
     refine thenK_r ?_
     refine blockK_r ?_
     refine thenK_r ?_
     refine blockK_r ?_
     refine thenK_r ?_
     refine blockK_r ?_
     have hO := run_halt (by omega) hJ.1 (ins_stop hI.1 (by omega) (by assumption))
     exact .mk [(5, 5)] (.inr rfl) (.nil) rfl (.box (by first | rfl | (rw [hO]; first | done | rfl) | exact box9 (by first | rfl | (rw [hO]; first | done | rfl)) (by first | rfl | (rw [hO]; first | done | rfl)) (by first | rfl | (rw [hO]; first | done | rfl))) (.rowE rfl (.no (.rowE rfl (.nil) (by first | rfl | (rw [hO]; first | done | rfl) | exact box9 (by first | rfl | (rw [hO]; first | done | rfl)) (by first | rfl | (rw [hO]; first | done | rfl)) (by first | rfl | (rw [hO]; first | done | rfl))))) (by first | rfl | (rw [hO]; first | done | rfl) | exact box9 (by first | rfl | (rw [hO]; first | done | rfl)) (by first | rfl | (rw [hO]; first | done | rfl)) (by first | rfl | (rw [hO]; first | done | rfl))))) rfl
    ·exact absurd (g6.symm.trans rfl) (by decide)
  ·have h2 := c_lss_f g2
   refine W_exit ?_
   refine thenK_e ?_
   refine thenK_e ?_
   refine blockK_hit ?_
   refine thenK_n ?_
   refine W_seq ?_
   refine W_seq ?_
   refine W_seqK (b' := 219) rfl rfl ?_
   refine q0 53 91 1 rfl rfl (T_move rfl rfl) rfl ?_
   by_cases h7 : y.2.2.steps < fuel
   ·skip
    refine qn 54 107 2 rfl rfl (T_call (lvs := [_]) (L := [(1, 1), (2, 2), (3, 3), (4, 5)]) (lv := .v _) (upd := [(1, .box 107 [.v _, .r 2, .v _, .v _, .r 3, .r 5, .v _, .v _, .v _]), (3, .row 68 1 _), (5, .row 5 1 _)]) (nn := 0) false (step_yes _ _ _ _ _ _ _ _ _ (by omega) (by assumption)) body120 rfl rfl rfl rfl (.box rfl (.fz rfl (.row rfl (.row rfl (.nil))))) rfl (.inl rfl) rfl rfl rfl) rfl ?_
    refine q0 55 123 3 rfl rfl (T_not rfl rfl) rfl ?_
    refine q0 56 139 4 rfl rfl (T_move rfl rfl) rfl ?_
    refine k_op0 (d := 57) (b := 155) (j' := 5) rfl rfl rfl rfl (g_ff rfl rfl rfl rfl) (T_fa D (m := 1) rfl rfl rfl rfl rfl rfl) rfl ?_
    refine k_op0 (d := 58) (b := 171) (j' := 6) rfl rfl rfl rfl (g_ff rfl rfl rfl rfl) (T_load_b D rfl rfl rfl rfl rfl rfl) rfl ?_
    refine k_op0 (d := 59) (b := 187) (j' := 7) rfl rfl rfl rfl (g_ff rfl rfl rfl rfl) (T_cmp rfl rfl rfl rfl) rfl ?_
    refine q0 60 203 8 rfl rfl (T_pick_f rfl rfl rfl rfl) rfl ?_
    refine k_done rfl ?_
    refine thenK_n ?_
    refine W_cond rfl (fun g8 => ?_) (fun g8 => ?_)
    ·have h8 := c_eql_t g8
     refine W_ret ?_
     refine thenK_r ?_
     refine blockK_r ?_
     refine thenK_r ?_
     refine blockK_r ?_
     have hO := run_ret (by omega) hJ.1 (ins_done hI.1 (by omega)) (by assumption) (by omega)
     exact .mk [(5, 5)] (.inr rfl) (.nil) rfl (.box (by first | rfl | (rw [hO]; first | done | rfl) | exact box9 (by first | rfl | (rw [hO]; first | done | rfl)) (by first | rfl | (rw [hO]; first | done | rfl)) (by first | rfl | (rw [hO]; first | done | rfl))) (.rowE rfl (.no (.rowE rfl (.nil) (by first | rfl | (rw [hO]; first | done | rfl) | exact box9 (by first | rfl | (rw [hO]; first | done | rfl)) (by first | rfl | (rw [hO]; first | done | rfl)) (by first | rfl | (rw [hO]; first | done | rfl))))) (by first | rfl | (rw [hO]; first | done | rfl) | exact box9 (by first | rfl | (rw [hO]; first | done | rfl)) (by first | rfl | (rw [hO]; first | done | rfl)) (by first | rfl | (rw [hO]; first | done | rfl))))) rfl
    ·have h8 := c_eql_f g8
     refine W_skip ?_
     refine thenK_n ?_
     refine W_seq ?_
     refine W_seqK (b' := 267) rfl rfl ?_
     refine q0 61 219 1 rfl rfl (T_fa D (m := 3) rfl rfl rfl rfl rfl rfl) rfl ?_
     refine q0 62 235 2 rfl rfl (T_load_b D rfl rfl rfl rfl rfl rfl) rfl ?_
     refine q0 6 251 3 rfl rfl (T_assign rfl rfl) rfl ?_
     refine k_done rfl ?_
     refine thenK_n ?_
     refine W_seq ?_
     refine W_seqK (b' := 443) rfl rfl ?_
     refine q0 63 267 1 rfl rfl (T_fa D (m := 1) rfl rfl rfl rfl rfl rfl) rfl ?_
     refine q0 64 283 2 rfl rfl (T_load_b D rfl rfl rfl rfl rfl rfl) rfl ?_
     refine q0 65 299 3 rfl rfl (T_cmp rfl rfl rfl rfl) rfl ?_
     refine q0 66 315 4 rfl rfl (T_move rfl rfl) rfl ?_
     refine k_split (d := 66) rfl (fun g9 => ?_) (fun g9 => ?_)
     ·have h9 := c_eql_t g9
      refine k_op0 (d := 67) (b := 331) (j' := 5) rfl rfl rfl rfl (g_tt rfl rfl rfl g9) (T_move rfl rfl) rfl ?_
      refine k_op0 (d := 68) (b := 347) (j' := 6) rfl rfl rfl rfl (g_tt rfl rfl rfl g9) (T_fa D (m := 2) rfl rfl rfl rfl rfl rfl) rfl ?_
      refine k_op0 (d := 69) (b := 363) (j' := 7) rfl rfl rfl rfl (g_tt rfl rfl rfl g9) (T_load_b D rfl rfl rfl rfl rfl rfl) rfl ?_
      first | refine k_op0 (d := 70) (b := 379) (j' := 8) rfl rfl rfl rfl (g_tt rfl rfl rfl g9) (T_indexAddr D rfl rfl rfl rfl rfl rfl rfl rfl (by first | assumption | omega | (simp; omega))) rfl ?_ | refine k_op0 (d := 70) (b := 379) (j' := 8) rfl rfl rfl rfl (g_tt rfl rfl rfl g9) (T_indexAddrZ D rfl rfl rfl rfl rfl rfl rfl rfl (by first | assumption | omega | (simp; omega)) (by first | assumption | omega | (simp; omega))) rfl ?_
      refine k_op0 (d := 71) (b := 395) (j' := 9) rfl rfl rfl rfl (g_tt rfl rfl rfl g9) (T_ldE D (lv := .v _) (nn := 0) (upd := []) rfl rfl rfl rfl rfl (by first | assumption | omega | (simp; omega)) rfl rfl rfl rfl) rfl ?_
      refine k_op0 (d := 72) (b := 411) (j' := 10) rfl rfl rfl rfl (g_tt rfl rfl rfl g9) (T_cmp rfl rfl rfl rfl) rfl ?_
      refine q0 73 427 11 rfl rfl (T_pick_t rfl rfl rfl g9) rfl ?_
      refine k_done rfl ?_
      refine thenK_n ?_
      refine W_cond rfl (fun g10 => ?_) (fun g10 => ?_)
      ·have h10 := c_eql_t g10
       refine W_seqK (b' := 491) rfl rfl ?_
       refine q0 74 443 1 rfl rfl (T_fa D (m := 4) rfl rfl rfl rfl rfl rfl) rfl ?_
       refine q0 75 459 2 rfl rfl (T_load_b D rfl rfl rfl rfl rfl rfl) rfl ?_
       refine q0 6 475 3 rfl rfl (T_assign rfl rfl) rfl ?_
       refine k_done rfl ?_
       refine blockK_n ?_
       refine thenK_n ?_
       refine ⟨(x.1 - 1, ((p.funcs.getD i.toNat default).blocks.getD x.2.1.toNat default).els, y.2.1, y.2.2.tick), by (try dsimp only); exact ⟨run_next (by omega) hJ.1 (ins_done hI.1 (by omega)) (by assumption) (by omega) (nextB_els (by omega) (by omega)), hI.2.1, hI.2.2.1.tick (by assumption), i2, ⟨by omega, by omega⟩, (by show fuel - (y.2.2.steps + 1) < _; omega)⟩, by (try dsimp only); omega, ?_⟩
       exact ⟨[(5, 5), (6, 6), (7, 7), (8, 8)], .same rfl rfl (.same rfl rfl (.same rfl rfl (.eq rfl (.nil) (by first | rfl | simp)))), .box (by first | rfl | simp) (.fzE rfl (.rowE rfl (.rowE rfl (.box (by first | rfl | simp) (.fzE rfl (.rowE rfl (.nil) (by first | rfl | simp)) rfl)) (by first | rfl | simp)) (by first | rfl | simp)) rfl), rfl⟩
      ·have h10 := c_eql_f g10
       refine W_skip ?_
       refine blockK_n ?_
       refine thenK_n ?_
       refine ⟨(x.1 - 1, ((p.funcs.getD i.toNat default).blocks.getD x.2.1.toNat default).to, y.2.1, y.2.2.tick), by (try dsimp only); exact ⟨run_next (by omega) hJ.1 (ins_done hI.1 (by omega)) (by assumption) (by omega) (nextB_to (by omega)), hI.2.1, hI.2.2.1.tick (by assumption), i2, ⟨by omega, by omega⟩, (by show fuel - (y.2.2.steps + 1) < _; omega)⟩, by (try dsimp only); omega, ?_⟩
       exact ⟨[(5, 5), (6, 6), (7, 7), (8, 8)], .same rfl rfl (.same rfl rfl (.same rfl rfl (.eq rfl (.nil) (by first | rfl | simp)))), .box (by first | rfl | simp) (.fzE rfl (.rowE rfl (.rowE rfl (.box (by first | rfl | simp) (.fzE rfl (.rowE rfl (.nil) (by first | rfl | simp)) rfl)) (by first | rfl | simp)) (by first | rfl | simp)) rfl), rfl⟩
     ·have h9 := c_eql_f g9
      refine k_no (d := 67) (j' := 5) rfl rfl rfl (g_tf rfl rfl rfl g9) ?_
      refine k_no (d := 68) (j' := 6) rfl rfl rfl (g_tf rfl rfl rfl g9) ?_
      refine k_no (d := 69) (j' := 7) rfl rfl rfl (g_tf rfl rfl rfl g9) ?_
      refine k_no (d := 70) (j' := 8) rfl rfl rfl (g_tf rfl rfl rfl g9) ?_
      refine k_no (d := 71) (j' := 9) rfl rfl rfl (g_tf rfl rfl rfl g9) ?_
      refine k_no (d := 72) (j' := 10) rfl rfl rfl (g_tf rfl rfl rfl g9) ?_
      refine q0 73 427 11 rfl rfl (T_pick_f rfl rfl rfl g9) rfl ?_
      refine k_done rfl ?_
      refine thenK_n ?_
      refine W_cond rfl (fun g11 => ?_) (fun g11 => ?_)
      ·exact absurd (g11.symm.trans rfl) (by decide)
      ·skip
       refine W_skip ?_
       refine blockK_n ?_
       refine thenK_n ?_
       refine ⟨(x.1 - 1, ((p.funcs.getD i.toNat default).blocks.getD x.2.1.toNat default).to, y.2.1, y.2.2.tick), by (try dsimp only); exact ⟨run_next (by omega) hJ.1 (ins_done hI.1 (by omega)) (by assumption) (by omega) (nextB_to (by omega)), hI.2.1, hI.2.2.1.tick (by assumption), i2, ⟨by omega, by omega⟩, (by show fuel - (y.2.2.steps + 1) < _; omega)⟩, by (try dsimp only); omega, ?_⟩
       exact ⟨[(5, 5), (6, 6), (7, 7), (8, 8)], .same rfl rfl (.same rfl rfl (.same rfl rfl (.eq rfl (.nil) (by first | rfl | simp)))), .box (by first | rfl | simp) (.fzE rfl (.rowE rfl (.rowE rfl (.box (by first | rfl | simp) (.fzE rfl (.rowE rfl (.nil) (by first | rfl | simp)) rfl)) (by first | rfl | simp)) (by first | rfl | simp)) rfl), rfl⟩
   ·skip
    refine qn 54 107 2 rfl rfl (T_call (lvs := [_]) (L := [(1, 1), (2, 2), (3, 3), (4, 5)]) (lv := .v _) (upd := [(1, .box 107 [.v _, .r 2, .v _, .v _, .r 3, .r 5, .v _, .v _, .v _]), (3, .row 68 1 _), (5, .row 5 1 _)]) (nn := 0) false (step_no _ _ _ _ _ _ _ _ _ (by omega) (by assumption)) body120 rfl rfl rfl rfl (.box rfl (.fz rfl (.row rfl (.row rfl (.nil))))) rfl (.inl rfl) rfl rfl rfl) rfl ?_
    refine q0 55 123 3 rfl rfl (T_not rfl rfl) rfl ?_
    refine q0 56 139 4 rfl rfl (T_move rfl rfl) rfl ?_
    refine k_no (d := 57) (j' := 5) rfl rfl rfl (g_ft rfl rfl rfl rfl) ?_
    refine k_no (d := 58) (j' := 6) rfl rfl rfl (g_ft rfl rfl rfl rfl) ?_
    refine k_no (d := 59) (j' := 7) rfl rfl rfl (g_ft rfl rfl rfl rfl) ?_
    refine q0 60 203 8 rfl rfl (T_pick_t rfl rfl rfl rfl) rfl ?_
    refine k_done rfl ?_
    refine thenK_n ?_
    refine W_cond rfl (fun g12 => ?_) (fun g12 => ?_)
    ·skip
     refine W_ret ?_
     refine thenK_r ?_
     refine blockK_r ?_
     refine thenK_r ?_
     refine blockK_r ?_
     have hO := run_fuel (by omega) hJ.1 (ins_done hI.1 (by omega)) (by assumption)
     exact .mk [(5, 5)] (.inr rfl) (.nil) rfl (.box (by first | rfl | (rw [hO]; first | done | rfl) | exact box9 (by first | rfl | (rw [hO]; first | done | rfl)) (by first | rfl | (rw [hO]; first | done | rfl)) (by first | rfl | (rw [hO]; first | done | rfl))) (.rowE rfl (.no (.rowE rfl (.nil) (by first | rfl | (rw [hO]; first | done | rfl) | exact box9 (by first | rfl | (rw [hO]; first | done | rfl)) (by first | rfl | (rw [hO]; first | done | rfl)) (by first | rfl | (rw [hO]; first | done | rfl))))) (by first | rfl | (rw [hO]; first | done | rfl) | exact box9 (by first | rfl | (rw [hO]; first | done | rfl)) (by first | rfl | (rw [hO]; first | done | rfl)) (by first | rfl | (rw [hO]; first | done | rfl))))) rfl
    ·exact absurd (g12.symm.trans rfl) (by decide)
 ·have h1 := c_eql_f g1
  refine W_exit ?_
  refine thenK_e ?_
  refine thenK_e ?_
  refine blockK_hit ?_
  exact .mk [(5, 5)] (.inl rfl) (.nil) rfl (.box (by exfalso; omega) (.rowE rfl (.no (.rowE rfl (.nil) (by exfalso; omega))) (by exfalso; omega))) rfl
end Lg
end Go.Proofs.Ytpfhmodjjljpjaa

namespace Go.Proofs.Ytpfhmodjjljpjaa
open Go.RowKit
namespace Lg
set_option linter.unusedSimpArgs false
set_option linter.unusedVariables false
theorem funs_all {p : GProg} {inp : ByteArray} {fuel : Int} (hp : RunOk p) (hz : (inp.size : Int) ≤ 1000000) (hfu : fuel ≤ 1000000) (hbn : ∀ f ∈ p.funcs, f.blocks.length ≤ 1000000 ∧ ∀ b ∈ f.blocks, b.ins.length ≤ 1000000) :
    ∀ (d : Nat) (i : Int), 0 ≤ i → i < d → i < p.funcs.length → FunS p inp fuel (callF inp fuel p.funcs d) i
  | 0, i, h0, h1, _ => by omega
  | d + 1, i, h0, h1, h2 => fun s hs hs0 => fun_spec p inp fuel d i hp ⟨h0, h2⟩ hz hfu hbn (fun k k0 k1 => funs_all hp hz hfu hbn d k k0 (by omega) (by omega)) (fun k k0 k1 => callF_keeps hp d k k0 (by omega) (by omega)) s hs hs0
def rs0 (p : GProg) : RS := ⟨List.replicate p.words.toNat 0, [], 0, 0, 0⟩
def runS (p : GProg) (inp : ByteArray) (fuel : Int) : RS := callF inp fuel p.funcs p.funcs.length ((p.funcs.length : Int) - 1) (rs0 p)
def runE (p : GProg) (inp : ByteArray) (fuel : Int) : Int := if (runS p inp fuel).fin = 0 then 1 else (runS p inp fuel).fin
theorem rs0_ok {p : GProg} (hp : RunOk p) {inp : ByteArray} {fuel : Int} (hf : 0 ≤ fuel) : SOk p.words inp fuel (rs0 p) := by
  have h := right_words hp.right
  exact ⟨by show ((List.replicate _ _).length : Int) = _; rw [List.length_replicate]; omega, fun x hx => by rw [List.eq_of_mem_replicate hx]; exact isW0, by show ((([] : List Int)).length : Int) ≤ _; simp, ⟨Int.le_refl _, by show (0 : Int) ≤ _; omega⟩, ⟨Int.le_refl _, hf⟩⟩
theorem right_pos {p : GProg} (h : rightB p = true) : 0 < p.funcs.length := by
  unfold rightB at h
  simp only [Bool.and_eq_true, decide_eq_true_eq] at h
  exact List.length_pos_iff.2 h.1.2.2
end Lg
end Go.Proofs.Ytpfhmodjjljpjaa

namespace Go.Proofs.Ytpfhmodjjljpjaa
open Go.RowKit
namespace Lg
set_option maxRecDepth 100000
set_option linter.unusedVariables false
set_option linter.unusedSimpArgs false
theorem body36 : (Try.prog.funcs[36]?).map (fun fn => (fn.name == "runtime.NumGoroutine" || fn.body.isNone)) = some false := by kernel_rfl
theorem runs_spec (p : GProg) (inp : ByteArray) (fuel : Int) (hp : RunOk p) (hz : (inp.size : Int) ≤ 1000000) (hf0 : 0 ≤ fuel) (hfu : fuel ≤ 1000000) (hbn : ∀ f ∈ p.funcs, f.blocks.length ≤ 1000000 ∧ ∀ b ∈ f.blocks, b.ins.length ≤ 1000000) (hl : p.funcs.length ≤ 1000000) : Spec Try.prog 36 [.agg [.v (.int .i64 p.words), .r 1], .v (.string inp), .v (.int .i64 fuel)] 2 [(1, .fz 2 (p.funcs.map eFn))] (.agg [.v (.int .i64 (runE p inp fuel)), .v (.string (strOfNums (runS p inp fuel).out)), .v (.int .i64 (runS p inp fuel).steps)]) 2 [] := by
 have g3 := right_words hp.right
 have g4 := right_pos hp.right
 refine spec_of D (fn := Try.f36) rfl rfl (Nat.le_of_ble_eq_true rfl) ?_
 refine W_seq ?_
 refine W_seqK (b' := 34) rfl rfl ?_
 refine q1 3 2 1 rfl rfl (T_box rfl rfl flat_agg) rfl ?_
 refine q1 6 18 2 rfl rfl (T_alloc D rfl rfl rfl) rfl ?_
 refine k_done rfl ?_
 refine thenK_n ?_
 refine W_seq ?_
 refine W_seq ?_
 refine W_seqK (b' := 98) rfl rfl ?_
 refine q0 8 34 1 rfl rfl (T_fa D (m := 1) rfl rfl rfl rfl rfl rfl) rfl ?_
 refine q0 9 50 2 rfl rfl (T_load_b D rfl rfl rfl rfl rfl rfl) rfl ?_
 refine q0 10 66 3 rfl rfl (T_len D rfl rfl rfl rfl rfl rfl) rfl ?_
 refine q0 11 82 4 rfl rfl (T_cmp rfl rfl rfl rfl) rfl ?_
 refine k_done rfl ?_
 refine thenK_n ?_
 refine W_cond rfl (fun g1 => ?_) (fun g1 => ?_)
 ·have h1 := c_eql_t g1
  refine W_seq ?_
  exfalso; omega
 ·have h1 := c_eql_f g1
  refine W_skip ?_
  refine thenK_n ?_
  refine W_seq ?_
  refine W_seq ?_
  refine W_seqK (b' := 130) rfl rfl ?_
  refine q0 13 98 1 rfl rfl (T_move rfl rfl) rfl ?_
  refine q0 14 114 2 rfl rfl (T_cmp rfl rfl rfl rfl) rfl ?_
  refine k_done rfl ?_
  refine thenK_n ?_
  refine W_cond rfl (fun g2 => ?_) (fun g2 => ?_)
  ·have h2 := c_lss_t g2
   exfalso; omega
  ·have h2 := c_lss_f g2
   refine W_skip ?_
   refine thenK_n ?_
   refine W_seq ?_
   refine W_anyK (b' := 274) rfl rfl rfl ?_
   refine q0 15 130 1 rfl rfl (T_load_bA D (l := [_, _]) rfl rfl rfl rfl rfl rfl rfl) rfl ?_
   refine q0 16 146 2 rfl rfl (T_move rfl rfl) rfl ?_
   refine q0 17 162 3 rfl rfl (T_move rfl rfl) rfl ?_
   refine q0 18 178 4 rfl rfl (T_fa D (m := 0) rfl rfl rfl rfl rfl rfl) rfl ?_
   refine q0 19 194 5 rfl rfl (T_load_b D rfl rfl rfl rfl rfl rfl) rfl ?_
   refine q1 20 210 6 rfl rfl (T_makeZ (x := .tmp 19) (y := .tmp 19) (m := p.words.toNat) (by omega) rfl rfl (fun k1 k2 => T_make D (zx := (0 : Int)) (enc := eU32) rfl k1 k2 rfl rfl rfl rfl (.v rfl (.nil)) rfl (by (try simp only [ty68]); first | assumption | omega | (simp; omega)) (by (try simp only [ty68]); first | assumption | omega | (simp; omega)))) rfl ?_
   refine q1 21 226 7 rfl rfl (T_nils [(5, 1)] (T_build D (l := [_, _, _, _, _, _, _, _, _]) rfl rfl rfl rfl (.cons rfl flat_agg (.cons rfl (flat_v rfl) (.cons rfl (flat_v rfl) (.cons rfl (flat_sl rfl) (.nil))))) rfl rfl) rfl (.inl ⟨rfl, rfl⟩) (.cons (.same _) <| .cons (.same _) <| .cons (.same _) <| .cons (.same _) <| .cons (.same _) <| .cons (.nil rfl) <| .cons (.same _) <| .cons (.same _) <| .cons (.same _) <| .nil) (lv' := .agg [_, _, _, _, _, .r 226, _, _, _]) (upd' := [(226, .row 5 1 (List.map eU8 ([] : List (Int))))]) (nn' := 1) rfl rfl) rfl ?_
   refine q1 22 242 8 rfl rfl (T_box rfl rfl flat_agg) rfl ?_
   refine q0 7 258 9 rfl rfl (T_assign rfl rfl) rfl ?_
   refine k_done rfl ?_
   refine ⟨rfl, ?_⟩
   refine thenK_n ?_
   refine W_seq ?_
   refine W_seqK (b' := 370) rfl rfl ?_
   refine q0 23 274 1 rfl rfl (T_move rfl rfl) rfl ?_
   refine q0 24 290 2 rfl rfl (T_fa D (m := 1) rfl rfl rfl rfl rfl rfl) rfl ?_
   refine q0 25 306 3 rfl rfl (T_load_b D rfl rfl rfl rfl rfl rfl) rfl ?_
   refine q0 26 322 4 rfl rfl (T_len D rfl rfl rfl rfl rfl rfl) rfl ?_
   refine q0 27 338 5 rfl rfl (T_sub64 rfl rfl rfl (by first | assumption | omega | (simp; omega))) rfl ?_
   refine qn 28 354 6 rfl rfl (T_call (lvs := [_, _]) (L := [(1, 242), (2, 1), (3, 210), (4, 226)]) (lv := .tup []) (upd := [(242, .box 107 [.v _, .r 1, .v _, .v _, .r 210, .r 354, .v _, .v _, .v _]), (210, .row 68 1 _), (226, .no), (354, .row 5 1 _)]) (nn := 1) false (funs_all hp hz hfu hbn p.funcs.length ((p.funcs.length : Int) - 1) (by omega) (by omega) (by omega) (rs0 p) (rs0_ok hp hf0) rfl) body77 rfl rfl rfl rfl (.box rfl (.fz rfl (.row rfl (.row rfl (.nil))))) rfl (.inl rfl) rfl rfl rfl) rfl ?_
   refine k_done rfl ?_
   refine thenK_n ?_
   refine W_seq ?_
   refine W_seq ?_
   refine W_seqK (b' := 450) rfl rfl ?_
   refine q0 29 370 1 rfl rfl (T_move rfl rfl) rfl ?_
   refine q0 30 386 2 rfl rfl (T_nilCheck rfl rfl) rfl ?_
   refine q0 31 402 3 rfl rfl (T_fa D (m := 8) rfl rfl rfl rfl rfl rfl) rfl ?_
   refine q0 32 418 4 rfl rfl (T_load_b D rfl rfl rfl rfl rfl rfl) rfl ?_
   refine q0 33 434 5 rfl rfl (T_cmp rfl rfl rfl rfl) rfl ?_
   refine k_done rfl ?_
   refine thenK_n ?_
   refine W_cond rfl (fun g3 => ?_) (fun g3 => ?_)
   ·have h3 := c_eql_t g3
    refine W_seqK (b' := 514) rfl rfl ?_
    refine q0 34 450 1 rfl rfl (T_move rfl rfl) rfl ?_
    refine q0 35 466 2 rfl rfl (T_nilCheck rfl rfl) rfl ?_
    refine q0 36 482 3 rfl rfl (T_fa D (m := 8) rfl rfl rfl rfl rfl rfl) rfl ?_
    refine s1 498 4 rfl rfl (T_stB D (cs' := [_, _, _, _, _, _, _, _, _]) rfl rfl rfl rfl (flat_v rfl) rfl rfl (Nat.le_of_ble_eq_true rfl) rfl) rfl ?_
    refine k_done rfl ?_
    refine thenK_n ?_
    refine W_seq ?_
    refine W_anyK (b' := 754) rfl rfl rfl ?_
    refine q0 37 514 1 rfl rfl (T_move rfl rfl) rfl ?_
    refine q0 38 530 2 rfl rfl (T_nilCheck rfl rfl) rfl ?_
    refine q0 39 546 3 rfl rfl (T_fa D (m := 8) rfl rfl rfl rfl rfl rfl) rfl ?_
    refine q0 40 562 4 rfl rfl (T_load_b D rfl rfl rfl rfl rfl rfl) rfl ?_
    refine q0 41 578 5 rfl rfl (T_move rfl rfl) rfl ?_
    refine q0 42 594 6 rfl rfl (T_nilCheck rfl rfl) rfl ?_
    refine q0 43 610 7 rfl rfl (T_fa D (m := 5) rfl rfl rfl rfl rfl rfl) rfl ?_
    refine q0 44 626 8 rfl rfl (T_load_b D rfl rfl rfl rfl rfl rfl) rfl ?_
    refine q0 45 642 9 rfl rfl (T_convS (xs := _) Try.underlying66 Try.underlying5 Try.underlying9 rfl rfl rfl) rfl ?_
    refine q0 46 658 10 rfl rfl (T_move rfl rfl) rfl ?_
    refine q0 47 674 11 rfl rfl (T_nilCheck rfl rfl) rfl ?_
    refine q0 48 690 12 rfl rfl (T_fa D (m := 7) rfl rfl rfl rfl rfl rfl) rfl ?_
    refine q0 49 706 13 rfl rfl (T_load_b D rfl rfl rfl rfl rfl rfl) rfl ?_
    refine q0 50 722 14 rfl rfl (T_build D (l := [_, _, _]) rfl rfl rfl rfl (.cons rfl (flat_v rfl) (.cons rfl (flat_v rfl) (.cons rfl (flat_v rfl) (.nil)))) rfl rfl) rfl ?_
    refine s1 738 15 rfl rfl (T_stB D (cs' := [_, _, _]) rfl rfl rfl rfl flat_agg rfl rfl (Nat.le_of_ble_eq_true rfl) rfl) rfl ?_
    refine k_done rfl ?_
    refine ⟨rfl, ?_⟩
    refine thenK_n ?_
    refine W_ret ?_
    have hE : runE p inp fuel = 1 := by unfold runE; rw [if_pos (by assumption)]
    exact .mk [] (.inr rfl) (.cellA rfl rfl rfl rfl rfl (.nil)) (by first | rfl | (rw [hE]; first | done | rfl)) (.nil) rfl
   ·have h3 := c_eql_f g3
    refine W_skip ?_
    refine thenK_n ?_
    refine W_seq ?_
    refine W_anyK (b' := 690) rfl rfl rfl ?_
    refine q0 37 450 1 rfl rfl (T_move rfl rfl) rfl ?_
    refine q0 38 466 2 rfl rfl (T_nilCheck rfl rfl) rfl ?_
    refine q0 39 482 3 rfl rfl (T_fa D (m := 8) rfl rfl rfl rfl rfl rfl) rfl ?_
    refine q0 40 498 4 rfl rfl (T_load_b D rfl rfl rfl rfl rfl rfl) rfl ?_
    refine q0 41 514 5 rfl rfl (T_move rfl rfl) rfl ?_
    refine q0 42 530 6 rfl rfl (T_nilCheck rfl rfl) rfl ?_
    refine q0 43 546 7 rfl rfl (T_fa D (m := 5) rfl rfl rfl rfl rfl rfl) rfl ?_
    refine q0 44 562 8 rfl rfl (T_load_b D rfl rfl rfl rfl rfl rfl) rfl ?_
    refine q0 45 578 9 rfl rfl (T_convS (xs := _) Try.underlying66 Try.underlying5 Try.underlying9 rfl rfl rfl) rfl ?_
    refine q0 46 594 10 rfl rfl (T_move rfl rfl) rfl ?_
    refine q0 47 610 11 rfl rfl (T_nilCheck rfl rfl) rfl ?_
    refine q0 48 626 12 rfl rfl (T_fa D (m := 7) rfl rfl rfl rfl rfl rfl) rfl ?_
    refine q0 49 642 13 rfl rfl (T_load_b D rfl rfl rfl rfl rfl rfl) rfl ?_
    refine q0 50 658 14 rfl rfl (T_build D (l := [_, _, _]) rfl rfl rfl rfl (.cons rfl (flat_v rfl) (.cons rfl (flat_v rfl) (.cons rfl (flat_v rfl) (.nil)))) rfl rfl) rfl ?_
    refine s1 674 15 rfl rfl (T_stB D (cs' := [_, _, _]) rfl rfl rfl rfl flat_agg rfl rfl (Nat.le_of_ble_eq_true rfl) rfl) rfl ?_
    refine k_done rfl ?_
    refine ⟨rfl, ?_⟩
    refine thenK_n ?_
    refine W_ret ?_
    have hE : runE p inp fuel = (runS p inp fuel).fin := by unfold runE; rw [if_neg (by assumption)]
    exact .mk [] (.inr rfl) (.cellA rfl rfl rfl rfl rfl (.nil)) (by first | rfl | (rw [hE]; first | done | rfl)) (.nil) rfl
end Lg
end Go.Proofs.Ytpfhmodjjljpjaa

namespace Go.Proofs.Ytpfhmodjjljpjaa
open Go.RowKit
namespace Lg
set_option linter.unusedSimpArgs false
set_option linter.unusedVariables false
structure Rel (s s' : RS) : Prop where
  ws : s'.ws = s.ws
  out : s'.out = s.out
  read : s'.read = s.read
  fin : s'.fin = s.fin
  steps : s'.steps ≤ s.steps
theorem Rel.tick {s s' : RS} (h : Rel s s') : Rel s.tick s'.tick := ⟨h.ws, h.out, h.read, h.fin, by have := h.steps; show s'.steps + 1 ≤ s.steps + 1; omega⟩
theorem Rel.tickL {s s' : RS} (h : Rel s s') : Rel s.tick s' := ⟨h.ws, h.out, h.read, h.fin, by have := h.steps; show s'.steps ≤ s.steps + 1; omega⟩
theorem Rel.stop {s s' : RS} (h : Rel s s') (e : Int) : Rel (s.stop e) (s'.stop e) := ⟨h.ws, h.out, h.read, rfl, h.steps⟩
def Mono (call : Int → RS → RS) (i : Int) : Prop := ∀ s s', Rel s s' → s.fin = 0 → (call i s).fin ≠ 5 → Rel (call i s) (call i s')
section
variable {inp : ByteArray} {fuel : Int} {call : Int → RS → RS} {t : GTac} {regs : List Int} {s s' : RS}
theorem oneR_rel (h : Rel s s') : oneR inp t regs s' = oneR inp t regs s := by
  unfold oneR
  rw [h.ws, h.read]
theorem oneS_rel (h : Rel s s') (h0 : s.fin = 0) (hc : t.op = 10 → Mono call t.base) (h5 : (oneS inp call t regs s).fin ≠ 5) : Rel (oneS inp call t regs s) (oneS inp call t regs s') := by
  revert h5
  unfold oneS
  rw [h.read, h.out]
  repeat' split
  all_goals intro h5
  all_goals first | exact h | exact h.stop _ | exact hc (by assumption) s s' h h0 h5 | skip
  · exact ⟨by show List.set s'.ws _ _ = List.set s.ws _ _; rw [h.ws], rfl, rfl, h.fin, h.steps⟩
  · exact ⟨by show List.set s'.ws _ _ = List.set s.ws _ _; rw [h.ws], rfl, rfl, h.fin, h.steps⟩
  · exact ⟨h.ws, rfl, rfl, h.fin, h.steps⟩
  · exact ⟨h.ws, rfl, rfl, h.fin, h.steps⟩
theorem insL_rel : ∀ (l : List GTac) (regs : List Int) (s s' : RS), Rel s s' → s.fin = 0 → (∀ t ∈ l, t.op = 10 → Mono call t.base) → (insL inp fuel call l regs s).2.1.fin ≠ 5 →
    (insL inp fuel call l regs s').1 = (insL inp fuel call l regs s).1 ∧ Rel (insL inp fuel call l regs s).2.1 (insL inp fuel call l regs s').2.1 ∧ (insL inp fuel call l regs s').2.2 = (insL inp fuel call l regs s).2.2 ∧ ((insL inp fuel call l regs s).2.2 = false → (insL inp fuel call l regs s).2.1.fin = 0)
  | [], regs, s, s', h, h0, _, _ => ⟨rfl, h, rfl, fun _ => h0⟩
  | t :: ts, regs, s, s', h, h0, hl, h5 => by
    simp only [insL] at h5 ⊢
    by_cases h1 : s.steps < fuel
    · have h1' : s'.steps < fuel := Int.lt_of_le_of_lt h.steps h1
      rw [if_pos h1] at h5
      rw [if_pos h1, if_pos h1']
      have hR : oneR inp t regs s'.tick = oneR inp t regs s.tick := oneR_rel h.tick
      rw [hR]
      by_cases h2 : (oneS inp call t regs s.tick).fin = 0
      · have hS := oneS_rel (inp := inp) (regs := regs) h.tick h0 (hl t (by simp)) (by omega)
        have h2' : (oneS inp call t regs s'.tick).fin = 0 := by rw [hS.fin]; exact h2
        rw [if_pos h2] at h5
        rw [if_pos h2, if_pos h2']
        exact insL_rel ts _ _ _ hS h2 (fun t ht => hl t (List.mem_cons_of_mem _ ht)) h5
      · rw [if_neg h2] at h5
        have hS := oneS_rel (inp := inp) (regs := regs) h.tick h0 (hl t (by simp)) h5
        have h2' : ¬ (oneS inp call t regs s'.tick).fin = 0 := by rw [hS.fin]; exact h2
        rw [if_neg h2, if_neg h2']
        exact ⟨rfl, hS, rfl, fun h => by cases h⟩
    · rw [if_neg h1] at h5
      exact absurd rfl h5
theorem insL_append : ∀ (l m : List GTac) (regs : List Int) (s : RS), insL inp fuel call (l ++ m) regs s = if (insL inp fuel call l regs s).2.2 = true then insL inp fuel call l regs s else insL inp fuel call m (insL inp fuel call l regs s).1 (insL inp fuel call l regs s).2.1
  | [], m, regs, s => by simp [insL]
  | t :: ts, m, regs, s => by
    simp only [List.cons_append, insL]
    by_cases h1 : s.steps < fuel
    · by_cases h2 : (oneS inp call t regs s.tick).fin = 0
      · simp only [if_pos h1, if_pos h2]; exact insL_append ts m _ _
      · simp only [if_pos h1, if_neg h2, if_true]
    · simp only [if_neg h1, if_true]
theorem insL_le : ∀ (l : List GTac) (regs : List Int) (s : RS), (∀ t ∈ l, t.op = 10 → ∀ s, s.steps ≤ (call t.base s).steps) → s.steps ≤ (insL inp fuel call l regs s).2.1.steps
  | [], regs, s, _ => Int.le_refl _
  | t :: ts, regs, s, hl => by
    have h0 : s.tick.steps ≤ (oneS inp call t regs s.tick).steps := by
      unfold oneS
      repeat' split
      all_goals first | exact Int.le_refl _ | exact hl t (by simp) (by assumption) _
    have h1 : s.steps ≤ s.tick.steps := by show s.steps ≤ s.steps + 1; omega
    simp only [insL]
    split
    · split
      · have := insL_le ts (oneR inp t regs s.tick) (oneS inp call t regs s.tick) (fun t ht => hl t (List.mem_cons_of_mem _ ht)); omega
      · show s.steps ≤ (oneS inp call t regs s.tick).steps; omega
    · exact Int.le_refl _
end
end Lg
end Go.Proofs.Ytpfhmodjjljpjaa

namespace Go.Proofs.Ytpfhmodjjljpjaa
open Go.RowKit
namespace Lg
set_option linter.unusedSimpArgs false
set_option linter.unusedVariables false
structure RelE (s s' : RS) : Prop where
  ws : s'.ws = s.ws
  out : s'.out = s.out
  read : s'.read = s.read
  fin : s'.fin = s.fin
theorem RelE.tick {s s' : RS} (h : RelE s s') : RelE s.tick s'.tick := ⟨h.ws, h.out, h.read, h.fin⟩
theorem RelE.tickR {s s' : RS} (h : RelE s s') : RelE s s'.tick := ⟨h.ws, h.out, h.read, h.fin⟩
theorem RelE.stop {s s' : RS} (h : RelE s s') (e : Int) : RelE (s.stop e) (s'.stop e) := ⟨h.ws, h.out, h.read, rfl⟩
def Agr (L : List Bool) (r r' : List Int) : Prop := r.length = r'.length ∧ ∀ i, L.getD i default = true → r.getD i default = r'.getD i default
theorem Agr.refl (L : List Bool) (r : List Int) : Agr L r r := ⟨rfl, fun _ _ => rfl⟩
theorem Agr.sub {L M : List Bool} {r r' : List Int} (h : Agr L r r') (k : Sub M L) : Agr M r r' := ⟨h.1, fun i hi => h.2 i (k i hi)⟩
theorem getD_setI {r : List Int} {d i : Nat} {v : Int} : (r.set d v).getD i default = if i = d ∧ d < r.length then v else r.getD i default := by
  simp only [List.getD, List.getElem?_set]
  by_cases h : d = i
  · subst h
    by_cases h2 : d < r.length
    · simp [h2]
    · simp [h2]
  · rw [if_neg h, if_neg (fun e => h e.1.symm)]
theorem agr_set {t : GTac} {L : List Bool} {r r' : List Int} (h : Agr (aheadT t L) r r') {d : Nat} (hk : ∀ i, Kill t i → i = d) (v : Int) : Agr L (r.set d v) (r'.set d v) := by
  refine ⟨by simp [h.1], fun i hi => ?_⟩
  rw [getD_setI, getD_setI, ← h.1]
  split
  · rfl
  · rename_i hn
    by_cases e : i = d
    · have : ¬ d < r.length := fun h2 => hn ⟨e, h2⟩
      subst e
      have hz : ∀ x : List Int, ¬ i < x.length → x.getD i default = default := fun x hx => by rw [List.getD, List.getElem?_eq_none (by omega)]; rfl
      rw [hz r this, hz r' (by have := h.1; omega)]
    · exact h.2 i ((aheadT_get t L i).2 ⟨getD_lt hi, .inr ⟨fun hkk => e (hk i hkk), hi⟩⟩)
theorem agr_keep {t : GTac} {L : List Bool} {r r' : List Int} (h : Agr (aheadT t L) r r') (hk : ∀ i, ¬ Kill t i) : Agr L r r' :=
  h.sub (fun i hi => (aheadT_get t L i).2 ⟨getD_lt hi, .inr ⟨hk i, hi⟩⟩)
theorem agr_use {t : GTac} {L : List Bool} {r r' : List Int} (h : Agr (aheadT t L) r r') {u : Int} (hu : u ∈ usesT t) (hl : u.toNat < L.length) : r.getD u.toNat default = r'.getD u.toNat default :=
  h.2 _ ((aheadT_get t L _).2 ⟨hl, .inl ⟨u, hu, rfl⟩⟩)
theorem kill_d {t : GTac} : ∀ i, Kill t i → i = t.d.toNat := fun i hk => by
  obtain ⟨h1, h2⟩ := hk
  have h3 := setsT_ge h1
  unfold setsT at h2
  rw [if_pos h3] at h2
  exact h2.symm
theorem kill_no {t : GTac} (h : ¬ (t.op = 1 ∨ t.op = 2 ∨ t.op = 3 ∨ t.op = 4 ∨ t.op = 6 ∨ t.op = 8)) : ∀ i, ¬ Kill t i := fun i hk => by
  have h3 := setsT_ge hk.1
  rw [setsOp_f h] at h3; cases h3
theorem uses_a {t : GTac} (h : t.op = 2 ∨ t.op = 5 ∨ t.op = 6 ∨ t.op = 9 ∨ t.op = 3 ∨ t.op = 7) : t.a ∈ usesT t := by
  unfold usesT
  by_cases h1 : t.op = 2 ∨ t.op = 5 ∨ t.op = 6 ∨ t.op = 9
  · rw [if_pos h1]; simp
  · rw [if_neg h1, if_pos (by omega)]; simp
theorem uses_b {t : GTac} (h : t.op = 3 ∨ t.op = 7) : t.b ∈ usesT t := by
  unfold usesT
  rw [if_neg (by omega), if_pos h]; simp
section
variable {inp : ByteArray} {call : Int → RS → RS} {t : GTac} {L : List Bool} {r r' : List Int} {s s' : RS}
theorem use_lt (hT : TOk L.length t) {u : Int} (hu : u ∈ usesT t) : u.toNat < L.length := by have := hT.2 u hu; omega
theorem oneS_agr (hT : TOk L.length t) (h : Agr (aheadT t L) r r') (hr : RelE s s') (hc : t.op ≠ 10) : RelE (oneS inp call t r s) (oneS inp call t r' s') := by
  have ha : (t.op = 2 ∨ t.op = 5 ∨ t.op = 6 ∨ t.op = 9 ∨ t.op = 3 ∨ t.op = 7) → r'.getD t.a.toNat default = r.getD t.a.toNat default := fun ho => (agr_use h (uses_a ho) (use_lt hT (uses_a ho))).symm
  have hb : (t.op = 3 ∨ t.op = 7) → r'.getD t.b.toNat default = r.getD t.b.toNat default := fun ho => (agr_use h (uses_b ho) (use_lt hT (uses_b ho))).symm
  unfold oneS
  by_cases h3 : t.op = 3
  · rw [if_pos h3, if_pos h3, hb (.inl h3)]
    split
    · exact hr
    · exact hr.stop 2
  rw [if_neg h3, if_neg h3]
  by_cases h5 : t.op = 5
  · rw [if_pos h5, if_pos h5, ha (by omega)]
    exact ⟨by show List.set s'.ws _ _ = List.set s.ws _ _; rw [hr.ws], hr.out, hr.read, hr.fin⟩
  rw [if_neg h5, if_neg h5]
  by_cases h6 : t.op = 6
  · rw [if_pos h6, if_pos h6, ha (by omega)]
    split
    · exact hr
    · exact hr.stop 3
  rw [if_neg h6, if_neg h6]
  by_cases h7 : t.op = 7
  · rw [if_pos h7, if_pos h7, ha (by omega), hb (by omega)]
    split
    · exact ⟨by show List.set s'.ws _ _ = List.set s.ws _ _; rw [hr.ws], hr.out, hr.read, hr.fin⟩
    · exact hr.stop 3
  rw [if_neg h7, if_neg h7]
  by_cases h8 : t.op = 8
  · rw [if_pos h8, if_pos h8, hr.read]
    split
    · exact ⟨hr.ws, hr.out, rfl, hr.fin⟩
    · exact hr
  rw [if_neg h8, if_neg h8]
  by_cases h9 : t.op = 9
  · rw [if_pos h9, if_pos h9, ha (by omega), hr.out]
    split
    · exact ⟨hr.ws, rfl, hr.read, hr.fin⟩
    · exact hr.stop 4
  rw [if_neg h9, if_neg h9, if_neg hc, if_neg hc]
  exact hr
theorem oneS_steps (hc : t.op ≠ 10) : (oneS inp call t r s).steps = s.steps := by
  unfold oneS
  repeat' split
  all_goals first | rfl | exact absurd (by assumption) hc
theorem oneR_agr (hT : TOk L.length t) (h : Agr (aheadT t L) r r') (hr : RelE s s') (hf : (oneS inp call t r s).fin = 0) (h0 : s.fin = 0) : Agr L (oneR inp t r s) (oneR inp t r' s') := by
  have ha : (t.op = 2 ∨ t.op = 5 ∨ t.op = 6 ∨ t.op = 9 ∨ t.op = 3 ∨ t.op = 7) → r'.getD t.a.toNat default = r.getD t.a.toNat default := fun ho => (agr_use h (uses_a ho) (use_lt hT (uses_a ho))).symm
  have hb : (t.op = 3 ∨ t.op = 7) → r'.getD t.b.toNat default = r.getD t.b.toNat default := fun ho => (agr_use h (uses_b ho) (use_lt hT (uses_b ho))).symm
  unfold oneR
  by_cases h1 : t.op = 1
  · rw [if_pos h1, if_pos h1]; exact agr_set h kill_d _
  rw [if_neg h1, if_neg h1]
  by_cases h2 : t.op = 2
  · rw [if_pos h2, if_pos h2, ha (by omega)]; exact agr_set h kill_d _
  rw [if_neg h2, if_neg h2]
  by_cases h3 : t.op = 3
  · rw [if_pos h3, if_pos h3, ha (by omega), hb (by omega)]
    split
    · exact agr_set h kill_d _
    · rename_i hn
      unfold oneS at hf
      rw [if_pos h3, if_neg hn] at hf
      exact absurd (show (2 : Int) = 0 from hf) (by decide)
  rw [if_neg h3, if_neg h3]
  by_cases h4 : t.op = 4
  · rw [if_pos h4, if_pos h4, hr.ws]; exact agr_set h kill_d _
  rw [if_neg h4, if_neg h4]
  by_cases h6 : t.op = 6
  · rw [if_pos h6, if_pos h6, ha (by omega), hr.ws]
    split
    · exact agr_set h kill_d _
    · rename_i hn
      unfold oneS at hf
      rw [if_neg h3, if_neg (by omega), if_pos h6, if_neg hn] at hf
      exact absurd (show (3 : Int) = 0 from hf) (by decide)
  rw [if_neg h6, if_neg h6]
  by_cases h8 : t.op = 8
  · rw [if_pos h8, if_pos h8, hr.read]
    split
    · rw [List.set_set, List.set_set]; exact agr_set h kill_d _
    · exact agr_set h kill_d _
  rw [if_neg h8, if_neg h8]
  exact agr_keep h (kill_no (by omega))
end
section
variable {inp : ByteArray} {call call' : Int → RS → RS} {F F' : Int} {E : List Bool}
theorem insL_agr (hFF : 2 * F ≤ F') (hop : ∀ t r s, t.op ≠ 10 → oneS inp call t r s = oneS inp call' t r s) : ∀ (l : List GTac) (r r' : List Int) (s s' : RS), (∀ t ∈ l, TOk E.length t ∧ t.op ≠ 10) → Agr (l.foldr aheadT E) r r' → RelE s s' → s.fin = 0 → s'.steps ≤ 2 * s.steps + 1 →
    (insL inp F call l r s).2.1.fin ≠ 5 → RelE (insL inp F call l r s).2.1 (insL inp F' call' l r' s').2.1 ∧ (insL inp F' call' l r' s').2.2 = (insL inp F call l r s).2.2 ∧
      ((insL inp F call l r s).2.2 = false → (insL inp F call l r s).2.1.fin = 0 ∧ Agr E (insL inp F call l r s).1 (insL inp F' call' l r' s').1 ∧ (insL inp F' call' l r' s').2.1.steps ≤ 2 * (insL inp F call l r s).2.1.steps + 1)
  | [], r, r', s, s', _, h, hr, h0, hs, _ => ⟨hr, rfl, fun _ => ⟨h0, h, hs⟩⟩
  | t :: ts, r, r', s, s', hl, h, hr, h0, hs, h5 => by
    have hlen : (ts.foldr aheadT E).length = E.length := by
      clear hl h h5
      induction ts with
      | nil => rfl
      | cons t ts ih => rw [List.foldr_cons, aheadT_len, ih]
    have hT : TOk (ts.foldr aheadT E).length t := by rw [hlen]; exact (hl t (by simp)).1
    have hc := (hl t (by simp)).2
    simp only [insL] at h5 ⊢
    by_cases h1 : s.steps < F
    · have h1' : s'.steps < F' := by omega
      rw [if_pos h1] at h5
      rw [if_pos h1, if_pos h1']
      have hS := oneS_agr (inp := inp) (call := call) hT h hr.tick hc
      rw [← hop t r' s'.tick hc]
      have hst : (oneS inp call t r s.tick).steps = s.steps + 1 := oneS_steps hc
      have hst' : (oneS inp call t r' s'.tick).steps = s'.steps + 1 := oneS_steps hc
      by_cases h2 : (oneS inp call t r s.tick).fin = 0
      · have h2' : (oneS inp call t r' s'.tick).fin = 0 := by rw [hS.fin]; exact h2
        rw [if_pos h2] at h5
        rw [if_pos h2, if_pos h2']
        exact insL_agr hFF hop ts _ _ _ _ (fun t ht => hl t (List.mem_cons_of_mem _ ht)) (oneR_agr (call := call) hT h hr.tick h2 h0) hS h2 (by omega) h5
      · rw [if_neg h2] at h5
        have h2' : ¬ (oneS inp call t r' s'.tick).fin = 0 := by rw [hS.fin]; exact h2
        rw [if_neg h2, if_neg h2']
        exact ⟨hS, rfl, fun h => by cases h⟩
    · rw [if_neg h1] at h5
      exact absurd rfl h5
end
theorem insL_go2 {inp : ByteArray} {fuel : Int} {call : Int → RS → RS} : ∀ (l : List GTac) (regs : List Int) (s : RS), s.fin = 0 → (insL inp fuel call l regs s).2.2 = false → (insL inp fuel call l regs s).2.1.fin = 0
  | [], regs, s, h, _ => h
  | t :: ts, regs, s, h, hf => by
    simp only [insL] at hf ⊢
    by_cases h1 : s.steps < fuel
    · by_cases h2 : (oneS inp call t regs s.tick).fin = 0
      · simp only [if_pos h1, if_pos h2] at hf ⊢
        exact insL_go2 ts _ _ h2 hf
      · simp only [if_pos h1, if_neg h2] at hf
        cases hf
    · simp only [if_neg h1] at hf
      cases hf
def addT (d w : Int) : GTac := ⟨1, d, 0, 0, 0, 0, 0, w⟩
def addB (d w : Int) (b : GBlock) : GBlock := { b with ins := addT d w :: b.ins }
def addF (f : GFn) (k : Nat) (d w : Int) : GFn := { f with blocks := f.blocks.set k (addB d w (f.blocks.getD k default)) }
section
variable {f : GFn} {k : Nat} {d w : Int}
theorem addF_at (hk : k < f.blocks.length) (j : Nat) : (addF f k d w).blocks.getD j default = if j = k then addB d w (f.blocks.getD k default) else f.blocks.getD j default := by
  show (f.blocks.set k _).getD j default = _
  simp only [List.getD, List.getElem?_set]
  by_cases e : k = j
  · subst e; simp [hk]
  · rw [if_neg e, if_neg (fun h => e h.symm)]
theorem next_mem {b : GBlock} {r : List Int} (h : b.fin = 1 ∨ b.fin = 2) : nextB b r ∈ follows b := by
  unfold nextB follows
  rcases h with h | h
  · rw [if_pos h, if_neg (by omega)]; simp
  · rw [if_neg (by omega), if_pos h]; split <;> simp
theorem nextB_agr {b : GBlock} {L : List Bool} {r r' : List Int} (h : Agr (endS b L) r r') (hv : b.fin = 2 → 0 ≤ b.v ∧ b.v < (L.length : Int)) : nextB b r' = nextB b r := by
  unfold nextB
  by_cases h2 : b.fin = 2
  · have := hv h2
    rw [h.2 b.v.toNat ((endS_get b L _).2 ⟨by omega, .inl ⟨h2, rfl⟩⟩)]
  · rw [if_neg (fun e => h2 e.1), if_neg (fun e => h2 e.1)]
variable {inp : ByteArray} {call call' : Int → RS → RS} {F F' : Int}
theorem blkL_idle (hF : LF f) (hends : ∀ b ∈ f.blocks, b.fin = 1 ∨ b.fin = 2 ∨ b.fin = 3) (hcall : ∀ b ∈ f.blocks, ∀ t ∈ b.ins, t.op ≠ 10) (hFF : 2 * F ≤ F') (hop : ∀ t r s, t.op ≠ 10 → oneS inp call t r s = oneS inp call' t r s)
    (hk : k < f.blocks.length) (hd : ((liveL f).1.getD k default).getD d.toNat default = false) :
    ∀ (m : Nat) (a : Int) (r r' : List Int) (s s' : RS) (m' : Nat), 0 ≤ a → a < (f.blocks.length : Int) → Agr ((liveL f).1.getD a.toNat default) r r' → RelE s s' → s.fin = 0 → s.steps ≤ F → s'.steps ≤ 2 * s.steps → F - s.steps < m → F' - s'.steps < m' →
      (blkL inp F call f m a r s).fin ≠ 5 → RelE (blkL inp F call f m a r s) (blkL inp F' call' (addF f k d w) m' a r' s')
  | 0, a, r, r', s, s', m', ha0, ha, hag, hr, h0, hsF, hs, hm, hm', h5 => by omega
  | m + 1, a, r, r', s, s', m', ha0, ha, hag, hr, h0, hsF, hs, hm, hm', h5 => by
    have haN : a.toNat < f.blocks.length := by omega
    have hb := getD_mem haN
    have hin := live_closed hF
    obtain ⟨_, _, hcl⟩ := closed_iff hin
    obtain ⟨hc1, hc2⟩ := hcl a.toNat haN
    have hOl := (live_sz f).o.at haN
    obtain ⟨k', rfl⟩ : ∃ k', m' = k' + 1 := ⟨m' - 1, by omega⟩
    simp only [blkL] at h5 ⊢
    rw [addF_at hk]
    -- the instructions
    have hbase : (insL inp F call (f.blocks.getD a.toNat default).ins r s).2.1.fin ≠ 5 → ∃ q', q' = insL inp F' call' (if a.toNat = k then addB d w (f.blocks.getD k default) else f.blocks.getD a.toNat default).ins r' s' ∧ RelE (insL inp F call (f.blocks.getD a.toNat default).ins r s).2.1 q'.2.1 ∧ q'.2.2 = (insL inp F call (f.blocks.getD a.toNat default).ins r s).2.2 ∧
        ((insL inp F call (f.blocks.getD a.toNat default).ins r s).2.2 = false → (insL inp F call (f.blocks.getD a.toNat default).ins r s).2.1.fin = 0 ∧ Agr (endS (f.blocks.getD a.toNat default) ((liveL f).2.getD a.toNat default)) (insL inp F call (f.blocks.getD a.toNat default).ins r s).1 q'.1 ∧ q'.2.1.steps ≤ 2 * (insL inp F call (f.blocks.getD a.toNat default).ins r s).2.1.steps + 1) := by
      intro h6
      have hlt : ∀ t ∈ (f.blocks.getD a.toNat default).ins, TOk (endS (f.blocks.getD a.toNat default) ((liveL f).2.getD a.toNat default)).length t ∧ t.op ≠ 10 := fun t ht => by
        rw [endS_len, hOl]
        exact ⟨(hF.ok _ hb).1 t ht, hcall _ hb t ht⟩
      have hthr : ∀ {r'' : List Int}, Agr ((liveL f).1.getD a.toNat default) r r'' → Agr ((f.blocks.getD a.toNat default).ins.foldr aheadT (endS (f.blocks.getD a.toNat default) ((liveL f).2.getD a.toNat default))) r r'' := fun hq => hq.sub hc2
      by_cases e : a.toNat = k
      · rw [if_pos e]
        have hsl : s.steps < F := by
          rcases Int.lt_or_le s.steps F with h | h
          · exact h
          · exfalso
            apply h5
            cases hins : (f.blocks.getD a.toNat default).ins with
            | nil =>
              have e1 : insL inp F call [] r s = (r, s, false) := rfl
              rw [e1, if_neg (by simp), if_neg (show ¬ s.steps < F by omega)]; rfl
            | cons t ts =>
              have e1 : insL inp F call (t :: ts) r s = (r, s.stop 5, true) := by simp only [insL]; rw [if_neg (by omega)]
              rw [e1, if_pos rfl]; rfl
        have hlead : insL inp F' call' (addB d w (f.blocks.getD k default)).ins r' s' = insL inp F' call' (f.blocks.getD a.toNat default).ins (r'.set d.toNat w) s'.tick := by
          show insL inp F' call' (addT d w :: (f.blocks.getD k default).ins) r' s' = _
          simp only [insL]
          rw [if_pos (show s'.steps < F' by omega)]
          have e1 : oneS inp call' (addT d w) r' s'.tick = s'.tick := by simp [oneS, addT]
          have e2 : oneR inp (addT d w) r' s'.tick = r'.set d.toNat w := by simp [oneR, addT]
          rw [e1, e2, if_pos (show s'.tick.fin = 0 from hr.fin.trans h0), e]
        rw [hlead]
        have hag2 : Agr ((liveL f).1.getD a.toNat default) r (r'.set d.toNat w) := by
          refine ⟨by simp [hag.1], fun i hi => ?_⟩
          rw [getD_setI, hag.2 i hi, if_neg]
          rintro ⟨rfl, _⟩
          rw [e, hd] at hi; cases hi
        obtain ⟨q1, q2, q3⟩ := insL_agr (F := F) (F' := F') hFF hop _ _ _ _ _ hlt (hthr hag2) hr.tickR h0 (by show s'.steps + 1 ≤ _; omega) h6
        exact ⟨_, rfl, q1, q2, q3⟩
      · rw [if_neg e]
        obtain ⟨q1, q2, q3⟩ := insL_agr (F := F) (F' := F') hFF hop _ _ _ _ _ hlt (hthr hag) hr h0 (by omega) h6
        exact ⟨_, rfl, q1, q2, q3⟩
    have efin : (if a.toNat = k then addB d w (f.blocks.getD k default) else f.blocks.getD a.toNat default).fin = (f.blocks.getD a.toNat default).fin := by
      split
      · rename_i e; rw [e]; rfl
      · rfl
    have enx : ∀ r, nextB (if a.toNat = k then addB d w (f.blocks.getD k default) else f.blocks.getD a.toNat default) r = nextB (f.blocks.getD a.toNat default) r := fun r => by
      split
      · rename_i e; rw [e]; rfl
      · rfl
    have hmono : s.steps ≤ (insL inp F call (f.blocks.getD a.toNat default).ins r s).2.1.steps := insL_le _ _ _ (fun t ht ho => absurd ho (hcall _ hb t ht))
    have hmono' : s'.steps ≤ (insL inp F' call' (if a.toNat = k then addB d w (f.blocks.getD k default) else f.blocks.getD a.toNat default).ins r' s').2.1.steps := insL_le _ _ _ (fun t ht ho => by
      exfalso
      split at ht
      · rcases List.mem_cons.1 ht with rfl | ht
        · exact absurd ho (by show (1 : Int) ≠ 10; decide)
        · exact hcall _ (getD_mem hk) t ht ho
      · exact hcall _ hb t ht ho)
    have hgo := insL_go2 (inp := inp) (fuel := F) (call := call) (f.blocks.getD a.toNat default).ins r s h0
    rw [efin]
    generalize insL inp F call (f.blocks.getD a.toNat default).ins r s = q at *
    by_cases hfl : q.2.2 = true
    · rw [if_pos hfl] at h5
      obtain ⟨q', e1, q1, q2, q3⟩ := hbase h5
      rw [← e1, if_pos hfl, if_pos (q2.trans hfl)]
      exact q1
    · rw [if_neg hfl] at h5
      by_cases hst : q.2.1.steps < F
      · rw [if_pos hst] at h5
        have hfl0 : q.2.2 = false := by simpa using hfl
        have h6 : q.2.1.fin ≠ 5 := by have := hgo hfl0; omega
        obtain ⟨q', e1, q1, q2, q3⟩ := hbase h6
        rw [← e1] at hmono' ⊢
        obtain ⟨z1, z2, z3⟩ := q3 hfl0
        rw [if_neg hfl, if_neg (show ¬ q'.2.2 = true by rw [q2]; exact hfl), if_pos hst, if_pos (show q'.2.1.steps < F' by omega)]
        by_cases hf3 : (f.blocks.getD a.toNat default).fin = 3
        · rw [if_pos hf3, if_pos hf3]; exact q1.tick
        · rw [if_neg hf3] at h5
          rw [if_neg hf3, if_neg hf3, enx]
          have hno := nextB_agr z2 (by rw [hOl]; exact (hF.ok _ hb).2)
          rw [hno]
          have hmem := next_mem (r := q.1) (show (f.blocks.getD a.toNat default).fin = 1 ∨ (f.blocks.getD a.toNat default).fin = 2 by have := hends _ hb; omega)
          have hran := hF.nx _ hb _ hmem
          obtain ⟨j, hj, hje⟩ := mem_getD hmem
          have hnl : (nextL f).getD a.toNat default = follows (f.blocks.getD a.toNat default) := nextL_getD _ _
          rw [← hnl] at hj hje
          have hsub := hc1 j hj
          rw [hje] at hsub
          have t1 : q.2.1.tick.steps = q.2.1.steps + 1 := rfl
          have t2 : q'.2.1.tick.steps = q'.2.1.steps + 1 := rfl
          refine blkL_idle hF hends hcall hFF hop hk hd m _ _ _ _ _ k' hran.1 hran.2 (z2.sub (hsub.trans (fun i hi => (endS_get _ _ i).2 ⟨getD_lt hi, .inr hi⟩))) q1.tick z1 (by omega) (by omega) (by omega) (by omega) h5
      · rw [if_neg hst] at h5
        exact absurd rfl h5
end
theorem add_one {f : GFn} {k : Nat} {d w : Int} (h : oneB f 0 16 = true) (hk : k < f.blocks.length) (hd : 0 ≤ d ∧ d < f.regs) : oneB (addF f k d w) 0 16 = true := by
  unfold oneB at h ⊢
  rw [Bool.and_eq_true] at h ⊢
  obtain ⟨h1, h2⟩ := h
  have h1 := of_decide_eq_true h1
  have hlen : (addF f k d w).blocks.length = f.blocks.length := by simp [addF]
  refine ⟨decide_eq_true ⟨h1.1, h1.2.1, fun e => h1.2.2 (List.eq_nil_of_length_eq_zero (by rw [← hlen, e]; rfl))⟩, List.all_eq_true.2 fun b hb => ?_⟩
  rw [hlen]
  rw [List.all_eq_true] at h2
  rcases List.mem_or_eq_of_mem_set hb with hb | rfl
  · exact h2 b hb
  · have h3 := h2 _ (getD_mem hk)
    unfold blockB at h3 ⊢
    rw [Bool.and_eq_true] at h3 ⊢
    refine ⟨h3.1, ?_⟩
    show List.all (addT d w :: _) _ = true
    rw [List.all_cons, Bool.and_eq_true]
    refine ⟨?_, h3.2⟩
    refine decide_eq_true ⟨⟨by show (1 : Int) ≤ 1; decide, by show (1 : Int) ≤ 10; decide⟩, fun _ => withinB_iff.2 hd, fun u hu => by simp [usesT, addT] at hu, fun e => absurd e (by show ¬ (1 : Int) = 3; decide), fun e => absurd e (by show ¬ ((1 : Int) = 4 ∨ (1 : Int) = 5); decide), fun e => absurd e (by show ¬ ((1 : Int) = 6 ∨ (1 : Int) = 7); decide), fun e => absurd e (by show ¬ (1 : Int) = 10; decide), ?_⟩
    simp [addT, wantT, setsOp, usesT]
theorem alone_right {f : GFn} (h : oneB f 0 16 = true) : rightB (aloneP f) = true := by
  unfold rightB
  rw [Bool.and_eq_true]
  refine ⟨decide_eq_true ⟨by show (0 : Int) ≤ 16; decide, by show (16 : Int) ≤ 1048576; decide, by show [f] ≠ []; simp⟩, List.all_eq_true.2 fun i hi => ?_⟩
  have hi := List.mem_range.1 hi
  have : i = 0 := by have : (aloneP f).funcs.length = 1 := rfl; omega
  subst this
  exact h
theorem run_alone (f : GFn) (inp : ByteArray) (F : Int) : runS (aloneP f) inp F = blkL inp F (callF inp F [f] 0) f ((F - 0).toNat + 1) 0 (List.replicate f.regs.toNat 0) (rs0 (aloneP f)) := rfl
theorem idle_run {f : GFn} (h : S27 f) {k : Nat} {d w : Int} (hk : k < f.blocks.length) (hd0 : 0 ≤ d ∧ d < f.regs) (hd : ((liveL f).1.getD k default).getD d.toNat default = false) (inp : ByteArray) :
    runE (aloneP f) inp 200 = 5 ∨ (runE (aloneP f) inp 200 = runE (aloneP (addF f k d w)) inp 400 ∧ (runS (aloneP f) inp 200).out = (runS (aloneP (addF f k d w)) inp 400).out) := by
  by_cases h5 : (runS (aloneP f) inp 200).fin = 5
  · left; unfold runE; rw [if_neg (by omega)]; exact h5
  right
  obtain ⟨o1, o2⟩ := one_all h.one
  have hR : RelE (runS (aloneP f) inp 200) (runS (aloneP (addF f k d w)) inp 400) := by
    rw [run_alone] at h5 ⊢
    rw [run_alone]
    exact blkL_idle (F := 200) (F' := 400) h.lf (fun b hb => (follows_in (o2 b hb).1).2.2) (fun b hb t ht ho => by have := fits_call ((o2 b hb).2 t ht) ho; omega) (by decide)
      (fun t r s hn => by unfold oneS; repeat' split
                          all_goals first | rfl | exact absurd (by assumption) hn) hk hd _ _ _ _ _ _ _ (Int.le_refl _) (by have := h.pos; omega) (Agr.refl _ _) ⟨rfl, rfl, rfl, rfl⟩ rfl (by show (0 : Int) ≤ 200; decide) (by show (0 : Int) ≤ 2 * 0; decide) (by show (200 : Int) - 0 < _; simp) (by show (400 : Int) - 0 < _; simp) h5
  exact ⟨by unfold runE; rw [hR.fin], hR.out.symm⟩
theorem eBlock_ins (b : GBlock) (l : List GTac) : eBlock { b with ins := l } = splice (eBlock b) 0 [.sl 8 (l.map eTac)] := rfl
theorem alone_run {f : GFn} (h : S27 f) (hn : ∀ b ∈ f.blocks, ∀ t ∈ b.ins, isW t.n) : RunOk (aloneP f) := ⟨alone_right h.one, fun g hg => by simp [aloneP] at hg; subst hg; exact hn⟩
theorem add_run {f : GFn} (h : S27 f) (hn : ∀ b ∈ f.blocks, ∀ t ∈ b.ins, isW t.n) {k : Nat} (hk : k < f.blocks.length) {d w : Int} (hd : 0 ≤ d ∧ d < f.regs) (hw : isW w) : RunOk (aloneP (addF f k d w)) := ⟨alone_right (add_one h.one hk hd), fun g hg => by
  simp [aloneP] at hg; subst hg
  intro b hb t ht
  rcases List.mem_or_eq_of_mem_set hb with hb | rfl
  · exact hn b hb t ht
  · rcases List.mem_cons.1 ht with rfl | ht
    · exact hw
    · exact hn _ (getD_mem hk) t ht⟩
theorem alone_each {f : GFn} (h : S27 f) : ∀ g ∈ (aloneP f).funcs, g.blocks.length ≤ 1000000 ∧ ∀ b ∈ g.blocks, b.ins.length ≤ 1000000 := fun g hg => by
  simp [aloneP] at hg; subst hg
  exact ⟨by have := h.len; omega, fun b hb => by have := h.ins b hb; omega⟩
theorem add_each {f : GFn} (h : S27 f) {k : Nat} (hk : k < f.blocks.length) {d w : Int} : ∀ g ∈ (aloneP (addF f k d w)).funcs, g.blocks.length ≤ 1000000 ∧ ∀ b ∈ g.blocks, b.ins.length ≤ 1000000 := fun g hg => by
  simp [aloneP] at hg; subst hg
  refine ⟨by have := h.len; simp [addF]; omega, fun b hb => ?_⟩
  rcases List.mem_or_eq_of_mem_set hb with hb | rfl
  · have := h.ins b hb; omega
  · have := h.ins _ (getD_mem hk)
    show (addT d w :: (f.blocks.getD k default).ins).length ≤ _
    simp only [List.length_cons]; omega
end Lg
end Go.Proofs.Ytpfhmodjjljpjaa

namespace Go.Proofs.Ytpfhmodjjljpjaa
open Go.RowKit
namespace Lg
section
variable {P : Program} {N b : Nat} {o : Oper} {st : St} (D : Tab P)
theorem T_ixA {t i n len e m : Nat} {x y : Operand} {k : IntKind} {j : Int} {ety : TyI} (ho : o.op = .indexAddr t x y) (hx : st.ev x = some (.p i n)) (hy : st.ev y = some (.v (.int k j))) (hu : P.underlying t = some (.array len e)) (he : D.get e = some ety) (hs : ety.size = 1) (h0 : 0 ≤ j) (h1 : j < (len : Int)) (hm : n + j.toNat = m) :
    T P N o b [] st (.p i m) 0 [] := by
  subst hm
  intro w0 M U ρ own st' a w hev hp hfr fr hr
  obtain ⟨hv, hu1⟩ := fr.eval ((hev x (by simp [ho, Op.operands])).trans hx)
  obtain ⟨hv2, _⟩ := fr.eval ((hev y (by simp [ho, Op.operands])).trans hy)
  obtain ⟨ad, had⟩ := hu1.2
  have hpv : a.eval x = .pointer (some (ad.add n)) := by rw [hv]; simp [LV.val, ptrOf, had]
  have hrun : (execOp a.eval o).run P w = .ok (.value (.pointer (some (ad.add (n + j.toNat))))) w := by
    simp only [execOp, ho, hpv, hv2, LV.val]
    rw [Sem.run_bind]
    have : (Instr.indexAt t (.pointer (some (ad.add n))) (.int k j)).run P w = .ok (.pointer (some ((ad.add n).add (j.toNat * 1)))) w := by
      simp only [Instr.indexAt, asIntOf, Instr.sureAddr, Sem.run_bind, Sem.run_pure, Result.andThen_ok, run_underlying hu, if_pos (And.intro h0 h1), (D.ok _ ety he).sizeOf, hs]
    rw [this, Nat.mul_one, add_add]
    rfl
  exact does_value hrun ⟨ρ, own, by simp [LV.val, ptrOf, had], fun _ _ => rfl, ⟨.inl hu1.1, hu1.2⟩, hr.mono (fun i hi => .inl hi)⟩
end
end Lg
end Go.Proofs.Ytpfhmodjjljpjaa

namespace Go.Proofs.Ytpfhmodjjljpjaa
open Go.RowKit
namespace Lg
set_option linter.unusedSimpArgs false
set_option linter.unusedVariables false
theorem T_eqS {P : Program} {N b : Nat} {o : Oper} {st : St} {t t' : TypeId} {x y : Operand} {u v : ByteArray} (ho : o.op = .binOp .eql t x y t') (hx : st.ev x = some (.v (.string u))) (hy : st.ev y = some (.v (.string v))) : T P N o b [] st (.v (.bool (u.toList == v.toList))) 0 [] :=
  T_bin ho hx hy (fun w => by simp [eqGuard, binOp, Op.stringOp])
end Lg
end Go.Proofs.Ytpfhmodjjljpjaa

namespace Go.Proofs.Ytpfhmodjjljpjaa
end Go.Proofs.Ytpfhmodjjljpjaa

namespace Go.Proofs.Ytpfhmodjjljpjaa
open Go.RowKit
namespace Lg
set_option maxRecDepth 100000
set_option linter.unusedVariables false
set_option linter.unusedSimpArgs false
theorem body20 : (Try.prog.funcs[20]?).map (fun fn => (fn.name == "runtime.NumGoroutine" || fn.body.isNone)) = some false := by kernel_rfl
theorem law20 (f : GFn) (w y z : Int) (hf : FnOk f) (hn : ∀ b ∈ f.blocks, ∀ t ∈ b.ins, isW t.n) (hw : 0 ≤ w ∧ w < 4294967296) (hy : 0 ≤ y ∧ y < 256) (hz : 0 ≤ z ∧ z < 256) : Spec Try.prog 20 [.agg [.v (.int .i64 f.regs), .r 1], .v (.int .u32 w), .agg [.v (.int .u8 y), .v (.int .u8 z)]] 2 [(1, .fz 5 (f.blocks.map eBlock))] (.v (.bool true)) 2 [] := by
 refine spec_of D (fn := Try.f20) rfl rfl (Nat.le_of_ble_eq_true rfl) ?_
 refine W_seq ?_
 refine W_seqK (b' := 50) rfl rfl ?_
 refine q1 3 2 1 rfl rfl (T_box rfl rfl flat_agg) rfl ?_
 refine q1 5 18 2 rfl rfl (T_box rfl rfl flat_agg) rfl ?_
 refine q0 6 34 3 rfl rfl (T_assign rfl rfl) rfl ?_
 refine k_done rfl ?_
 refine thenK_n ?_
 refine W_seq ?_
 refine W_seq ?_
 refine W_seqK (b' := 274) rfl rfl ?_
 refine q0 13 50 1 rfl rfl (T_load_bA D (l := [_, _]) rfl rfl rfl rfl rfl rfl rfl) rfl ?_
 refine q0 14 66 2 rfl rfl (T_callV (lvs := [_, _, _]) (L := [(1, 1)]) (small27_spec f 12 60 hf (by omega) (by omega)) body48 rfl rfl rfl rfl (.fz rfl (.nil)) rfl) rfl ?_
 refine q0 15 82 3 rfl rfl (T_not rfl rfl) rfl ?_
 refine q0 16 98 4 rfl rfl (T_move rfl rfl) rfl ?_
 refine k_split (d := 16) rfl (fun g1 => ?_) (fun g1 => ?_)
 ·have h1 := g1; (try simp only [cmpB, decide_eq_true_eq, decide_eq_false_iff_not, beq_iff_eq, beq_eq_false_iff_ne, bne_iff_ne, ne_eq, bne_eq_false_iff_eq, Bool.not_eq_true', Bool.not_eq_false', Int.not_lt, Int.not_le] at h1)
  refine k_no (d := 17) (j' := 5) rfl rfl rfl (g_ft rfl rfl rfl g1) ?_
  refine k_no (d := 18) (j' := 6) rfl rfl rfl (g_ft rfl rfl rfl g1) ?_
  refine k_no (d := 19) (j' := 7) rfl rfl rfl (g_ft rfl rfl rfl g1) ?_
  refine k_no (d := 20) (j' := 8) rfl rfl rfl (g_ft rfl rfl rfl g1) ?_
  refine q0 21 178 9 rfl rfl (T_pick_t rfl rfl rfl g1) rfl ?_
  refine q0 22 194 10 rfl rfl (T_move rfl rfl) rfl ?_
  refine k_no (d := 23) (j' := 11) rfl rfl rfl (g_ft rfl rfl rfl rfl) ?_
  refine k_no (d := 24) (j' := 12) rfl rfl rfl (g_ft rfl rfl rfl rfl) ?_
  refine k_no (d := 25) (j' := 13) rfl rfl rfl (g_ft rfl rfl rfl rfl) ?_
  refine q0 26 258 14 rfl rfl (T_pick_t rfl rfl rfl rfl) rfl ?_
  refine k_done rfl ?_
  refine thenK_n ?_
  refine W_cond rfl (fun g2 => ?_) (fun g2 => ?_)
  ·skip
   refine W_seq ?_
   refine W_seqK (b' := 306) rfl rfl ?_
   refine q0 27 274 1 rfl rfl (T_callV (lvs := []) (L := []) (awake27_spec) body49 rfl rfl rfl rfl (.nil) rfl) rfl ?_
   refine q0 6 290 2 rfl rfl (T_assign rfl rfl) rfl ?_
   refine k_done rfl ?_
   refine thenK_n ?_
   refine W_ret ?_
   refine thenK_r ?_
   exact .mk [] (.inr rfl) (.tmp rfl (.nil)) (by first | rfl | (exact absurd ((live_sized (by assumption : small27 f 12 60 = true)).symm.trans (by assumption : _ = false)) (by decide)) | (have q := idle_run (w := w) hS hk hDi (by assumption) (⟨#[0, 97]⟩ : ByteArray); rcases q with q | ⟨q1, q2⟩; (exfalso; omega); (rw [q2]; simp [resLV, LV.ren]; done)) | (have q := idle_run (w := w) hS hk hDi (by assumption) (⟨#[0, 97]⟩ : ByteArray); exfalso; rcases q with q | ⟨q1, q2⟩ <;> omega)) (.nil) rfl
  ·exact absurd (g2.symm.trans rfl) (by decide)
 ·have h1 := g1; (try simp only [cmpB, decide_eq_true_eq, decide_eq_false_iff_not, beq_iff_eq, beq_eq_false_iff_ne, bne_iff_ne, ne_eq, bne_eq_false_iff_eq, Bool.not_eq_true', Bool.not_eq_false', Int.not_lt, Int.not_le] at h1)
  refine k_op0 (d := 17) (b := 114) (j' := 5) rfl rfl rfl rfl (g_ff rfl rfl rfl g1) (T_fa D (m := 1) rfl rfl rfl rfl rfl rfl) rfl ?_
  refine k_op0 (d := 18) (b := 130) (j' := 6) rfl rfl rfl rfl (g_ff rfl rfl rfl g1) (T_load_b D rfl rfl rfl rfl rfl rfl) rfl ?_
  refine k_op0 (d := 19) (b := 146) (j' := 7) rfl rfl rfl rfl (g_ff rfl rfl rfl g1) (T_len D rfl rfl rfl rfl rfl rfl) rfl ?_
  refine k_op0 (d := 20) (b := 162) (j' := 8) rfl rfl rfl rfl (g_ff rfl rfl rfl g1) (T_cmp rfl rfl rfl rfl) rfl ?_
  refine q0 21 178 9 rfl rfl (T_pick_f rfl rfl rfl g1) rfl ?_
  refine q0 22 194 10 rfl rfl (T_move rfl rfl) rfl ?_
  refine k_split (d := 22) rfl (fun g3 => ?_) (fun g3 => ?_)
  ·have h3 := c_eql_t g3
   refine k_no (d := 23) (j' := 11) rfl rfl rfl (g_ft rfl rfl rfl g3) ?_
   refine k_no (d := 24) (j' := 12) rfl rfl rfl (g_ft rfl rfl rfl g3) ?_
   refine k_no (d := 25) (j' := 13) rfl rfl rfl (g_ft rfl rfl rfl g3) ?_
   refine q0 26 258 14 rfl rfl (T_pick_t rfl rfl rfl g3) rfl ?_
   refine k_done rfl ?_
   refine thenK_n ?_
   refine W_cond rfl (fun g4 => ?_) (fun g4 => ?_)
   ·skip
    refine W_seq ?_
    refine W_seqK (b' := 306) rfl rfl ?_
    refine q0 27 274 1 rfl rfl (T_callV (lvs := []) (L := []) (awake27_spec) body49 rfl rfl rfl rfl (.nil) rfl) rfl ?_
    refine q0 6 290 2 rfl rfl (T_assign rfl rfl) rfl ?_
    refine k_done rfl ?_
    refine thenK_n ?_
    refine W_ret ?_
    refine thenK_r ?_
    exact .mk [] (.inr rfl) (.tmp rfl (.nil)) (by first | rfl | (exact absurd ((live_sized (by assumption : small27 f 12 60 = true)).symm.trans (by assumption : _ = false)) (by decide)) | (have q := idle_run (w := w) hS hk hDi (by assumption) (⟨#[0, 97]⟩ : ByteArray); rcases q with q | ⟨q1, q2⟩; (exfalso; omega); (rw [q2]; simp [resLV, LV.ren]; done)) | (have q := idle_run (w := w) hS hk hDi (by assumption) (⟨#[0, 97]⟩ : ByteArray); exfalso; rcases q with q | ⟨q1, q2⟩ <;> omega)) (.nil) rfl
   ·exact absurd (g4.symm.trans rfl) (by decide)
  ·have h3 := c_eql_f g3
   refine k_op0 (d := 23) (b := 210) (j' := 11) rfl rfl rfl rfl (g_ff rfl rfl rfl g3) (T_fa D (m := 0) rfl rfl rfl rfl rfl rfl) rfl ?_
   refine k_op0 (d := 24) (b := 226) (j' := 12) rfl rfl rfl rfl (g_ff rfl rfl rfl g3) (T_load_b D rfl rfl rfl rfl rfl rfl) rfl ?_
   refine k_op0 (d := 25) (b := 242) (j' := 13) rfl rfl rfl rfl (g_ff rfl rfl rfl g3) (T_cmp rfl rfl rfl rfl) rfl ?_
   refine q0 26 258 14 rfl rfl (T_pick_f rfl rfl rfl g3) rfl ?_
   refine k_done rfl ?_
   refine thenK_n ?_
   refine W_cond rfl (fun g5 => ?_) (fun g5 => ?_)
   ·have h5 := c_eql_t g5
    refine W_seq ?_
    refine W_seqK (b' := 306) rfl rfl ?_
    refine q0 27 274 1 rfl rfl (T_callV (lvs := []) (L := []) (awake27_spec) body49 rfl rfl rfl rfl (.nil) rfl) rfl ?_
    refine q0 6 290 2 rfl rfl (T_assign rfl rfl) rfl ?_
    refine k_done rfl ?_
    refine thenK_n ?_
    refine W_ret ?_
    refine thenK_r ?_
    exact .mk [] (.inr rfl) (.tmp rfl (.nil)) (by first | rfl | (exact absurd ((live_sized (by assumption : small27 f 12 60 = true)).symm.trans (by assumption : _ = false)) (by decide)) | (have q := idle_run (w := w) hS hk hDi (by assumption) (⟨#[0, 97]⟩ : ByteArray); rcases q with q | ⟨q1, q2⟩; (exfalso; omega); (rw [q2]; simp [resLV, LV.ren]; done)) | (have q := idle_run (w := w) hS hk hDi (by assumption) (⟨#[0, 97]⟩ : ByteArray); exfalso; rcases q with q | ⟨q1, q2⟩ <;> omega)) (.nil) rfl
   ·have h5 := c_eql_f g5
    refine W_skip ?_
    refine thenK_n ?_
    refine W_seq ?_
    refine W_seqK (b' := 338) rfl rfl ?_
    refine q0 28 274 1 rfl rfl (T_load_bA D (l := [_, _]) rfl rfl rfl rfl rfl rfl rfl) rfl ?_
    refine qn 29 290 2 rfl rfl (T_call (lvs := [_]) (L := [(1, 1)]) (lv := .agg [.r 290, .r 291]) (upd := [(290, .fz 1 _), (291, .fz 1 _)]) (nn := 2) false (live_spec f (small_lf (by assumption : small27 f 12 60 = true))) body50 rfl rfl rfl rfl (.fz rfl (.nil)) rfl (.inl rfl) rfl rfl rfl) rfl ?_
    refine qn 7 306 3 rfl rfl (T_nilbox [(48, 1), (48, 1)] (T_alloc D rfl rfl rfl) rfl (.cons (.nil rfl) <| .cons (.nil rfl) <| .nil) (upd' := [(306, .box 57 [.r 307, .r 308]), (307, .row 48 1 (List.map eBs ([] : List (List Bool)))), (308, .row 48 1 (List.map eBs ([] : List (List Bool))))]) (nn' := 3) rfl rfl) rfl ?_
    refine s1 322 4 rfl rfl (T_stB D (cs' := [_, _]) rfl rfl rfl rfl flat_agg rfl rfl (Nat.le_of_ble_eq_true rfl) rfl) rfl ?_
    refine k_done rfl ?_
    refine thenK_n ?_
    refine W_seq ?_
    have hS := s27 (by assumption : small27 f 12 60 = true)
    have hSl := hS.len
    have hSr := hS.regs
    have hSp := hS.pos
    refine W_anyK (b' := 578) rfl rfl rfl ?_
    refine q0 30 338 1 rfl rfl (T_ixA D (m := 0) rfl rfl rfl Try.underlying53 rfl rfl (by decide) (by decide) rfl) rfl ?_
    refine q0 31 354 2 rfl rfl (T_load_b D rfl rfl rfl rfl rfl rfl) rfl ?_
    refine q0 32 370 3 rfl rfl (T_conv64 rfl rfl (by rw [Try.underlying5]; rfl) (by first | assumption | omega | (simp only [List.length_cons, List.length_nil]; omega) | (simp; omega))) rfl ?_
    refine q0 33 386 4 rfl rfl (T_fa D (m := 1) rfl rfl rfl rfl rfl rfl) rfl ?_
    refine q0 34 402 5 rfl rfl (T_load_b D rfl rfl rfl rfl rfl rfl) rfl ?_
    refine q0 35 418 6 rfl rfl (T_len D rfl rfl rfl rfl rfl rfl) rfl ?_
    refine q0 36 434 7 rfl rfl (T_remU rfl rfl rfl (by first | omega | simp; omega)) rfl ?_
    refine q0 37 450 8 rfl rfl (T_ixA D (m := 1) rfl rfl rfl Try.underlying53 rfl rfl (by decide) (by decide) rfl) rfl ?_
    refine q0 38 466 9 rfl rfl (T_load_b D rfl rfl rfl rfl rfl rfl) rfl ?_
    refine q0 39 482 10 rfl rfl (T_conv64 rfl rfl (by rw [Try.underlying5]; rfl) (by first | assumption | omega | (simp only [List.length_cons, List.length_nil]; omega) | (simp; omega))) rfl ?_
    refine q0 40 498 11 rfl rfl (T_fa D (m := 0) rfl rfl rfl rfl rfl rfl) rfl ?_
    refine q0 41 514 12 rfl rfl (T_load_b D rfl rfl rfl rfl rfl rfl) rfl ?_
    refine q0 42 530 13 rfl rfl (T_remU rfl rfl rfl (by first | omega | simp; omega)) rfl ?_
    refine q0 8 546 14 rfl rfl (T_assign rfl rfl) rfl ?_
    refine q0 9 562 15 rfl rfl (T_assign rfl rfl) rfl ?_
    refine k_done rfl ?_
    refine ⟨rfl, ?_⟩
    refine thenK_n ?_
    refine W_seq ?_
    refine W_seq ?_
    have hKi : 0 ≤ (y % (f.blocks.length : Int)) ∧ (y % (f.blocks.length : Int)) < (f.blocks.length : Int) := ⟨Int.emod_nonneg _ (by omega), Int.emod_lt_of_pos _ (by omega)⟩
    have hDi : 0 ≤ (z % f.regs) ∧ (z % f.regs) < f.regs := ⟨Int.emod_nonneg _ (by omega), Int.emod_lt_of_pos _ (by omega)⟩
    have hk : (y % (f.blocks.length : Int)).toNat < f.blocks.length := by omega
    have hLiy := (live_sz f).i.at hk
    have hLi := (live_sz f).i.len
    have hLo := (live_sz f).o.len
    have hib := hS.ins (f.blocks.getD (y % (f.blocks.length : Int)).toNat default) (getD_mem hk)
    refine W_seqK (b' := 642) rfl rfl ?_
    refine q0 43 578 1 rfl rfl (T_load_bA D (l := [_, _]) rfl rfl rfl rfl rfl rfl rfl) rfl ?_
    refine q0 44 594 2 rfl rfl (T_load_bA D (l := [_, _]) rfl rfl rfl rfl rfl rfl rfl) rfl ?_
    refine q0 45 610 3 rfl rfl (T_callV (lvs := [_, _]) (L := [(1, 1), (2, 290), (3, 291)]) (rSized_spec f (liveL f).1 (liveL f).2 (by have := live_len1 (by assumption : small27 f 12 60 = true); omega) (by have := live_len2 (by assumption : small27 f 12 60 = true); omega)) body56 rfl rfl rfl rfl (.fz rfl (.fz rfl (.fz rfl (.nil)))) rfl) rfl ?_
    refine q0 46 626 4 rfl rfl (T_not rfl rfl) rfl ?_
    refine k_done rfl ?_
    refine thenK_n ?_
    refine W_cond rfl (fun g6 => ?_) (fun g6 => ?_)
    ·have h6 := g6; (try simp only [cmpB, decide_eq_true_eq, decide_eq_false_iff_not, beq_iff_eq, beq_eq_false_iff_ne, bne_iff_ne, ne_eq, bne_eq_false_iff_eq, Bool.not_eq_true', Bool.not_eq_false', Int.not_lt, Int.not_le] at h6)
     refine W_seq ?_
     refine W_seqK (b' := 658) rfl rfl ?_
     refine q0 6 642 1 rfl rfl (T_assign rfl rfl) rfl ?_
     refine k_done rfl ?_
     refine thenK_n ?_
     refine W_ret ?_
     refine thenK_r ?_
     exact .mk [] (.inr rfl) (.tmp rfl (.nil)) (by first | rfl | (exact absurd ((live_sized (by assumption : small27 f 12 60 = true)).symm.trans (by assumption : _ = false)) (by decide)) | (have q := idle_run (w := w) hS hk hDi (by assumption) (⟨#[0, 97]⟩ : ByteArray); rcases q with q | ⟨q1, q2⟩; (exfalso; omega); (rw [q2]; simp [resLV, LV.ren]; done)) | (have q := idle_run (w := w) hS hk hDi (by assumption) (⟨#[0, 97]⟩ : ByteArray); exfalso; rcases q with q | ⟨q1, q2⟩ <;> omega)) (.nil) rfl
    ·have h6 := g6; (try simp only [cmpB, decide_eq_true_eq, decide_eq_false_iff_not, beq_iff_eq, beq_eq_false_iff_ne, bne_iff_ne, ne_eq, bne_eq_false_iff_eq, Bool.not_eq_true', Bool.not_eq_false', Int.not_lt, Int.not_le] at h6)
     refine W_skip ?_
     refine thenK_n ?_
     refine W_seq ?_
     refine W_seq ?_
     refine W_seqK (b' := 770) rfl rfl ?_
     refine q0 47 642 1 rfl rfl (T_fa D (m := 0) rfl rfl rfl rfl rfl rfl) rfl ?_
     refine q0 48 658 2 rfl rfl (T_load_b D rfl rfl rfl rfl rfl rfl) rfl ?_
     refine q0 49 674 3 rfl rfl (T_move rfl rfl) rfl ?_
     first | refine q0 50 690 4 rfl rfl (T_indexAddr D rfl rfl rfl rfl rfl rfl rfl rfl (by first | assumption | omega | (simp only [List.length_cons, List.length_nil]; omega) | (simp; omega))) rfl ?_ | refine q0 50 690 4 rfl rfl (T_indexAddrZ D rfl rfl rfl rfl rfl rfl rfl rfl (by first | assumption | omega | (simp only [List.length_cons, List.length_nil]; omega) | (simp; omega)) (by first | assumption | omega | (simp only [List.length_cons, List.length_nil]; omega) | (simp; omega))) rfl ?_
     refine q1 51 706 5 rfl rfl (T_ldE D (lv := .r 706) (nn := 1) (upd := [(706, .fz 1 _)]) rfl rfl rfl rfl rfl (by first | assumption | omega | (simp only [List.length_cons, List.length_nil]; omega) | (simp; omega)) rfl rfl rfl rfl) rfl ?_
     refine q0 52 722 6 rfl rfl (T_move rfl rfl) rfl ?_
     first | refine q0 53 738 7 rfl rfl (T_indexAddr D rfl rfl rfl rfl rfl rfl rfl rfl (by first | assumption | omega | (simp only [List.length_cons, List.length_nil]; omega) | (simp; omega))) rfl ?_ | refine q0 53 738 7 rfl rfl (T_indexAddrZ D rfl rfl rfl rfl rfl rfl rfl rfl (by first | assumption | omega | (simp only [List.length_cons, List.length_nil]; omega) | (simp; omega)) (by first | assumption | omega | (simp only [List.length_cons, List.length_nil]; omega) | (simp; omega))) rfl ?_
     refine q0 54 754 8 rfl rfl (T_ldE D (lv := .v _) (nn := 0) (upd := []) rfl rfl rfl rfl rfl (by first | assumption | omega | (simp only [List.length_cons, List.length_nil]; omega) | (simp; omega)) rfl rfl rfl rfl) rfl ?_
     refine k_done rfl ?_
     refine thenK_n ?_
     refine W_cond rfl (fun g7 => ?_) (fun g7 => ?_)
     ·have h7 := g7; (try simp only [cmpB, decide_eq_true_eq, decide_eq_false_iff_not, beq_iff_eq, beq_eq_false_iff_ne, bne_iff_ne, ne_eq, bne_eq_false_iff_eq, Bool.not_eq_true', Bool.not_eq_false', Int.not_lt, Int.not_le] at h7)
      refine W_seq ?_
      refine W_seqK (b' := 802) rfl rfl ?_
      refine q0 55 770 1 rfl rfl (T_callV (lvs := []) (L := []) (awake27_spec) body49 rfl rfl rfl rfl (.nil) rfl) rfl ?_
      refine q0 6 786 2 rfl rfl (T_assign rfl rfl) rfl ?_
      refine k_done rfl ?_
      refine thenK_n ?_
      refine W_ret ?_
      refine thenK_r ?_
      exact .mk [] (.inr rfl) (.tmp rfl (.nil)) (by first | rfl | (exact absurd ((live_sized (by assumption : small27 f 12 60 = true)).symm.trans (by assumption : _ = false)) (by decide)) | (have q := idle_run (w := w) hS hk hDi (by assumption) (⟨#[0, 97]⟩ : ByteArray); rcases q with q | ⟨q1, q2⟩; (exfalso; omega); (rw [q2]; simp [resLV, LV.ren]; done)) | (have q := idle_run (w := w) hS hk hDi (by assumption) (⟨#[0, 97]⟩ : ByteArray); exfalso; rcases q with q | ⟨q1, q2⟩ <;> omega)) (.nil) rfl
     ·have h7 := g7; (try simp only [cmpB, decide_eq_true_eq, decide_eq_false_iff_not, beq_iff_eq, beq_eq_false_iff_ne, bne_iff_ne, ne_eq, bne_eq_false_iff_eq, Bool.not_eq_true', Bool.not_eq_false', Int.not_lt, Int.not_le] at h7)
      refine W_skip ?_
      refine thenK_n ?_
      refine W_seq ?_
      refine W_anyK (b' := 914) rfl rfl rfl ?_
      refine q0 56 770 1 rfl rfl (T_fa D (m := 0) rfl rfl rfl rfl rfl rfl) rfl ?_
      refine q0 57 786 2 rfl rfl (T_load_b D rfl rfl rfl rfl rfl rfl) rfl ?_
      refine q1 58 802 3 rfl rfl (T_bs D (ys := []) (enc := eBlock) (l := []) rfl rfl rfl rfl rfl rfl (.nil) rfl rfl rfl rfl (.nil) rfl rfl) rfl ?_
      refine q0 59 818 4 rfl rfl (T_fa D (m := 1) rfl rfl rfl rfl rfl rfl) rfl ?_
      refine q0 60 834 5 rfl rfl (T_load_b D rfl rfl rfl rfl rfl rfl) rfl ?_
      refine qn 61 850 6 rfl rfl (T_append D rfl rfl rfl rfl rfl rfl rfl rfl rfl rfl rfl rfl (by (try simp only [ty72]); first | assumption | omega | (simp only [List.length_cons, List.length_nil]; omega) | (simp; omega)) (by (try simp only [ty72]); first | assumption | omega | (simp only [List.length_cons, List.length_nil]; omega) | (simp; omega))) rfl ?_
      refine q0 62 866 7 rfl rfl (T_build D (l := [_, _]) rfl rfl rfl rfl (.cons rfl (flat_v rfl) (.cons rfl (flat_sl rfl) (.nil))) rfl rfl) rfl ?_
      refine qn 10 882 8 rfl rfl (T_nilbox [(72, 5)] (T_alloc D rfl rfl rfl) rfl (.cons (.same _) <| .cons (.nil rfl) <| .nil) (upd' := [(882, .box 29 [.v (.int .i64 0), .r 883]), (883, .row 72 5 (List.map eBlock ([] : List (GBlock))))]) (nn' := 2) rfl rfl) rfl ?_
      refine s1 898 9 rfl rfl (T_stB D (cs' := [_, _]) rfl rfl rfl rfl flat_agg rfl rfl (Nat.le_of_ble_eq_true rfl) rfl) rfl ?_
      refine k_done rfl ?_
      refine ⟨rfl, ?_⟩
      refine thenK_n ?_
      refine W_seq ?_
      refine W_anyK (b' := 1186) rfl rfl rfl ?_
      refine q0 63 914 1 rfl rfl (T_fa D (m := 1) rfl rfl rfl rfl rfl rfl) rfl ?_
      refine q0 64 930 2 rfl rfl (T_load_b D rfl rfl rfl rfl rfl rfl) rfl ?_
      refine q0 65 946 3 rfl rfl (T_move rfl rfl) rfl ?_
      refine q0 66 962 4 rfl rfl (T_move rfl rfl) rfl ?_
      refine q0 67 978 5 rfl rfl (T_move rfl rfl) rfl ?_
      refine q0 68 994 6 rfl rfl (T_build D (l := [_, _, _, _, _, _, _, _]) rfl rfl rfl rfl (.cons rfl (flat_v rfl) (.cons rfl (flat_v rfl) (.cons rfl (flat_v rfl) (.nil)))) rfl rfl) rfl ?_
      refine q1 69 1010 7 rfl rfl (T_bs D (ys := [⟨_, _, _, _, _, _, _, _⟩]) (enc := eTac) (l := [_, _, _, _, _, _, _, _]) rfl rfl rfl rfl rfl rfl (.cons rfl flat_agg (.nil)) rfl rfl rfl rfl (.v rfl (.v rfl (.v rfl (.v rfl (.v rfl (.v rfl (.v rfl (.v rfl (.nil))))))))) rfl rfl) rfl ?_
      refine q0 70 1026 8 rfl rfl (T_fa D (m := 1) rfl rfl rfl rfl rfl rfl) rfl ?_
      refine q0 71 1042 9 rfl rfl (T_load_b D rfl rfl rfl rfl rfl rfl) rfl ?_
      refine q0 72 1058 10 rfl rfl (T_move rfl rfl) rfl ?_
      first | refine q0 73 1074 11 rfl rfl (T_indexAddr D rfl rfl rfl rfl rfl rfl rfl rfl (by first | assumption | omega | (simp only [List.length_cons, List.length_nil]; omega) | (simp; omega))) rfl ?_ | refine q0 73 1074 11 rfl rfl (T_indexAddrZ D rfl rfl rfl rfl rfl rfl rfl rfl (by first | assumption | omega | (simp only [List.length_cons, List.length_nil]; omega) | (simp; omega)) (by first | assumption | omega | (simp only [List.length_cons, List.length_nil]; omega) | (simp; omega))) rfl ?_
      refine q0 74 1090 12 rfl rfl (T_fae D (m := 0) rfl rfl rfl rfl rfl rfl) rfl ?_
      refine q1 75 1106 13 rfl rfl (T_ldE D (lv := .r 1106) (nn := 1) (upd := [(1106, .fz 8 _)]) rfl rfl rfl rfl rfl (by first | assumption | omega | (simp only [List.length_cons, List.length_nil]; omega) | (simp; omega)) rfl rfl rfl rfl) rfl ?_
      refine qn 76 1122 14 rfl rfl (T_append D rfl rfl rfl rfl rfl rfl rfl rfl rfl rfl rfl rfl (by (try simp only [ty70]); first | assumption | omega | (simp only [List.length_cons, List.length_nil]; omega) | (simp; omega)) (by (try simp only [ty70]); first | assumption | omega | (simp only [List.length_cons, List.length_nil]; omega) | (simp; omega))) rfl ?_
      first | refine q0 77 1138 15 rfl rfl (T_indexAddr D rfl rfl rfl rfl rfl rfl rfl rfl (by first | assumption | omega | (simp only [List.length_cons, List.length_nil]; omega) | (simp; omega))) rfl ?_ | refine q0 77 1138 15 rfl rfl (T_indexAddrZ D rfl rfl rfl rfl rfl rfl rfl rfl (by first | assumption | omega | (simp only [List.length_cons, List.length_nil]; omega) | (simp; omega)) (by first | assumption | omega | (simp only [List.length_cons, List.length_nil]; omega) | (simp; omega))) rfl ?_
      refine q0 78 1154 16 rfl rfl (T_fae D (m := 0) rfl rfl rfl rfl rfl rfl) rfl ?_
      refine sn 1170 17 rfl rfl (T_store_e D (z := (addB (z % f.regs) w (f.blocks.getD (y % (f.blocks.length : Int)).toNat default))) rfl rfl rfl rfl (flat_sl rfl) rfl rfl (by first | assumption | omega | (simp only [List.length_cons, List.length_nil]; omega) | (simp; omega)) (.row rfl (.nil) (by rfl)) rfl (Nat.le_of_ble_eq_true rfl) (eBlock_ins _ _)) rfl ?_
      refine k_done rfl ?_
      refine ⟨rfl, ?_⟩
      refine thenK_n ?_
      refine W_seq ?_
      refine W_seqK (b' := 1266) rfl rfl ?_
      refine q0 79 1186 1 rfl rfl (T_load_bA D (l := [_, _]) rfl rfl rfl rfl rfl rfl rfl) rfl ?_
      refine q1 80 1202 2 rfl rfl (T_call (lvs := [_]) (L := [(1, 1)]) (lv := .agg [.v _, .r 1202]) (upd := [(1202, .row 29 2 _)]) (nn := 1) false (alone_spec f) body62 rfl rfl rfl rfl (.fz rfl (.nil)) rfl (.inl rfl) rfl rfl rfl) rfl ?_
      refine q1 81 1218 3 rfl rfl (T_call (lvs := [_, _, _]) (L := [(1, 1202)]) (lv := .agg [.v _, .v _, .v _]) (upd := [(1202, .fz 2 _)]) (nn := 0) false (runs_spec (aloneP f) (⟨#[0, 97]⟩ : ByteArray) 200 (alone_run hS hn) (by decide) (by decide) (by decide) (alone_each hS) (by show 1 ≤ 1000000; decide)) body36 rfl rfl rfl rfl (.lend rfl (.nil)) rfl (.inl rfl) rfl rfl rfl) rfl ?_
      refine q1 11 1234 4 rfl rfl (T_alloc D rfl rfl rfl) rfl ?_
      refine s1 1250 5 rfl rfl (T_stB D (cs' := [_, _, _]) rfl rfl rfl rfl flat_agg rfl rfl (Nat.le_of_ble_eq_true rfl) rfl) rfl ?_
      refine k_done rfl ?_
      refine thenK_n ?_
      refine W_seq ?_
      refine W_seqK (b' := 1346) rfl rfl ?_
      refine q0 82 1266 1 rfl rfl (T_load_bA D (l := [_, _]) rfl rfl rfl rfl rfl rfl rfl) rfl ?_
      refine qn 83 1282 2 rfl rfl (T_call (lvs := [_]) (L := [(1, 850)]) (lv := .agg [.v _, .r 1282]) (upd := [(1282, .row 29 2 _), (850, .fz 5 _)]) (nn := 1) false (alone_spec (addF f (y % (f.blocks.length : Int)).toNat (z % f.regs) w)) body62 rfl rfl rfl rfl (.lend rfl (.nil)) rfl (.inl rfl) rfl rfl rfl) rfl ?_
      refine q1 84 1298 3 rfl rfl (T_call (lvs := [_, _, _]) (L := [(1, 1282)]) (lv := .agg [.v _, .v _, .v _]) (upd := [(1282, .fz 2 _)]) (nn := 0) false (runs_spec (aloneP (addF f (y % (f.blocks.length : Int)).toNat (z % f.regs) w)) (⟨#[0, 97]⟩ : ByteArray) 400 (add_run hS hn hk hDi hw) (by decide) (by decide) (by decide) (add_each hS hk) (by show 1 ≤ 1000000; decide)) body36 rfl rfl rfl rfl (.lend rfl (.nil)) rfl (.inl rfl) rfl rfl rfl) rfl ?_
      refine q1 12 1314 4 rfl rfl (T_alloc D rfl rfl rfl) rfl ?_
      refine s1 1330 5 rfl rfl (T_stB D (cs' := [_, _, _]) rfl rfl rfl rfl flat_agg rfl rfl (Nat.le_of_ble_eq_true rfl) rfl) rfl ?_
      refine k_done rfl ?_
      refine thenK_n ?_
      refine W_seq ?_
      refine W_seqK (b' := 1682) rfl rfl ?_
      refine q0 85 1346 1 rfl rfl (T_callV (lvs := []) (L := []) (awake27_spec) body49 rfl rfl rfl rfl (.nil) rfl) rfl ?_
      refine q0 86 1362 2 rfl rfl (T_move rfl rfl) rfl ?_
      refine k_op0 (d := 87) (b := 1378) (j' := 3) rfl rfl rfl rfl (g_tt rfl rfl rfl rfl) (T_fa D (m := 0) rfl rfl rfl rfl rfl rfl) rfl ?_
      refine k_op0 (d := 88) (b := 1394) (j' := 4) rfl rfl rfl rfl (g_tt rfl rfl rfl rfl) (T_load_b D rfl rfl rfl rfl rfl rfl) rfl ?_
      refine k_op0 (d := 89) (b := 1410) (j' := 5) rfl rfl rfl rfl (g_tt rfl rfl rfl rfl) (T_cmp rfl rfl rfl rfl) rfl ?_
      refine k_op0 (d := 90) (b := 1426) (j' := 6) rfl rfl rfl rfl (g_tt rfl rfl rfl rfl) (T_move rfl rfl) rfl ?_
      refine k_split (d := 90) rfl (fun g8 => ?_) (fun g8 => ?_)
      ·have h8 := c_eql_t g8
       refine k_no (d := 91) (j' := 7) rfl rfl rfl (g_ft rfl rfl rfl g8) ?_
       refine k_no (d := 92) (j' := 8) rfl rfl rfl (g_ft rfl rfl rfl g8) ?_
       refine k_no (d := 93) (j' := 9) rfl rfl rfl (g_ft rfl rfl rfl g8) ?_
       refine k_no (d := 94) (j' := 10) rfl rfl rfl (g_ft rfl rfl rfl g8) ?_
       refine k_no (d := 95) (j' := 11) rfl rfl rfl (g_ft rfl rfl rfl g8) ?_
       refine k_no (d := 96) (j' := 12) rfl rfl rfl (g_ft rfl rfl rfl g8) ?_
       refine k_no (d := 97) (j' := 13) rfl rfl rfl (.und rfl rfl rfl) ?_
       refine k_no (d := 98) (j' := 14) rfl rfl rfl (.und rfl rfl rfl) ?_
       refine k_no (d := 99) (j' := 15) rfl rfl rfl (.und rfl rfl rfl) ?_
       refine k_no (d := 100) (j' := 16) rfl rfl rfl (.und rfl rfl rfl) ?_
       refine k_no (d := 101) (j' := 17) rfl rfl rfl (.und rfl rfl rfl) ?_
       refine k_no (d := 102) (j' := 18) rfl rfl rfl (g_ft rfl rfl rfl g8) ?_
       refine k_op0 (d := 103) (b := 1634) (j' := 19) rfl rfl rfl rfl (g_tt rfl rfl rfl rfl) (T_pick_t rfl rfl rfl g8) rfl ?_
       refine q0 104 1650 20 rfl rfl (T_pick_t rfl rfl rfl rfl) rfl ?_
       refine q0 6 1666 21 rfl rfl (T_assign rfl rfl) rfl ?_
       refine k_done rfl ?_
       refine thenK_n ?_
       refine W_ret ?_
       exact .mk [] (.inr rfl) (.tmp rfl (.nil)) (by first | rfl | (exact absurd ((live_sized (by assumption : small27 f 12 60 = true)).symm.trans (by assumption : _ = false)) (by decide)) | (have q := idle_run (w := w) hS hk hDi (by assumption) (⟨#[0, 97]⟩ : ByteArray); rcases q with q | ⟨q1, q2⟩; (exfalso; omega); (rw [q2]; simp [resLV, LV.ren]; done)) | (have q := idle_run (w := w) hS hk hDi (by assumption) (⟨#[0, 97]⟩ : ByteArray); exfalso; rcases q with q | ⟨q1, q2⟩ <;> omega)) (.nil) rfl
      ·have h8 := c_eql_f g8
       refine k_op0 (d := 91) (b := 1442) (j' := 7) rfl rfl rfl rfl (g_ff rfl rfl rfl g8) (T_fa D (m := 0) rfl rfl rfl rfl rfl rfl) rfl ?_
       refine k_op0 (d := 92) (b := 1458) (j' := 8) rfl rfl rfl rfl (g_ff rfl rfl rfl g8) (T_load_b D rfl rfl rfl rfl rfl rfl) rfl ?_
       refine k_op0 (d := 93) (b := 1474) (j' := 9) rfl rfl rfl rfl (g_ff rfl rfl rfl g8) (T_fa D (m := 0) rfl rfl rfl rfl rfl rfl) rfl ?_
       refine k_op0 (d := 94) (b := 1490) (j' := 10) rfl rfl rfl rfl (g_ff rfl rfl rfl g8) (T_load_b D rfl rfl rfl rfl rfl rfl) rfl ?_
       refine k_op0 (d := 95) (b := 1506) (j' := 11) rfl rfl rfl rfl (g_ff rfl rfl rfl g8) (T_cmp rfl rfl rfl rfl) rfl ?_
       refine k_op0 (d := 96) (b := 1522) (j' := 12) rfl rfl rfl rfl (g_ff rfl rfl rfl g8) (T_move rfl rfl) rfl ?_
       refine k_split (d := 96) rfl (fun g9 => ?_) (fun g9 => ?_)
       ·have h9 := c_eql_t g9
        refine k_op0 (d := 97) (b := 1538) (j' := 13) rfl rfl rfl rfl (g_tt rfl rfl rfl g9) (T_fa D (m := 1) rfl rfl rfl rfl rfl rfl) rfl ?_
        refine k_op0 (d := 98) (b := 1554) (j' := 14) rfl rfl rfl rfl (g_tt rfl rfl rfl g9) (T_load_b D rfl rfl rfl rfl rfl rfl) rfl ?_
        refine k_op0 (d := 99) (b := 1570) (j' := 15) rfl rfl rfl rfl (g_tt rfl rfl rfl g9) (T_fa D (m := 1) rfl rfl rfl rfl rfl rfl) rfl ?_
        refine k_op0 (d := 100) (b := 1586) (j' := 16) rfl rfl rfl rfl (g_tt rfl rfl rfl g9) (T_load_b D rfl rfl rfl rfl rfl rfl) rfl ?_
        refine k_op0 (d := 101) (b := 1602) (j' := 17) rfl rfl rfl rfl (g_tt rfl rfl rfl g9) (T_eqS rfl rfl rfl) rfl ?_
        refine k_op0 (d := 102) (b := 1618) (j' := 18) rfl rfl rfl rfl (g_ff rfl rfl rfl g8) (T_pick_t rfl rfl rfl g9) rfl ?_
        refine k_op0 (d := 103) (b := 1634) (j' := 19) rfl rfl rfl rfl (g_tt rfl rfl rfl rfl) (T_pick_f rfl rfl rfl g8) rfl ?_
        refine q0 104 1650 20 rfl rfl (T_pick_t rfl rfl rfl rfl) rfl ?_
        refine q0 6 1666 21 rfl rfl (T_assign rfl rfl) rfl ?_
        refine k_done rfl ?_
        refine thenK_n ?_
        refine W_ret ?_
        exact .mk [] (.inr rfl) (.tmp rfl (.nil)) (by first | rfl | (exact absurd ((live_sized (by assumption : small27 f 12 60 = true)).symm.trans (by assumption : _ = false)) (by decide)) | (have q := idle_run (w := w) hS hk hDi (by assumption) (⟨#[0, 97]⟩ : ByteArray); rcases q with q | ⟨q1, q2⟩; (exfalso; omega); (rw [q2]; simp [resLV, LV.ren]; done)) | (have q := idle_run (w := w) hS hk hDi (by assumption) (⟨#[0, 97]⟩ : ByteArray); exfalso; rcases q with q | ⟨q1, q2⟩ <;> omega)) (.nil) rfl
       ·have h9 := c_eql_f g9
        refine k_no (d := 97) (j' := 13) rfl rfl rfl (g_tf rfl rfl rfl g9) ?_
        refine k_no (d := 98) (j' := 14) rfl rfl rfl (g_tf rfl rfl rfl g9) ?_
        refine k_no (d := 99) (j' := 15) rfl rfl rfl (g_tf rfl rfl rfl g9) ?_
        refine k_no (d := 100) (j' := 16) rfl rfl rfl (g_tf rfl rfl rfl g9) ?_
        refine k_no (d := 101) (j' := 17) rfl rfl rfl (g_tf rfl rfl rfl g9) ?_
        refine k_op0 (d := 102) (b := 1618) (j' := 18) rfl rfl rfl rfl (g_ff rfl rfl rfl g8) (T_pick_f rfl rfl rfl g9) rfl ?_
        refine k_op0 (d := 103) (b := 1634) (j' := 19) rfl rfl rfl rfl (g_tt rfl rfl rfl rfl) (T_pick_f rfl rfl rfl g8) rfl ?_
        refine q0 104 1650 20 rfl rfl (T_pick_t rfl rfl rfl rfl) rfl ?_
        refine q0 6 1666 21 rfl rfl (T_assign rfl rfl) rfl ?_
        refine k_done rfl ?_
        refine thenK_n ?_
        refine W_ret ?_
        exact .mk [] (.inr rfl) (.tmp rfl (.nil)) (by first | rfl | (exact absurd ((live_sized (by assumption : small27 f 12 60 = true)).symm.trans (by assumption : _ = false)) (by decide)) | (have q := idle_run (w := w) hS hk hDi (by assumption) (⟨#[0, 97]⟩ : ByteArray); rcases q with q | ⟨q1, q2⟩; (exfalso; omega); (rw [q2]; simp [resLV, LV.ren]; done)) | (have q := idle_run (w := w) hS hk hDi (by assumption) (⟨#[0, 97]⟩ : ByteArray); exfalso; rcases q with q | ⟨q1, q2⟩ <;> omega)) (.nil) rfl
end Lg
end Go.Proofs.Ytpfhmodjjljpjaa
