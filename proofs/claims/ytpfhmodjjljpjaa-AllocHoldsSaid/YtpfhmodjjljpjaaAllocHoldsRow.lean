/- The law AllocHolds: for every input the call returns true, and each argument reads afterwards as it read before. No condition. -/
import Derived.Test.YtpfhmodjjljpjaaAlloh7
namespace Go.Proofs.Ytpfhmodjjljpjaa.allocHolds
open Go.ChangeShapes Go.WideShapes Go.ChangeAt Go.RowKit Go.Proofs.Ytpfhmodjjljpjaa.Lg
set_option linter.unusedVariables false
theorem own : ownKnob Try.prog.godebug = none := by kernel_rfl
theorem laidOut : laidOutB Try.prog = true := by kernel_rfl
set_option maxRecDepth 100000 in
theorem lifted (os : Os) (started : os.Started) (H : Type) (enc : TypeId × Value → H) :
    ReturnsInHanded {} Try.checked os 21 .any (Rows.allocHoldsSpec.pre6 enc Try.prog Try.f21 Rows.allocHoldsRow.domain false) (Rows.allocHoldsSpec.post enc Try.prog Try.f21 false true false false) := by
  refine returnsInHanded_of_change_sized (C := Try.checked) own started (by kernel_rfl) Try.func21
    (ChangeSpec.witness6 (enc := enc) (C := Try.checked) false ⟨#[], #[.agg #[.int .i64 0, .slice none 0 0], .int .u8 0, .bool false], []⟩ 8 (by kernel_rfl) (by kernel_rfl) (by kernel_rfl) (by kernel_rfl)) ?_
  intro W base args ds gs before hval0 hW hcnd hsz0 _
  have hsz : (DataW.weightsEach Try.prog (Try.f21.params.toList ++ Rows.allocHoldsSpec.plain.varTypes Try.prog) (ds ++ gs)).all (· ≤ reachBytes) = true := hsz0
  have hval : ∀ (j : Nat) t v, Try.f21.params[j]? = some t → args[j]? = some v → Value.okWide Try.prog W .any base t v := hval0
  have hW' := hW
  obtain ⟨p, q, hA0, hV, rfl, hfz, hnd⟩ := hW
  have hA : DataW.TrodAll enc Try.prog W 0 (fun _ => true) true Try.f21.params.toList args.toList ds p := hA0
  rw [Try.params21] at hA hval hsz
  obtain ⟨v0, vs0, d0, ds0, p0, q0, hargs, rfl, rfl, h0, r0⟩ := trodAll_cons hA
  obtain ⟨v1, vs1, d1, ds1, p1, q1, rfl, rfl, rfl, h1, r1⟩ := trodAll_cons r0
  obtain ⟨v2, vs2, d2, ds2, p2, q2, rfl, rfl, rfl, h2, r2⟩ := trodAll_cons r1
  obtain ⟨rfl, rfl, rfl⟩ := trodAll_nil r2
  obtain rfl : args = #[v0, v1, v2] := by cases args; simp_all
  obtain ⟨rfl, rfl⟩ := trodVars_none hV
  have hsz2 : (((d0.weights Try.prog 29).all (· ≤ reachBytes)) && ((d1.weights Try.prog 5).all (· ≤ reachBytes)) && ((d2.weights Try.prog 4).all (· ≤ reachBytes))) = true := by
    have z := hsz
    simp only [List.cons_append, List.nil_append, DataW.weightsEach, List.all_append, Bool.and_eq_true] at z
    try simp only [Bool.and_eq_true]
    simp [z]
  try simp only [Bool.and_eq_true] at hsz2
  obtain ⟨⟨y0, y1⟩, y2⟩ := hsz2
  have k0 := h0
  have lt0 : ∀ x ∈ p0, x.block < W.heap.size := by obtain ⟨m, hm⟩ := k0; exact DataW.trod_lt m _ _ _ hm
  have k1 := h1
  have lt1 : ∀ x ∈ p1, x.block < W.heap.size := by obtain ⟨m, hm⟩ := k1; exact DataW.trod_lt m _ _ _ hm
  have k2 := h2
  have lt2 : ∀ x ∈ p2, x.block < W.heap.size := by obtain ⟨m, hm⟩ := k2; exact DataW.trod_lt m _ _ _ hm
  obtain ⟨x0, s0, rfl, m0, g0⟩ := arg_fn (hval 0 29 v0 rfl rfl) h0 y0
  obtain ⟨x1, rfl, g1⟩ := arg_u8 (hval 1 5 v1 rfl rfl) h1 y1
  obtain ⟨x2, rfl⟩ := arg_bool h2 (hval 2 4 v2 rfl rfl)
  clear hA0 hval0 hsz0 hsz hval
  have hrun : Calls Try.prog 21 #[.agg #[.int .i64 x0.regs, s0], .int .u8 x1, .bool x2] W (fun e w' => e = .returned (.bool true) ∧ Below W.heap.size W w') := law_run (law21 x0 x1 x2 (fnOk g0) g1) (ρ := fun i => match i with | 1 => s0 | _ => undef) (by decide) ⟨by decide, m0, trivial⟩ ⟨⟨⟨trivial, show (1 : Nat) < 2 by decide, trivial⟩, by simp [LV.vals, LV.val, m0.one, one_int]⟩, trivial, trivial, trivial⟩
  refine hrun.mono fun e W' ⟨he, bel⟩ => ?_
  subst he
  exact ⟨_, rfl, _, _, _, [], _, [], hW', trodAll_mk1 (shut_bool Try.underlying4 _), (trodAll_cons_mk (Below.trod laidOut (by kernel_rfl) (of_decide_eq_true (by kernel_rfl)) k0 bel lt0) (trodAll_cons_mk (Below.trod laidOut (by kernel_rfl) (of_decide_eq_true (by kernel_rfl)) k1 bel lt1) (trodAll_cons_mk (Below.trod laidOut (by kernel_rfl) (of_decide_eq_true (by kernel_rfl)) k2 bel lt2) trodAll_mk0))), rfl, bel.frame _, fun h => by cases h⟩
theorem k0 : (Rows.allocHoldsRow.wf (OpenSpec.ofChange Rows.allocHoldsSpec)) = true := by kernel_rfl
theorem k1 : (laidOutB Try.pinned.checked.prog) = true := Lg.kp1
theorem k2 : (mapsRowed Try.pinned.checked.prog) = true := Lg.kp2
theorem k3 : (Try.f21.params.all (Try.pinned.checked.prog.readableRec ·)) = true := by kernel_rfl
theorem k4 : (namedTie Try.pinned.checked.prog Rows.allocHoldsRow.named Rows.allocHoldsSpec.vars) = true := by kernel_rfl
theorem k5 : ((Rows.allocHoldsRow.stops == [])) = true := by kernel_rfl
theorem k6 : ((Try.pinned.checked.prog.stops == [])) = true := Lg.kp6
theorem k7 : ((Rows.allocHoldsRow.knobs == [])) = true := by kernel_rfl
theorem k8 : ((Try.pinned.checked.prog.stopKnobs == [])) = true := Lg.kp8
theorem k9 : ((Rows.allocHoldsRow.inPlace == Try.pinned.checked.prog.inPlace 21)) = true := by kernel_rfl
theorem k10 : ((Rows.allocHoldsRow.unfollowed == Try.pinned.checked.prog.unfollowed 21)) = true := by kernel_rfl
theorem k11 : ((Rows.allocHoldsRow.recurses == Try.pinned.checked.prog.recurses 21)) = true := by kernel_rfl
theorem k12 : ((Rows.allocHoldsRow.named == Try.pinned.checked.prog.varsNamed 21)) = true := by kernel_rfl
theorem k13 : ((Rows.allocHoldsRow.maps == (Try.f21.params.toList ++ Rows.allocHoldsSpec.plain.varTypes Try.pinned.checked.prog).any (Try.pinned.checked.prog.mapsRec ·))) = true := by kernel_rfl
theorem k14 : ((Rows.allocHoldsRow.ifaces == (Try.f21.params.toList ++ Rows.allocHoldsSpec.plain.varTypes Try.pinned.checked.prog).any (Try.pinned.checked.prog.ifacesRec ·))) = true := by kernel_rfl
theorem k15 : ((Rows.allocHoldsRow.mapsOut == Try.pinned.checked.prog.mapsAmong Try.f21.resultTypes.toList)) = true := by kernel_rfl
theorem k16 : ((Rows.allocHoldsRow.loops == (Try.f21.params.toList ++ Rows.allocHoldsSpec.plain.varTypes Try.pinned.checked.prog).any (Try.pinned.checked.prog.loopsFrom ·))) = true := by kernel_rfl
theorem k17 : ((Rows.allocHoldsRow.wideKeys == (Try.f21.params.toList ++ Rows.allocHoldsSpec.plain.varTypes Try.pinned.checked.prog ++ Try.f21.resultTypes.toList).any (Try.pinned.checked.prog.wideKeysFrom ·))) = true := by kernel_rfl
theorem k18 : (Rows.allocHoldsSpec.vars.all (Try.pinned.checked.prog.varReadable ·)) = true := by kernel_rfl
theorem k19 : (Try.f21.resultTypes.all (fun t => Try.pinned.checked.prog.readableRec t && decide (t < Try.pinned.checked.prog.types.size))) = true := by kernel_rfl
theorem k20 : ((Rows.allocHoldsRow.ifacesOut == Try.f21.resultTypes.toList.any (Try.pinned.checked.prog.ifacesRec ·))) = true := by kernel_rfl
theorem k21 : ((Rows.allocHoldsRow.loopsOut == Try.f21.resultTypes.toList.any (Try.pinned.checked.prog.loopsFrom ·))) = true := by kernel_rfl
theorem k22 : ((Rows.allocHoldsRow.plainKeys == Try.pinned.checked.prog.plainKeys)) = true := by kernel_rfl
theorem k23 : (Rows.allocHoldsRow.shortTexts.isNone) = true := by kernel_rfl
theorem k24 : (Try.pinned.checked.prog.stopsHeard) = true := Lg.kp24
theorem k25 : (Try.pinned.checked.prog.mayEnter) = true := Lg.kp25
theorem k26 : ((Rows.allocHoldsRow.lifted == Try.pinned.checked.prog.liftsFinal)) = true := Lg.kp26
theorem k27 : ((Try.pinned.checked.prog.make == some Rows.allocHoldsRow.make)) = true := Lg.kp27
theorem k28 : ((Rows.allocHoldsRow.kinds == (if Rows.allocHoldsRow.domain.isEmpty then [] else Try.f21.params.toList.map fun t => match Try.pinned.checked.prog.underlying t with | some (.int k) => some k | _ => none))) = true := by kernel_rfl
theorem k29 : ((Rows.allocHoldsRow.pinned == Rows.allocHoldsRow.pinnedBy)) = true := by kernel_rfl
theorem k30 : ((Rows.allocHoldsRow.veiled == (Try.f21.params.toList ++ Rows.allocHoldsSpec.plain.varTypes Try.pinned.checked.prog ++ Try.f21.resultTypes.toList).any (Try.pinned.checked.prog.veiledRec ·))) = true := by kernel_rfl
theorem k31 : (Rows.allocHoldsRow.veiledFits Try.pinned.checked.prog Try.f21.params.toList (Try.f21.params.toList ++ Rows.allocHoldsSpec.plain.varTypes Try.pinned.checked.prog ++ Try.f21.resultTypes.toList)) = true := by kernel_rfl
set_option maxRecDepth 1000000 in
theorem closed : joinedFacts Try.pinned.checked.prog 21 Try.f21 Rows.allocHoldsSpec Rows.allocHoldsRow = true := (and_t (and_t (and_t (and_t (and_t (and_t (and_t (and_t (and_t (and_t (and_t (and_t (and_t (and_t (and_t (and_t (and_t (and_t (and_t (and_t (and_t (and_t (and_t (and_t (and_t (and_t (and_t (and_t (and_t (and_t (and_t k0 k1) k2) k3) k4) k5) k6) k7) k8) k9) k10) k11) k12) k13) k14) k15) k16) k17) k18) k19) k20) k21) k22) k23) k24) k25) k26) k27) k28) k29) k30) k31)
theorem over : Rows.allocHoldsRow.holds Try.pinned (OpenSpec.ofChange Rows.allocHoldsSpec) :=
  OpenClaim.holds_of_wide 21 Try.f21 rfl rfl rfl rfl rfl rfl rfl ⟨rfl, rfl, rfl, rfl, rfl⟩ rfl rfl rfl rfl rfl (by kernel_rfl) Try.func21 closed
    (of_decide_eq_true (by kernel_rfl)) (by unfold Func.isWrapper; first | (rw [if_pos (by decide +kernel)]; kernel_rfl) | (rw [if_neg (by decide +kernel)]; exact ⟨rfl, rfl⟩))
    (fun os started H enc _ => lifted os started H enc)
theorem proved : Rows.AllocHoldsSaid := over
end Go.Proofs.Ytpfhmodjjljpjaa.allocHolds
namespace Go.Proofs.Ytpfhmodjjljpjaa
theorem allocHolds_holds : Rows.AllocHoldsSaid := allocHolds.proved
#print axioms allocHolds_holds
end Go.Proofs.Ytpfhmodjjljpjaa
