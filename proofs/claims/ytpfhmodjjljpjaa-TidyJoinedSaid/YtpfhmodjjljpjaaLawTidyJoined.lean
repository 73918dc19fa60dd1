/- The law TidyJoined: for every input the call returns true, and each argument reads afterwards as it read before. No condition. -/
import Derived.Test.YtpfhmodjjljpjaaKp
import Derived.Test.YtpfhmodjjljpjaaRs
import Derived.Test.YtpfhmodjjljpjaaF17
namespace Go.Proofs.Ytpfhmodjjljpjaa.tidyJoined
open Go.ChangeShapes Go.WideShapes Go.ChangeAt Go.RowKit Go.Proofs.Ytpfhmodjjljpjaa.Lg
set_option linter.unusedVariables false
theorem own : ownKnob Try.prog.godebug = none := by kernel_rfl
theorem laidOut : laidOutB Try.prog = true := by kernel_rfl
set_option maxRecDepth 100000 in
theorem lifted (os : Os) (started : os.Started) (H : Type) (enc : TypeId × Value → H) :
    ReturnsInHanded {} Try.checked os 12 .any (Rows.tidyJoinedSpec.pre6 enc Try.prog Try.f12 Rows.tidyJoinedRow.domain false) (Rows.tidyJoinedSpec.post enc Try.prog Try.f12 false true false false) := by
  refine returnsInHanded_of_change_sized (C := Try.checked) own started (by kernel_rfl) Try.func12
    (ChangeSpec.witness6 (enc := enc) (C := Try.checked) false ⟨#[], #[.agg #[.int .i64 0, .slice none 0 0, .int .i64 0, .slice none 0 0, .int .i64 0, .slice none 0 0, .slice none 0 0, .slice none 0 0]], []⟩ 8 (by kernel_rfl) (by kernel_rfl) (by kernel_rfl) (by kernel_rfl)) ?_
  intro W base args ds gs before hval0 hW hcnd hsz0 _
  have hsz : (DataW.weightsEach Try.prog (Try.f12.params.toList ++ Rows.tidyJoinedSpec.plain.varTypes Try.prog) (ds ++ gs)).all (· ≤ reachBytes) = true := hsz0
  have hval : ∀ (j : Nat) t v, Try.f12.params[j]? = some t → args[j]? = some v → Value.okWide Try.prog W .any base t v := hval0
  have hW' := hW
  obtain ⟨p, q, hA0, hV, rfl, hfz, hnd⟩ := hW
  have hA : DataW.TrodAll enc Try.prog W 0 (fun _ => true) true Try.f12.params.toList args.toList ds p := hA0
  rw [Try.params12] at hA hval hsz
  obtain ⟨v0, vs0, d0, ds0, p0, q0, hargs, rfl, rfl, h0, r0⟩ := trodAll_cons hA
  obtain ⟨rfl, rfl, rfl⟩ := trodAll_nil r0
  obtain rfl : args = #[v0] := by cases args; simp_all
  obtain ⟨rfl, rfl⟩ := trodVars_none hV
  have hsz2 : (((d0.weights Try.prog 78).all (· ≤ reachBytes))) = true := by
    have z := hsz
    simp only [List.cons_append, List.nil_append, DataW.weightsEach, List.all_append, Bool.and_eq_true] at z
    try simp only [Bool.and_eq_true]
    simp [z]
  try simp only [Bool.and_eq_true] at hsz2
  have y0 := hsz2
  have k0 := h0
  have lt0 : ∀ x ∈ p0, x.block < W.heap.size := by obtain ⟨m, hm⟩ := k0; exact DataW.trod_lt m _ _ _ hm
  obtain ⟨x0, a0, b0, c0, e0, f0, rfl, ma0, mb0, mc0, me0, mf0, g0⟩ := arg_two (hval 0 78 v0 rfl rfl) h0 y0
  clear hA0 hval0 hsz0 hsz hval
  have hrun : Calls Try.prog 12 #[.agg #[.int .i64 x0.a.regs, a0, .int .i64 x0.b.regs, b0, .int .i64 x0.c.regs, c0, e0, f0]] W (fun e w' => e = .returned (.bool true) ∧ Below W.heap.size W w') := law_run (law12 x0.a x0.b x0.c x0.p x0.q (fnOk g0.a) (fnOk g0.b) (fnOk g0.c) (psOk g0.p) (psOk g0.q)) (ρ := fun i => match i with | 1 => a0 | 2 => b0 | 3 => c0 | 4 => e0 | 5 => f0 | _ => undef) (by decide) ⟨by decide, ma0, by decide, mb0, by decide, mc0, by decide, me0, by decide, mf0, trivial⟩ ⟨⟨⟨trivial, show (1 : Nat) < 6 by decide, trivial, show (2 : Nat) < 6 by decide, trivial, show (3 : Nat) < 6 by decide, show (4 : Nat) < 6 by decide, show (5 : Nat) < 6 by decide, trivial⟩, by simp [LV.vals, LV.val, ma0.one, mb0.one, mc0.one, me0.one, mf0.one, one_int]⟩, trivial⟩
  refine hrun.mono fun e W' ⟨he, bel⟩ => ?_
  subst he
  exact ⟨_, rfl, _, _, _, [], _, [], hW', trodAll_mk1 (shut_bool Try.underlying4 _), (trodAll_cons_mk (Below.trod laidOut (by kernel_rfl) (of_decide_eq_true (by kernel_rfl)) k0 bel lt0) trodAll_mk0), rfl, bel.frame _, fun h => by cases h⟩
theorem k0 : (Rows.tidyJoinedRow.wf (OpenSpec.ofChange Rows.tidyJoinedSpec)) = true := by kernel_rfl
theorem k1 : (laidOutB Try.pinned.checked.prog) = true := Lg.kp1
theorem k2 : (mapsRowed Try.pinned.checked.prog) = true := Lg.kp2
theorem k3 : (Try.f12.params.all (Try.pinned.checked.prog.readableRec ·)) = true := by kernel_rfl
theorem k4 : (namedTie Try.pinned.checked.prog Rows.tidyJoinedRow.named Rows.tidyJoinedSpec.vars) = true := by kernel_rfl
theorem k5 : ((Rows.tidyJoinedRow.stops == [])) = true := by kernel_rfl
theorem k6 : ((Try.pinned.checked.prog.stops == [])) = true := Lg.kp6
theorem k7 : ((Rows.tidyJoinedRow.knobs == [])) = true := by kernel_rfl
theorem k8 : ((Try.pinned.checked.prog.stopKnobs == [])) = true := Lg.kp8
theorem k9 : ((Rows.tidyJoinedRow.inPlace == Try.pinned.checked.prog.inPlace 12)) = true := by kernel_rfl
theorem k10 : ((Rows.tidyJoinedRow.unfollowed == Try.pinned.checked.prog.unfollowed 12)) = true := by kernel_rfl
theorem k11 : ((Rows.tidyJoinedRow.recurses == Try.pinned.checked.prog.recurses 12)) = true := by kernel_rfl
theorem k12 : ((Rows.tidyJoinedRow.named == Try.pinned.checked.prog.varsNamed 12)) = true := by kernel_rfl
theorem k13 : ((Rows.tidyJoinedRow.maps == (Try.f12.params.toList ++ Rows.tidyJoinedSpec.plain.varTypes Try.pinned.checked.prog).any (Try.pinned.checked.prog.mapsRec ·))) = true := by kernel_rfl
theorem k14 : ((Rows.tidyJoinedRow.ifaces == (Try.f12.params.toList ++ Rows.tidyJoinedSpec.plain.varTypes Try.pinned.checked.prog).any (Try.pinned.checked.prog.ifacesRec ·))) = true := by kernel_rfl
theorem k15 : ((Rows.tidyJoinedRow.mapsOut == Try.pinned.checked.prog.mapsAmong Try.f12.resultTypes.toList)) = true := by kernel_rfl
theorem k16 : ((Rows.tidyJoinedRow.loops == (Try.f12.params.toList ++ Rows.tidyJoinedSpec.plain.varTypes Try.pinned.checked.prog).any (Try.pinned.checked.prog.loopsFrom ·))) = true := by kernel_rfl
theorem k17 : ((Rows.tidyJoinedRow.wideKeys == (Try.f12.params.toList ++ Rows.tidyJoinedSpec.plain.varTypes Try.pinned.checked.prog ++ Try.f12.resultTypes.toList).any (Try.pinned.checked.prog.wideKeysFrom ·))) = true := by kernel_rfl
theorem k18 : (Rows.tidyJoinedSpec.vars.all (Try.pinned.checked.prog.varReadable ·)) = true := by kernel_rfl
theorem k19 : (Try.f12.resultTypes.all (fun t => Try.pinned.checked.prog.readableRec t && decide (t < Try.pinned.checked.prog.types.size))) = true := by kernel_rfl
theorem k20 : ((Rows.tidyJoinedRow.ifacesOut == Try.f12.resultTypes.toList.any (Try.pinned.checked.prog.ifacesRec ·))) = true := by kernel_rfl
theorem k21 : ((Rows.tidyJoinedRow.loopsOut == Try.f12.resultTypes.toList.any (Try.pinned.checked.prog.loopsFrom ·))) = true := by kernel_rfl
theorem k22 : ((Rows.tidyJoinedRow.plainKeys == Try.pinned.checked.prog.plainKeys)) = true := by kernel_rfl
theorem k23 : (Rows.tidyJoinedRow.shortTexts.isNone) = true := by kernel_rfl
theorem k24 : (Try.pinned.checked.prog.stopsHeard) = true := Lg.kp24
theorem k25 : (Try.pinned.checked.prog.mayEnter) = true := Lg.kp25
theorem k26 : ((Rows.tidyJoinedRow.lifted == Try.pinned.checked.prog.liftsFinal)) = true := Lg.kp26
theorem k27 : ((Try.pinned.checked.prog.make == some Rows.tidyJoinedRow.make)) = true := Lg.kp27
theorem k28 : ((Rows.tidyJoinedRow.kinds == (if Rows.tidyJoinedRow.domain.isEmpty then [] else Try.f12.params.toList.map fun t => match Try.pinned.checked.prog.underlying t with | some (.int k) => some k | _ => none))) = true := by kernel_rfl
theorem k29 : ((Rows.tidyJoinedRow.pinned == Rows.tidyJoinedRow.pinnedBy)) = true := by kernel_rfl
theorem k30 : ((Rows.tidyJoinedRow.veiled == (Try.f12.params.toList ++ Rows.tidyJoinedSpec.plain.varTypes Try.pinned.checked.prog ++ Try.f12.resultTypes.toList).any (Try.pinned.checked.prog.veiledRec ·))) = true := by kernel_rfl
theorem k31 : (Rows.tidyJoinedRow.veiledFits Try.pinned.checked.prog Try.f12.params.toList (Try.f12.params.toList ++ Rows.tidyJoinedSpec.plain.varTypes Try.pinned.checked.prog ++ Try.f12.resultTypes.toList)) = true := by kernel_rfl
set_option maxRecDepth 1000000 in
theorem closed : joinedFacts Try.pinned.checked.prog 12 Try.f12 Rows.tidyJoinedSpec Rows.tidyJoinedRow = true := (and_t (and_t (and_t (and_t (and_t (and_t (and_t (and_t (and_t (and_t (and_t (and_t (and_t (and_t (and_t (and_t (and_t (and_t (and_t (and_t (and_t (and_t (and_t (and_t (and_t (and_t (and_t (and_t (and_t (and_t (and_t k0 k1) k2) k3) k4) k5) k6) k7) k8) k9) k10) k11) k12) k13) k14) k15) k16) k17) k18) k19) k20) k21) k22) k23) k24) k25) k26) k27) k28) k29) k30) k31)
theorem over : Rows.tidyJoinedRow.holds Try.pinned (OpenSpec.ofChange Rows.tidyJoinedSpec) :=
  OpenClaim.holds_of_wide 12 Try.f12 rfl rfl rfl rfl rfl rfl rfl ⟨rfl, rfl, rfl, rfl, rfl⟩ rfl rfl rfl rfl rfl (by kernel_rfl) Try.func12 closed
    (of_decide_eq_true (by kernel_rfl)) (by unfold Func.isWrapper; first | (rw [if_pos (by decide +kernel)]; kernel_rfl) | (rw [if_neg (by decide +kernel)]; exact ⟨rfl, rfl⟩))
    (fun os started H enc _ => lifted os started H enc)
theorem proved : Rows.TidyJoinedSaid := over
end Go.Proofs.Ytpfhmodjjljpjaa.tidyJoined
namespace Go.Proofs.Ytpfhmodjjljpjaa
theorem tidyJoined_holds : Rows.TidyJoinedSaid := tidyJoined.proved
#print axioms tidyJoined_holds
end Go.Proofs.Ytpfhmodjjljpjaa
