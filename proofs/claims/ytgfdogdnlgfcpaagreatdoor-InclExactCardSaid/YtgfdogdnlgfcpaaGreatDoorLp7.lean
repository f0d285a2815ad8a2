import Derived.Test.YtgfdogdnlgfcpaaGreatDoorLp6
import Derived.Test.YtgfdogdnlgfcpaaGreatDoorRows
import Derived.Test.YtgfdogdnlgfcpaaGreatDoorCards
import Derived.Test.YtgfdogdnlgfcpaaGreatDoorTie
import Derived.SevenTiedAt

set_option linter.all false
set_option maxHeartbeats 8000000
set_option maxRecDepth 100000

/-
  The statement InclExact, a tied card: whatever its arguments the law returns true and leaves them as they are. No condition.
-/
namespace Go.Proofs.YtgfdogdnlgfcpaaGreatDoor
open Go Lp Go.Shelf Go.RowKit


theorem inclExact_row (os : Os) {H : Type} (enc : TypeId × Value → H) :
    (OpenSpec.ofChange Rows.inclExactSpec).preRow enc Tryz.prog Tryz.f4 Rows.inclExactRow.domain false Rows.inclExactRow.laid ((Z7 os).forCall (fun _ _ => 0) ⟨#[], #[.agg #[.slice none 0 0, .slice none 0 0, .int .i64 0, .int .i64 0, .int .i64 0, .string ⟨#[]⟩, .string ⟨#[]⟩, .bool false, .int .i64 0, .slice none 0 0]], []⟩).memory #[.agg #[.slice none 0 0, .slice none 0 0, .int .i64 0, .int .i64 0, .int .i64 0, .string ⟨#[]⟩, .string ⟨#[]⟩, .bool false, .int .i64 0, .slice none 0 0]] := by
  have hw : (DataW.whole enc Tryz.prog ((Z7 os).forCall (fun _ _ => 0) ⟨#[], #[.agg #[.slice none 0 0, .slice none 0 0, .int .i64 0, .int .i64 0, .int .i64 0, .string ⟨#[]⟩, .string ⟨#[]⟩, .bool false, .int .i64 0, .slice none 0 0]], []⟩).memory Tryz.f4.params.toList (OpenSpec.ofChange Rows.inclExactSpec).vars false (#[.agg #[.slice none 0 0, .slice none 0 0, .int .i64 0, .int .i64 0, .int .i64 0, .string ⟨#[]⟩, .string ⟨#[]⟩, .bool false, .int .i64 0, .slice none 0 0]] : Array Value).toList 8).map (fun x => (x.1, x.2.1)) =
      some ([.agg [.nil, .nil, .agg [.lit (.int .i64 0), .agg [.lit (.int .i64 0), .lit (.int .i64 0), .lit (.string []), .lit (.string []), .lit (.bool false), .lit (.int .i64 0)]], .nil]], []) := by kernel_rfl
  obtain ⟨⟨x1, x2, x3⟩, hx, hx1⟩ := Option.map_eq_some_iff.1 hw
  simp only [Prod.mk.injEq] at hx1
  obtain ⟨rfl, rfl⟩ := hx1
  exact OpenSpec.preRow_of_cond 8 hx (by kernel_rfl) (fun k hk => by cases hk) (by kernel_rfl) (ahh os _)

theorem inclExact_lifted (os : Os) (started : os.Started) (H : Type) (enc : TypeId × Value → H) :
    ReturnsInHanded {} Tryz.checked os 4 .any ((OpenSpec.ofChange Rows.inclExactSpec).preRow enc Tryz.prog Tryz.f4 Rows.inclExactRow.domain false Rows.inclExactRow.laid) (Rows.inclExactSpec.post enc Tryz.prog Tryz.f4 false true false false) := by
  refine aeH (C := Tryz.checked) (tb := 4) (by kernel_rfl) started (by kernel_rfl) Tryz.func4
    (witness_row_atRef (enc := enc) (C := Tryz.checked) false (Z7 os) #[.agg #[.slice none 0 0, .slice none 0 0, .int .i64 0, .int .i64 0, .int .i64 0, .string ⟨#[]⟩, .string ⟨#[]⟩, .bool false, .int .i64 0, .slice none 0 0]] rfl (by kernel_rfl) (by kernel_rfl) (by kernel_rfl) (inclExact_row os enc))
    (by kernel_rfl) (fun t ht => ?_) (by kernel_rfl) (by kernel_rfl) acs rfl rfl (fun ds hd => ?_) (fun W base args ds ps hval hA hw => ?_) (fun W h => agf h)
  · have h : (Tryz.f4.params.toList.all fun t => Tryz.prog.readableRec t && decide (t < Tryz.prog.types.size)) = true := by kernel_rfl
    have g := List.all_eq_true.1 h t ht
    rw [Bool.and_eq_true] at g
    exact ⟨g.1, of_decide_eq_true g.2⟩
  · have h : Tryz.f4.params.toList.length = 1 := by kernel_rfl
    rw [h] at hd
    match ds, hd with
    | [d0], _ => rfl
  · have h : Tryz.f4.params = #[43] := by kernel_rfl
    rw [h] at hval hA hw
    obtain ⟨v0, vs0, d0, ds0, p0, q0, rfl, rfl, rfl, h0, r0⟩ := Go.ChangeShapes.trodAll_cons hA
    obtain ⟨rfl, rfl, rfl⟩ := Go.ChangeShapes.trodAll_nil r0
    obtain ⟨a0, g0, w0⟩ := ais (hval 0 43 v0 rfl rfl) h0 (fun n hn => hw n (xq _ _ 0 43 d0 rfl rfl hn))
    exact ⟨[EL a0], bH w0 En, acX a0 g0⟩

theorem inclExact_q0 : (Rows.inclExactRow.wf (OpenSpec.ofChange (OpenSpec.ofChange Rows.inclExactSpec).bare)) = true := by kernel_rfl
theorem inclExact_q1 : (laidOutB Tryz.pinned.checked.prog) = true := by kernel_rfl
theorem inclExact_q2 : (mapsRowed Tryz.pinned.checked.prog) = true := by kernel_rfl
theorem inclExact_q3 : (Tryz.f4.params.all (Tryz.pinned.checked.prog.readableRec ·)) = true := by kernel_rfl
theorem inclExact_q4 : (namedTie Tryz.pinned.checked.prog Rows.inclExactRow.named (OpenSpec.ofChange Rows.inclExactSpec).bare.vars) = true := by kernel_rfl
theorem inclExact_q5 : ((Rows.inclExactRow.stops == [])) = true := by kernel_rfl
theorem inclExact_q6 : ((Tryz.pinned.checked.prog.stops == [])) = true := by kernel_rfl
theorem inclExact_q7 : ((Rows.inclExactRow.knobs == [])) = true := by kernel_rfl
theorem inclExact_q8 : ((Tryz.pinned.checked.prog.stopKnobs == [])) = true := by kernel_rfl
theorem inclExact_q9 : ((Rows.inclExactRow.inPlace == Tryz.pinned.checked.prog.inPlace 4)) = true := by kernel_rfl
theorem inclExact_q10 : ((Rows.inclExactRow.unfollowed == Tryz.pinned.checked.prog.unfollowed 4)) = true := by kernel_rfl
theorem inclExact_q11 : ((Rows.inclExactRow.recurses == Tryz.pinned.checked.prog.recurses 4)) = true := by kernel_rfl
theorem inclExact_q12 : ((Rows.inclExactRow.named == Tryz.pinned.checked.prog.varsNamed 4)) = true := by kernel_rfl
theorem inclExact_q13 : ((Rows.inclExactRow.maps == (Tryz.f4.params.toList ++ (OpenSpec.ofChange Rows.inclExactSpec).bare.plain.varTypes Tryz.pinned.checked.prog).any (Tryz.pinned.checked.prog.mapsRec ·))) = true := by kernel_rfl
theorem inclExact_q14 : ((Rows.inclExactRow.ifaces == (Tryz.f4.params.toList ++ (OpenSpec.ofChange Rows.inclExactSpec).bare.plain.varTypes Tryz.pinned.checked.prog).any (Tryz.pinned.checked.prog.ifacesRec ·))) = true := by kernel_rfl
theorem inclExact_q15 : ((Rows.inclExactRow.mapsOut == Tryz.pinned.checked.prog.mapsAmong Tryz.f4.resultTypes.toList)) = true := by kernel_rfl
theorem inclExact_q16 : ((Rows.inclExactRow.loops == (Tryz.f4.params.toList ++ (OpenSpec.ofChange Rows.inclExactSpec).bare.plain.varTypes Tryz.pinned.checked.prog).any (Tryz.pinned.checked.prog.loopsFrom ·))) = true := by kernel_rfl
theorem inclExact_q17 : ((Rows.inclExactRow.wideKeys == (Tryz.f4.params.toList ++ (OpenSpec.ofChange Rows.inclExactSpec).bare.plain.varTypes Tryz.pinned.checked.prog ++ Tryz.f4.resultTypes.toList).any (Tryz.pinned.checked.prog.wideKeysFrom ·))) = true := by kernel_rfl
theorem inclExact_q18 : ((OpenSpec.ofChange Rows.inclExactSpec).bare.vars.all (Tryz.pinned.checked.prog.varReadable ·)) = true := by kernel_rfl
theorem inclExact_q19 : (Tryz.f4.resultTypes.all (fun t => Tryz.pinned.checked.prog.readableRec t && decide (t < Tryz.pinned.checked.prog.types.size))) = true := by kernel_rfl
theorem inclExact_q20 : ((Rows.inclExactRow.ifacesOut == Tryz.f4.resultTypes.toList.any (Tryz.pinned.checked.prog.ifacesRec ·))) = true := by kernel_rfl
theorem inclExact_q21 : ((Rows.inclExactRow.loopsOut == Tryz.f4.resultTypes.toList.any (Tryz.pinned.checked.prog.loopsFrom ·))) = true := by kernel_rfl
theorem inclExact_q22 : ((Rows.inclExactRow.plainKeys == Tryz.pinned.checked.prog.plainKeys)) = true := by kernel_rfl
theorem inclExact_q23 : (Rows.inclExactRow.shortTexts.isNone) = true := by kernel_rfl
theorem inclExact_q24 : (Tryz.pinned.checked.prog.stopsHeard) = true := by kernel_rfl
theorem inclExact_q25 : (Tryz.pinned.checked.prog.mayEnter) = true := by kernel_rfl
theorem inclExact_q26 : ((Rows.inclExactRow.lifted == Tryz.pinned.checked.prog.liftsFinal)) = true := by kernel_rfl
theorem inclExact_q27 : ((Tryz.pinned.checked.prog.make == some Rows.inclExactRow.make)) = true := by kernel_rfl
theorem inclExact_q28 : ((Rows.inclExactRow.kinds == (if Rows.inclExactRow.domain.isEmpty then [] else Tryz.f4.params.toList.map fun t => match Tryz.pinned.checked.prog.underlying t with | some (.int k) => some k | _ => none))) = true := by kernel_rfl
theorem inclExact_q29 : ((Rows.inclExactRow.pinned == Rows.inclExactRow.pinnedBy)) = true := by kernel_rfl
theorem inclExact_q30 : ((Rows.inclExactRow.veiled == (Tryz.f4.params.toList ++ (OpenSpec.ofChange Rows.inclExactSpec).bare.plain.varTypes Tryz.pinned.checked.prog ++ Tryz.f4.resultTypes.toList).any (Tryz.pinned.checked.prog.veiledRec ·))) = true := by kernel_rfl
theorem inclExact_q31 : (Rows.inclExactRow.veiledFits Tryz.pinned.checked.prog Tryz.f4.params.toList (Tryz.f4.params.toList ++ (OpenSpec.ofChange Rows.inclExactSpec).bare.plain.varTypes Tryz.pinned.checked.prog ++ Tryz.f4.resultTypes.toList)) = true := by kernel_rfl
theorem inclExact_qj : joinedFacts Tryz.pinned.checked.prog 4 Tryz.f4 (OpenSpec.ofChange Rows.inclExactSpec).bare Rows.inclExactRow = true := agh inclExact_q0 inclExact_q1 inclExact_q2 inclExact_q3 inclExact_q4 inclExact_q5 inclExact_q6 inclExact_q7 inclExact_q8 inclExact_q9 inclExact_q10 inclExact_q11 inclExact_q12 inclExact_q13 inclExact_q14 inclExact_q15 inclExact_q16 inclExact_q17 inclExact_q18 inclExact_q19 inclExact_q20 inclExact_q21 inclExact_q22 inclExact_q23 inclExact_q24 inclExact_q25 inclExact_q26 inclExact_q27 inclExact_q28 inclExact_q29 inclExact_q30 inclExact_q31
theorem inclExact_qn : Tryz.pinned.checked.prog.funcNamed Rows.inclExactRow.func = some 4 := by kernel_rfl
theorem inclExact_qd : Tryz.f4.isInstance Tryz.pinned.checked.prog Rows.inclExactRow.origin Rows.inclExactRow.targs := of_decide_eq_true (by kernel_rfl)
theorem inclExact_qw : Tryz.f4.isWrapper Tryz.pinned.checked.prog Rows.inclExactRow.wrapper Rows.inclExactRow.mainSum := by unfold Func.isWrapper; first | (rw [if_pos (by decide +kernel)]; kernel_rfl) | (rw [if_neg (by decide +kernel)]; exact ⟨rfl, rfl⟩)
theorem inclExact_q40 : Rows.inclExactRow.wfByText (OpenSpec.ofChange Rows.inclExactSpec) = true := by kernel_rfl
theorem inclExact_q41 : Tryz.pinned.checked.prog.mainIs = some ((true, "8381f30e633e0d7317f6c5999a06f8589083a5cc0e7a2d17ab385dd6225734d1").1, ((true, "8381f30e633e0d7317f6c5999a06f8589083a5cc0e7a2d17ab385dd6225734d1") : Bool × String).2.toList) := by kernel_rfl
theorem inclExact_q42 : false = Tryz.pinned.checked.prog.looks [] := by kernel_rfl
theorem inclExact_q43 : (Tryz.f4.params.toList.all fun t => !Tryz.prog.wantsStandIn t) = true := by kernel_rfl
theorem inclExact_q44 : false = Rows.inclExactRow.goesBy Tryz.pinned.checked.prog := by kernel_rfl

theorem inclExact_over : Rows.inclExactRow.holds Tryz.pinned (OpenSpec.ofChange Rows.inclExactSpec) :=
  OpenClaim.holds_of_cond 4 Tryz.f4 rfl rfl rfl rfl rfl rfl rfl ⟨rfl, rfl, rfl, rfl, rfl⟩ rfl rfl rfl rfl rfl inclExact_qn Tryz.func4 inclExact_qj
    inclExact_qd inclExact_qw
    (fun os started H enc _ F0 => by rw [OpenClaim.pre_eq_preRow]; exact inclExact_lifted os started H enc)

theorem inclExact_holds : Rows.InclExactCardSaid :=
  Claim7.holds_tied_plain_at .later [] [.data, .pinned] true (true, "8381f30e633e0d7317f6c5999a06f8589083a5cc0e7a2d17ab385dd6225734d1") false
    inclExact_over (fun _ h => by cases h) inclExact_q40 (fun _ h => by cases h) inclExact_row_tie rfl ⟨rfl, rfl⟩ inclExact_q41 rfl
    (fun f fn hf hfn => by
      obtain rfl : f = 4 := Option.some.inj (inclExact_qn.symm.trans hf) |>.symm
      obtain rfl : fn = Tryz.f4 := (Option.some.inj (Tryz.func4.symm.trans hfn)).symm
      refine ⟨inclExact_q42, fun j t ht => ?_⟩
      have g := List.all_eq_true.1 inclExact_q43 t (List.mem_of_getElem? (by simpa using ht))
      exact (by simpa using g : Tryz.prog.wantsStandIn t = false))
    inclExact_q44
#print axioms inclExact_holds

end Go.Proofs.YtgfdogdnlgfcpaaGreatDoor
