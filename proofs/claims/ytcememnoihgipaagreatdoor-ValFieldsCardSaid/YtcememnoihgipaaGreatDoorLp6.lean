/-
  The statement ValFields, a tied card: whatever its arguments the law returns true and leaves them as they are. No condition.
-/
import Derived.Test.YtcememnoihgipaaGreatDoorLp5
import Derived.Test.YtcememnoihgipaaGreatDoorRows
import Derived.Test.YtcememnoihgipaaGreatDoorCards
import Derived.Test.YtcememnoihgipaaGreatDoorTie
import Derived.SevenTiedAt

set_option linter.all false
namespace Go.Proofs.YtcememnoihgipaaGreatDoor
open Go Lp Go.Shelf Go.RowKit

set_option maxHeartbeats 2000000
set_option maxRecDepth 100000

theorem valFields_row (os : Os) {H : Type} (enc : TypeId × Value → H) :
    (OpenSpec.ofChange Rows.valFieldsSpec).preRow enc Tryz.prog Tryz.f5 Rows.valFieldsRow.domain false Rows.valFieldsRow.laid ((laidWorld os).forCall (fun _ _ => 0) ⟨#[], #[.slice none 0 0, .string ⟨#[]⟩, .slice none 0 0], []⟩).memory #[.slice none 0 0, .string ⟨#[]⟩, .slice none 0 0] := by
  have hw : (DataW.whole enc Tryz.prog ((laidWorld os).forCall (fun _ _ => 0) ⟨#[], #[.slice none 0 0, .string ⟨#[]⟩, .slice none 0 0], []⟩).memory Tryz.f5.params.toList (OpenSpec.ofChange Rows.valFieldsSpec).vars false (#[.slice none 0 0, .string ⟨#[]⟩, .slice none 0 0] : Array Value).toList 8).map (fun x => (x.1, x.2.1)) =
      some ([.nil, .lit (.string []), .nil], []) := by kernel_rfl
  obtain ⟨⟨x1, x2, x3⟩, hx, hx1⟩ := Option.map_eq_some_iff.1 hw
  simp only [Prod.mk.injEq] at hx1
  obtain ⟨rfl, rfl⟩ := hx1
  exact OpenSpec.preRow_of_cond 8 hx (by kernel_rfl) (fun k hk => by cases hk) (by kernel_rfl) (laid_met os _)

theorem valFields_lifted (os : Os) (started : os.Started) (H : Type) (enc : TypeId × Value → H) :
    ReturnsInHanded {} Tryz.checked os f_loupelaw02_ValFields .any ((OpenSpec.ofChange Rows.valFieldsSpec).preRow enc Tryz.prog Tryz.f5 Rows.valFieldsRow.domain false Rows.valFieldsRow.laid) (Rows.valFieldsSpec.post enc Tryz.prog Tryz.f5 false true false false) := by
  refine law_lifted2 (C := Tryz.checked) (tb := t_bool) (by kernel_rfl) started (by kernel_rfl) Tryz.func5
    (witness_row_atRef (enc := enc) (C := Tryz.checked) false (laidWorld os) #[.slice none 0 0, .string ⟨#[]⟩, .slice none 0 0] rfl (by kernel_rfl) (by kernel_rfl) (by kernel_rfl) (valFields_row os enc))
    (by kernel_rfl) (fun t ht => ?_) (by kernel_rfl) (by kernel_rfl) u_bool rfl rfl (fun ds hd => ?_) (fun W base args ds ps hval hA hw => ?_) (fun W h => glob_laid h)
  · have h : (Tryz.f5.params.toList.all fun t => Tryz.prog.readableRec t && decide (t < Tryz.prog.types.size)) = true := by kernel_rfl
    have g := List.all_eq_true.1 h t ht
    rw [Bool.and_eq_true] at g
    exact ⟨g.1, of_decide_eq_true g.2⟩
  · have h : Tryz.f5.params.toList.length = 3 := by kernel_rfl
    rw [h] at hd
    match ds, hd with
    | [d0, d1, d2], _ => rfl
  · have h : Tryz.f5.params = #[t_api_Val, t_string, t_api_Val] := by kernel_rfl
    rw [h] at hval hA hw
    obtain ⟨v0, vs0, d0, ds0, p0, q0, rfl, rfl, rfl, h0, r0⟩ := Go.ChangeShapes.trodAll_cons hA
    obtain ⟨v1, vs1, d1, ds1, p1, q1, rfl, rfl, rfl, h1, r1⟩ := Go.ChangeShapes.trodAll_cons r0
    obtain ⟨v2, vs2, d2, ds2, p2, q2, rfl, rfl, rfl, h2, r2⟩ := Go.ChangeShapes.trodAll_cons r1
    obtain ⟨rfl, rfl, rfl⟩ := Go.ChangeShapes.trodAll_nil r2
    obtain ⟨a0, g0, w0⟩ := rd_arg u_val rd_val (fun _ => rfl) (hval 0 t_api_Val v0 rfl rfl) h0 (fun n hn => hw n (weightsEach_mem _ _ 0 t_api_Val d0 rfl rfl hn))
    obtain ⟨a1, g1, w1⟩ := rd_S (hval 1 t_string v1 rfl rfl) h1 (fun n hn => hw n (weightsEach_mem _ _ 1 t_string d1 rfl rfl hn))
    obtain ⟨a2, g2, w2⟩ := rd_arg u_val rd_val (fun _ => rfl) (hval 2 t_api_Val v2 rfl rfl) h2 (fun n hn => hw n (weightsEach_mem _ _ 2 t_api_Val d2 rfl rfl hn))
    exact ⟨[encV a0, .str a1, encV a2], repL_cons w0 (repL_cons w1 (repL_cons w2 repL_nil)), valFields_spec a0 a1 a2 g0 g1 g2⟩

theorem valFields_q0 : (Rows.valFieldsRow.wf (OpenSpec.ofChange (OpenSpec.ofChange Rows.valFieldsSpec).bare)) = true := by kernel_rfl
theorem valFields_q1 : (laidOutB Tryz.pinned.checked.prog) = true := by kernel_rfl
theorem valFields_q2 : (mapsRowed Tryz.pinned.checked.prog) = true := by kernel_rfl
theorem valFields_q3 : (Tryz.f5.params.all (Tryz.pinned.checked.prog.readableRec ·)) = true := by kernel_rfl
theorem valFields_q4 : (namedTie Tryz.pinned.checked.prog Rows.valFieldsRow.named (OpenSpec.ofChange Rows.valFieldsSpec).bare.vars) = true := by kernel_rfl
theorem valFields_q5 : ((Rows.valFieldsRow.stops == [])) = true := by kernel_rfl
theorem valFields_q6 : ((Tryz.pinned.checked.prog.stops == [])) = true := by kernel_rfl
theorem valFields_q7 : ((Rows.valFieldsRow.knobs == [])) = true := by kernel_rfl
theorem valFields_q8 : ((Tryz.pinned.checked.prog.stopKnobs == [])) = true := by kernel_rfl
theorem valFields_q9 : ((Rows.valFieldsRow.inPlace == Tryz.pinned.checked.prog.inPlace f_loupelaw02_ValFields)) = true := by kernel_rfl
theorem valFields_q10 : ((Rows.valFieldsRow.unfollowed == Tryz.pinned.checked.prog.unfollowed f_loupelaw02_ValFields)) = true := by kernel_rfl
theorem valFields_q11 : ((Rows.valFieldsRow.recurses == Tryz.pinned.checked.prog.recurses f_loupelaw02_ValFields)) = true := by kernel_rfl
theorem valFields_q12 : ((Rows.valFieldsRow.named == Tryz.pinned.checked.prog.varsNamed f_loupelaw02_ValFields)) = true := by kernel_rfl
theorem valFields_q13 : ((Rows.valFieldsRow.maps == (Tryz.f5.params.toList ++ (OpenSpec.ofChange Rows.valFieldsSpec).bare.plain.varTypes Tryz.pinned.checked.prog).any (Tryz.pinned.checked.prog.mapsRec ·))) = true := by kernel_rfl
theorem valFields_q14 : ((Rows.valFieldsRow.ifaces == (Tryz.f5.params.toList ++ (OpenSpec.ofChange Rows.valFieldsSpec).bare.plain.varTypes Tryz.pinned.checked.prog).any (Tryz.pinned.checked.prog.ifacesRec ·))) = true := by kernel_rfl
theorem valFields_q15 : ((Rows.valFieldsRow.mapsOut == Tryz.pinned.checked.prog.mapsAmong Tryz.f5.resultTypes.toList)) = true := by kernel_rfl
theorem valFields_q16 : ((Rows.valFieldsRow.loops == (Tryz.f5.params.toList ++ (OpenSpec.ofChange Rows.valFieldsSpec).bare.plain.varTypes Tryz.pinned.checked.prog).any (Tryz.pinned.checked.prog.loopsFrom ·))) = true := by kernel_rfl
theorem valFields_q17 : ((Rows.valFieldsRow.wideKeys == (Tryz.f5.params.toList ++ (OpenSpec.ofChange Rows.valFieldsSpec).bare.plain.varTypes Tryz.pinned.checked.prog ++ Tryz.f5.resultTypes.toList).any (Tryz.pinned.checked.prog.wideKeysFrom ·))) = true := by kernel_rfl
theorem valFields_q18 : ((OpenSpec.ofChange Rows.valFieldsSpec).bare.vars.all (Tryz.pinned.checked.prog.varReadable ·)) = true := by kernel_rfl
theorem valFields_q19 : (Tryz.f5.resultTypes.all (fun t => Tryz.pinned.checked.prog.readableRec t && decide (t < Tryz.pinned.checked.prog.types.size))) = true := by kernel_rfl
theorem valFields_q20 : ((Rows.valFieldsRow.ifacesOut == Tryz.f5.resultTypes.toList.any (Tryz.pinned.checked.prog.ifacesRec ·))) = true := by kernel_rfl
theorem valFields_q21 : ((Rows.valFieldsRow.loopsOut == Tryz.f5.resultTypes.toList.any (Tryz.pinned.checked.prog.loopsFrom ·))) = true := by kernel_rfl
theorem valFields_q22 : ((Rows.valFieldsRow.plainKeys == Tryz.pinned.checked.prog.plainKeys)) = true := by kernel_rfl
theorem valFields_q23 : (Rows.valFieldsRow.shortTexts.isNone) = true := by kernel_rfl
theorem valFields_q24 : (Tryz.pinned.checked.prog.stopsHeard) = true := by kernel_rfl
theorem valFields_q25 : (Tryz.pinned.checked.prog.mayEnter) = true := by kernel_rfl
theorem valFields_q26 : ((Rows.valFieldsRow.lifted == Tryz.pinned.checked.prog.liftsFinal)) = true := by kernel_rfl
theorem valFields_q27 : ((Tryz.pinned.checked.prog.make == some Rows.valFieldsRow.make)) = true := by kernel_rfl
theorem valFields_q28 : ((Rows.valFieldsRow.kinds == (if Rows.valFieldsRow.domain.isEmpty then [] else Tryz.f5.params.toList.map fun t => match Tryz.pinned.checked.prog.underlying t with | some (.int k) => some k | _ => none))) = true := by kernel_rfl
theorem valFields_q29 : ((Rows.valFieldsRow.pinned == Rows.valFieldsRow.pinnedBy)) = true := by kernel_rfl
theorem valFields_q30 : ((Rows.valFieldsRow.veiled == (Tryz.f5.params.toList ++ (OpenSpec.ofChange Rows.valFieldsSpec).bare.plain.varTypes Tryz.pinned.checked.prog ++ Tryz.f5.resultTypes.toList).any (Tryz.pinned.checked.prog.veiledRec ·))) = true := by kernel_rfl
theorem valFields_q31 : (Rows.valFieldsRow.veiledFits Tryz.pinned.checked.prog Tryz.f5.params.toList (Tryz.f5.params.toList ++ (OpenSpec.ofChange Rows.valFieldsSpec).bare.plain.varTypes Tryz.pinned.checked.prog ++ Tryz.f5.resultTypes.toList)) = true := by kernel_rfl
theorem valFields_qj : joinedFacts Tryz.pinned.checked.prog f_loupelaw02_ValFields Tryz.f5 (OpenSpec.ofChange Rows.valFieldsSpec).bare Rows.valFieldsRow = true := joined_mk valFields_q0 valFields_q1 valFields_q2 valFields_q3 valFields_q4 valFields_q5 valFields_q6 valFields_q7 valFields_q8 valFields_q9 valFields_q10 valFields_q11 valFields_q12 valFields_q13 valFields_q14 valFields_q15 valFields_q16 valFields_q17 valFields_q18 valFields_q19 valFields_q20 valFields_q21 valFields_q22 valFields_q23 valFields_q24 valFields_q25 valFields_q26 valFields_q27 valFields_q28 valFields_q29 valFields_q30 valFields_q31
theorem valFields_qn : Tryz.pinned.checked.prog.funcNamed Rows.valFieldsRow.func = some f_loupelaw02_ValFields := by kernel_rfl
theorem valFields_qd : Tryz.f5.isInstance Tryz.pinned.checked.prog Rows.valFieldsRow.origin Rows.valFieldsRow.targs := of_decide_eq_true (by kernel_rfl)
theorem valFields_qw : Tryz.f5.isWrapper Tryz.pinned.checked.prog Rows.valFieldsRow.wrapper Rows.valFieldsRow.mainSum := by unfold Func.isWrapper; first | (rw [if_pos (by decide +kernel)]; kernel_rfl) | (rw [if_neg (by decide +kernel)]; exact ⟨rfl, rfl⟩)
theorem valFields_q40 : Rows.valFieldsRow.wfByText (OpenSpec.ofChange Rows.valFieldsSpec) = true := by kernel_rfl
theorem valFields_q41 : Tryz.pinned.checked.prog.mainIs = some ((true, "e72485a34481c9af3caea48386f20d1b6f5dea03a4c16c0b11945e70a970f3e9").1, ((true, "e72485a34481c9af3caea48386f20d1b6f5dea03a4c16c0b11945e70a970f3e9") : Bool × String).2.toList) := by kernel_rfl
theorem valFields_q42 : true = Tryz.pinned.checked.prog.looks [] := by kernel_rfl
theorem valFields_q43 : (Tryz.f5.params.toList.all fun t => !Tryz.prog.wantsStandIn t) = true := by kernel_rfl
theorem valFields_q44 : false = Rows.valFieldsRow.goesBy Tryz.pinned.checked.prog := by kernel_rfl

theorem valFields_over : Rows.valFieldsRow.holds Tryz.pinned (OpenSpec.ofChange Rows.valFieldsSpec) :=
  OpenClaim.holds_of_cond f_loupelaw02_ValFields Tryz.f5 rfl rfl rfl rfl rfl rfl rfl ⟨rfl, rfl, rfl, rfl, rfl⟩ rfl rfl rfl rfl rfl valFields_qn Tryz.func5 valFields_qj
    valFields_qd valFields_qw
    (fun os started H enc _ F0 => by rw [OpenClaim.pre_eq_preRow]; exact valFields_lifted os started H enc)

theorem valFields_holds : Rows.ValFieldsCardSaid :=
  Claim7.holds_tied_plain_at .later [] [.data, .pinned] true (true, "e72485a34481c9af3caea48386f20d1b6f5dea03a4c16c0b11945e70a970f3e9") true
    valFields_over (fun _ h => by cases h) valFields_q40 (fun _ h => by cases h) valFields_row_tie rfl ⟨rfl, rfl⟩ valFields_q41 rfl
    (fun f fn hf hfn => by
      obtain rfl : f = f_loupelaw02_ValFields := Option.some.inj (valFields_qn.symm.trans hf) |>.symm
      obtain rfl : fn = Tryz.f5 := (Option.some.inj (Tryz.func5.symm.trans hfn)).symm
      refine ⟨valFields_q42, fun j t ht => ?_⟩
      have g := List.all_eq_true.1 valFields_q43 t (List.mem_of_getElem? (by simpa using ht))
      exact (by simpa using g : Tryz.prog.wantsStandIn t = false))
    valFields_q44
#print axioms valFields_holds

end Go.Proofs.YtcememnoihgipaaGreatDoor
