/-
  The statement ValSizes, a tied card: whatever its arguments the law returns true and leaves them as they are. No condition.
-/
import Derived.Test.YtcememnoihgipaaGreatDoorLp5
import Derived.Test.YtcememnoihgipaaGreatDoorRows
import Derived.Test.YtcememnoihgipaaGreatDoorCards
import Derived.Test.YtcememnoihgipaaGreatDoorTie
import Derived.SevenTiedAt

set_option linter.all false
namespace Go.Proofs.YtcememnoihgipaaGreatDoor
open Go Lp Go.Shelf Go.RowKit

set_option maxHeartbeats 2000000
set_option maxRecDepth 100000

theorem valSizes_row (os : Os) {H : Type} (enc : TypeId × Value → H) :
    (OpenSpec.ofChange Rows.valSizesSpec).preRow enc Tryz.prog Tryz.f7 Rows.valSizesRow.domain false Rows.valSizesRow.laid ((laidWorld os).forCall (fun _ _ => 0) ⟨#[], #[.slice none 0 0, .slice none 0 0, .string ⟨#[]⟩], []⟩).memory #[.slice none 0 0, .slice none 0 0, .string ⟨#[]⟩] := by
  have hw : (DataW.whole enc Tryz.prog ((laidWorld os).forCall (fun _ _ => 0) ⟨#[], #[.slice none 0 0, .slice none 0 0, .string ⟨#[]⟩], []⟩).memory Tryz.f7.params.toList (OpenSpec.ofChange Rows.valSizesSpec).vars false (#[.slice none 0 0, .slice none 0 0, .string ⟨#[]⟩] : Array Value).toList 8).map (fun x => (x.1, x.2.1)) =
      some ([.nil, .nil, .lit (.string [])], []) := by kernel_rfl
  obtain ⟨⟨x1, x2, x3⟩, hx, hx1⟩ := Option.map_eq_some_iff.1 hw
  simp only [Prod.mk.injEq] at hx1
  obtain ⟨rfl, rfl⟩ := hx1
  exact OpenSpec.preRow_of_cond 8 hx (by kernel_rfl) (fun k hk => by cases hk) (by kernel_rfl) (laid_met os _)

theorem valSizes_lifted (os : Os) (started : os.Started) (H : Type) (enc : TypeId × Value → H) :
    ReturnsInHanded {} Tryz.checked os f_loupelaw02_ValSizes .any ((OpenSpec.ofChange Rows.valSizesSpec).preRow enc Tryz.prog Tryz.f7 Rows.valSizesRow.domain false Rows.valSizesRow.laid) (Rows.valSizesSpec.post enc Tryz.prog Tryz.f7 false true false false) := by
  refine law_lifted2 (C := Tryz.checked) (tb := t_bool) (by kernel_rfl) started (by kernel_rfl) Tryz.func7
    (witness_row_atRef (enc := enc) (C := Tryz.checked) false (laidWorld os) #[.slice none 0 0, .slice none 0 0, .string ⟨#[]⟩] rfl (by kernel_rfl) (by kernel_rfl) (by kernel_rfl) (valSizes_row os enc))
    (by kernel_rfl) (fun t ht => ?_) (by kernel_rfl) (by kernel_rfl) u_bool rfl rfl (fun ds hd => ?_) (fun W base args ds ps hval hA hw => ?_) (fun W h => glob_laid h)
  · have h : (Tryz.f7.params.toList.all fun t => Tryz.prog.readableRec t && decide (t < Tryz.prog.types.size)) = true := by kernel_rfl
    have g := List.all_eq_true.1 h t ht
    rw [Bool.and_eq_true] at g
    exact ⟨g.1, of_decide_eq_true g.2⟩
  · have h : Tryz.f7.params.toList.length = 3 := by kernel_rfl
    rw [h] at hd
    match ds, hd with
    | [d0, d1, d2], _ => rfl
  · have h : Tryz.f7.params = #[t_L_api_Val, t_api_Val, t_string] := by kernel_rfl
    rw [h] at hval hA hw
    obtain ⟨v0, vs0, d0, ds0, p0, q0, rfl, rfl, rfl, h0, r0⟩ := Go.ChangeShapes.trodAll_cons hA
    obtain ⟨v1, vs1, d1, ds1, p1, q1, rfl, rfl, rfl, h1, r1⟩ := Go.ChangeShapes.trodAll_cons r0
    obtain ⟨v2, vs2, d2, ds2, p2, q2, rfl, rfl, rfl, h2, r2⟩ := Go.ChangeShapes.trodAll_cons r1
    obtain ⟨rfl, rfl, rfl⟩ := Go.ChangeShapes.trodAll_nil r2
    obtain ⟨a0, g0, w0⟩ := rd_arg u_vals rd_vals (fun _ => rfl) (hval 0 t_L_api_Val v0 rfl rfl) h0 (fun n hn => hw n (weightsEach_mem _ _ 0 t_L_api_Val d0 rfl rfl hn))
    obtain ⟨a1, g1, w1⟩ := rd_arg u_val rd_val (fun _ => rfl) (hval 1 t_api_Val v1 rfl rfl) h1 (fun n hn => hw n (weightsEach_mem _ _ 1 t_api_Val d1 rfl rfl hn))
    obtain ⟨a2, g2, w2⟩ := rd_S (hval 2 t_string v2 rfl rfl) h2 (fun n hn => hw n (weightsEach_mem _ _ 2 t_string d2 rfl rfl hn))
    exact ⟨[encL a0, encV a1, .str a2], repL_cons w0 (repL_cons w1 (repL_cons w2 repL_nil)), valSizes_spec a0 a1 a2 g0 g1 g2⟩

theorem valSizes_q0 : (Rows.valSizesRow.wf (OpenSpec.ofChange (OpenSpec.ofChange Rows.valSizesSpec).bare)) = true := by kernel_rfl
theorem valSizes_q1 : (laidOutB Tryz.pinned.checked.prog) = true := by kernel_rfl
theorem valSizes_q2 : (mapsRowed Tryz.pinned.checked.prog) = true := by kernel_rfl
theorem valSizes_q3 : (Tryz.f7.params.all (Tryz.pinned.checked.prog.readableRec ·)) = true := by kernel_rfl
theorem valSizes_q4 : (namedTie Tryz.pinned.checked.prog Rows.valSizesRow.named (OpenSpec.ofChange Rows.valSizesSpec).bare.vars) = true := by kernel_rfl
theorem valSizes_q5 : ((Rows.valSizesRow.stops == [])) = true := by kernel_rfl
theorem valSizes_q6 : ((Tryz.pinned.checked.prog.stops == [])) = true := by kernel_rfl
theorem valSizes_q7 : ((Rows.valSizesRow.knobs == [])) = true := by kernel_rfl
theorem valSizes_q8 : ((Tryz.pinned.checked.prog.stopKnobs == [])) = true := by kernel_rfl
theorem valSizes_q9 : ((Rows.valSizesRow.inPlace == Tryz.pinned.checked.prog.inPlace f_loupelaw02_ValSizes)) = true := by kernel_rfl
theorem valSizes_q10 : ((Rows.valSizesRow.unfollowed == Tryz.pinned.checked.prog.unfollowed f_loupelaw02_ValSizes)) = true := by kernel_rfl
theorem valSizes_q11 : ((Rows.valSizesRow.recurses == Tryz.pinned.checked.prog.recurses f_loupelaw02_ValSizes)) = true := by kernel_rfl
theorem valSizes_q12 : ((Rows.valSizesRow.named == Tryz.pinned.checked.prog.varsNamed f_loupelaw02_ValSizes)) = true := by kernel_rfl
theorem valSizes_q13 : ((Rows.valSizesRow.maps == (Tryz.f7.params.toList ++ (OpenSpec.ofChange Rows.valSizesSpec).bare.plain.varTypes Tryz.pinned.checked.prog).any (Tryz.pinned.checked.prog.mapsRec ·))) = true := by kernel_rfl
theorem valSizes_q14 : ((Rows.valSizesRow.ifaces == (Tryz.f7.params.toList ++ (OpenSpec.ofChange Rows.valSizesSpec).bare.plain.varTypes Tryz.pinned.checked.prog).any (Tryz.pinned.checked.prog.ifacesRec ·))) = true := by kernel_rfl
theorem valSizes_q15 : ((Rows.valSizesRow.mapsOut == Tryz.pinned.checked.prog.mapsAmong Tryz.f7.resultTypes.toList)) = true := by kernel_rfl
theorem valSizes_q16 : ((Rows.valSizesRow.loops == (Tryz.f7.params.toList ++ (OpenSpec.ofChange Rows.valSizesSpec).bare.plain.varTypes Tryz.pinned.checked.prog).any (Tryz.pinned.checked.prog.loopsFrom ·))) = true := by kernel_rfl
theorem valSizes_q17 : ((Rows.valSizesRow.wideKeys == (Tryz.f7.params.toList ++ (OpenSpec.ofChange Rows.valSizesSpec).bare.plain.varTypes Tryz.pinned.checked.prog ++ Tryz.f7.resultTypes.toList).any (Tryz.pinned.checked.prog.wideKeysFrom ·))) = true := by kernel_rfl
theorem valSizes_q18 : ((OpenSpec.ofChange Rows.valSizesSpec).bare.vars.all (Tryz.pinned.checked.prog.varReadable ·)) = true := by kernel_rfl
theorem valSizes_q19 : (Tryz.f7.resultTypes.all (fun t => Tryz.pinned.checked.prog.readableRec t && decide (t < Tryz.pinned.checked.prog.types.size))) = true := by kernel_rfl
theorem valSizes_q20 : ((Rows.valSizesRow.ifacesOut == Tryz.f7.resultTypes.toList.any (Tryz.pinned.checked.prog.ifacesRec ·))) = true := by kernel_rfl
theorem valSizes_q21 : ((Rows.valSizesRow.loopsOut == Tryz.f7.resultTypes.toList.any (Tryz.pinned.checked.prog.loopsFrom ·))) = true := by kernel_rfl
theorem valSizes_q22 : ((Rows.valSizesRow.plainKeys == Tryz.pinned.checked.prog.plainKeys)) = true := by kernel_rfl
theorem valSizes_q23 : (Rows.valSizesRow.shortTexts.isNone) = true := by kernel_rfl
theorem valSizes_q24 : (Tryz.pinned.checked.prog.stopsHeard) = true := by kernel_rfl
theorem valSizes_q25 : (Tryz.pinned.checked.prog.mayEnter) = true := by kernel_rfl
theorem valSizes_q26 : ((Rows.valSizesRow.lifted == Tryz.pinned.checked.prog.liftsFinal)) = true := by kernel_rfl
theorem valSizes_q27 : ((Tryz.pinned.checked.prog.make == some Rows.valSizesRow.make)) = true := by kernel_rfl
theorem valSizes_q28 : ((Rows.valSizesRow.kinds == (if Rows.valSizesRow.domain.isEmpty then [] else Tryz.f7.params.toList.map fun t => match Tryz.pinned.checked.prog.underlying t with | some (.int k) => some k | _ => none))) = true := by kernel_rfl
theorem valSizes_q29 : ((Rows.valSizesRow.pinned == Rows.valSizesRow.pinnedBy)) = true := by kernel_rfl
theorem valSizes_q30 : ((Rows.valSizesRow.veiled == (Tryz.f7.params.toList ++ (OpenSpec.ofChange Rows.valSizesSpec).bare.plain.varTypes Tryz.pinned.checked.prog ++ Tryz.f7.resultTypes.toList).any (Tryz.pinned.checked.prog.veiledRec ·))) = true := by kernel_rfl
theorem valSizes_q31 : (Rows.valSizesRow.veiledFits Tryz.pinned.checked.prog Tryz.f7.params.toList (Tryz.f7.params.toList ++ (OpenSpec.ofChange Rows.valSizesSpec).bare.plain.varTypes Tryz.pinned.checked.prog ++ Tryz.f7.resultTypes.toList)) = true := by kernel_rfl
theorem valSizes_qj : joinedFacts Tryz.pinned.checked.prog f_loupelaw02_ValSizes Tryz.f7 (OpenSpec.ofChange Rows.valSizesSpec).bare Rows.valSizesRow = true := joined_mk valSizes_q0 valSizes_q1 valSizes_q2 valSizes_q3 valSizes_q4 valSizes_q5 valSizes_q6 valSizes_q7 valSizes_q8 valSizes_q9 valSizes_q10 valSizes_q11 valSizes_q12 valSizes_q13 valSizes_q14 valSizes_q15 valSizes_q16 valSizes_q17 valSizes_q18 valSizes_q19 valSizes_q20 valSizes_q21 valSizes_q22 valSizes_q23 valSizes_q24 valSizes_q25 valSizes_q26 valSizes_q27 valSizes_q28 valSizes_q29 valSizes_q30 valSizes_q31
theorem valSizes_qn : Tryz.pinned.checked.prog.funcNamed Rows.valSizesRow.func = some f_loupelaw02_ValSizes := by kernel_rfl
theorem valSizes_qd : Tryz.f7.isInstance Tryz.pinned.checked.prog Rows.valSizesRow.origin Rows.valSizesRow.targs := of_decide_eq_true (by kernel_rfl)
theorem valSizes_qw : Tryz.f7.isWrapper Tryz.pinned.checked.prog Rows.valSizesRow.wrapper Rows.valSizesRow.mainSum := by unfold Func.isWrapper; first | (rw [if_pos (by decide +kernel)]; kernel_rfl) | (rw [if_neg (by decide +kernel)]; exact ⟨rfl, rfl⟩)
theorem valSizes_q40 : Rows.valSizesRow.wfByText (OpenSpec.ofChange Rows.valSizesSpec) = true := by kernel_rfl
theorem valSizes_q41 : Tryz.pinned.checked.prog.mainIs = some ((true, "e72485a34481c9af3caea48386f20d1b6f5dea03a4c16c0b11945e70a970f3e9").1, ((true, "e72485a34481c9af3caea48386f20d1b6f5dea03a4c16c0b11945e70a970f3e9") : Bool × String).2.toList) := by kernel_rfl
theorem valSizes_q42 : true = Tryz.pinned.checked.prog.looks [] := by kernel_rfl
theorem valSizes_q43 : (Tryz.f7.params.toList.all fun t => !Tryz.prog.wantsStandIn t) = true := by kernel_rfl
theorem valSizes_q44 : false = Rows.valSizesRow.goesBy Tryz.pinned.checked.prog := by kernel_rfl

theorem valSizes_over : Rows.valSizesRow.holds Tryz.pinned (OpenSpec.ofChange Rows.valSizesSpec) :=
  OpenClaim.holds_of_cond f_loupelaw02_ValSizes Tryz.f7 rfl rfl rfl rfl rfl rfl rfl ⟨rfl, rfl, rfl, rfl, rfl⟩ rfl rfl rfl rfl rfl valSizes_qn Tryz.func7 valSizes_qj
    valSizes_qd valSizes_qw
    (fun os started H enc _ F0 => by rw [OpenClaim.pre_eq_preRow]; exact valSizes_lifted os started H enc)

theorem valSizes_holds : Rows.ValSizesCardSaid :=
  Claim7.holds_tied_plain_at .later [] [.data, .pinned] true (true, "e72485a34481c9af3caea48386f20d1b6f5dea03a4c16c0b11945e70a970f3e9") true
    valSizes_over (fun _ h => by cases h) valSizes_q40 (fun _ h => by cases h) valSizes_row_tie rfl ⟨rfl, rfl⟩ valSizes_q41 rfl
    (fun f fn hf hfn => by
      obtain rfl : f = f_loupelaw02_ValSizes := Option.some.inj (valSizes_qn.symm.trans hf) |>.symm
      obtain rfl : fn = Tryz.f7 := (Option.some.inj (Tryz.func7.symm.trans hfn)).symm
      refine ⟨valSizes_q42, fun j t ht => ?_⟩
      have g := List.all_eq_true.1 valSizes_q43 t (List.mem_of_getElem? (by simpa using ht))
      exact (by simpa using g : Tryz.prog.wantsStandIn t = false))
    valSizes_q44
#print axioms valSizes_holds

end Go.Proofs.YtcememnoihgipaaGreatDoor
