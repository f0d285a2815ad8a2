import Derived.Test.YthmobaehdbiljaaGreatDoorLp6
import Derived.Test.YthmobaehdbiljaaGreatDoorRows
import Derived.Test.YthmobaehdbiljaaGreatDoorCards
import Derived.Test.YthmobaehdbiljaaGreatDoorTie
import Derived.SevenTiedAt

set_option linter.all false
set_option maxHeartbeats 8000000
set_option maxRecDepth 100000

/-
  The statement EditDoes, a tied card: whatever its arguments the law returns true and leaves them as they are. No condition.
-/
namespace Go.Proofs.YthmobaehdbiljaaGreatDoor
open Go Lp Go.Shelf Go.RowKit


theorem editDoes_row (os : Os) {H : Type} (enc : TypeId × Value → H) :
    (OpenSpec.ofChange Rows.editDoesSpec).preRow enc Tryz.prog Tryz.f4 Rows.editDoesRow.domain false Rows.editDoesRow.laid ((VR os).forCall (fun _ _ => 0) ⟨#[], #[.slice none 0 0, .slice none 0 0], []⟩).memory #[.slice none 0 0, .slice none 0 0] := by
  have hw : (DataW.whole enc Tryz.prog ((VR os).forCall (fun _ _ => 0) ⟨#[], #[.slice none 0 0, .slice none 0 0], []⟩).memory Tryz.f4.params.toList (OpenSpec.ofChange Rows.editDoesSpec).vars false (#[.slice none 0 0, .slice none 0 0] : Array Value).toList 8).map (fun x => (x.1, x.2.1)) =
      some ([.nil, .nil], []) := by kernel_rfl
  obtain ⟨⟨x1, x2, x3⟩, hx, hx1⟩ := Option.map_eq_some_iff.1 hw
  simp only [Prod.mk.injEq] at hx1
  obtain ⟨rfl, rfl⟩ := hx1
  exact OpenSpec.preRow_of_cond 8 hx (by kernel_rfl) (fun k hk => by cases hk) (by kernel_rfl) (adT os _)

theorem editDoes_lifted (os : Os) (started : os.Started) (H : Type) (enc : TypeId × Value → H) :
    ReturnsInHanded {} Tryz.checked os 4 .any ((OpenSpec.ofChange Rows.editDoesSpec).preRow enc Tryz.prog Tryz.f4 Rows.editDoesRow.domain false Rows.editDoesRow.laid) (Rows.editDoesSpec.post enc Tryz.prog Tryz.f4 false true false false) := by
  refine aaV (C := Tryz.checked) (tb := 4) (by kernel_rfl) started (by kernel_rfl) Tryz.func4
    (witness_row_atRef (enc := enc) (C := Tryz.checked) false (VR os) #[.slice none 0 0, .slice none 0 0] rfl (by kernel_rfl) (by kernel_rfl) (by kernel_rfl) (editDoes_row os enc))
    (by kernel_rfl) (fun t ht => ?_) (by kernel_rfl) (by kernel_rfl) XJ rfl rfl (fun ds hd => ?_) (fun W base args ds ps hval hA hw => ?_) (fun W h => aco h)
  · have h : (Tryz.f4.params.toList.all fun t => Tryz.prog.readableRec t && decide (t < Tryz.prog.types.size)) = true := by kernel_rfl
    have g := List.all_eq_true.1 h t ht
    rw [Bool.and_eq_true] at g
    exact ⟨g.1, of_decide_eq_true g.2⟩
  · have h : Tryz.f4.params.toList.length = 2 := by kernel_rfl
    rw [h] at hd
    match ds, hd with
    | [d0, d1], _ => rfl
  · have h : Tryz.f4.params = #[23, 27] := by kernel_rfl
    rw [h] at hval hA hw
    obtain ⟨v0, vs0, d0, ds0, p0, q0, rfl, rfl, rfl, h0, r0⟩ := Go.ChangeShapes.trodAll_cons hA
    obtain ⟨v1, vs1, d1, ds1, p1, q1, rfl, rfl, rfl, h1, r1⟩ := Go.ChangeShapes.trodAll_cons r0
    obtain ⟨rfl, rfl, rfl⟩ := Go.ChangeShapes.trodAll_nil r1
    obtain ⟨a0, g0, w0⟩ := ael adn rd_val (fun _ => rfl) (hval 0 23 v0 rfl rfl) h0 (fun n hn => hw n (vS _ _ 0 23 d0 rfl rfl hn))
    obtain ⟨a1, g1, w1⟩ := ael Z9 adS (fun _ => rfl) (hval 1 27 v1 rfl rfl) h1 (fun n hn => hw n (vS _ _ 1 27 d1 rfl rfl hn))
    exact ⟨[aj a0, jK a1], p9 w0 (p9 w1 O8), YI a0 a1 g0 g1⟩

theorem editDoes_q0 : (Rows.editDoesRow.wf (OpenSpec.ofChange (OpenSpec.ofChange Rows.editDoesSpec).bare)) = true := by kernel_rfl
theorem editDoes_q1 : (laidOutB Tryz.pinned.checked.prog) = true := by kernel_rfl
theorem editDoes_q2 : (mapsRowed Tryz.pinned.checked.prog) = true := by kernel_rfl
theorem editDoes_q3 : (Tryz.f4.params.all (Tryz.pinned.checked.prog.readableRec ·)) = true := by kernel_rfl
theorem editDoes_q4 : (namedTie Tryz.pinned.checked.prog Rows.editDoesRow.named (OpenSpec.ofChange Rows.editDoesSpec).bare.vars) = true := by kernel_rfl
theorem editDoes_q5 : ((Rows.editDoesRow.stops == [])) = true := by kernel_rfl
theorem editDoes_q6 : ((Tryz.pinned.checked.prog.stops == [])) = true := by kernel_rfl
theorem editDoes_q7 : ((Rows.editDoesRow.knobs == [])) = true := by kernel_rfl
theorem editDoes_q8 : ((Tryz.pinned.checked.prog.stopKnobs == [])) = true := by kernel_rfl
theorem editDoes_q9 : ((Rows.editDoesRow.inPlace == Tryz.pinned.checked.prog.inPlace 4)) = true := by kernel_rfl
theorem editDoes_q10 : ((Rows.editDoesRow.unfollowed == Tryz.pinned.checked.prog.unfollowed 4)) = true := by kernel_rfl
theorem editDoes_q11 : ((Rows.editDoesRow.recurses == Tryz.pinned.checked.prog.recurses 4)) = true := by kernel_rfl
theorem editDoes_q12 : ((Rows.editDoesRow.named == Tryz.pinned.checked.prog.varsNamed 4)) = true := by kernel_rfl
theorem editDoes_q13 : ((Rows.editDoesRow.maps == (Tryz.f4.params.toList ++ (OpenSpec.ofChange Rows.editDoesSpec).bare.plain.varTypes Tryz.pinned.checked.prog).any (Tryz.pinned.checked.prog.mapsRec ·))) = true := by kernel_rfl
theorem editDoes_q14 : ((Rows.editDoesRow.ifaces == (Tryz.f4.params.toList ++ (OpenSpec.ofChange Rows.editDoesSpec).bare.plain.varTypes Tryz.pinned.checked.prog).any (Tryz.pinned.checked.prog.ifacesRec ·))) = true := by kernel_rfl
theorem editDoes_q15 : ((Rows.editDoesRow.mapsOut == Tryz.pinned.checked.prog.mapsAmong Tryz.f4.resultTypes.toList)) = true := by kernel_rfl
theorem editDoes_q16 : ((Rows.editDoesRow.loops == (Tryz.f4.params.toList ++ (OpenSpec.ofChange Rows.editDoesSpec).bare.plain.varTypes Tryz.pinned.checked.prog).any (Tryz.pinned.checked.prog.loopsFrom ·))) = true := by kernel_rfl
theorem editDoes_q17 : ((Rows.editDoesRow.wideKeys == (Tryz.f4.params.toList ++ (OpenSpec.ofChange Rows.editDoesSpec).bare.plain.varTypes Tryz.pinned.checked.prog ++ Tryz.f4.resultTypes.toList).any (Tryz.pinned.checked.prog.wideKeysFrom ·))) = true := by kernel_rfl
theorem editDoes_q18 : ((OpenSpec.ofChange Rows.editDoesSpec).bare.vars.all (Tryz.pinned.checked.prog.varReadable ·)) = true := by kernel_rfl
theorem editDoes_q19 : (Tryz.f4.resultTypes.all (fun t => Tryz.pinned.checked.prog.readableRec t && decide (t < Tryz.pinned.checked.prog.types.size))) = true := by kernel_rfl
theorem editDoes_q20 : ((Rows.editDoesRow.ifacesOut == Tryz.f4.resultTypes.toList.any (Tryz.pinned.checked.prog.ifacesRec ·))) = true := by kernel_rfl
theorem editDoes_q21 : ((Rows.editDoesRow.loopsOut == Tryz.f4.resultTypes.toList.any (Tryz.pinned.checked.prog.loopsFrom ·))) = true := by kernel_rfl
theorem editDoes_q22 : ((Rows.editDoesRow.plainKeys == Tryz.pinned.checked.prog.plainKeys)) = true := by kernel_rfl
theorem editDoes_q23 : (Rows.editDoesRow.shortTexts.isNone) = true := by kernel_rfl
theorem editDoes_q24 : (Tryz.pinned.checked.prog.stopsHeard) = true := by kernel_rfl
theorem editDoes_q25 : (Tryz.pinned.checked.prog.mayEnter) = true := by kernel_rfl
theorem editDoes_q26 : ((Rows.editDoesRow.lifted == Tryz.pinned.checked.prog.liftsFinal)) = true := by kernel_rfl
theorem editDoes_q27 : ((Tryz.pinned.checked.prog.make == some Rows.editDoesRow.make)) = true := by kernel_rfl
theorem editDoes_q28 : ((Rows.editDoesRow.kinds == (if Rows.editDoesRow.domain.isEmpty then [] else Tryz.f4.params.toList.map fun t => match Tryz.pinned.checked.prog.underlying t with | some (.int k) => some k | _ => none))) = true := by kernel_rfl
theorem editDoes_q29 : ((Rows.editDoesRow.pinned == Rows.editDoesRow.pinnedBy)) = true := by kernel_rfl
theorem editDoes_q30 : ((Rows.editDoesRow.veiled == (Tryz.f4.params.toList ++ (OpenSpec.ofChange Rows.editDoesSpec).bare.plain.varTypes Tryz.pinned.checked.prog ++ Tryz.f4.resultTypes.toList).any (Tryz.pinned.checked.prog.veiledRec ·))) = true := by kernel_rfl
theorem editDoes_q31 : (Rows.editDoesRow.veiledFits Tryz.pinned.checked.prog Tryz.f4.params.toList (Tryz.f4.params.toList ++ (OpenSpec.ofChange Rows.editDoesSpec).bare.plain.varTypes Tryz.pinned.checked.prog ++ Tryz.f4.resultTypes.toList)) = true := by kernel_rfl
theorem editDoes_qj : joinedFacts Tryz.pinned.checked.prog 4 Tryz.f4 (OpenSpec.ofChange Rows.editDoesSpec).bare Rows.editDoesRow = true := acp editDoes_q0 editDoes_q1 editDoes_q2 editDoes_q3 editDoes_q4 editDoes_q5 editDoes_q6 editDoes_q7 editDoes_q8 editDoes_q9 editDoes_q10 editDoes_q11 editDoes_q12 editDoes_q13 editDoes_q14 editDoes_q15 editDoes_q16 editDoes_q17 editDoes_q18 editDoes_q19 editDoes_q20 editDoes_q21 editDoes_q22 editDoes_q23 editDoes_q24 editDoes_q25 editDoes_q26 editDoes_q27 editDoes_q28 editDoes_q29 editDoes_q30 editDoes_q31
theorem editDoes_qn : Tryz.pinned.checked.prog.funcNamed Rows.editDoesRow.func = some 4 := by kernel_rfl
theorem editDoes_qd : Tryz.f4.isInstance Tryz.pinned.checked.prog Rows.editDoesRow.origin Rows.editDoesRow.targs := of_decide_eq_true (by kernel_rfl)
theorem editDoes_qw : Tryz.f4.isWrapper Tryz.pinned.checked.prog Rows.editDoesRow.wrapper Rows.editDoesRow.mainSum := by unfold Func.isWrapper; first | (rw [if_pos (by decide +kernel)]; kernel_rfl) | (rw [if_neg (by decide +kernel)]; exact ⟨rfl, rfl⟩)
theorem editDoes_q40 : Rows.editDoesRow.wfByText (OpenSpec.ofChange Rows.editDoesSpec) = true := by kernel_rfl
theorem editDoes_q41 : Tryz.pinned.checked.prog.mainIs = some ((true, "98c2b7de904b7d4d9dcadfa6121005a955486571e5a77a28b6f24d210b194177").1, ((true, "98c2b7de904b7d4d9dcadfa6121005a955486571e5a77a28b6f24d210b194177") : Bool × String).2.toList) := by kernel_rfl
theorem editDoes_q42 : true = Tryz.pinned.checked.prog.looks [] := by kernel_rfl
theorem editDoes_q43 : (Tryz.f4.params.toList.all fun t => !Tryz.prog.wantsStandIn t) = true := by kernel_rfl
theorem editDoes_q44 : false = Rows.editDoesRow.goesBy Tryz.pinned.checked.prog := by kernel_rfl

theorem editDoes_over : Rows.editDoesRow.holds Tryz.pinned (OpenSpec.ofChange Rows.editDoesSpec) :=
  OpenClaim.holds_of_cond 4 Tryz.f4 rfl rfl rfl rfl rfl rfl rfl ⟨rfl, rfl, rfl, rfl, rfl⟩ rfl rfl rfl rfl rfl editDoes_qn Tryz.func4 editDoes_qj
    editDoes_qd editDoes_qw
    (fun os started H enc _ F0 => by rw [OpenClaim.pre_eq_preRow]; exact editDoes_lifted os started H enc)

theorem editDoes_holds : Rows.EditDoesCardSaid :=
  Claim7.holds_tied_plain_at .later [] [.data, .pinned] true (true, "98c2b7de904b7d4d9dcadfa6121005a955486571e5a77a28b6f24d210b194177") true
    editDoes_over (fun _ h => by cases h) editDoes_q40 (fun _ h => by cases h) editDoes_row_tie rfl ⟨rfl, rfl⟩ editDoes_q41 rfl
    (fun f fn hf hfn => by
      obtain rfl : f = 4 := Option.some.inj (editDoes_qn.symm.trans hf) |>.symm
      obtain rfl : fn = Tryz.f4 := (Option.some.inj (Tryz.func4.symm.trans hfn)).symm
      refine ⟨editDoes_q42, fun j t ht => ?_⟩
      have g := List.all_eq_true.1 editDoes_q43 t (List.mem_of_getElem? (by simpa using ht))
      exact (by simpa using g : Tryz.prog.wantsStandIn t = false))
    editDoes_q44
#print axioms editDoes_holds

end Go.Proofs.YthmobaehdbiljaaGreatDoor
