import Derived.Test.YthmobaehdbiljaaGreatDoorLp6
import Derived.Test.YthmobaehdbiljaaGreatDoorRows
import Derived.Test.YthmobaehdbiljaaGreatDoorCards
import Derived.Test.YthmobaehdbiljaaGreatDoorTie
import Derived.SevenTiedAt

set_option linter.all false
set_option maxHeartbeats 8000000
set_option maxRecDepth 100000

/-
  The statement EditScript, a tied card: whatever its arguments the law returns true and leaves them as they are. No condition.
-/
namespace Go.Proofs.YthmobaehdbiljaaGreatDoor
open Go Lp Go.Shelf Go.RowKit


theorem editScript_row (os : Os) {H : Type} (enc : TypeId × Value → H) :
    (OpenSpec.ofChange Rows.editScriptSpec).preRow enc Tryz.prog Tryz.f5 Rows.editScriptRow.domain false Rows.editScriptRow.laid ((VR os).forCall (fun _ _ => 0) ⟨#[], #[.slice none 0 0, .slice none 0 0], []⟩).memory #[.slice none 0 0, .slice none 0 0] := by
  have hw : (DataW.whole enc Tryz.prog ((VR os).forCall (fun _ _ => 0) ⟨#[], #[.slice none 0 0, .slice none 0 0], []⟩).memory Tryz.f5.params.toList (OpenSpec.ofChange Rows.editScriptSpec).vars false (#[.slice none 0 0, .slice none 0 0] : Array Value).toList 8).map (fun x => (x.1, x.2.1)) =
      some ([.nil, .nil], []) := by kernel_rfl
  obtain ⟨⟨x1, x2, x3⟩, hx, hx1⟩ := Option.map_eq_some_iff.1 hw
  simp only [Prod.mk.injEq] at hx1
  obtain ⟨rfl, rfl⟩ := hx1
  exact OpenSpec.preRow_of_cond 8 hx (by kernel_rfl) (fun k hk => by cases hk) (by kernel_rfl) (adT os _)

theorem editScript_lifted (os : Os) (started : os.Started) (H : Type) (enc : TypeId × Value → H) :
    ReturnsInHanded {} Tryz.checked os 5 .any ((OpenSpec.ofChange Rows.editScriptSpec).preRow enc Tryz.prog Tryz.f5 Rows.editScriptRow.domain false Rows.editScriptRow.laid) (Rows.editScriptSpec.post enc Tryz.prog Tryz.f5 false true false false) := by
  refine aaV (C := Tryz.checked) (tb := 4) (by kernel_rfl) started (by kernel_rfl) Tryz.func5
    (witness_row_atRef (enc := enc) (C := Tryz.checked) false (VR os) #[.slice none 0 0, .slice none 0 0] rfl (by kernel_rfl) (by kernel_rfl) (by kernel_rfl) (editScript_row os enc))
    (by kernel_rfl) (fun t ht => ?_) (by kernel_rfl) (by kernel_rfl) XJ rfl rfl (fun ds hd => ?_) (fun W base args ds ps hval hA hw => ?_) (fun W h => aco h)
  · have h : (Tryz.f5.params.toList.all fun t => Tryz.prog.readableRec t && decide (t < Tryz.prog.types.size)) = true := by kernel_rfl
    have g := List.all_eq_true.1 h t ht
    rw [Bool.and_eq_true] at g
    exact ⟨g.1, of_decide_eq_true g.2⟩
  · have h : Tryz.f5.params.toList.length = 2 := by kernel_rfl
    rw [h] at hd
    match ds, hd with
    | [d0, d1], _ => rfl
  · have h : Tryz.f5.params = #[23, 23] := by kernel_rfl
    rw [h] at hval hA hw
    obtain ⟨v0, vs0, d0, ds0, p0, q0, rfl, rfl, rfl, h0, r0⟩ := Go.ChangeShapes.trodAll_cons hA
    obtain ⟨v1, vs1, d1, ds1, p1, q1, rfl, rfl, rfl, h1, r1⟩ := Go.ChangeShapes.trodAll_cons r0
    obtain ⟨rfl, rfl, rfl⟩ := Go.ChangeShapes.trodAll_nil r1
    obtain ⟨a0, g0, w0⟩ := ael adn rd_val (fun _ => rfl) (hval 0 23 v0 rfl rfl) h0 (fun n hn => hw n (vS _ _ 0 23 d0 rfl rfl hn))
    obtain ⟨a1, g1, w1⟩ := ael adn rd_val (fun _ => rfl) (hval 1 23 v1 rfl rfl) h1 (fun n hn => hw n (vS _ _ 1 23 d1 rfl rfl hn))
    exact ⟨[aj a0, aj a1], p9 w0 (p9 w1 O8), V7 a0 a1 g0 g1⟩

theorem editScript_q0 : (Rows.editScriptRow.wf (OpenSpec.ofChange (OpenSpec.ofChange Rows.editScriptSpec).bare)) = true := by kernel_rfl
theorem editScript_q1 : (laidOutB Tryz.pinned.checked.prog) = true := by kernel_rfl
theorem editScript_q2 : (mapsRowed Tryz.pinned.checked.prog) = true := by kernel_rfl
theorem editScript_q3 : (Tryz.f5.params.all (Tryz.pinned.checked.prog.readableRec ·)) = true := by kernel_rfl
theorem editScript_q4 : (namedTie Tryz.pinned.checked.prog Rows.editScriptRow.named (OpenSpec.ofChange Rows.editScriptSpec).bare.vars) = true := by kernel_rfl
theorem editScript_q5 : ((Rows.editScriptRow.stops == [])) = true := by kernel_rfl
theorem editScript_q6 : ((Tryz.pinned.checked.prog.stops == [])) = true := by kernel_rfl
theorem editScript_q7 : ((Rows.editScriptRow.knobs == [])) = true := by kernel_rfl
theorem editScript_q8 : ((Tryz.pinned.checked.prog.stopKnobs == [])) = true := by kernel_rfl
theorem editScript_q9 : ((Rows.editScriptRow.inPlace == Tryz.pinned.checked.prog.inPlace 5)) = true := by kernel_rfl
theorem editScript_q10 : ((Rows.editScriptRow.unfollowed == Tryz.pinned.checked.prog.unfollowed 5)) = true := by kernel_rfl
theorem editScript_q11 : ((Rows.editScriptRow.recurses == Tryz.pinned.checked.prog.recurses 5)) = true := by kernel_rfl
theorem editScript_q12 : ((Rows.editScriptRow.named == Tryz.pinned.checked.prog.varsNamed 5)) = true := by kernel_rfl
theorem editScript_q13 : ((Rows.editScriptRow.maps == (Tryz.f5.params.toList ++ (OpenSpec.ofChange Rows.editScriptSpec).bare.plain.varTypes Tryz.pinned.checked.prog).any (Tryz.pinned.checked.prog.mapsRec ·))) = true := by kernel_rfl
theorem editScript_q14 : ((Rows.editScriptRow.ifaces == (Tryz.f5.params.toList ++ (OpenSpec.ofChange Rows.editScriptSpec).bare.plain.varTypes Tryz.pinned.checked.prog).any (Tryz.pinned.checked.prog.ifacesRec ·))) = true := by kernel_rfl
theorem editScript_q15 : ((Rows.editScriptRow.mapsOut == Tryz.pinned.checked.prog.mapsAmong Tryz.f5.resultTypes.toList)) = true := by kernel_rfl
theorem editScript_q16 : ((Rows.editScriptRow.loops == (Tryz.f5.params.toList ++ (OpenSpec.ofChange Rows.editScriptSpec).bare.plain.varTypes Tryz.pinned.checked.prog).any (Tryz.pinned.checked.prog.loopsFrom ·))) = true := by kernel_rfl
theorem editScript_q17 : ((Rows.editScriptRow.wideKeys == (Tryz.f5.params.toList ++ (OpenSpec.ofChange Rows.editScriptSpec).bare.plain.varTypes Tryz.pinned.checked.prog ++ Tryz.f5.resultTypes.toList).any (Tryz.pinned.checked.prog.wideKeysFrom ·))) = true := by kernel_rfl
theorem editScript_q18 : ((OpenSpec.ofChange Rows.editScriptSpec).bare.vars.all (Tryz.pinned.checked.prog.varReadable ·)) = true := by kernel_rfl
theorem editScript_q19 : (Tryz.f5.resultTypes.all (fun t => Tryz.pinned.checked.prog.readableRec t && decide (t < Tryz.pinned.checked.prog.types.size))) = true := by kernel_rfl
theorem editScript_q20 : ((Rows.editScriptRow.ifacesOut == Tryz.f5.resultTypes.toList.any (Tryz.pinned.checked.prog.ifacesRec ·))) = true := by kernel_rfl
theorem editScript_q21 : ((Rows.editScriptRow.loopsOut == Tryz.f5.resultTypes.toList.any (Tryz.pinned.checked.prog.loopsFrom ·))) = true := by kernel_rfl
theorem editScript_q22 : ((Rows.editScriptRow.plainKeys == Tryz.pinned.checked.prog.plainKeys)) = true := by kernel_rfl
theorem editScript_q23 : (Rows.editScriptRow.shortTexts.isNone) = true := by kernel_rfl
theorem editScript_q24 : (Tryz.pinned.checked.prog.stopsHeard) = true := by kernel_rfl
theorem editScript_q25 : (Tryz.pinned.checked.prog.mayEnter) = true := by kernel_rfl
theorem editScript_q26 : ((Rows.editScriptRow.lifted == Tryz.pinned.checked.prog.liftsFinal)) = true := by kernel_rfl
theorem editScript_q27 : ((Tryz.pinned.checked.prog.make == some Rows.editScriptRow.make)) = true := by kernel_rfl
theorem editScript_q28 : ((Rows.editScriptRow.kinds == (if Rows.editScriptRow.domain.isEmpty then [] else Tryz.f5.params.toList.map fun t => match Tryz.pinned.checked.prog.underlying t with | some (.int k) => some k | _ => none))) = true := by kernel_rfl
theorem editScript_q29 : ((Rows.editScriptRow.pinned == Rows.editScriptRow.pinnedBy)) = true := by kernel_rfl
theorem editScript_q30 : ((Rows.editScriptRow.veiled == (Tryz.f5.params.toList ++ (OpenSpec.ofChange Rows.editScriptSpec).bare.plain.varTypes Tryz.pinned.checked.prog ++ Tryz.f5.resultTypes.toList).any (Tryz.pinned.checked.prog.veiledRec ·))) = true := by kernel_rfl
theorem editScript_q31 : (Rows.editScriptRow.veiledFits Tryz.pinned.checked.prog Tryz.f5.params.toList (Tryz.f5.params.toList ++ (OpenSpec.ofChange Rows.editScriptSpec).bare.plain.varTypes Tryz.pinned.checked.prog ++ Tryz.f5.resultTypes.toList)) = true := by kernel_rfl
theorem editScript_qj : joinedFacts Tryz.pinned.checked.prog 5 Tryz.f5 (OpenSpec.ofChange Rows.editScriptSpec).bare Rows.editScriptRow = true := acp editScript_q0 editScript_q1 editScript_q2 editScript_q3 editScript_q4 editScript_q5 editScript_q6 editScript_q7 editScript_q8 editScript_q9 editScript_q10 editScript_q11 editScript_q12 editScript_q13 editScript_q14 editScript_q15 editScript_q16 editScript_q17 editScript_q18 editScript_q19 editScript_q20 editScript_q21 editScript_q22 editScript_q23 editScript_q24 editScript_q25 editScript_q26 editScript_q27 editScript_q28 editScript_q29 editScript_q30 editScript_q31
theorem editScript_qn : Tryz.pinned.checked.prog.funcNamed Rows.editScriptRow.func = some 5 := by kernel_rfl
theorem editScript_qd : Tryz.f5.isInstance Tryz.pinned.checked.prog Rows.editScriptRow.origin Rows.editScriptRow.targs := of_decide_eq_true (by kernel_rfl)
theorem editScript_qw : Tryz.f5.isWrapper Tryz.pinned.checked.prog Rows.editScriptRow.wrapper Rows.editScriptRow.mainSum := by unfold Func.isWrapper; first | (rw [if_pos (by decide +kernel)]; kernel_rfl) | (rw [if_neg (by decide +kernel)]; exact ⟨rfl, rfl⟩)
theorem editScript_q40 : Rows.editScriptRow.wfByText (OpenSpec.ofChange Rows.editScriptSpec) = true := by kernel_rfl
theorem editScript_q41 : Tryz.pinned.checked.prog.mainIs = some ((true, "98c2b7de904b7d4d9dcadfa6121005a955486571e5a77a28b6f24d210b194177").1, ((true, "98c2b7de904b7d4d9dcadfa6121005a955486571e5a77a28b6f24d210b194177") : Bool × String).2.toList) := by kernel_rfl
theorem editScript_q42 : true = Tryz.pinned.checked.prog.looks [] := by kernel_rfl
theorem editScript_q43 : (Tryz.f5.params.toList.all fun t => !Tryz.prog.wantsStandIn t) = true := by kernel_rfl
theorem editScript_q44 : false = Rows.editScriptRow.goesBy Tryz.pinned.checked.prog := by kernel_rfl

theorem editScript_over : Rows.editScriptRow.holds Tryz.pinned (OpenSpec.ofChange Rows.editScriptSpec) :=
  OpenClaim.holds_of_cond 5 Tryz.f5 rfl rfl rfl rfl rfl rfl rfl ⟨rfl, rfl, rfl, rfl, rfl⟩ rfl rfl rfl rfl rfl editScript_qn Tryz.func5 editScript_qj
    editScript_qd editScript_qw
    (fun os started H enc _ F0 => by rw [OpenClaim.pre_eq_preRow]; exact editScript_lifted os started H enc)

theorem editScript_holds : Rows.EditScriptCardSaid :=
  Claim7.holds_tied_plain_at .later [] [.data, .pinned] true (true, "98c2b7de904b7d4d9dcadfa6121005a955486571e5a77a28b6f24d210b194177") true
    editScript_over (fun _ h => by cases h) editScript_q40 (fun _ h => by cases h) editScript_row_tie rfl ⟨rfl, rfl⟩ editScript_q41 rfl
    (fun f fn hf hfn => by
      obtain rfl : f = 5 := Option.some.inj (editScript_qn.symm.trans hf) |>.symm
      obtain rfl : fn = Tryz.f5 := (Option.some.inj (Tryz.func5.symm.trans hfn)).symm
      refine ⟨editScript_q42, fun j t ht => ?_⟩
      have g := List.all_eq_true.1 editScript_q43 t (List.mem_of_getElem? (by simpa using ht))
      exact (by simpa using g : Tryz.prog.wantsStandIn t = false))
    editScript_q44
#print axioms editScript_holds

end Go.Proofs.YthmobaehdbiljaaGreatDoor
