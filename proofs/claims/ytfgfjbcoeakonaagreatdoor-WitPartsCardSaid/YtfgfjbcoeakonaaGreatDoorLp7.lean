import Derived.Test.YtfgfjbcoeakonaaGreatDoorLp6
import Derived.Test.YtfgfjbcoeakonaaGreatDoorRows
import Derived.Test.YtfgfjbcoeakonaaGreatDoorCards
import Derived.Test.YtfgfjbcoeakonaaGreatDoorTie
import Derived.SevenTiedAt

set_option linter.all false
set_option maxHeartbeats 8000000
set_option maxRecDepth 100000

/-
  The statement WitParts, a tied card: whatever its arguments the law returns true and leaves them as they are. No condition.
-/
namespace Go.Proofs.YtfgfjbcoeakonaaGreatDoor
open Go Lp Go.Shelf Go.RowKit


theorem witParts_row (os : Os) {H : Type} (enc : TypeId × Value → H) :
    (OpenSpec.ofChange Rows.witPartsSpec).preRow enc Tryz.prog Tryz.f6 Rows.witPartsRow.domain false Rows.witPartsRow.laid ((VL os).forCall (fun _ _ => 0) ⟨#[], #[.slice none 0 0], []⟩).memory #[.slice none 0 0] := by
  have hw : (DataW.whole enc Tryz.prog ((VL os).forCall (fun _ _ => 0) ⟨#[], #[.slice none 0 0], []⟩).memory Tryz.f6.params.toList (OpenSpec.ofChange Rows.witPartsSpec).vars false (#[.slice none 0 0] : Array Value).toList 8).map (fun x => (x.1, x.2.1)) =
      some ([.nil], []) := by kernel_rfl
  obtain ⟨⟨x1, x2, x3⟩, hx, hx1⟩ := Option.map_eq_some_iff.1 hw
  simp only [Prod.mk.injEq] at hx1
  obtain ⟨rfl, rfl⟩ := hx1
  exact OpenSpec.preRow_of_cond 8 hx (by kernel_rfl) (fun k hk => by cases hk) (by kernel_rfl) (acA os _)

theorem witParts_lifted (os : Os) (started : os.Started) (H : Type) (enc : TypeId × Value → H) :
    ReturnsInHanded {} Tryz.checked os 6 .any ((OpenSpec.ofChange Rows.witPartsSpec).preRow enc Tryz.prog Tryz.f6 Rows.witPartsRow.domain false Rows.witPartsRow.laid) (Rows.witPartsSpec.post enc Tryz.prog Tryz.f6 false true false false) := by
  refine aaf (C := Tryz.checked) (tb := 4) (by kernel_rfl) started (by kernel_rfl) Tryz.func6
    (witness_row_atRef (enc := enc) (C := Tryz.checked) false (VL os) #[.slice none 0 0] rfl (by kernel_rfl) (by kernel_rfl) (by kernel_rfl) (witParts_row os enc))
    (by kernel_rfl) (fun t ht => ?_) (by kernel_rfl) (by kernel_rfl) abk rfl rfl (fun ds hd => ?_) (fun W base args ds ps hval hA hw => ?_) (fun W h => abu h)
  · have h : (Tryz.f6.params.toList.all fun t => Tryz.prog.readableRec t && decide (t < Tryz.prog.types.size)) = true := by kernel_rfl
    have g := List.all_eq_true.1 h t ht
    rw [Bool.and_eq_true] at g
    exact ⟨g.1, of_decide_eq_true g.2⟩
  · have h : Tryz.f6.params.toList.length = 1 := by kernel_rfl
    rw [h] at hd
    match ds, hd with
    | [d0], _ => rfl
  · have h : Tryz.f6.params = #[23] := by kernel_rfl
    rw [h] at hval hA hw
    obtain ⟨v0, vs0, d0, ds0, p0, q0, rfl, rfl, rfl, h0, r0⟩ := Go.ChangeShapes.trodAll_cons hA
    obtain ⟨rfl, rfl, rfl⟩ := Go.ChangeShapes.trodAll_nil r0
    obtain ⟨a0, g0, w0⟩ := adk abn acE (fun _ => rfl) (hval 0 23 v0 rfl rfl) h0 (fun n hn => hw n (uO _ _ 0 23 d0 rfl rfl hn))
    exact ⟨[aH a0], iZ w0 Ya, Yj a0 g0⟩

theorem witParts_q0 : (Rows.witPartsRow.wf (OpenSpec.ofChange (OpenSpec.ofChange Rows.witPartsSpec).bare)) = true := by kernel_rfl
theorem witParts_q1 : (laidOutB Tryz.pinned.checked.prog) = true := by kernel_rfl
theorem witParts_q2 : (mapsRowed Tryz.pinned.checked.prog) = true := by kernel_rfl
theorem witParts_q3 : (Tryz.f6.params.all (Tryz.pinned.checked.prog.readableRec ·)) = true := by kernel_rfl
theorem witParts_q4 : (namedTie Tryz.pinned.checked.prog Rows.witPartsRow.named (OpenSpec.ofChange Rows.witPartsSpec).bare.vars) = true := by kernel_rfl
theorem witParts_q5 : ((Rows.witPartsRow.stops == [])) = true := by kernel_rfl
theorem witParts_q6 : ((Tryz.pinned.checked.prog.stops == [])) = true := by kernel_rfl
theorem witParts_q7 : ((Rows.witPartsRow.knobs == [])) = true := by kernel_rfl
theorem witParts_q8 : ((Tryz.pinned.checked.prog.stopKnobs == [])) = true := by kernel_rfl
theorem witParts_q9 : ((Rows.witPartsRow.inPlace == Tryz.pinned.checked.prog.inPlace 6)) = true := by kernel_rfl
theorem witParts_q10 : ((Rows.witPartsRow.unfollowed == Tryz.pinned.checked.prog.unfollowed 6)) = true := by kernel_rfl
theorem witParts_q11 : ((Rows.witPartsRow.recurses == Tryz.pinned.checked.prog.recurses 6)) = true := by kernel_rfl
theorem witParts_q12 : ((Rows.witPartsRow.named == Tryz.pinned.checked.prog.varsNamed 6)) = true := by kernel_rfl
theorem witParts_q13 : ((Rows.witPartsRow.maps == (Tryz.f6.params.toList ++ (OpenSpec.ofChange Rows.witPartsSpec).bare.plain.varTypes Tryz.pinned.checked.prog).any (Tryz.pinned.checked.prog.mapsRec ·))) = true := by kernel_rfl
theorem witParts_q14 : ((Rows.witPartsRow.ifaces == (Tryz.f6.params.toList ++ (OpenSpec.ofChange Rows.witPartsSpec).bare.plain.varTypes Tryz.pinned.checked.prog).any (Tryz.pinned.checked.prog.ifacesRec ·))) = true := by kernel_rfl
theorem witParts_q15 : ((Rows.witPartsRow.mapsOut == Tryz.pinned.checked.prog.mapsAmong Tryz.f6.resultTypes.toList)) = true := by kernel_rfl
theorem witParts_q16 : ((Rows.witPartsRow.loops == (Tryz.f6.params.toList ++ (OpenSpec.ofChange Rows.witPartsSpec).bare.plain.varTypes Tryz.pinned.checked.prog).any (Tryz.pinned.checked.prog.loopsFrom ·))) = true := by kernel_rfl
theorem witParts_q17 : ((Rows.witPartsRow.wideKeys == (Tryz.f6.params.toList ++ (OpenSpec.ofChange Rows.witPartsSpec).bare.plain.varTypes Tryz.pinned.checked.prog ++ Tryz.f6.resultTypes.toList).any (Tryz.pinned.checked.prog.wideKeysFrom ·))) = true := by kernel_rfl
theorem witParts_q18 : ((OpenSpec.ofChange Rows.witPartsSpec).bare.vars.all (Tryz.pinned.checked.prog.varReadable ·)) = true := by kernel_rfl
theorem witParts_q19 : (Tryz.f6.resultTypes.all (fun t => Tryz.pinned.checked.prog.readableRec t && decide (t < Tryz.pinned.checked.prog.types.size))) = true := by kernel_rfl
theorem witParts_q20 : ((Rows.witPartsRow.ifacesOut == Tryz.f6.resultTypes.toList.any (Tryz.pinned.checked.prog.ifacesRec ·))) = true := by kernel_rfl
theorem witParts_q21 : ((Rows.witPartsRow.loopsOut == Tryz.f6.resultTypes.toList.any (Tryz.pinned.checked.prog.loopsFrom ·))) = true := by kernel_rfl
theorem witParts_q22 : ((Rows.witPartsRow.plainKeys == Tryz.pinned.checked.prog.plainKeys)) = true := by kernel_rfl
theorem witParts_q23 : (Rows.witPartsRow.shortTexts.isNone) = true := by kernel_rfl
theorem witParts_q24 : (Tryz.pinned.checked.prog.stopsHeard) = true := by kernel_rfl
theorem witParts_q25 : (Tryz.pinned.checked.prog.mayEnter) = true := by kernel_rfl
theorem witParts_q26 : ((Rows.witPartsRow.lifted == Tryz.pinned.checked.prog.liftsFinal)) = true := by kernel_rfl
theorem witParts_q27 : ((Tryz.pinned.checked.prog.make == some Rows.witPartsRow.make)) = true := by kernel_rfl
theorem witParts_q28 : ((Rows.witPartsRow.kinds == (if Rows.witPartsRow.domain.isEmpty then [] else Tryz.f6.params.toList.map fun t => match Tryz.pinned.checked.prog.underlying t with | some (.int k) => some k | _ => none))) = true := by kernel_rfl
theorem witParts_q29 : ((Rows.witPartsRow.pinned == Rows.witPartsRow.pinnedBy)) = true := by kernel_rfl
theorem witParts_q30 : ((Rows.witPartsRow.veiled == (Tryz.f6.params.toList ++ (OpenSpec.ofChange Rows.witPartsSpec).bare.plain.varTypes Tryz.pinned.checked.prog ++ Tryz.f6.resultTypes.toList).any (Tryz.pinned.checked.prog.veiledRec ·))) = true := by kernel_rfl
theorem witParts_q31 : (Rows.witPartsRow.veiledFits Tryz.pinned.checked.prog Tryz.f6.params.toList (Tryz.f6.params.toList ++ (OpenSpec.ofChange Rows.witPartsSpec).bare.plain.varTypes Tryz.pinned.checked.prog ++ Tryz.f6.resultTypes.toList)) = true := by kernel_rfl
theorem witParts_qj : joinedFacts Tryz.pinned.checked.prog 6 Tryz.f6 (OpenSpec.ofChange Rows.witPartsSpec).bare Rows.witPartsRow = true := abv witParts_q0 witParts_q1 witParts_q2 witParts_q3 witParts_q4 witParts_q5 witParts_q6 witParts_q7 witParts_q8 witParts_q9 witParts_q10 witParts_q11 witParts_q12 witParts_q13 witParts_q14 witParts_q15 witParts_q16 witParts_q17 witParts_q18 witParts_q19 witParts_q20 witParts_q21 witParts_q22 witParts_q23 witParts_q24 witParts_q25 witParts_q26 witParts_q27 witParts_q28 witParts_q29 witParts_q30 witParts_q31
theorem witParts_qn : Tryz.pinned.checked.prog.funcNamed Rows.witPartsRow.func = some 6 := by kernel_rfl
theorem witParts_qd : Tryz.f6.isInstance Tryz.pinned.checked.prog Rows.witPartsRow.origin Rows.witPartsRow.targs := of_decide_eq_true (by kernel_rfl)
theorem witParts_qw : Tryz.f6.isWrapper Tryz.pinned.checked.prog Rows.witPartsRow.wrapper Rows.witPartsRow.mainSum := by unfold Func.isWrapper; first | (rw [if_pos (by decide +kernel)]; kernel_rfl) | (rw [if_neg (by decide +kernel)]; exact ⟨rfl, rfl⟩)
theorem witParts_q40 : Rows.witPartsRow.wfByText (OpenSpec.ofChange Rows.witPartsSpec) = true := by kernel_rfl
theorem witParts_q41 : Tryz.pinned.checked.prog.mainIs = some ((true, "ff73f780c7538f0866d9339671417e6a0a2497b609e543cb5f458cf968f7d10d").1, ((true, "ff73f780c7538f0866d9339671417e6a0a2497b609e543cb5f458cf968f7d10d") : Bool × String).2.toList) := by kernel_rfl
theorem witParts_q42 : false = Tryz.pinned.checked.prog.looks [] := by kernel_rfl
theorem witParts_q43 : (Tryz.f6.params.toList.all fun t => !Tryz.prog.wantsStandIn t) = true := by kernel_rfl
theorem witParts_q44 : false = Rows.witPartsRow.goesBy Tryz.pinned.checked.prog := by kernel_rfl

theorem witParts_over : Rows.witPartsRow.holds Tryz.pinned (OpenSpec.ofChange Rows.witPartsSpec) :=
  OpenClaim.holds_of_cond 6 Tryz.f6 rfl rfl rfl rfl rfl rfl rfl ⟨rfl, rfl, rfl, rfl, rfl⟩ rfl rfl rfl rfl rfl witParts_qn Tryz.func6 witParts_qj
    witParts_qd witParts_qw
    (fun os started H enc _ F0 => by rw [OpenClaim.pre_eq_preRow]; exact witParts_lifted os started H enc)

theorem witParts_holds : Rows.WitPartsCardSaid :=
  Claim7.holds_tied_plain_at .later [] [.data, .pinned] true (true, "ff73f780c7538f0866d9339671417e6a0a2497b609e543cb5f458cf968f7d10d") false
    witParts_over (fun _ h => by cases h) witParts_q40 (fun _ h => by cases h) witParts_row_tie rfl ⟨rfl, rfl⟩ witParts_q41 rfl
    (fun f fn hf hfn => by
      obtain rfl : f = 6 := Option.some.inj (witParts_qn.symm.trans hf) |>.symm
      obtain rfl : fn = Tryz.f6 := (Option.some.inj (Tryz.func6.symm.trans hfn)).symm
      refine ⟨witParts_q42, fun j t ht => ?_⟩
      have g := List.all_eq_true.1 witParts_q43 t (List.mem_of_getElem? (by simpa using ht))
      exact (by simpa using g : Tryz.prog.wantsStandIn t = false))
    witParts_q44
#print axioms witParts_holds

end Go.Proofs.YtfgfjbcoeakonaaGreatDoor
