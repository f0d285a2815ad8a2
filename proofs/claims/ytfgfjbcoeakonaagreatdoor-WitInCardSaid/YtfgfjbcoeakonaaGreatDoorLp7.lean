/-
  The statement WitIn, a tied card: whatever its arguments the law returns true and leaves them as they are. No condition.
-/
import Derived.Test.YtfgfjbcoeakonaaGreatDoorLp6
import Derived.Test.YtfgfjbcoeakonaaGreatDoorRows
import Derived.Test.YtfgfjbcoeakonaaGreatDoorCards
import Derived.Test.YtfgfjbcoeakonaaGreatDoorTie
import Derived.SevenTiedAt

set_option linter.all false
set_option maxHeartbeats 8000000
set_option maxRecDepth 100000
namespace Go.Proofs.YtfgfjbcoeakonaaGreatDoor
open Go Lp Go.Shelf Go.RowKit


theorem witIn_row (os : Os) {H : Type} (enc : TypeId × Value → H) :
    (OpenSpec.ofChange Rows.witInSpec).preRow enc Tryz.prog Tryz.f4 Rows.witInRow.domain false Rows.witInRow.laid ((Yj os).forCall (fun _ _ => 0) ⟨#[], #[.slice none 0 0], []⟩).memory #[.slice none 0 0] := by
  have hw : (DataW.whole enc Tryz.prog ((Yj os).forCall (fun _ _ => 0) ⟨#[], #[.slice none 0 0], []⟩).memory Tryz.f4.params.toList (OpenSpec.ofChange Rows.witInSpec).vars false (#[.slice none 0 0] : Array Value).toList 8).map (fun x => (x.1, x.2.1)) =
      some ([.nil], []) := by kernel_rfl
  obtain ⟨⟨x1, x2, x3⟩, hx, hx1⟩ := Option.map_eq_some_iff.1 hw
  simp only [Prod.mk.injEq] at hx1
  obtain ⟨rfl, rfl⟩ := hx1
  exact OpenSpec.preRow_of_cond 8 hx (by kernel_rfl) (fun k hk => by cases hk) (by kernel_rfl) (aeJ os _)

theorem witIn_lifted (os : Os) (started : os.Started) (H : Type) (enc : TypeId × Value → H) :
    ReturnsInHanded {} Tryz.checked os 4 .any ((OpenSpec.ofChange Rows.witInSpec).preRow enc Tryz.prog Tryz.f4 Rows.witInRow.domain false Rows.witInRow.laid) (Rows.witInSpec.post enc Tryz.prog Tryz.f4 false true false false) := by
  refine acf (C := Tryz.checked) (tb := 4) (by kernel_rfl) started (by kernel_rfl) Tryz.func4
    (witness_row_atRef (enc := enc) (C := Tryz.checked) false (Yj os) #[.slice none 0 0] rfl (by kernel_rfl) (by kernel_rfl) (by kernel_rfl) (witIn_row os enc))
    (by kernel_rfl) (fun t ht => ?_) (by kernel_rfl) (by kernel_rfl) adv rfl rfl (fun ds hd => ?_) (fun W base args ds ps hval hA hw => ?_) (fun W h => adG h)
  · have h : (Tryz.f4.params.toList.all fun t => Tryz.prog.readableRec t && decide (t < Tryz.prog.types.size)) = true := by kernel_rfl
    have g := List.all_eq_true.1 h t ht
    rw [Bool.and_eq_true] at g
    exact ⟨g.1, of_decide_eq_true g.2⟩
  · have h : Tryz.f4.params.toList.length = 1 := by kernel_rfl
    rw [h] at hd
    match ds, hd with
    | [d0], _ => rfl
  · have h : Tryz.f4.params = #[23] := by kernel_rfl
    rw [h] at hval hA hw
    obtain ⟨v0, vs0, d0, ds0, p0, q0, rfl, rfl, rfl, h0, r0⟩ := Go.ChangeShapes.trodAll_cons hA
    obtain ⟨rfl, rfl, rfl⟩ := Go.ChangeShapes.trodAll_nil r0
    obtain ⟨a0, g0, w0⟩ := afu ady aeP (fun _ => rfl) (hval 0 23 v0 rfl rfl) h0 (fun n hn => hw n (vP _ _ 0 23 d0 rfl rfl hn))
    exact ⟨[aG a0], jq w0 aav, adA a0 g0⟩

theorem witIn_q0 : (Rows.witInRow.wf (OpenSpec.ofChange (OpenSpec.ofChange Rows.witInSpec).bare)) = true := by kernel_rfl
theorem witIn_q1 : (laidOutB Tryz.pinned.checked.prog) = true := by kernel_rfl
theorem witIn_q2 : (mapsRowed Tryz.pinned.checked.prog) = true := by kernel_rfl
theorem witIn_q3 : (Tryz.f4.params.all (Tryz.pinned.checked.prog.readableRec ·)) = true := by kernel_rfl
theorem witIn_q4 : (namedTie Tryz.pinned.checked.prog Rows.witInRow.named (OpenSpec.ofChange Rows.witInSpec).bare.vars) = true := by kernel_rfl
theorem witIn_q5 : ((Rows.witInRow.stops == [])) = true := by kernel_rfl
theorem witIn_q6 : ((Tryz.pinned.checked.prog.stops == [])) = true := by kernel_rfl
theorem witIn_q7 : ((Rows.witInRow.knobs == [])) = true := by kernel_rfl
theorem witIn_q8 : ((Tryz.pinned.checked.prog.stopKnobs == [])) = true := by kernel_rfl
theorem witIn_q9 : ((Rows.witInRow.inPlace == Tryz.pinned.checked.prog.inPlace 4)) = true := by kernel_rfl
theorem witIn_q10 : ((Rows.witInRow.unfollowed == Tryz.pinned.checked.prog.unfollowed 4)) = true := by kernel_rfl
theorem witIn_q11 : ((Rows.witInRow.recurses == Tryz.pinned.checked.prog.recurses 4)) = true := by kernel_rfl
theorem witIn_q12 : ((Rows.witInRow.named == Tryz.pinned.checked.prog.varsNamed 4)) = true := by kernel_rfl
theorem witIn_q13 : ((Rows.witInRow.maps == (Tryz.f4.params.toList ++ (OpenSpec.ofChange Rows.witInSpec).bare.plain.varTypes Tryz.pinned.checked.prog).any (Tryz.pinned.checked.prog.mapsRec ·))) = true := by kernel_rfl
theorem witIn_q14 : ((Rows.witInRow.ifaces == (Tryz.f4.params.toList ++ (OpenSpec.ofChange Rows.witInSpec).bare.plain.varTypes Tryz.pinned.checked.prog).any (Tryz.pinned.checked.prog.ifacesRec ·))) = true := by kernel_rfl
theorem witIn_q15 : ((Rows.witInRow.mapsOut == Tryz.pinned.checked.prog.mapsAmong Tryz.f4.resultTypes.toList)) = true := by kernel_rfl
theorem witIn_q16 : ((Rows.witInRow.loops == (Tryz.f4.params.toList ++ (OpenSpec.ofChange Rows.witInSpec).bare.plain.varTypes Tryz.pinned.checked.prog).any (Tryz.pinned.checked.prog.loopsFrom ·))) = true := by kernel_rfl
theorem witIn_q17 : ((Rows.witInRow.wideKeys == (Tryz.f4.params.toList ++ (OpenSpec.ofChange Rows.witInSpec).bare.plain.varTypes Tryz.pinned.checked.prog ++ Tryz.f4.resultTypes.toList).any (Tryz.pinned.checked.prog.wideKeysFrom ·))) = true := by kernel_rfl
theorem witIn_q18 : ((OpenSpec.ofChange Rows.witInSpec).bare.vars.all (Tryz.pinned.checked.prog.varReadable ·)) = true := by kernel_rfl
theorem witIn_q19 : (Tryz.f4.resultTypes.all (fun t => Tryz.pinned.checked.prog.readableRec t && decide (t < Tryz.pinned.checked.prog.types.size))) = true := by kernel_rfl
theorem witIn_q20 : ((Rows.witInRow.ifacesOut == Tryz.f4.resultTypes.toList.any (Tryz.pinned.checked.prog.ifacesRec ·))) = true := by kernel_rfl
theorem witIn_q21 : ((Rows.witInRow.loopsOut == Tryz.f4.resultTypes.toList.any (Tryz.pinned.checked.prog.loopsFrom ·))) = true := by kernel_rfl
theorem witIn_q22 : ((Rows.witInRow.plainKeys == Tryz.pinned.checked.prog.plainKeys)) = true := by kernel_rfl
theorem witIn_q23 : (Rows.witInRow.shortTexts.isNone) = true := by kernel_rfl
theorem witIn_q24 : (Tryz.pinned.checked.prog.stopsHeard) = true := by kernel_rfl
theorem witIn_q25 : (Tryz.pinned.checked.prog.mayEnter) = true := by kernel_rfl
theorem witIn_q26 : ((Rows.witInRow.lifted == Tryz.pinned.checked.prog.liftsFinal)) = true := by kernel_rfl
theorem witIn_q27 : ((Tryz.pinned.checked.prog.make == some Rows.witInRow.make)) = true := by kernel_rfl
theorem witIn_q28 : ((Rows.witInRow.kinds == (if Rows.witInRow.domain.isEmpty then [] else Tryz.f4.params.toList.map fun t => match Tryz.pinned.checked.prog.underlying t with | some (.int k) => some k | _ => none))) = true := by kernel_rfl
theorem witIn_q29 : ((Rows.witInRow.pinned == Rows.witInRow.pinnedBy)) = true := by kernel_rfl
theorem witIn_q30 : ((Rows.witInRow.veiled == (Tryz.f4.params.toList ++ (OpenSpec.ofChange Rows.witInSpec).bare.plain.varTypes Tryz.pinned.checked.prog ++ Tryz.f4.resultTypes.toList).any (Tryz.pinned.checked.prog.veiledRec ·))) = true := by kernel_rfl
theorem witIn_q31 : (Rows.witInRow.veiledFits Tryz.pinned.checked.prog Tryz.f4.params.toList (Tryz.f4.params.toList ++ (OpenSpec.ofChange Rows.witInSpec).bare.plain.varTypes Tryz.pinned.checked.prog ++ Tryz.f4.resultTypes.toList)) = true := by kernel_rfl
theorem witIn_qj : joinedFacts Tryz.pinned.checked.prog 4 Tryz.f4 (OpenSpec.ofChange Rows.witInSpec).bare Rows.witInRow = true := adH witIn_q0 witIn_q1 witIn_q2 witIn_q3 witIn_q4 witIn_q5 witIn_q6 witIn_q7 witIn_q8 witIn_q9 witIn_q10 witIn_q11 witIn_q12 witIn_q13 witIn_q14 witIn_q15 witIn_q16 witIn_q17 witIn_q18 witIn_q19 witIn_q20 witIn_q21 witIn_q22 witIn_q23 witIn_q24 witIn_q25 witIn_q26 witIn_q27 witIn_q28 witIn_q29 witIn_q30 witIn_q31
theorem witIn_qn : Tryz.pinned.checked.prog.funcNamed Rows.witInRow.func = some 4 := by kernel_rfl
theorem witIn_qd : Tryz.f4.isInstance Tryz.pinned.checked.prog Rows.witInRow.origin Rows.witInRow.targs := of_decide_eq_true (by kernel_rfl)
theorem witIn_qw : Tryz.f4.isWrapper Tryz.pinned.checked.prog Rows.witInRow.wrapper Rows.witInRow.mainSum := by unfold Func.isWrapper; first | (rw [if_pos (by decide +kernel)]; kernel_rfl) | (rw [if_neg (by decide +kernel)]; exact ⟨rfl, rfl⟩)
theorem witIn_q40 : Rows.witInRow.wfByText (OpenSpec.ofChange Rows.witInSpec) = true := by kernel_rfl
theorem witIn_q41 : Tryz.pinned.checked.prog.mainIs = some ((true, "ff73f780c7538f0866d9339671417e6a0a2497b609e543cb5f458cf968f7d10d").1, ((true, "ff73f780c7538f0866d9339671417e6a0a2497b609e543cb5f458cf968f7d10d") : Bool × String).2.toList) := by kernel_rfl
theorem witIn_q42 : false = Tryz.pinned.checked.prog.looks [] := by kernel_rfl
theorem witIn_q43 : (Tryz.f4.params.toList.all fun t => !Tryz.prog.wantsStandIn t) = true := by kernel_rfl
theorem witIn_q44 : false = Rows.witInRow.goesBy Tryz.pinned.checked.prog := by kernel_rfl

theorem witIn_over : Rows.witInRow.holds Tryz.pinned (OpenSpec.ofChange Rows.witInSpec) :=
  OpenClaim.holds_of_cond 4 Tryz.f4 rfl rfl rfl rfl rfl rfl rfl ⟨rfl, rfl, rfl, rfl, rfl⟩ rfl rfl rfl rfl rfl witIn_qn Tryz.func4 witIn_qj
    witIn_qd witIn_qw
    (fun os started H enc _ F0 => by rw [OpenClaim.pre_eq_preRow]; exact witIn_lifted os started H enc)

theorem witIn_holds : Rows.WitInCardSaid :=
  Claim7.holds_tied_plain_at .later [] [.data, .pinned] true (true, "ff73f780c7538f0866d9339671417e6a0a2497b609e543cb5f458cf968f7d10d") false
    witIn_over (fun _ h => by cases h) witIn_q40 (fun _ h => by cases h) witIn_row_tie rfl ⟨rfl, rfl⟩ witIn_q41 rfl
    (fun f fn hf hfn => by
      obtain rfl : f = 4 := Option.some.inj (witIn_qn.symm.trans hf) |>.symm
      obtain rfl : fn = Tryz.f4 := (Option.some.inj (Tryz.func4.symm.trans hfn)).symm
      refine ⟨witIn_q42, fun j t ht => ?_⟩
      have g := List.all_eq_true.1 witIn_q43 t (List.mem_of_getElem? (by simpa using ht))
      exact (by simpa using g : Tryz.prog.wantsStandIn t = false))
    witIn_q44
#print axioms witIn_holds

end Go.Proofs.YtfgfjbcoeakonaaGreatDoor
