/-
  The statement WitSmall, a tied card: whatever its arguments the law returns true and leaves them as they are. No condition.
-/
import Derived.Test.YtfgfjbcoeakonaaGreatDoorLp6
import Derived.Test.YtfgfjbcoeakonaaGreatDoorRows
import Derived.Test.YtfgfjbcoeakonaaGreatDoorCards
import Derived.Test.YtfgfjbcoeakonaaGreatDoorTie
import Derived.SevenTiedAt

set_option linter.all false
set_option maxHeartbeats 8000000
set_option maxRecDepth 100000
namespace Go.Proofs.YtfgfjbcoeakonaaGreatDoor
open Go Lp Go.Shelf Go.RowKit


theorem witSmall_row (os : Os) {H : Type} (enc : TypeId × Value → H) :
    (OpenSpec.ofChange Rows.witSmallSpec).preRow enc Tryz.prog Tryz.f5 Rows.witSmallRow.domain false Rows.witSmallRow.laid ((Yj os).forCall (fun _ _ => 0) ⟨#[], #[.slice none 0 0, .slice none 0 0], []⟩).memory #[.slice none 0 0, .slice none 0 0] := by
  have hw : (DataW.whole enc Tryz.prog ((Yj os).forCall (fun _ _ => 0) ⟨#[], #[.slice none 0 0, .slice none 0 0], []⟩).memory Tryz.f5.params.toList (OpenSpec.ofChange Rows.witSmallSpec).vars false (#[.slice none 0 0, .slice none 0 0] : Array Value).toList 8).map (fun x => (x.1, x.2.1)) =
      some ([.nil, .nil], []) := by kernel_rfl
  obtain ⟨⟨x1, x2, x3⟩, hx, hx1⟩ := Option.map_eq_some_iff.1 hw
  simp only [Prod.mk.injEq] at hx1
  obtain ⟨rfl, rfl⟩ := hx1
  exact OpenSpec.preRow_of_cond 8 hx (by kernel_rfl) (fun k hk => by cases hk) (by kernel_rfl) (aeJ os _)

theorem witSmall_lifted (os : Os) (started : os.Started) (H : Type) (enc : TypeId × Value → H) :
    ReturnsInHanded {} Tryz.checked os 5 .any ((OpenSpec.ofChange Rows.witSmallSpec).preRow enc Tryz.prog Tryz.f5 Rows.witSmallRow.domain false Rows.witSmallRow.laid) (Rows.witSmallSpec.post enc Tryz.prog Tryz.f5 false true false false) := by
  refine acf (C := Tryz.checked) (tb := 4) (by kernel_rfl) started (by kernel_rfl) Tryz.func5
    (witness_row_atRef (enc := enc) (C := Tryz.checked) false (Yj os) #[.slice none 0 0, .slice none 0 0] rfl (by kernel_rfl) (by kernel_rfl) (by kernel_rfl) (witSmall_row os enc))
    (by kernel_rfl) (fun t ht => ?_) (by kernel_rfl) (by kernel_rfl) adv rfl rfl (fun ds hd => ?_) (fun W base args ds ps hval hA hw => ?_) (fun W h => adG h)
  · have h : (Tryz.f5.params.toList.all fun t => Tryz.prog.readableRec t && decide (t < Tryz.prog.types.size)) = true := by kernel_rfl
    have g := List.all_eq_true.1 h t ht
    rw [Bool.and_eq_true] at g
    exact ⟨g.1, of_decide_eq_true g.2⟩
  · have h : Tryz.f5.params.toList.length = 2 := by kernel_rfl
    rw [h] at hd
    match ds, hd with
    | [d0, d1], _ => rfl
  · have h : Tryz.f5.params = #[23, 28] := by kernel_rfl
    rw [h] at hval hA hw
    obtain ⟨v0, vs0, d0, ds0, p0, q0, rfl, rfl, rfl, h0, r0⟩ := Go.ChangeShapes.trodAll_cons hA
    obtain ⟨v1, vs1, d1, ds1, p1, q1, rfl, rfl, rfl, h1, r1⟩ := Go.ChangeShapes.trodAll_cons r0
    obtain ⟨rfl, rfl, rfl⟩ := Go.ChangeShapes.trodAll_nil r1
    obtain ⟨a0, g0, w0⟩ := afu ady aeP (fun _ => rfl) (hval 0 23 v0 rfl rfl) h0 (fun n hn => hw n (vP _ _ 0 23 d0 rfl rfl hn))
    obtain ⟨a1, g1, w1⟩ := afu aeH rd_val (fun _ => rfl) (hval 1 28 v1 rfl rfl) h1 (fun n hn => hw n (vP _ _ 1 28 d1 rfl rfl hn))
    exact ⟨[aG a0, aB a1], jq w0 (jq w1 aav), aaD a0 a1 g0 g1⟩

theorem witSmall_q0 : (Rows.witSmallRow.wf (OpenSpec.ofChange (OpenSpec.ofChange Rows.witSmallSpec).bare)) = true := by kernel_rfl
theorem witSmall_q1 : (laidOutB Tryz.pinned.checked.prog) = true := by kernel_rfl
theorem witSmall_q2 : (mapsRowed Tryz.pinned.checked.prog) = true := by kernel_rfl
theorem witSmall_q3 : (Tryz.f5.params.all (Tryz.pinned.checked.prog.readableRec ·)) = true := by kernel_rfl
theorem witSmall_q4 : (namedTie Tryz.pinned.checked.prog Rows.witSmallRow.named (OpenSpec.ofChange Rows.witSmallSpec).bare.vars) = true := by kernel_rfl
theorem witSmall_q5 : ((Rows.witSmallRow.stops == [])) = true := by kernel_rfl
theorem witSmall_q6 : ((Tryz.pinned.checked.prog.stops == [])) = true := by kernel_rfl
theorem witSmall_q7 : ((Rows.witSmallRow.knobs == [])) = true := by kernel_rfl
theorem witSmall_q8 : ((Tryz.pinned.checked.prog.stopKnobs == [])) = true := by kernel_rfl
theorem witSmall_q9 : ((Rows.witSmallRow.inPlace == Tryz.pinned.checked.prog.inPlace 5)) = true := by kernel_rfl
theorem witSmall_q10 : ((Rows.witSmallRow.unfollowed == Tryz.pinned.checked.prog.unfollowed 5)) = true := by kernel_rfl
theorem witSmall_q11 : ((Rows.witSmallRow.recurses == Tryz.pinned.checked.prog.recurses 5)) = true := by kernel_rfl
theorem witSmall_q12 : ((Rows.witSmallRow.named == Tryz.pinned.checked.prog.varsNamed 5)) = true := by kernel_rfl
theorem witSmall_q13 : ((Rows.witSmallRow.maps == (Tryz.f5.params.toList ++ (OpenSpec.ofChange Rows.witSmallSpec).bare.plain.varTypes Tryz.pinned.checked.prog).any (Tryz.pinned.checked.prog.mapsRec ·))) = true := by kernel_rfl
theorem witSmall_q14 : ((Rows.witSmallRow.ifaces == (Tryz.f5.params.toList ++ (OpenSpec.ofChange Rows.witSmallSpec).bare.plain.varTypes Tryz.pinned.checked.prog).any (Tryz.pinned.checked.prog.ifacesRec ·))) = true := by kernel_rfl
theorem witSmall_q15 : ((Rows.witSmallRow.mapsOut == Tryz.pinned.checked.prog.mapsAmong Tryz.f5.resultTypes.toList)) = true := by kernel_rfl
theorem witSmall_q16 : ((Rows.witSmallRow.loops == (Tryz.f5.params.toList ++ (OpenSpec.ofChange Rows.witSmallSpec).bare.plain.varTypes Tryz.pinned.checked.prog).any (Tryz.pinned.checked.prog.loopsFrom ·))) = true := by kernel_rfl
theorem witSmall_q17 : ((Rows.witSmallRow.wideKeys == (Tryz.f5.params.toList ++ (OpenSpec.ofChange Rows.witSmallSpec).bare.plain.varTypes Tryz.pinned.checked.prog ++ Tryz.f5.resultTypes.toList).any (Tryz.pinned.checked.prog.wideKeysFrom ·))) = true := by kernel_rfl
theorem witSmall_q18 : ((OpenSpec.ofChange Rows.witSmallSpec).bare.vars.all (Tryz.pinned.checked.prog.varReadable ·)) = true := by kernel_rfl
theorem witSmall_q19 : (Tryz.f5.resultTypes.all (fun t => Tryz.pinned.checked.prog.readableRec t && decide (t < Tryz.pinned.checked.prog.types.size))) = true := by kernel_rfl
theorem witSmall_q20 : ((Rows.witSmallRow.ifacesOut == Tryz.f5.resultTypes.toList.any (Tryz.pinned.checked.prog.ifacesRec ·))) = true := by kernel_rfl
theorem witSmall_q21 : ((Rows.witSmallRow.loopsOut == Tryz.f5.resultTypes.toList.any (Tryz.pinned.checked.prog.loopsFrom ·))) = true := by kernel_rfl
theorem witSmall_q22 : ((Rows.witSmallRow.plainKeys == Tryz.pinned.checked.prog.plainKeys)) = true := by kernel_rfl
theorem witSmall_q23 : (Rows.witSmallRow.shortTexts.isNone) = true := by kernel_rfl
theorem witSmall_q24 : (Tryz.pinned.checked.prog.stopsHeard) = true := by kernel_rfl
theorem witSmall_q25 : (Tryz.pinned.checked.prog.mayEnter) = true := by kernel_rfl
theorem witSmall_q26 : ((Rows.witSmallRow.lifted == Tryz.pinned.checked.prog.liftsFinal)) = true := by kernel_rfl
theorem witSmall_q27 : ((Tryz.pinned.checked.prog.make == some Rows.witSmallRow.make)) = true := by kernel_rfl
theorem witSmall_q28 : ((Rows.witSmallRow.kinds == (if Rows.witSmallRow.domain.isEmpty then [] else Tryz.f5.params.toList.map fun t => match Tryz.pinned.checked.prog.underlying t with | some (.int k) => some k | _ => none))) = true := by kernel_rfl
theorem witSmall_q29 : ((Rows.witSmallRow.pinned == Rows.witSmallRow.pinnedBy)) = true := by kernel_rfl
theorem witSmall_q30 : ((Rows.witSmallRow.veiled == (Tryz.f5.params.toList ++ (OpenSpec.ofChange Rows.witSmallSpec).bare.plain.varTypes Tryz.pinned.checked.prog ++ Tryz.f5.resultTypes.toList).any (Tryz.pinned.checked.prog.veiledRec ·))) = true := by kernel_rfl
theorem witSmall_q31 : (Rows.witSmallRow.veiledFits Tryz.pinned.checked.prog Tryz.f5.params.toList (Tryz.f5.params.toList ++ (OpenSpec.ofChange Rows.witSmallSpec).bare.plain.varTypes Tryz.pinned.checked.prog ++ Tryz.f5.resultTypes.toList)) = true := by kernel_rfl
theorem witSmall_qj : joinedFacts Tryz.pinned.checked.prog 5 Tryz.f5 (OpenSpec.ofChange Rows.witSmallSpec).bare Rows.witSmallRow = true := adH witSmall_q0 witSmall_q1 witSmall_q2 witSmall_q3 witSmall_q4 witSmall_q5 witSmall_q6 witSmall_q7 witSmall_q8 witSmall_q9 witSmall_q10 witSmall_q11 witSmall_q12 witSmall_q13 witSmall_q14 witSmall_q15 witSmall_q16 witSmall_q17 witSmall_q18 witSmall_q19 witSmall_q20 witSmall_q21 witSmall_q22 witSmall_q23 witSmall_q24 witSmall_q25 witSmall_q26 witSmall_q27 witSmall_q28 witSmall_q29 witSmall_q30 witSmall_q31
theorem witSmall_qn : Tryz.pinned.checked.prog.funcNamed Rows.witSmallRow.func = some 5 := by kernel_rfl
theorem witSmall_qd : Tryz.f5.isInstance Tryz.pinned.checked.prog Rows.witSmallRow.origin Rows.witSmallRow.targs := of_decide_eq_true (by kernel_rfl)
theorem witSmall_qw : Tryz.f5.isWrapper Tryz.pinned.checked.prog Rows.witSmallRow.wrapper Rows.witSmallRow.mainSum := by unfold Func.isWrapper; first | (rw [if_pos (by decide +kernel)]; kernel_rfl) | (rw [if_neg (by decide +kernel)]; exact ⟨rfl, rfl⟩)
theorem witSmall_q40 : Rows.witSmallRow.wfByText (OpenSpec.ofChange Rows.witSmallSpec) = true := by kernel_rfl
theorem witSmall_q41 : Tryz.pinned.checked.prog.mainIs = some ((true, "ff73f780c7538f0866d9339671417e6a0a2497b609e543cb5f458cf968f7d10d").1, ((true, "ff73f780c7538f0866d9339671417e6a0a2497b609e543cb5f458cf968f7d10d") : Bool × String).2.toList) := by kernel_rfl
theorem witSmall_q42 : false = Tryz.pinned.checked.prog.looks [] := by kernel_rfl
theorem witSmall_q43 : (Tryz.f5.params.toList.all fun t => !Tryz.prog.wantsStandIn t) = true := by kernel_rfl
theorem witSmall_q44 : false = Rows.witSmallRow.goesBy Tryz.pinned.checked.prog := by kernel_rfl

theorem witSmall_over : Rows.witSmallRow.holds Tryz.pinned (OpenSpec.ofChange Rows.witSmallSpec) :=
  OpenClaim.holds_of_cond 5 Tryz.f5 rfl rfl rfl rfl rfl rfl rfl ⟨rfl, rfl, rfl, rfl, rfl⟩ rfl rfl rfl rfl rfl witSmall_qn Tryz.func5 witSmall_qj
    witSmall_qd witSmall_qw
    (fun os started H enc _ F0 => by rw [OpenClaim.pre_eq_preRow]; exact witSmall_lifted os started H enc)

theorem witSmall_holds : Rows.WitSmallCardSaid :=
  Claim7.holds_tied_plain_at .later [] [.data, .pinned] true (true, "ff73f780c7538f0866d9339671417e6a0a2497b609e543cb5f458cf968f7d10d") false
    witSmall_over (fun _ h => by cases h) witSmall_q40 (fun _ h => by cases h) witSmall_row_tie rfl ⟨rfl, rfl⟩ witSmall_q41 rfl
    (fun f fn hf hfn => by
      obtain rfl : f = 5 := Option.some.inj (witSmall_qn.symm.trans hf) |>.symm
      obtain rfl : fn = Tryz.f5 := (Option.some.inj (Tryz.func5.symm.trans hfn)).symm
      refine ⟨witSmall_q42, fun j t ht => ?_⟩
      have g := List.all_eq_true.1 witSmall_q43 t (List.mem_of_getElem? (by simpa using ht))
      exact (by simpa using g : Tryz.prog.wantsStandIn t = false))
    witSmall_q44
#print axioms witSmall_holds

end Go.Proofs.YtfgfjbcoeakonaaGreatDoor
