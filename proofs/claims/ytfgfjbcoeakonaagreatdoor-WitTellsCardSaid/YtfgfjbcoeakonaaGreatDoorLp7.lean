import Derived.Test.YtfgfjbcoeakonaaGreatDoorLp6
import Derived.Test.YtfgfjbcoeakonaaGreatDoorRows
import Derived.Test.YtfgfjbcoeakonaaGreatDoorCards
import Derived.Test.YtfgfjbcoeakonaaGreatDoorTie
import Derived.SevenTiedAt

set_option linter.all false

/-
  The statement WitTells, a tied card: whatever its arguments the law returns true and leaves them as they are. No condition.
-/
set_option maxRecDepth 100000
namespace Go.Proofs.YtfgfjbcoeakonaaGreatDoor
open Go Lp Go.Shelf Go.RowKit

set_option maxHeartbeats 2000000

theorem witTells_row (os : Os) {H : Type} (enc : TypeId × Value → H) :
    (OpenSpec.ofChange Rows.witTellsSpec).preRow enc Tryz.prog Tryz.f3 Rows.witTellsRow.domain false Rows.witTellsRow.laid ((VL os).forCall (fun _ _ => 0) ⟨#[], #[.slice none 0 0, .int .i64 0], []⟩).memory #[.slice none 0 0, .int .i64 0] := by
  have hw : (DataW.whole enc Tryz.prog ((VL os).forCall (fun _ _ => 0) ⟨#[], #[.slice none 0 0, .int .i64 0], []⟩).memory Tryz.f3.params.toList (OpenSpec.ofChange Rows.witTellsSpec).vars false (#[.slice none 0 0, .int .i64 0] : Array Value).toList 8).map (fun x => (x.1, x.2.1)) =
      some ([.nil, .lit (.int .i64 0)], []) := by kernel_rfl
  obtain ⟨⟨x1, x2, x3⟩, hx, hx1⟩ := Option.map_eq_some_iff.1 hw
  simp only [Prod.mk.injEq] at hx1
  obtain ⟨rfl, rfl⟩ := hx1
  exact OpenSpec.preRow_of_cond 8 hx (by kernel_rfl) (fun k hk => by cases hk) (by kernel_rfl) (acw os _)

theorem witTells_lifted (os : Os) (started : os.Started) (H : Type) (enc : TypeId × Value → H) :
    ReturnsInHanded {} Tryz.checked os 3 .any ((OpenSpec.ofChange Rows.witTellsSpec).preRow enc Tryz.prog Tryz.f3 Rows.witTellsRow.domain false Rows.witTellsRow.laid) (Rows.witTellsSpec.post enc Tryz.prog Tryz.f3 false true false false) := by
  refine Z_ (C := Tryz.checked) (tb := 4) (by kernel_rfl) started (by kernel_rfl) Tryz.func3
    (witness_row_atRef (enc := enc) (C := Tryz.checked) false (VL os) #[.slice none 0 0, .int .i64 0] rfl (by kernel_rfl) (by kernel_rfl) (by kernel_rfl) (witTells_row os enc))
    (by kernel_rfl) (fun t ht => ?_) (by kernel_rfl) (by kernel_rfl) abg rfl rfl (fun ds hd => ?_) (fun W base args ds ps hval hA hw => ?_) (fun W h => abq h)
  · have h : (Tryz.f3.params.toList.all fun t => Tryz.prog.readableRec t && decide (t < Tryz.prog.types.size)) = true := by kernel_rfl
    have g := List.all_eq_true.1 h t ht
    rw [Bool.and_eq_true] at g
    exact ⟨g.1, of_decide_eq_true g.2⟩
  · have h : Tryz.f3.params.toList.length = 2 := by kernel_rfl
    rw [h] at hd
    match ds, hd with
    | [d0, d1], _ => rfl
  · have h : Tryz.f3.params = #[23, 3] := by kernel_rfl
    rw [h] at hval hA hw
    obtain ⟨v0, vs0, d0, ds0, p0, q0, rfl, rfl, rfl, h0, r0⟩ := Go.ChangeShapes.trodAll_cons hA
    obtain ⟨v1, vs1, d1, ds1, p1, q1, rfl, rfl, rfl, h1, r1⟩ := Go.ChangeShapes.trodAll_cons r0
    obtain ⟨rfl, rfl, rfl⟩ := Go.ChangeShapes.trodAll_nil r1
    obtain ⟨a0, g0, w0⟩ := adg abk acB (fun _ => rfl) (hval 0 23 v0 rfl rfl) h0 (fun n hn => hw n (uJ _ _ 0 23 d0 rfl rfl hn))
    obtain ⟨a1, g1, w1⟩ := adt (hval 1 3 v1 rfl rfl) h1 (fun n hn => hw n (uJ _ _ 1 3 d1 rfl rfl hn))
    exact ⟨[aH a0, .int .i64 a1], iW w0 (iW w1 Yb), Yj a0 a1 g0 g1⟩

theorem witTells_q0 : (Rows.witTellsRow.wf (OpenSpec.ofChange (OpenSpec.ofChange Rows.witTellsSpec).bare)) = true := by kernel_rfl
theorem witTells_q1 : (laidOutB Tryz.pinned.checked.prog) = true := by kernel_rfl
theorem witTells_q2 : (mapsRowed Tryz.pinned.checked.prog) = true := by kernel_rfl
theorem witTells_q3 : (Tryz.f3.params.all (Tryz.pinned.checked.prog.readableRec ·)) = true := by kernel_rfl
theorem witTells_q4 : (namedTie Tryz.pinned.checked.prog Rows.witTellsRow.named (OpenSpec.ofChange Rows.witTellsSpec).bare.vars) = true := by kernel_rfl
theorem witTells_q5 : ((Rows.witTellsRow.stops == [])) = true := by kernel_rfl
theorem witTells_q6 : ((Tryz.pinned.checked.prog.stops == [])) = true := by kernel_rfl
theorem witTells_q7 : ((Rows.witTellsRow.knobs == [])) = true := by kernel_rfl
theorem witTells_q8 : ((Tryz.pinned.checked.prog.stopKnobs == [])) = true := by kernel_rfl
theorem witTells_q9 : ((Rows.witTellsRow.inPlace == Tryz.pinned.checked.prog.inPlace 3)) = true := by kernel_rfl
theorem witTells_q10 : ((Rows.witTellsRow.unfollowed == Tryz.pinned.checked.prog.unfollowed 3)) = true := by kernel_rfl
theorem witTells_q11 : ((Rows.witTellsRow.recurses == Tryz.pinned.checked.prog.recurses 3)) = true := by kernel_rfl
theorem witTells_q12 : ((Rows.witTellsRow.named == Tryz.pinned.checked.prog.varsNamed 3)) = true := by kernel_rfl
theorem witTells_q13 : ((Rows.witTellsRow.maps == (Tryz.f3.params.toList ++ (OpenSpec.ofChange Rows.witTellsSpec).bare.plain.varTypes Tryz.pinned.checked.prog).any (Tryz.pinned.checked.prog.mapsRec ·))) = true := by kernel_rfl
theorem witTells_q14 : ((Rows.witTellsRow.ifaces == (Tryz.f3.params.toList ++ (OpenSpec.ofChange Rows.witTellsSpec).bare.plain.varTypes Tryz.pinned.checked.prog).any (Tryz.pinned.checked.prog.ifacesRec ·))) = true := by kernel_rfl
theorem witTells_q15 : ((Rows.witTellsRow.mapsOut == Tryz.pinned.checked.prog.mapsAmong Tryz.f3.resultTypes.toList)) = true := by kernel_rfl
theorem witTells_q16 : ((Rows.witTellsRow.loops == (Tryz.f3.params.toList ++ (OpenSpec.ofChange Rows.witTellsSpec).bare.plain.varTypes Tryz.pinned.checked.prog).any (Tryz.pinned.checked.prog.loopsFrom ·))) = true := by kernel_rfl
theorem witTells_q17 : ((Rows.witTellsRow.wideKeys == (Tryz.f3.params.toList ++ (OpenSpec.ofChange Rows.witTellsSpec).bare.plain.varTypes Tryz.pinned.checked.prog ++ Tryz.f3.resultTypes.toList).any (Tryz.pinned.checked.prog.wideKeysFrom ·))) = true := by kernel_rfl
theorem witTells_q18 : ((OpenSpec.ofChange Rows.witTellsSpec).bare.vars.all (Tryz.pinned.checked.prog.varReadable ·)) = true := by kernel_rfl
theorem witTells_q19 : (Tryz.f3.resultTypes.all (fun t => Tryz.pinned.checked.prog.readableRec t && decide (t < Tryz.pinned.checked.prog.types.size))) = true := by kernel_rfl
theorem witTells_q20 : ((Rows.witTellsRow.ifacesOut == Tryz.f3.resultTypes.toList.any (Tryz.pinned.checked.prog.ifacesRec ·))) = true := by kernel_rfl
theorem witTells_q21 : ((Rows.witTellsRow.loopsOut == Tryz.f3.resultTypes.toList.any (Tryz.pinned.checked.prog.loopsFrom ·))) = true := by kernel_rfl
theorem witTells_q22 : ((Rows.witTellsRow.plainKeys == Tryz.pinned.checked.prog.plainKeys)) = true := by kernel_rfl
theorem witTells_q23 : (Rows.witTellsRow.shortTexts.isNone) = true := by kernel_rfl
theorem witTells_q24 : (Tryz.pinned.checked.prog.stopsHeard) = true := by kernel_rfl
theorem witTells_q25 : (Tryz.pinned.checked.prog.mayEnter) = true := by kernel_rfl
theorem witTells_q26 : ((Rows.witTellsRow.lifted == Tryz.pinned.checked.prog.liftsFinal)) = true := by kernel_rfl
theorem witTells_q27 : ((Tryz.pinned.checked.prog.make == some Rows.witTellsRow.make)) = true := by kernel_rfl
theorem witTells_q28 : ((Rows.witTellsRow.kinds == (if Rows.witTellsRow.domain.isEmpty then [] else Tryz.f3.params.toList.map fun t => match Tryz.pinned.checked.prog.underlying t with | some (.int k) => some k | _ => none))) = true := by kernel_rfl
theorem witTells_q29 : ((Rows.witTellsRow.pinned == Rows.witTellsRow.pinnedBy)) = true := by kernel_rfl
theorem witTells_q30 : ((Rows.witTellsRow.veiled == (Tryz.f3.params.toList ++ (OpenSpec.ofChange Rows.witTellsSpec).bare.plain.varTypes Tryz.pinned.checked.prog ++ Tryz.f3.resultTypes.toList).any (Tryz.pinned.checked.prog.veiledRec ·))) = true := by kernel_rfl
theorem witTells_q31 : (Rows.witTellsRow.veiledFits Tryz.pinned.checked.prog Tryz.f3.params.toList (Tryz.f3.params.toList ++ (OpenSpec.ofChange Rows.witTellsSpec).bare.plain.varTypes Tryz.pinned.checked.prog ++ Tryz.f3.resultTypes.toList)) = true := by kernel_rfl
theorem witTells_qj : joinedFacts Tryz.pinned.checked.prog 3 Tryz.f3 (OpenSpec.ofChange Rows.witTellsSpec).bare Rows.witTellsRow = true := abr witTells_q0 witTells_q1 witTells_q2 witTells_q3 witTells_q4 witTells_q5 witTells_q6 witTells_q7 witTells_q8 witTells_q9 witTells_q10 witTells_q11 witTells_q12 witTells_q13 witTells_q14 witTells_q15 witTells_q16 witTells_q17 witTells_q18 witTells_q19 witTells_q20 witTells_q21 witTells_q22 witTells_q23 witTells_q24 witTells_q25 witTells_q26 witTells_q27 witTells_q28 witTells_q29 witTells_q30 witTells_q31
theorem witTells_qn : Tryz.pinned.checked.prog.funcNamed Rows.witTellsRow.func = some 3 := by kernel_rfl
theorem witTells_qd : Tryz.f3.isInstance Tryz.pinned.checked.prog Rows.witTellsRow.origin Rows.witTellsRow.targs := of_decide_eq_true (by kernel_rfl)
theorem witTells_qw : Tryz.f3.isWrapper Tryz.pinned.checked.prog Rows.witTellsRow.wrapper Rows.witTellsRow.mainSum := by unfold Func.isWrapper; first | (rw [if_pos (by decide +kernel)]; kernel_rfl) | (rw [if_neg (by decide +kernel)]; exact ⟨rfl, rfl⟩)
theorem witTells_q40 : Rows.witTellsRow.wfByText (OpenSpec.ofChange Rows.witTellsSpec) = true := by kernel_rfl
theorem witTells_q41 : Tryz.pinned.checked.prog.mainIs = some ((true, "ff73f780c7538f0866d9339671417e6a0a2497b609e543cb5f458cf968f7d10d").1, ((true, "ff73f780c7538f0866d9339671417e6a0a2497b609e543cb5f458cf968f7d10d") : Bool × String).2.toList) := by kernel_rfl
theorem witTells_q42 : false = Tryz.pinned.checked.prog.looks [] := by kernel_rfl
theorem witTells_q43 : (Tryz.f3.params.toList.all fun t => !Tryz.prog.wantsStandIn t) = true := by kernel_rfl
theorem witTells_q44 : false = Rows.witTellsRow.goesBy Tryz.pinned.checked.prog := by kernel_rfl

theorem witTells_over : Rows.witTellsRow.holds Tryz.pinned (OpenSpec.ofChange Rows.witTellsSpec) :=
  OpenClaim.holds_of_cond 3 Tryz.f3 rfl rfl rfl rfl rfl rfl rfl ⟨rfl, rfl, rfl, rfl, rfl⟩ rfl rfl rfl rfl rfl witTells_qn Tryz.func3 witTells_qj
    witTells_qd witTells_qw
    (fun os started H enc _ F0 => by rw [OpenClaim.pre_eq_preRow]; exact witTells_lifted os started H enc)

theorem witTells_holds : Rows.WitTellsCardSaid :=
  Claim7.holds_tied_plain_at .later [] [.data, .pinned] true (true, "ff73f780c7538f0866d9339671417e6a0a2497b609e543cb5f458cf968f7d10d") false
    witTells_over (fun _ h => by cases h) witTells_q40 (fun _ h => by cases h) witTells_row_tie rfl ⟨rfl, rfl⟩ witTells_q41 rfl
    (fun f fn hf hfn => by
      obtain rfl : f = 3 := Option.some.inj (witTells_qn.symm.trans hf) |>.symm
      obtain rfl : fn = Tryz.f3 := (Option.some.inj (Tryz.func3.symm.trans hfn)).symm
      refine ⟨witTells_q42, fun j t ht => ?_⟩
      have g := List.all_eq_true.1 witTells_q43 t (List.mem_of_getElem? (by simpa using ht))
      exact (by simpa using g : Tryz.prog.wantsStandIn t = false))
    witTells_q44
#print axioms witTells_holds

end Go.Proofs.YtfgfjbcoeakonaaGreatDoor
