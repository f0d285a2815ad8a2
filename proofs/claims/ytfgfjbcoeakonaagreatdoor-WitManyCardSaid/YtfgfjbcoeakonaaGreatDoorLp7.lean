import Derived.Test.YtfgfjbcoeakonaaGreatDoorLp6
import Derived.Test.YtfgfjbcoeakonaaGreatDoorRows
import Derived.Test.YtfgfjbcoeakonaaGreatDoorCards
import Derived.Test.YtfgfjbcoeakonaaGreatDoorTie
import Derived.SevenTiedAt

set_option linter.all false
set_option maxHeartbeats 8000000
set_option maxRecDepth 100000

/-
  The statement WitMany, a tied card: whatever its arguments the law returns true and leaves them as they are. No condition.
-/
namespace Go.Proofs.YtfgfjbcoeakonaaGreatDoor
open Go Lp Go.Shelf Go.RowKit


theorem witMany_row (os : Os) {H : Type} (enc : TypeId × Value → H) :
    (OpenSpec.ofChange Rows.witManySpec).preRow enc Tryz.prog Tryz.f7 Rows.witManyRow.domain false Rows.witManyRow.laid ((VL os).forCall (fun _ _ => 0) ⟨#[], #[.slice none 0 0, .slice none 0 0, .int .u8 0], []⟩).memory #[.slice none 0 0, .slice none 0 0, .int .u8 0] := by
  have hw : (DataW.whole enc Tryz.prog ((VL os).forCall (fun _ _ => 0) ⟨#[], #[.slice none 0 0, .slice none 0 0, .int .u8 0], []⟩).memory Tryz.f7.params.toList (OpenSpec.ofChange Rows.witManySpec).vars false (#[.slice none 0 0, .slice none 0 0, .int .u8 0] : Array Value).toList 8).map (fun x => (x.1, x.2.1)) =
      some ([.nil, .nil, .lit (.int .u8 0)], []) := by kernel_rfl
  obtain ⟨⟨x1, x2, x3⟩, hx, hx1⟩ := Option.map_eq_some_iff.1 hw
  simp only [Prod.mk.injEq] at hx1
  obtain ⟨rfl, rfl⟩ := hx1
  exact OpenSpec.preRow_of_cond 8 hx (by kernel_rfl) (fun k hk => by cases hk) (by kernel_rfl) (acA os _)

theorem witMany_lifted (os : Os) (started : os.Started) (H : Type) (enc : TypeId × Value → H) :
    ReturnsInHanded {} Tryz.checked os 7 .any ((OpenSpec.ofChange Rows.witManySpec).preRow enc Tryz.prog Tryz.f7 Rows.witManyRow.domain false Rows.witManyRow.laid) (Rows.witManySpec.post enc Tryz.prog Tryz.f7 false true false false) := by
  refine aaf (C := Tryz.checked) (tb := 4) (by kernel_rfl) started (by kernel_rfl) Tryz.func7
    (witness_row_atRef (enc := enc) (C := Tryz.checked) false (VL os) #[.slice none 0 0, .slice none 0 0, .int .u8 0] rfl (by kernel_rfl) (by kernel_rfl) (by kernel_rfl) (witMany_row os enc))
    (by kernel_rfl) (fun t ht => ?_) (by kernel_rfl) (by kernel_rfl) abk rfl rfl (fun ds hd => ?_) (fun W base args ds ps hval hA hw => ?_) (fun W h => abu h)
  · have h : (Tryz.f7.params.toList.all fun t => Tryz.prog.readableRec t && decide (t < Tryz.prog.types.size)) = true := by kernel_rfl
    have g := List.all_eq_true.1 h t ht
    rw [Bool.and_eq_true] at g
    exact ⟨g.1, of_decide_eq_true g.2⟩
  · have h : Tryz.f7.params.toList.length = 3 := by kernel_rfl
    rw [h] at hd
    match ds, hd with
    | [d0, d1, d2], _ => rfl
  · have h : Tryz.f7.params = #[23, 23, 5] := by kernel_rfl
    rw [h] at hval hA hw
    obtain ⟨v0, vs0, d0, ds0, p0, q0, rfl, rfl, rfl, h0, r0⟩ := Go.ChangeShapes.trodAll_cons hA
    obtain ⟨v1, vs1, d1, ds1, p1, q1, rfl, rfl, rfl, h1, r1⟩ := Go.ChangeShapes.trodAll_cons r0
    obtain ⟨v2, vs2, d2, ds2, p2, q2, rfl, rfl, rfl, h2, r2⟩ := Go.ChangeShapes.trodAll_cons r1
    obtain ⟨rfl, rfl, rfl⟩ := Go.ChangeShapes.trodAll_nil r2
    obtain ⟨a0, g0, w0⟩ := adk abn acE (fun _ => rfl) (hval 0 23 v0 rfl rfl) h0 (fun n hn => hw n (uO _ _ 0 23 d0 rfl rfl hn))
    obtain ⟨a1, g1, w1⟩ := adk abn acE (fun _ => rfl) (hval 1 23 v1 rfl rfl) h1 (fun n hn => hw n (uO _ _ 1 23 d1 rfl rfl hn))
    obtain ⟨a2, g2, w2⟩ := adp (hval 2 5 v2 rfl rfl) h2 (fun n hn => hw n (uO _ _ 2 5 d2 rfl rfl hn))
    exact ⟨[aH a0, aH a1, .int .u8 a2], iZ w0 (iZ w1 (iZ w2 Ya)), Zu a0 a1 a2 g0 g1 g2⟩

theorem witMany_q0 : (Rows.witManyRow.wf (OpenSpec.ofChange (OpenSpec.ofChange Rows.witManySpec).bare)) = true := by kernel_rfl
theorem witMany_q1 : (laidOutB Tryz.pinned.checked.prog) = true := by kernel_rfl
theorem witMany_q2 : (mapsRowed Tryz.pinned.checked.prog) = true := by kernel_rfl
theorem witMany_q3 : (Tryz.f7.params.all (Tryz.pinned.checked.prog.readableRec ·)) = true := by kernel_rfl
theorem witMany_q4 : (namedTie Tryz.pinned.checked.prog Rows.witManyRow.named (OpenSpec.ofChange Rows.witManySpec).bare.vars) = true := by kernel_rfl
theorem witMany_q5 : ((Rows.witManyRow.stops == [])) = true := by kernel_rfl
theorem witMany_q6 : ((Tryz.pinned.checked.prog.stops == [])) = true := by kernel_rfl
theorem witMany_q7 : ((Rows.witManyRow.knobs == [])) = true := by kernel_rfl
theorem witMany_q8 : ((Tryz.pinned.checked.prog.stopKnobs == [])) = true := by kernel_rfl
theorem witMany_q9 : ((Rows.witManyRow.inPlace == Tryz.pinned.checked.prog.inPlace 7)) = true := by kernel_rfl
theorem witMany_q10 : ((Rows.witManyRow.unfollowed == Tryz.pinned.checked.prog.unfollowed 7)) = true := by kernel_rfl
theorem witMany_q11 : ((Rows.witManyRow.recurses == Tryz.pinned.checked.prog.recurses 7)) = true := by kernel_rfl
theorem witMany_q12 : ((Rows.witManyRow.named == Tryz.pinned.checked.prog.varsNamed 7)) = true := by kernel_rfl
theorem witMany_q13 : ((Rows.witManyRow.maps == (Tryz.f7.params.toList ++ (OpenSpec.ofChange Rows.witManySpec).bare.plain.varTypes Tryz.pinned.checked.prog).any (Tryz.pinned.checked.prog.mapsRec ·))) = true := by kernel_rfl
theorem witMany_q14 : ((Rows.witManyRow.ifaces == (Tryz.f7.params.toList ++ (OpenSpec.ofChange Rows.witManySpec).bare.plain.varTypes Tryz.pinned.checked.prog).any (Tryz.pinned.checked.prog.ifacesRec ·))) = true := by kernel_rfl
theorem witMany_q15 : ((Rows.witManyRow.mapsOut == Tryz.pinned.checked.prog.mapsAmong Tryz.f7.resultTypes.toList)) = true := by kernel_rfl
theorem witMany_q16 : ((Rows.witManyRow.loops == (Tryz.f7.params.toList ++ (OpenSpec.ofChange Rows.witManySpec).bare.plain.varTypes Tryz.pinned.checked.prog).any (Tryz.pinned.checked.prog.loopsFrom ·))) = true := by kernel_rfl
theorem witMany_q17 : ((Rows.witManyRow.wideKeys == (Tryz.f7.params.toList ++ (OpenSpec.ofChange Rows.witManySpec).bare.plain.varTypes Tryz.pinned.checked.prog ++ Tryz.f7.resultTypes.toList).any (Tryz.pinned.checked.prog.wideKeysFrom ·))) = true := by kernel_rfl
theorem witMany_q18 : ((OpenSpec.ofChange Rows.witManySpec).bare.vars.all (Tryz.pinned.checked.prog.varReadable ·)) = true := by kernel_rfl
theorem witMany_q19 : (Tryz.f7.resultTypes.all (fun t => Tryz.pinned.checked.prog.readableRec t && decide (t < Tryz.pinned.checked.prog.types.size))) = true := by kernel_rfl
theorem witMany_q20 : ((Rows.witManyRow.ifacesOut == Tryz.f7.resultTypes.toList.any (Tryz.pinned.checked.prog.ifacesRec ·))) = true := by kernel_rfl
theorem witMany_q21 : ((Rows.witManyRow.loopsOut == Tryz.f7.resultTypes.toList.any (Tryz.pinned.checked.prog.loopsFrom ·))) = true := by kernel_rfl
theorem witMany_q22 : ((Rows.witManyRow.plainKeys == Tryz.pinned.checked.prog.plainKeys)) = true := by kernel_rfl
theorem witMany_q23 : (Rows.witManyRow.shortTexts.isNone) = true := by kernel_rfl
theorem witMany_q24 : (Tryz.pinned.checked.prog.stopsHeard) = true := by kernel_rfl
theorem witMany_q25 : (Tryz.pinned.checked.prog.mayEnter) = true := by kernel_rfl
theorem witMany_q26 : ((Rows.witManyRow.lifted == Tryz.pinned.checked.prog.liftsFinal)) = true := by kernel_rfl
theorem witMany_q27 : ((Tryz.pinned.checked.prog.make == some Rows.witManyRow.make)) = true := by kernel_rfl
theorem witMany_q28 : ((Rows.witManyRow.kinds == (if Rows.witManyRow.domain.isEmpty then [] else Tryz.f7.params.toList.map fun t => match Tryz.pinned.checked.prog.underlying t with | some (.int k) => some k | _ => none))) = true := by kernel_rfl
theorem witMany_q29 : ((Rows.witManyRow.pinned == Rows.witManyRow.pinnedBy)) = true := by kernel_rfl
theorem witMany_q30 : ((Rows.witManyRow.veiled == (Tryz.f7.params.toList ++ (OpenSpec.ofChange Rows.witManySpec).bare.plain.varTypes Tryz.pinned.checked.prog ++ Tryz.f7.resultTypes.toList).any (Tryz.pinned.checked.prog.veiledRec ·))) = true := by kernel_rfl
theorem witMany_q31 : (Rows.witManyRow.veiledFits Tryz.pinned.checked.prog Tryz.f7.params.toList (Tryz.f7.params.toList ++ (OpenSpec.ofChange Rows.witManySpec).bare.plain.varTypes Tryz.pinned.checked.prog ++ Tryz.f7.resultTypes.toList)) = true := by kernel_rfl
theorem witMany_qj : joinedFacts Tryz.pinned.checked.prog 7 Tryz.f7 (OpenSpec.ofChange Rows.witManySpec).bare Rows.witManyRow = true := abv witMany_q0 witMany_q1 witMany_q2 witMany_q3 witMany_q4 witMany_q5 witMany_q6 witMany_q7 witMany_q8 witMany_q9 witMany_q10 witMany_q11 witMany_q12 witMany_q13 witMany_q14 witMany_q15 witMany_q16 witMany_q17 witMany_q18 witMany_q19 witMany_q20 witMany_q21 witMany_q22 witMany_q23 witMany_q24 witMany_q25 witMany_q26 witMany_q27 witMany_q28 witMany_q29 witMany_q30 witMany_q31
theorem witMany_qn : Tryz.pinned.checked.prog.funcNamed Rows.witManyRow.func = some 7 := by kernel_rfl
theorem witMany_qd : Tryz.f7.isInstance Tryz.pinned.checked.prog Rows.witManyRow.origin Rows.witManyRow.targs := of_decide_eq_true (by kernel_rfl)
theorem witMany_qw : Tryz.f7.isWrapper Tryz.pinned.checked.prog Rows.witManyRow.wrapper Rows.witManyRow.mainSum := by unfold Func.isWrapper; first | (rw [if_pos (by decide +kernel)]; kernel_rfl) | (rw [if_neg (by decide +kernel)]; exact ⟨rfl, rfl⟩)
theorem witMany_q40 : Rows.witManyRow.wfByText (OpenSpec.ofChange Rows.witManySpec) = true := by kernel_rfl
theorem witMany_q41 : Tryz.pinned.checked.prog.mainIs = some ((true, "ff73f780c7538f0866d9339671417e6a0a2497b609e543cb5f458cf968f7d10d").1, ((true, "ff73f780c7538f0866d9339671417e6a0a2497b609e543cb5f458cf968f7d10d") : Bool × String).2.toList) := by kernel_rfl
theorem witMany_q42 : false = Tryz.pinned.checked.prog.looks [] := by kernel_rfl
theorem witMany_q43 : (Tryz.f7.params.toList.all fun t => !Tryz.prog.wantsStandIn t) = true := by kernel_rfl
theorem witMany_q44 : false = Rows.witManyRow.goesBy Tryz.pinned.checked.prog := by kernel_rfl

theorem witMany_over : Rows.witManyRow.holds Tryz.pinned (OpenSpec.ofChange Rows.witManySpec) :=
  OpenClaim.holds_of_cond 7 Tryz.f7 rfl rfl rfl rfl rfl rfl rfl ⟨rfl, rfl, rfl, rfl, rfl⟩ rfl rfl rfl rfl rfl witMany_qn Tryz.func7 witMany_qj
    witMany_qd witMany_qw
    (fun os started H enc _ F0 => by rw [OpenClaim.pre_eq_preRow]; exact witMany_lifted os started H enc)

theorem witMany_holds : Rows.WitManyCardSaid :=
  Claim7.holds_tied_plain_at .later [] [.data, .pinned] true (true, "ff73f780c7538f0866d9339671417e6a0a2497b609e543cb5f458cf968f7d10d") false
    witMany_over (fun _ h => by cases h) witMany_q40 (fun _ h => by cases h) witMany_row_tie rfl ⟨rfl, rfl⟩ witMany_q41 rfl
    (fun f fn hf hfn => by
      obtain rfl : f = 7 := Option.some.inj (witMany_qn.symm.trans hf) |>.symm
      obtain rfl : fn = Tryz.f7 := (Option.some.inj (Tryz.func7.symm.trans hfn)).symm
      refine ⟨witMany_q42, fun j t ht => ?_⟩
      have g := List.all_eq_true.1 witMany_q43 t (List.mem_of_getElem? (by simpa using ht))
      exact (by simpa using g : Tryz.prog.wantsStandIn t = false))
    witMany_q44
#print axioms witMany_holds

end Go.Proofs.YtfgfjbcoeakonaaGreatDoor
