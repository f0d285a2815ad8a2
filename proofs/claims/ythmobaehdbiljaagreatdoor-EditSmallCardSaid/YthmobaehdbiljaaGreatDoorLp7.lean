import Derived.Test.YthmobaehdbiljaaGreatDoorLp6
import Derived.Test.YthmobaehdbiljaaGreatDoorRows
import Derived.Test.YthmobaehdbiljaaGreatDoorCards
import Derived.Test.YthmobaehdbiljaaGreatDoorTie
import Derived.SevenTiedAt

set_option linter.all false
set_option maxHeartbeats 8000000
set_option maxRecDepth 100000

/-
  The statement EditSmall, a tied card: whatever its arguments the law returns true and leaves them as they are. No condition.
-/
namespace Go.Proofs.YthmobaehdbiljaaGreatDoor
open Go Lp Go.Shelf Go.RowKit


theorem editSmall_row (os : Os) {H : Type} (enc : TypeId × Value → H) :
    (OpenSpec.ofChange Rows.editSmallSpec).preRow enc Tryz.prog Tryz.f7 Rows.editSmallRow.domain false Rows.editSmallRow.laid ((VR os).forCall (fun _ _ => 0) ⟨#[], #[.slice none 0 0, .slice none 0 0, .slice none 0 0], []⟩).memory #[.slice none 0 0, .slice none 0 0, .slice none 0 0] := by
  have hw : (DataW.whole enc Tryz.prog ((VR os).forCall (fun _ _ => 0) ⟨#[], #[.slice none 0 0, .slice none 0 0, .slice none 0 0], []⟩).memory Tryz.f7.params.toList (OpenSpec.ofChange Rows.editSmallSpec).vars false (#[.slice none 0 0, .slice none 0 0, .slice none 0 0] : Array Value).toList 8).map (fun x => (x.1, x.2.1)) =
      some ([.nil, .nil, .nil], []) := by kernel_rfl
  obtain ⟨⟨x1, x2, x3⟩, hx, hx1⟩ := Option.map_eq_some_iff.1 hw
  simp only [Prod.mk.injEq] at hx1
  obtain ⟨rfl, rfl⟩ := hx1
  exact OpenSpec.preRow_of_cond 8 hx (by kernel_rfl) (fun k hk => by cases hk) (by kernel_rfl) (adT os _)

theorem editSmall_lifted (os : Os) (started : os.Started) (H : Type) (enc : TypeId × Value → H) :
    ReturnsInHanded {} Tryz.checked os 7 .any ((OpenSpec.ofChange Rows.editSmallSpec).preRow enc Tryz.prog Tryz.f7 Rows.editSmallRow.domain false Rows.editSmallRow.laid) (Rows.editSmallSpec.post enc Tryz.prog Tryz.f7 false true false false) := by
  refine aaV (C := Tryz.checked) (tb := 4) (by kernel_rfl) started (by kernel_rfl) Tryz.func7
    (witness_row_atRef (enc := enc) (C := Tryz.checked) false (VR os) #[.slice none 0 0, .slice none 0 0, .slice none 0 0] rfl (by kernel_rfl) (by kernel_rfl) (by kernel_rfl) (editSmall_row os enc))
    (by kernel_rfl) (fun t ht => ?_) (by kernel_rfl) (by kernel_rfl) XJ rfl rfl (fun ds hd => ?_) (fun W base args ds ps hval hA hw => ?_) (fun W h => aco h)
  · have h : (Tryz.f7.params.toList.all fun t => Tryz.prog.readableRec t && decide (t < Tryz.prog.types.size)) = true := by kernel_rfl
    have g := List.all_eq_true.1 h t ht
    rw [Bool.and_eq_true] at g
    exact ⟨g.1, of_decide_eq_true g.2⟩
  · have h : Tryz.f7.params.toList.length = 3 := by kernel_rfl
    rw [h] at hd
    match ds, hd with
    | [d0, d1, d2], _ => rfl
  · have h : Tryz.f7.params = #[23, 36, 23] := by kernel_rfl
    rw [h] at hval hA hw
    obtain ⟨v0, vs0, d0, ds0, p0, q0, rfl, rfl, rfl, h0, r0⟩ := Go.ChangeShapes.trodAll_cons hA
    obtain ⟨v1, vs1, d1, ds1, p1, q1, rfl, rfl, rfl, h1, r1⟩ := Go.ChangeShapes.trodAll_cons r0
    obtain ⟨v2, vs2, d2, ds2, p2, q2, rfl, rfl, rfl, h2, r2⟩ := Go.ChangeShapes.trodAll_cons r1
    obtain ⟨rfl, rfl, rfl⟩ := Go.ChangeShapes.trodAll_nil r2
    obtain ⟨a0, g0, w0⟩ := ael adn rd_val (fun _ => rfl) (hval 0 23 v0 rfl rfl) h0 (fun n hn => hw n (vS _ _ 0 23 d0 rfl rfl hn))
    obtain ⟨a1, g1, w1⟩ := ael ab9 Z7 (fun _ => rfl) (hval 1 36 v1 rfl rfl) h1 (fun n hn => hw n (vS _ _ 1 36 d1 rfl rfl hn))
    obtain ⟨a2, g2, w2⟩ := ael adn rd_val (fun _ => rfl) (hval 2 23 v2 rfl rfl) h2 (fun n hn => hw n (vS _ _ 2 23 d2 rfl rfl hn))
    exact ⟨[aj a0, bf a1, aj a2], p9 w0 (p9 w1 (p9 w2 O8)), Yy a0 a1 a2 g0 g1 g2⟩

theorem editSmall_q0 : (Rows.editSmallRow.wf (OpenSpec.ofChange (OpenSpec.ofChange Rows.editSmallSpec).bare)) = true := by kernel_rfl
theorem editSmall_q1 : (laidOutB Tryz.pinned.checked.prog) = true := by kernel_rfl
theorem editSmall_q2 : (mapsRowed Tryz.pinned.checked.prog) = true := by kernel_rfl
theorem editSmall_q3 : (Tryz.f7.params.all (Tryz.pinned.checked.prog.readableRec ·)) = true := by kernel_rfl
theorem editSmall_q4 : (namedTie Tryz.pinned.checked.prog Rows.editSmallRow.named (OpenSpec.ofChange Rows.editSmallSpec).bare.vars) = true := by kernel_rfl
theorem editSmall_q5 : ((Rows.editSmallRow.stops == [])) = true := by kernel_rfl
theorem editSmall_q6 : ((Tryz.pinned.checked.prog.stops == [])) = true := by kernel_rfl
theorem editSmall_q7 : ((Rows.editSmallRow.knobs == [])) = true := by kernel_rfl
theorem editSmall_q8 : ((Tryz.pinned.checked.prog.stopKnobs == [])) = true := by kernel_rfl
theorem editSmall_q9 : ((Rows.editSmallRow.inPlace == Tryz.pinned.checked.prog.inPlace 7)) = true := by kernel_rfl
theorem editSmall_q10 : ((Rows.editSmallRow.unfollowed == Tryz.pinned.checked.prog.unfollowed 7)) = true := by kernel_rfl
theorem editSmall_q11 : ((Rows.editSmallRow.recurses == Tryz.pinned.checked.prog.recurses 7)) = true := by kernel_rfl
theorem editSmall_q12 : ((Rows.editSmallRow.named == Tryz.pinned.checked.prog.varsNamed 7)) = true := by kernel_rfl
theorem editSmall_q13 : ((Rows.editSmallRow.maps == (Tryz.f7.params.toList ++ (OpenSpec.ofChange Rows.editSmallSpec).bare.plain.varTypes Tryz.pinned.checked.prog).any (Tryz.pinned.checked.prog.mapsRec ·))) = true := by kernel_rfl
theorem editSmall_q14 : ((Rows.editSmallRow.ifaces == (Tryz.f7.params.toList ++ (OpenSpec.ofChange Rows.editSmallSpec).bare.plain.varTypes Tryz.pinned.checked.prog).any (Tryz.pinned.checked.prog.ifacesRec ·))) = true := by kernel_rfl
theorem editSmall_q15 : ((Rows.editSmallRow.mapsOut == Tryz.pinned.checked.prog.mapsAmong Tryz.f7.resultTypes.toList)) = true := by kernel_rfl
theorem editSmall_q16 : ((Rows.editSmallRow.loops == (Tryz.f7.params.toList ++ (OpenSpec.ofChange Rows.editSmallSpec).bare.plain.varTypes Tryz.pinned.checked.prog).any (Tryz.pinned.checked.prog.loopsFrom ·))) = true := by kernel_rfl
theorem editSmall_q17 : ((Rows.editSmallRow.wideKeys == (Tryz.f7.params.toList ++ (OpenSpec.ofChange Rows.editSmallSpec).bare.plain.varTypes Tryz.pinned.checked.prog ++ Tryz.f7.resultTypes.toList).any (Tryz.pinned.checked.prog.wideKeysFrom ·))) = true := by kernel_rfl
theorem editSmall_q18 : ((OpenSpec.ofChange Rows.editSmallSpec).bare.vars.all (Tryz.pinned.checked.prog.varReadable ·)) = true := by kernel_rfl
theorem editSmall_q19 : (Tryz.f7.resultTypes.all (fun t => Tryz.pinned.checked.prog.readableRec t && decide (t < Tryz.pinned.checked.prog.types.size))) = true := by kernel_rfl
theorem editSmall_q20 : ((Rows.editSmallRow.ifacesOut == Tryz.f7.resultTypes.toList.any (Tryz.pinned.checked.prog.ifacesRec ·))) = true := by kernel_rfl
theorem editSmall_q21 : ((Rows.editSmallRow.loopsOut == Tryz.f7.resultTypes.toList.any (Tryz.pinned.checked.prog.loopsFrom ·))) = true := by kernel_rfl
theorem editSmall_q22 : ((Rows.editSmallRow.plainKeys == Tryz.pinned.checked.prog.plainKeys)) = true := by kernel_rfl
theorem editSmall_q23 : (Rows.editSmallRow.shortTexts.isNone) = true := by kernel_rfl
theorem editSmall_q24 : (Tryz.pinned.checked.prog.stopsHeard) = true := by kernel_rfl
theorem editSmall_q25 : (Tryz.pinned.checked.prog.mayEnter) = true := by kernel_rfl
theorem editSmall_q26 : ((Rows.editSmallRow.lifted == Tryz.pinned.checked.prog.liftsFinal)) = true := by kernel_rfl
theorem editSmall_q27 : ((Tryz.pinned.checked.prog.make == some Rows.editSmallRow.make)) = true := by kernel_rfl
theorem editSmall_q28 : ((Rows.editSmallRow.kinds == (if Rows.editSmallRow.domain.isEmpty then [] else Tryz.f7.params.toList.map fun t => match Tryz.pinned.checked.prog.underlying t with | some (.int k) => some k | _ => none))) = true := by kernel_rfl
theorem editSmall_q29 : ((Rows.editSmallRow.pinned == Rows.editSmallRow.pinnedBy)) = true := by kernel_rfl
theorem editSmall_q30 : ((Rows.editSmallRow.veiled == (Tryz.f7.params.toList ++ (OpenSpec.ofChange Rows.editSmallSpec).bare.plain.varTypes Tryz.pinned.checked.prog ++ Tryz.f7.resultTypes.toList).any (Tryz.pinned.checked.prog.veiledRec ·))) = true := by kernel_rfl
theorem editSmall_q31 : (Rows.editSmallRow.veiledFits Tryz.pinned.checked.prog Tryz.f7.params.toList (Tryz.f7.params.toList ++ (OpenSpec.ofChange Rows.editSmallSpec).bare.plain.varTypes Tryz.pinned.checked.prog ++ Tryz.f7.resultTypes.toList)) = true := by kernel_rfl
theorem editSmall_qj : joinedFacts Tryz.pinned.checked.prog 7 Tryz.f7 (OpenSpec.ofChange Rows.editSmallSpec).bare Rows.editSmallRow = true := acp editSmall_q0 editSmall_q1 editSmall_q2 editSmall_q3 editSmall_q4 editSmall_q5 editSmall_q6 editSmall_q7 editSmall_q8 editSmall_q9 editSmall_q10 editSmall_q11 editSmall_q12 editSmall_q13 editSmall_q14 editSmall_q15 editSmall_q16 editSmall_q17 editSmall_q18 editSmall_q19 editSmall_q20 editSmall_q21 editSmall_q22 editSmall_q23 editSmall_q24 editSmall_q25 editSmall_q26 editSmall_q27 editSmall_q28 editSmall_q29 editSmall_q30 editSmall_q31
theorem editSmall_qn : Tryz.pinned.checked.prog.funcNamed Rows.editSmallRow.func = some 7 := by kernel_rfl
theorem editSmall_qd : Tryz.f7.isInstance Tryz.pinned.checked.prog Rows.editSmallRow.origin Rows.editSmallRow.targs := of_decide_eq_true (by kernel_rfl)
theorem editSmall_qw : Tryz.f7.isWrapper Tryz.pinned.checked.prog Rows.editSmallRow.wrapper Rows.editSmallRow.mainSum := by unfold Func.isWrapper; first | (rw [if_pos (by decide +kernel)]; kernel_rfl) | (rw [if_neg (by decide +kernel)]; exact ⟨rfl, rfl⟩)
theorem editSmall_q40 : Rows.editSmallRow.wfByText (OpenSpec.ofChange Rows.editSmallSpec) = true := by kernel_rfl
theorem editSmall_q41 : Tryz.pinned.checked.prog.mainIs = some ((true, "98c2b7de904b7d4d9dcadfa6121005a955486571e5a77a28b6f24d210b194177").1, ((true, "98c2b7de904b7d4d9dcadfa6121005a955486571e5a77a28b6f24d210b194177") : Bool × String).2.toList) := by kernel_rfl
theorem editSmall_q42 : true = Tryz.pinned.checked.prog.looks [] := by kernel_rfl
theorem editSmall_q43 : (Tryz.f7.params.toList.all fun t => !Tryz.prog.wantsStandIn t) = true := by kernel_rfl
theorem editSmall_q44 : false = Rows.editSmallRow.goesBy Tryz.pinned.checked.prog := by kernel_rfl

theorem editSmall_over : Rows.editSmallRow.holds Tryz.pinned (OpenSpec.ofChange Rows.editSmallSpec) :=
  OpenClaim.holds_of_cond 7 Tryz.f7 rfl rfl rfl rfl rfl rfl rfl ⟨rfl, rfl, rfl, rfl, rfl⟩ rfl rfl rfl rfl rfl editSmall_qn Tryz.func7 editSmall_qj
    editSmall_qd editSmall_qw
    (fun os started H enc _ F0 => by rw [OpenClaim.pre_eq_preRow]; exact editSmall_lifted os started H enc)

theorem editSmall_holds : Rows.EditSmallCardSaid :=
  Claim7.holds_tied_plain_at .later [] [.data, .pinned] true (true, "98c2b7de904b7d4d9dcadfa6121005a955486571e5a77a28b6f24d210b194177") true
    editSmall_over (fun _ h => by cases h) editSmall_q40 (fun _ h => by cases h) editSmall_row_tie rfl ⟨rfl, rfl⟩ editSmall_q41 rfl
    (fun f fn hf hfn => by
      obtain rfl : f = 7 := Option.some.inj (editSmall_qn.symm.trans hf) |>.symm
      obtain rfl : fn = Tryz.f7 := (Option.some.inj (Tryz.func7.symm.trans hfn)).symm
      refine ⟨editSmall_q42, fun j t ht => ?_⟩
      have g := List.all_eq_true.1 editSmall_q43 t (List.mem_of_getElem? (by simpa using ht))
      exact (by simpa using g : Tryz.prog.wantsStandIn t = false))
    editSmall_q44
#print axioms editSmall_holds

end Go.Proofs.YthmobaehdbiljaaGreatDoor
