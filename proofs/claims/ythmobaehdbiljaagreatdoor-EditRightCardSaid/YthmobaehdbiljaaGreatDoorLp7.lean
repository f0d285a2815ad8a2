import Derived.Test.YthmobaehdbiljaaGreatDoorLp6
import Derived.Test.YthmobaehdbiljaaGreatDoorRows
import Derived.Test.YthmobaehdbiljaaGreatDoorCards
import Derived.Test.YthmobaehdbiljaaGreatDoorTie
import Derived.SevenTiedAt

set_option linter.all false
set_option maxHeartbeats 8000000
set_option maxRecDepth 100000

/-
  The statement EditRight, a tied card: whatever its arguments the law returns true and leaves them as they are. No condition.
-/
namespace Go.Proofs.YthmobaehdbiljaaGreatDoor
open Go Lp Go.Shelf Go.RowKit


theorem editRight_row (os : Os) {H : Type} (enc : TypeId × Value → H) :
    (OpenSpec.ofChange Rows.editRightSpec).preRow enc Tryz.prog Tryz.f6 Rows.editRightRow.domain false Rows.editRightRow.laid ((Sc os).forCall (fun _ _ => 0) ⟨#[], #[.slice none 0 0, .slice none 0 0], []⟩).memory #[.slice none 0 0, .slice none 0 0] := by
  have hw : (DataW.whole enc Tryz.prog ((Sc os).forCall (fun _ _ => 0) ⟨#[], #[.slice none 0 0, .slice none 0 0], []⟩).memory Tryz.f6.params.toList (OpenSpec.ofChange Rows.editRightSpec).vars false (#[.slice none 0 0, .slice none 0 0] : Array Value).toList 8).map (fun x => (x.1, x.2.1)) =
      some ([.nil, .nil], []) := by kernel_rfl
  obtain ⟨⟨x1, x2, x3⟩, hx, hx1⟩ := Option.map_eq_some_iff.1 hw
  simp only [Prod.mk.injEq] at hx1
  obtain ⟨rfl, rfl⟩ := hx1
  exact OpenSpec.preRow_of_cond 8 hx (by kernel_rfl) (fun k hk => by cases hk) (by kernel_rfl) (abg os _)

theorem editRight_lifted (os : Os) (started : os.Started) (H : Type) (enc : TypeId × Value → H) :
    ReturnsInHanded {} Tryz.checked os 6 .any ((OpenSpec.ofChange Rows.editRightSpec).preRow enc Tryz.prog Tryz.f6 Rows.editRightRow.domain false Rows.editRightRow.laid) (Rows.editRightSpec.post enc Tryz.prog Tryz.f6 false true false false) := by
  refine XG (C := Tryz.checked) (tb := 4) (by kernel_rfl) started (by kernel_rfl) Tryz.func6
    (witness_row_atRef (enc := enc) (C := Tryz.checked) false (Sc os) #[.slice none 0 0, .slice none 0 0] rfl (by kernel_rfl) (by kernel_rfl) (by kernel_rfl) (editRight_row os enc))
    (by kernel_rfl) (fun t ht => ?_) (by kernel_rfl) (by kernel_rfl) Ui rfl rfl (fun ds hd => ?_) (fun W base args ds ps hval hA hw => ?_) (fun W h => Zw h)
  · have h : (Tryz.f6.params.toList.all fun t => Tryz.prog.readableRec t && decide (t < Tryz.prog.types.size)) = true := by kernel_rfl
    have g := List.all_eq_true.1 h t ht
    rw [Bool.and_eq_true] at g
    exact ⟨g.1, of_decide_eq_true g.2⟩
  · have h : Tryz.f6.params.toList.length = 2 := by kernel_rfl
    rw [h] at hd
    match ds, hd with
    | [d0, d1], _ => rfl
  · have h : Tryz.f6.params = #[23, 27] := by kernel_rfl
    rw [h] at hval hA hw
    obtain ⟨v0, vs0, d0, ds0, p0, q0, rfl, rfl, rfl, h0, r0⟩ := Go.ChangeShapes.trodAll_cons hA
    obtain ⟨v1, vs1, d1, ds1, p1, q1, rfl, rfl, rfl, h1, r1⟩ := Go.ChangeShapes.trodAll_cons r0
    obtain ⟨rfl, rfl, rfl⟩ := Go.ChangeShapes.trodAll_nil r1
    obtain ⟨a0, g0, w0⟩ := abL aaE rd_val (fun _ => rfl) (hval 0 23 v0 rfl rfl) h0 (fun n hn => hw n (rX _ _ 0 23 d0 rfl rfl hn))
    obtain ⟨a1, g1, w1⟩ := abL WI abf (fun _ => rfl) (hval 1 27 v1 rfl rfl) h1 (fun n hn => hw n (rX _ _ 1 27 d1 rfl rfl hn))
    exact ⟨[ak a0, jG a1], nI w0 (nI w1 Lr), UX a0 a1 g0 g1⟩

theorem editRight_q0 : (Rows.editRightRow.wf (OpenSpec.ofChange (OpenSpec.ofChange Rows.editRightSpec).bare)) = true := by kernel_rfl
theorem editRight_q1 : (laidOutB Tryz.pinned.checked.prog) = true := by kernel_rfl
theorem editRight_q2 : (mapsRowed Tryz.pinned.checked.prog) = true := by kernel_rfl
theorem editRight_q3 : (Tryz.f6.params.all (Tryz.pinned.checked.prog.readableRec ·)) = true := by kernel_rfl
theorem editRight_q4 : (namedTie Tryz.pinned.checked.prog Rows.editRightRow.named (OpenSpec.ofChange Rows.editRightSpec).bare.vars) = true := by kernel_rfl
theorem editRight_q5 : ((Rows.editRightRow.stops == [])) = true := by kernel_rfl
theorem editRight_q6 : ((Tryz.pinned.checked.prog.stops == [])) = true := by kernel_rfl
theorem editRight_q7 : ((Rows.editRightRow.knobs == [])) = true := by kernel_rfl
theorem editRight_q8 : ((Tryz.pinned.checked.prog.stopKnobs == [])) = true := by kernel_rfl
theorem editRight_q9 : ((Rows.editRightRow.inPlace == Tryz.pinned.checked.prog.inPlace 6)) = true := by kernel_rfl
theorem editRight_q10 : ((Rows.editRightRow.unfollowed == Tryz.pinned.checked.prog.unfollowed 6)) = true := by kernel_rfl
theorem editRight_q11 : ((Rows.editRightRow.recurses == Tryz.pinned.checked.prog.recurses 6)) = true := by kernel_rfl
theorem editRight_q12 : ((Rows.editRightRow.named == Tryz.pinned.checked.prog.varsNamed 6)) = true := by kernel_rfl
theorem editRight_q13 : ((Rows.editRightRow.maps == (Tryz.f6.params.toList ++ (OpenSpec.ofChange Rows.editRightSpec).bare.plain.varTypes Tryz.pinned.checked.prog).any (Tryz.pinned.checked.prog.mapsRec ·))) = true := by kernel_rfl
theorem editRight_q14 : ((Rows.editRightRow.ifaces == (Tryz.f6.params.toList ++ (OpenSpec.ofChange Rows.editRightSpec).bare.plain.varTypes Tryz.pinned.checked.prog).any (Tryz.pinned.checked.prog.ifacesRec ·))) = true := by kernel_rfl
theorem editRight_q15 : ((Rows.editRightRow.mapsOut == Tryz.pinned.checked.prog.mapsAmong Tryz.f6.resultTypes.toList)) = true := by kernel_rfl
theorem editRight_q16 : ((Rows.editRightRow.loops == (Tryz.f6.params.toList ++ (OpenSpec.ofChange Rows.editRightSpec).bare.plain.varTypes Tryz.pinned.checked.prog).any (Tryz.pinned.checked.prog.loopsFrom ·))) = true := by kernel_rfl
theorem editRight_q17 : ((Rows.editRightRow.wideKeys == (Tryz.f6.params.toList ++ (OpenSpec.ofChange Rows.editRightSpec).bare.plain.varTypes Tryz.pinned.checked.prog ++ Tryz.f6.resultTypes.toList).any (Tryz.pinned.checked.prog.wideKeysFrom ·))) = true := by kernel_rfl
theorem editRight_q18 : ((OpenSpec.ofChange Rows.editRightSpec).bare.vars.all (Tryz.pinned.checked.prog.varReadable ·)) = true := by kernel_rfl
theorem editRight_q19 : (Tryz.f6.resultTypes.all (fun t => Tryz.pinned.checked.prog.readableRec t && decide (t < Tryz.pinned.checked.prog.types.size))) = true := by kernel_rfl
theorem editRight_q20 : ((Rows.editRightRow.ifacesOut == Tryz.f6.resultTypes.toList.any (Tryz.pinned.checked.prog.ifacesRec ·))) = true := by kernel_rfl
theorem editRight_q21 : ((Rows.editRightRow.loopsOut == Tryz.f6.resultTypes.toList.any (Tryz.pinned.checked.prog.loopsFrom ·))) = true := by kernel_rfl
theorem editRight_q22 : ((Rows.editRightRow.plainKeys == Tryz.pinned.checked.prog.plainKeys)) = true := by kernel_rfl
theorem editRight_q23 : (Rows.editRightRow.shortTexts.isNone) = true := by kernel_rfl
theorem editRight_q24 : (Tryz.pinned.checked.prog.stopsHeard) = true := by kernel_rfl
theorem editRight_q25 : (Tryz.pinned.checked.prog.mayEnter) = true := by kernel_rfl
theorem editRight_q26 : ((Rows.editRightRow.lifted == Tryz.pinned.checked.prog.liftsFinal)) = true := by kernel_rfl
theorem editRight_q27 : ((Tryz.pinned.checked.prog.make == some Rows.editRightRow.make)) = true := by kernel_rfl
theorem editRight_q28 : ((Rows.editRightRow.kinds == (if Rows.editRightRow.domain.isEmpty then [] else Tryz.f6.params.toList.map fun t => match Tryz.pinned.checked.prog.underlying t with | some (.int k) => some k | _ => none))) = true := by kernel_rfl
theorem editRight_q29 : ((Rows.editRightRow.pinned == Rows.editRightRow.pinnedBy)) = true := by kernel_rfl
theorem editRight_q30 : ((Rows.editRightRow.veiled == (Tryz.f6.params.toList ++ (OpenSpec.ofChange Rows.editRightSpec).bare.plain.varTypes Tryz.pinned.checked.prog ++ Tryz.f6.resultTypes.toList).any (Tryz.pinned.checked.prog.veiledRec ·))) = true := by kernel_rfl
theorem editRight_q31 : (Rows.editRightRow.veiledFits Tryz.pinned.checked.prog Tryz.f6.params.toList (Tryz.f6.params.toList ++ (OpenSpec.ofChange Rows.editRightSpec).bare.plain.varTypes Tryz.pinned.checked.prog ++ Tryz.f6.resultTypes.toList)) = true := by kernel_rfl
theorem editRight_qj : joinedFacts Tryz.pinned.checked.prog 6 Tryz.f6 (OpenSpec.ofChange Rows.editRightSpec).bare Rows.editRightRow = true := Zx editRight_q0 editRight_q1 editRight_q2 editRight_q3 editRight_q4 editRight_q5 editRight_q6 editRight_q7 editRight_q8 editRight_q9 editRight_q10 editRight_q11 editRight_q12 editRight_q13 editRight_q14 editRight_q15 editRight_q16 editRight_q17 editRight_q18 editRight_q19 editRight_q20 editRight_q21 editRight_q22 editRight_q23 editRight_q24 editRight_q25 editRight_q26 editRight_q27 editRight_q28 editRight_q29 editRight_q30 editRight_q31
theorem editRight_qn : Tryz.pinned.checked.prog.funcNamed Rows.editRightRow.func = some 6 := by kernel_rfl
theorem editRight_qd : Tryz.f6.isInstance Tryz.pinned.checked.prog Rows.editRightRow.origin Rows.editRightRow.targs := of_decide_eq_true (by kernel_rfl)
theorem editRight_qw : Tryz.f6.isWrapper Tryz.pinned.checked.prog Rows.editRightRow.wrapper Rows.editRightRow.mainSum := by unfold Func.isWrapper; first | (rw [if_pos (by decide +kernel)]; kernel_rfl) | (rw [if_neg (by decide +kernel)]; exact ⟨rfl, rfl⟩)
theorem editRight_q40 : Rows.editRightRow.wfByText (OpenSpec.ofChange Rows.editRightSpec) = true := by kernel_rfl
theorem editRight_q41 : Tryz.pinned.checked.prog.mainIs = some ((true, "98c2b7de904b7d4d9dcadfa6121005a955486571e5a77a28b6f24d210b194177").1, ((true, "98c2b7de904b7d4d9dcadfa6121005a955486571e5a77a28b6f24d210b194177") : Bool × String).2.toList) := by kernel_rfl
theorem editRight_q42 : true = Tryz.pinned.checked.prog.looks [] := by kernel_rfl
theorem editRight_q43 : (Tryz.f6.params.toList.all fun t => !Tryz.prog.wantsStandIn t) = true := by kernel_rfl
theorem editRight_q44 : false = Rows.editRightRow.goesBy Tryz.pinned.checked.prog := by kernel_rfl

theorem editRight_over : Rows.editRightRow.holds Tryz.pinned (OpenSpec.ofChange Rows.editRightSpec) :=
  OpenClaim.holds_of_cond 6 Tryz.f6 rfl rfl rfl rfl rfl rfl rfl ⟨rfl, rfl, rfl, rfl, rfl⟩ rfl rfl rfl rfl rfl editRight_qn Tryz.func6 editRight_qj
    editRight_qd editRight_qw
    (fun os started H enc _ F0 => by rw [OpenClaim.pre_eq_preRow]; exact editRight_lifted os started H enc)

theorem editRight_holds : Rows.EditRightCardSaid :=
  Claim7.holds_tied_plain_at .later [] [.data, .pinned] true (true, "98c2b7de904b7d4d9dcadfa6121005a955486571e5a77a28b6f24d210b194177") true
    editRight_over (fun _ h => by cases h) editRight_q40 (fun _ h => by cases h) editRight_row_tie rfl ⟨rfl, rfl⟩ editRight_q41 rfl
    (fun f fn hf hfn => by
      obtain rfl : f = 6 := Option.some.inj (editRight_qn.symm.trans hf) |>.symm
      obtain rfl : fn = Tryz.f6 := (Option.some.inj (Tryz.func6.symm.trans hfn)).symm
      refine ⟨editRight_q42, fun j t ht => ?_⟩
      have g := List.all_eq_true.1 editRight_q43 t (List.mem_of_getElem? (by simpa using ht))
      exact (by simpa using g : Tryz.prog.wantsStandIn t = false))
    editRight_q44
#print axioms editRight_holds

end Go.Proofs.YthmobaehdbiljaaGreatDoor
