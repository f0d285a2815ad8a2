import Derived.Test.YthmobaehdbiljaaGreatDoorLp6
import Derived.Test.YthmobaehdbiljaaGreatDoorRows
import Derived.Test.YthmobaehdbiljaaGreatDoorCards
import Derived.Test.YthmobaehdbiljaaGreatDoorTie
import Derived.SevenTiedAt

set_option linter.all false
set_option maxHeartbeats 8000000
set_option maxRecDepth 100000

/-
  The statement EditTells, a tied card: whatever its arguments the law returns true and leaves them as they are. No condition.
-/
namespace Go.Proofs.YthmobaehdbiljaaGreatDoor
open Go Lp Go.Shelf Go.RowKit


theorem editTells_row (os : Os) {H : Type} (enc : TypeId × Value → H) :
    (OpenSpec.ofChange Rows.editTellsSpec).preRow enc Tryz.prog Tryz.f3 Rows.editTellsRow.domain false Rows.editTellsRow.laid ((V9 os).forCall (fun _ _ => 0) ⟨#[], #[.slice none 0 0, .slice none 0 0], []⟩).memory #[.slice none 0 0, .slice none 0 0] := by
  have hw : (DataW.whole enc Tryz.prog ((V9 os).forCall (fun _ _ => 0) ⟨#[], #[.slice none 0 0, .slice none 0 0], []⟩).memory Tryz.f3.params.toList (OpenSpec.ofChange Rows.editTellsSpec).vars false (#[.slice none 0 0, .slice none 0 0] : Array Value).toList 8).map (fun x => (x.1, x.2.1)) =
      some ([.nil, .nil], []) := by kernel_rfl
  obtain ⟨⟨x1, x2, x3⟩, hx, hx1⟩ := Option.map_eq_some_iff.1 hw
  simp only [Prod.mk.injEq] at hx1
  obtain ⟨rfl, rfl⟩ := hx1
  exact OpenSpec.preRow_of_cond 8 hx (by kernel_rfl) (fun k hk => by cases hk) (by kernel_rfl) (ad9 os _)

theorem editTells_lifted (os : Os) (started : os.Started) (H : Type) (enc : TypeId × Value → H) :
    ReturnsInHanded {} Tryz.checked os 3 .any ((OpenSpec.ofChange Rows.editTellsSpec).preRow enc Tryz.prog Tryz.f3 Rows.editTellsRow.domain false Rows.editTellsRow.laid) (Rows.editTellsSpec.post enc Tryz.prog Tryz.f3 false true false false) := by
  refine aa_ (C := Tryz.checked) (tb := 4) (by kernel_rfl) started (by kernel_rfl) Tryz.func3
    (witness_row_atRef (enc := enc) (C := Tryz.checked) false (V9 os) #[.slice none 0 0, .slice none 0 0] rfl (by kernel_rfl) (by kernel_rfl) (by kernel_rfl) (editTells_row os enc))
    (by kernel_rfl) (fun t ht => ?_) (by kernel_rfl) (by kernel_rfl) ab7 rfl rfl (fun ds hd => ?_) (fun W base args ds ps hval hA hw => ?_) (fun W h => acE h)
  · have h : (Tryz.f3.params.toList.all fun t => Tryz.prog.readableRec t && decide (t < Tryz.prog.types.size)) = true := by kernel_rfl
    have g := List.all_eq_true.1 h t ht
    rw [Bool.and_eq_true] at g
    exact ⟨g.1, of_decide_eq_true g.2⟩
  · have h : Tryz.f3.params.toList.length = 2 := by kernel_rfl
    rw [h] at hd
    match ds, hd with
    | [d0, d1], _ => rfl
  · have h : Tryz.f3.params = #[23, 23] := by kernel_rfl
    rw [h] at hval hA hw
    obtain ⟨v0, vs0, d0, ds0, p0, q0, rfl, rfl, rfl, h0, r0⟩ := Go.ChangeShapes.trodAll_cons hA
    obtain ⟨v1, vs1, d1, ds1, p1, q1, rfl, rfl, rfl, h1, r1⟩ := Go.ChangeShapes.trodAll_cons r0
    obtain ⟨rfl, rfl, rfl⟩ := Go.ChangeShapes.trodAll_nil r1
    obtain ⟨a0, g0, w0⟩ := aeB adz rd_val (fun _ => rfl) (hval 0 23 v0 rfl rfl) h0 (fun n hn => hw n (vO _ _ 0 23 d0 rfl rfl hn))
    obtain ⟨a1, g1, w1⟩ := aeB adz rd_val (fun _ => rfl) (hval 1 23 v1 rfl rfl) h1 (fun n hn => hw n (vO _ _ 1 23 d1 rfl rfl hn))
    exact ⟨[aj a0, aj a1], acD w0 (acD w1 adB), YN a0 a1 g0 g1⟩

theorem editTells_q0 : (Rows.editTellsRow.wf (OpenSpec.ofChange (OpenSpec.ofChange Rows.editTellsSpec).bare)) = true := by kernel_rfl
theorem editTells_q1 : (laidOutB Tryz.pinned.checked.prog) = true := by kernel_rfl
theorem editTells_q2 : (mapsRowed Tryz.pinned.checked.prog) = true := by kernel_rfl
theorem editTells_q3 : (Tryz.f3.params.all (Tryz.pinned.checked.prog.readableRec ·)) = true := by kernel_rfl
theorem editTells_q4 : (namedTie Tryz.pinned.checked.prog Rows.editTellsRow.named (OpenSpec.ofChange Rows.editTellsSpec).bare.vars) = true := by kernel_rfl
theorem editTells_q5 : ((Rows.editTellsRow.stops == [])) = true := by kernel_rfl
theorem editTells_q6 : ((Tryz.pinned.checked.prog.stops == [])) = true := by kernel_rfl
theorem editTells_q7 : ((Rows.editTellsRow.knobs == [])) = true := by kernel_rfl
theorem editTells_q8 : ((Tryz.pinned.checked.prog.stopKnobs == [])) = true := by kernel_rfl
theorem editTells_q9 : ((Rows.editTellsRow.inPlace == Tryz.pinned.checked.prog.inPlace 3)) = true := by kernel_rfl
theorem editTells_q10 : ((Rows.editTellsRow.unfollowed == Tryz.pinned.checked.prog.unfollowed 3)) = true := by kernel_rfl
theorem editTells_q11 : ((Rows.editTellsRow.recurses == Tryz.pinned.checked.prog.recurses 3)) = true := by kernel_rfl
theorem editTells_q12 : ((Rows.editTellsRow.named == Tryz.pinned.checked.prog.varsNamed 3)) = true := by kernel_rfl
theorem editTells_q13 : ((Rows.editTellsRow.maps == (Tryz.f3.params.toList ++ (OpenSpec.ofChange Rows.editTellsSpec).bare.plain.varTypes Tryz.pinned.checked.prog).any (Tryz.pinned.checked.prog.mapsRec ·))) = true := by kernel_rfl
theorem editTells_q14 : ((Rows.editTellsRow.ifaces == (Tryz.f3.params.toList ++ (OpenSpec.ofChange Rows.editTellsSpec).bare.plain.varTypes Tryz.pinned.checked.prog).any (Tryz.pinned.checked.prog.ifacesRec ·))) = true := by kernel_rfl
theorem editTells_q15 : ((Rows.editTellsRow.mapsOut == Tryz.pinned.checked.prog.mapsAmong Tryz.f3.resultTypes.toList)) = true := by kernel_rfl
theorem editTells_q16 : ((Rows.editTellsRow.loops == (Tryz.f3.params.toList ++ (OpenSpec.ofChange Rows.editTellsSpec).bare.plain.varTypes Tryz.pinned.checked.prog).any (Tryz.pinned.checked.prog.loopsFrom ·))) = true := by kernel_rfl
theorem editTells_q17 : ((Rows.editTellsRow.wideKeys == (Tryz.f3.params.toList ++ (OpenSpec.ofChange Rows.editTellsSpec).bare.plain.varTypes Tryz.pinned.checked.prog ++ Tryz.f3.resultTypes.toList).any (Tryz.pinned.checked.prog.wideKeysFrom ·))) = true := by kernel_rfl
theorem editTells_q18 : ((OpenSpec.ofChange Rows.editTellsSpec).bare.vars.all (Tryz.pinned.checked.prog.varReadable ·)) = true := by kernel_rfl
theorem editTells_q19 : (Tryz.f3.resultTypes.all (fun t => Tryz.pinned.checked.prog.readableRec t && decide (t < Tryz.pinned.checked.prog.types.size))) = true := by kernel_rfl
theorem editTells_q20 : ((Rows.editTellsRow.ifacesOut == Tryz.f3.resultTypes.toList.any (Tryz.pinned.checked.prog.ifacesRec ·))) = true := by kernel_rfl
theorem editTells_q21 : ((Rows.editTellsRow.loopsOut == Tryz.f3.resultTypes.toList.any (Tryz.pinned.checked.prog.loopsFrom ·))) = true := by kernel_rfl
theorem editTells_q22 : ((Rows.editTellsRow.plainKeys == Tryz.pinned.checked.prog.plainKeys)) = true := by kernel_rfl
theorem editTells_q23 : (Rows.editTellsRow.shortTexts.isNone) = true := by kernel_rfl
theorem editTells_q24 : (Tryz.pinned.checked.prog.stopsHeard) = true := by kernel_rfl
theorem editTells_q25 : (Tryz.pinned.checked.prog.mayEnter) = true := by kernel_rfl
theorem editTells_q26 : ((Rows.editTellsRow.lifted == Tryz.pinned.checked.prog.liftsFinal)) = true := by kernel_rfl
theorem editTells_q27 : ((Tryz.pinned.checked.prog.make == some Rows.editTellsRow.make)) = true := by kernel_rfl
theorem editTells_q28 : ((Rows.editTellsRow.kinds == (if Rows.editTellsRow.domain.isEmpty then [] else Tryz.f3.params.toList.map fun t => match Tryz.pinned.checked.prog.underlying t with | some (.int k) => some k | _ => none))) = true := by kernel_rfl
theorem editTells_q29 : ((Rows.editTellsRow.pinned == Rows.editTellsRow.pinnedBy)) = true := by kernel_rfl
theorem editTells_q30 : ((Rows.editTellsRow.veiled == (Tryz.f3.params.toList ++ (OpenSpec.ofChange Rows.editTellsSpec).bare.plain.varTypes Tryz.pinned.checked.prog ++ Tryz.f3.resultTypes.toList).any (Tryz.pinned.checked.prog.veiledRec ·))) = true := by kernel_rfl
theorem editTells_q31 : (Rows.editTellsRow.veiledFits Tryz.pinned.checked.prog Tryz.f3.params.toList (Tryz.f3.params.toList ++ (OpenSpec.ofChange Rows.editTellsSpec).bare.plain.varTypes Tryz.pinned.checked.prog ++ Tryz.f3.resultTypes.toList)) = true := by kernel_rfl
theorem editTells_qj : joinedFacts Tryz.pinned.checked.prog 3 Tryz.f3 (OpenSpec.ofChange Rows.editTellsSpec).bare Rows.editTellsRow = true := acF editTells_q0 editTells_q1 editTells_q2 editTells_q3 editTells_q4 editTells_q5 editTells_q6 editTells_q7 editTells_q8 editTells_q9 editTells_q10 editTells_q11 editTells_q12 editTells_q13 editTells_q14 editTells_q15 editTells_q16 editTells_q17 editTells_q18 editTells_q19 editTells_q20 editTells_q21 editTells_q22 editTells_q23 editTells_q24 editTells_q25 editTells_q26 editTells_q27 editTells_q28 editTells_q29 editTells_q30 editTells_q31
theorem editTells_qn : Tryz.pinned.checked.prog.funcNamed Rows.editTellsRow.func = some 3 := by kernel_rfl
theorem editTells_qd : Tryz.f3.isInstance Tryz.pinned.checked.prog Rows.editTellsRow.origin Rows.editTellsRow.targs := of_decide_eq_true (by kernel_rfl)
theorem editTells_qw : Tryz.f3.isWrapper Tryz.pinned.checked.prog Rows.editTellsRow.wrapper Rows.editTellsRow.mainSum := by unfold Func.isWrapper; first | (rw [if_pos (by decide +kernel)]; kernel_rfl) | (rw [if_neg (by decide +kernel)]; exact ⟨rfl, rfl⟩)
theorem editTells_q40 : Rows.editTellsRow.wfByText (OpenSpec.ofChange Rows.editTellsSpec) = true := by kernel_rfl
theorem editTells_q41 : Tryz.pinned.checked.prog.mainIs = some ((true, "98c2b7de904b7d4d9dcadfa6121005a955486571e5a77a28b6f24d210b194177").1, ((true, "98c2b7de904b7d4d9dcadfa6121005a955486571e5a77a28b6f24d210b194177") : Bool × String).2.toList) := by kernel_rfl
theorem editTells_q42 : true = Tryz.pinned.checked.prog.looks [] := by kernel_rfl
theorem editTells_q43 : (Tryz.f3.params.toList.all fun t => !Tryz.prog.wantsStandIn t) = true := by kernel_rfl
theorem editTells_q44 : false = Rows.editTellsRow.goesBy Tryz.pinned.checked.prog := by kernel_rfl

theorem editTells_over : Rows.editTellsRow.holds Tryz.pinned (OpenSpec.ofChange Rows.editTellsSpec) :=
  OpenClaim.holds_of_cond 3 Tryz.f3 rfl rfl rfl rfl rfl rfl rfl ⟨rfl, rfl, rfl, rfl, rfl⟩ rfl rfl rfl rfl rfl editTells_qn Tryz.func3 editTells_qj
    editTells_qd editTells_qw
    (fun os started H enc _ F0 => by rw [OpenClaim.pre_eq_preRow]; exact editTells_lifted os started H enc)

theorem editTells_holds : Rows.EditTellsCardSaid :=
  Claim7.holds_tied_plain_at .later [] [.data, .pinned] true (true, "98c2b7de904b7d4d9dcadfa6121005a955486571e5a77a28b6f24d210b194177") true
    editTells_over (fun _ h => by cases h) editTells_q40 (fun _ h => by cases h) editTells_row_tie rfl ⟨rfl, rfl⟩ editTells_q41 rfl
    (fun f fn hf hfn => by
      obtain rfl : f = 3 := Option.some.inj (editTells_qn.symm.trans hf) |>.symm
      obtain rfl : fn = Tryz.f3 := (Option.some.inj (Tryz.func3.symm.trans hfn)).symm
      refine ⟨editTells_q42, fun j t ht => ?_⟩
      have g := List.all_eq_true.1 editTells_q43 t (List.mem_of_getElem? (by simpa using ht))
      exact (by simpa using g : Tryz.prog.wantsStandIn t = false))
    editTells_q44
#print axioms editTells_holds

end Go.Proofs.YthmobaehdbiljaaGreatDoor
