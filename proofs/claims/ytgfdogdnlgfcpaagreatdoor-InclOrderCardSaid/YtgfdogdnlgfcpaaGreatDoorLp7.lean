import Derived.Test.YtgfdogdnlgfcpaaGreatDoorLp6
import Derived.Test.YtgfdogdnlgfcpaaGreatDoorRows
import Derived.Test.YtgfdogdnlgfcpaaGreatDoorCards
import Derived.Test.YtgfdogdnlgfcpaaGreatDoorTie
import Derived.SevenTiedAt

set_option linter.all false
set_option maxHeartbeats 8000000
set_option maxRecDepth 100000

/-
  The statement InclOrder, a tied card: whatever its arguments the law returns true and leaves them as they are. No condition.
-/
namespace Go.Proofs.YtgfdogdnlgfcpaaGreatDoor
open Go Lp Go.Shelf Go.RowKit


theorem inclOrder_row (os : Os) {H : Type} (enc : TypeId × Value → H) :
    (OpenSpec.ofChange Rows.inclOrderSpec).preRow enc Tryz.prog Tryz.f5 Rows.inclOrderRow.domain false Rows.inclOrderRow.laid ((W9 os).forCall (fun _ _ => 0) ⟨#[], #[.slice none 0 0, .slice none 0 0], []⟩).memory #[.slice none 0 0, .slice none 0 0] := by
  have hw : (DataW.whole enc Tryz.prog ((W9 os).forCall (fun _ _ => 0) ⟨#[], #[.slice none 0 0, .slice none 0 0], []⟩).memory Tryz.f5.params.toList (OpenSpec.ofChange Rows.inclOrderSpec).vars false (#[.slice none 0 0, .slice none 0 0] : Array Value).toList 8).map (fun x => (x.1, x.2.1)) =
      some ([.nil, .nil], []) := by kernel_rfl
  obtain ⟨⟨x1, x2, x3⟩, hx, hx1⟩ := Option.map_eq_some_iff.1 hw
  simp only [Prod.mk.injEq] at hx1
  obtain ⟨rfl, rfl⟩ := hx1
  exact OpenSpec.preRow_of_cond 8 hx (by kernel_rfl) (fun k hk => by cases hk) (by kernel_rfl) (aeo os _)

theorem inclOrder_lifted (os : Os) (started : os.Started) (H : Type) (enc : TypeId × Value → H) :
    ReturnsInHanded {} Tryz.checked os 5 .any ((OpenSpec.ofChange Rows.inclOrderSpec).preRow enc Tryz.prog Tryz.f5 Rows.inclOrderRow.domain false Rows.inclOrderRow.laid) (Rows.inclOrderSpec.post enc Tryz.prog Tryz.f5 false true false false) := by
  refine abK (C := Tryz.checked) (tb := 4) (by kernel_rfl) started (by kernel_rfl) Tryz.func5
    (witness_row_atRef (enc := enc) (C := Tryz.checked) false (W9 os) #[.slice none 0 0, .slice none 0 0] rfl (by kernel_rfl) (by kernel_rfl) (by kernel_rfl) (inclOrder_row os enc))
    (by kernel_rfl) (fun t ht => ?_) (by kernel_rfl) (by kernel_rfl) acZ rfl rfl (fun ds hd => ?_) (fun W base args ds ps hval hA hw => ?_) (fun W h => adq h)
  · have h : (Tryz.f5.params.toList.all fun t => Tryz.prog.readableRec t && decide (t < Tryz.prog.types.size)) = true := by kernel_rfl
    have g := List.all_eq_true.1 h t ht
    rw [Bool.and_eq_true] at g
    exact ⟨g.1, of_decide_eq_true g.2⟩
  · have h : Tryz.f5.params.toList.length = 2 := by kernel_rfl
    rw [h] at hd
    match ds, hd with
    | [d0, d1], _ => rfl
  · have h : Tryz.f5.params = #[23, 23] := by kernel_rfl
    rw [h] at hval hA hw
    obtain ⟨v0, vs0, d0, ds0, p0, q0, rfl, rfl, rfl, h0, r0⟩ := Go.ChangeShapes.trodAll_cons hA
    obtain ⟨v1, vs1, d1, ds1, p1, q1, rfl, rfl, rfl, h1, r1⟩ := Go.ChangeShapes.trodAll_cons r0
    obtain ⟨rfl, rfl, rfl⟩ := Go.ChangeShapes.trodAll_nil r1
    obtain ⟨a0, g0, w0⟩ := aff ac2 aeH (fun _ => rfl) (hval 0 23 v0 rfl rfl) h0 (fun n hn => hw n (vH _ _ 0 23 d0 rfl rfl hn))
    obtain ⟨a1, g1, w1⟩ := aff ac2 aeH (fun _ => rfl) (hval 1 23 v1 rfl rfl) h1 (fun n hn => hw n (vH _ _ 1 23 d1 rfl rfl hn))
    exact ⟨[ay a0, ay a1], jq w0 (jq w1 Zx), Z0 a0 a1 g0 g1⟩

theorem inclOrder_q0 : (Rows.inclOrderRow.wf (OpenSpec.ofChange (OpenSpec.ofChange Rows.inclOrderSpec).bare)) = true := by kernel_rfl
theorem inclOrder_q1 : (laidOutB Tryz.pinned.checked.prog) = true := by kernel_rfl
theorem inclOrder_q2 : (mapsRowed Tryz.pinned.checked.prog) = true := by kernel_rfl
theorem inclOrder_q3 : (Tryz.f5.params.all (Tryz.pinned.checked.prog.readableRec ·)) = true := by kernel_rfl
theorem inclOrder_q4 : (namedTie Tryz.pinned.checked.prog Rows.inclOrderRow.named (OpenSpec.ofChange Rows.inclOrderSpec).bare.vars) = true := by kernel_rfl
theorem inclOrder_q5 : ((Rows.inclOrderRow.stops == [])) = true := by kernel_rfl
theorem inclOrder_q6 : ((Tryz.pinned.checked.prog.stops == [])) = true := by kernel_rfl
theorem inclOrder_q7 : ((Rows.inclOrderRow.knobs == [])) = true := by kernel_rfl
theorem inclOrder_q8 : ((Tryz.pinned.checked.prog.stopKnobs == [])) = true := by kernel_rfl
theorem inclOrder_q9 : ((Rows.inclOrderRow.inPlace == Tryz.pinned.checked.prog.inPlace 5)) = true := by kernel_rfl
theorem inclOrder_q10 : ((Rows.inclOrderRow.unfollowed == Tryz.pinned.checked.prog.unfollowed 5)) = true := by kernel_rfl
theorem inclOrder_q11 : ((Rows.inclOrderRow.recurses == Tryz.pinned.checked.prog.recurses 5)) = true := by kernel_rfl
theorem inclOrder_q12 : ((Rows.inclOrderRow.named == Tryz.pinned.checked.prog.varsNamed 5)) = true := by kernel_rfl
theorem inclOrder_q13 : ((Rows.inclOrderRow.maps == (Tryz.f5.params.toList ++ (OpenSpec.ofChange Rows.inclOrderSpec).bare.plain.varTypes Tryz.pinned.checked.prog).any (Tryz.pinned.checked.prog.mapsRec ·))) = true := by kernel_rfl
theorem inclOrder_q14 : ((Rows.inclOrderRow.ifaces == (Tryz.f5.params.toList ++ (OpenSpec.ofChange Rows.inclOrderSpec).bare.plain.varTypes Tryz.pinned.checked.prog).any (Tryz.pinned.checked.prog.ifacesRec ·))) = true := by kernel_rfl
theorem inclOrder_q15 : ((Rows.inclOrderRow.mapsOut == Tryz.pinned.checked.prog.mapsAmong Tryz.f5.resultTypes.toList)) = true := by kernel_rfl
theorem inclOrder_q16 : ((Rows.inclOrderRow.loops == (Tryz.f5.params.toList ++ (OpenSpec.ofChange Rows.inclOrderSpec).bare.plain.varTypes Tryz.pinned.checked.prog).any (Tryz.pinned.checked.prog.loopsFrom ·))) = true := by kernel_rfl
theorem inclOrder_q17 : ((Rows.inclOrderRow.wideKeys == (Tryz.f5.params.toList ++ (OpenSpec.ofChange Rows.inclOrderSpec).bare.plain.varTypes Tryz.pinned.checked.prog ++ Tryz.f5.resultTypes.toList).any (Tryz.pinned.checked.prog.wideKeysFrom ·))) = true := by kernel_rfl
theorem inclOrder_q18 : ((OpenSpec.ofChange Rows.inclOrderSpec).bare.vars.all (Tryz.pinned.checked.prog.varReadable ·)) = true := by kernel_rfl
theorem inclOrder_q19 : (Tryz.f5.resultTypes.all (fun t => Tryz.pinned.checked.prog.readableRec t && decide (t < Tryz.pinned.checked.prog.types.size))) = true := by kernel_rfl
theorem inclOrder_q20 : ((Rows.inclOrderRow.ifacesOut == Tryz.f5.resultTypes.toList.any (Tryz.pinned.checked.prog.ifacesRec ·))) = true := by kernel_rfl
theorem inclOrder_q21 : ((Rows.inclOrderRow.loopsOut == Tryz.f5.resultTypes.toList.any (Tryz.pinned.checked.prog.loopsFrom ·))) = true := by kernel_rfl
theorem inclOrder_q22 : ((Rows.inclOrderRow.plainKeys == Tryz.pinned.checked.prog.plainKeys)) = true := by kernel_rfl
theorem inclOrder_q23 : (Rows.inclOrderRow.shortTexts.isNone) = true := by kernel_rfl
theorem inclOrder_q24 : (Tryz.pinned.checked.prog.stopsHeard) = true := by kernel_rfl
theorem inclOrder_q25 : (Tryz.pinned.checked.prog.mayEnter) = true := by kernel_rfl
theorem inclOrder_q26 : ((Rows.inclOrderRow.lifted == Tryz.pinned.checked.prog.liftsFinal)) = true := by kernel_rfl
theorem inclOrder_q27 : ((Tryz.pinned.checked.prog.make == some Rows.inclOrderRow.make)) = true := by kernel_rfl
theorem inclOrder_q28 : ((Rows.inclOrderRow.kinds == (if Rows.inclOrderRow.domain.isEmpty then [] else Tryz.f5.params.toList.map fun t => match Tryz.pinned.checked.prog.underlying t with | some (.int k) => some k | _ => none))) = true := by kernel_rfl
theorem inclOrder_q29 : ((Rows.inclOrderRow.pinned == Rows.inclOrderRow.pinnedBy)) = true := by kernel_rfl
theorem inclOrder_q30 : ((Rows.inclOrderRow.veiled == (Tryz.f5.params.toList ++ (OpenSpec.ofChange Rows.inclOrderSpec).bare.plain.varTypes Tryz.pinned.checked.prog ++ Tryz.f5.resultTypes.toList).any (Tryz.pinned.checked.prog.veiledRec ·))) = true := by kernel_rfl
theorem inclOrder_q31 : (Rows.inclOrderRow.veiledFits Tryz.pinned.checked.prog Tryz.f5.params.toList (Tryz.f5.params.toList ++ (OpenSpec.ofChange Rows.inclOrderSpec).bare.plain.varTypes Tryz.pinned.checked.prog ++ Tryz.f5.resultTypes.toList)) = true := by kernel_rfl
theorem inclOrder_qj : joinedFacts Tryz.pinned.checked.prog 5 Tryz.f5 (OpenSpec.ofChange Rows.inclOrderSpec).bare Rows.inclOrderRow = true := adr inclOrder_q0 inclOrder_q1 inclOrder_q2 inclOrder_q3 inclOrder_q4 inclOrder_q5 inclOrder_q6 inclOrder_q7 inclOrder_q8 inclOrder_q9 inclOrder_q10 inclOrder_q11 inclOrder_q12 inclOrder_q13 inclOrder_q14 inclOrder_q15 inclOrder_q16 inclOrder_q17 inclOrder_q18 inclOrder_q19 inclOrder_q20 inclOrder_q21 inclOrder_q22 inclOrder_q23 inclOrder_q24 inclOrder_q25 inclOrder_q26 inclOrder_q27 inclOrder_q28 inclOrder_q29 inclOrder_q30 inclOrder_q31
theorem inclOrder_qn : Tryz.pinned.checked.prog.funcNamed Rows.inclOrderRow.func = some 5 := by kernel_rfl
theorem inclOrder_qd : Tryz.f5.isInstance Tryz.pinned.checked.prog Rows.inclOrderRow.origin Rows.inclOrderRow.targs := of_decide_eq_true (by kernel_rfl)
theorem inclOrder_qw : Tryz.f5.isWrapper Tryz.pinned.checked.prog Rows.inclOrderRow.wrapper Rows.inclOrderRow.mainSum := by unfold Func.isWrapper; first | (rw [if_pos (by decide +kernel)]; kernel_rfl) | (rw [if_neg (by decide +kernel)]; exact ⟨rfl, rfl⟩)
theorem inclOrder_q40 : Rows.inclOrderRow.wfByText (OpenSpec.ofChange Rows.inclOrderSpec) = true := by kernel_rfl
theorem inclOrder_q41 : Tryz.pinned.checked.prog.mainIs = some ((true, "8381f30e633e0d7317f6c5999a06f8589083a5cc0e7a2d17ab385dd6225734d1").1, ((true, "8381f30e633e0d7317f6c5999a06f8589083a5cc0e7a2d17ab385dd6225734d1") : Bool × String).2.toList) := by kernel_rfl
theorem inclOrder_q42 : false = Tryz.pinned.checked.prog.looks [] := by kernel_rfl
theorem inclOrder_q43 : (Tryz.f5.params.toList.all fun t => !Tryz.prog.wantsStandIn t) = true := by kernel_rfl
theorem inclOrder_q44 : false = Rows.inclOrderRow.goesBy Tryz.pinned.checked.prog := by kernel_rfl

theorem inclOrder_over : Rows.inclOrderRow.holds Tryz.pinned (OpenSpec.ofChange Rows.inclOrderSpec) :=
  OpenClaim.holds_of_cond 5 Tryz.f5 rfl rfl rfl rfl rfl rfl rfl ⟨rfl, rfl, rfl, rfl, rfl⟩ rfl rfl rfl rfl rfl inclOrder_qn Tryz.func5 inclOrder_qj
    inclOrder_qd inclOrder_qw
    (fun os started H enc _ F0 => by rw [OpenClaim.pre_eq_preRow]; exact inclOrder_lifted os started H enc)

theorem inclOrder_holds : Rows.InclOrderCardSaid :=
  Claim7.holds_tied_plain_at .later [] [.data, .pinned] true (true, "8381f30e633e0d7317f6c5999a06f8589083a5cc0e7a2d17ab385dd6225734d1") false
    inclOrder_over (fun _ h => by cases h) inclOrder_q40 (fun _ h => by cases h) inclOrder_row_tie rfl ⟨rfl, rfl⟩ inclOrder_q41 rfl
    (fun f fn hf hfn => by
      obtain rfl : f = 5 := Option.some.inj (inclOrder_qn.symm.trans hf) |>.symm
      obtain rfl : fn = Tryz.f5 := (Option.some.inj (Tryz.func5.symm.trans hfn)).symm
      refine ⟨inclOrder_q42, fun j t ht => ?_⟩
      have g := List.all_eq_true.1 inclOrder_q43 t (List.mem_of_getElem? (by simpa using ht))
      exact (by simpa using g : Tryz.prog.wantsStandIn t = false))
    inclOrder_q44
#print axioms inclOrder_holds

end Go.Proofs.YtgfdogdnlgfcpaaGreatDoor
