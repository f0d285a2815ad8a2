import Derived.Test.YtgfdogdnlgfcpaaGreatDoorLp6
import Derived.Test.YtgfdogdnlgfcpaaGreatDoorRows
import Derived.Test.YtgfdogdnlgfcpaaGreatDoorCards
import Derived.Test.YtgfdogdnlgfcpaaGreatDoorTie
import Derived.SevenTiedAt

set_option linter.all false
set_option maxHeartbeats 8000000
set_option maxRecDepth 100000

/-
  The statement InclWide, a tied card: whatever its arguments the law returns true and leaves them as they are. No condition.
-/
namespace Go.Proofs.YtgfdogdnlgfcpaaGreatDoor
open Go Lp Go.Shelf Go.RowKit


theorem inclWide_row (os : Os) {H : Type} (enc : TypeId × Value → H) :
    (OpenSpec.ofChange Rows.inclWideSpec).preRow enc Tryz.prog Tryz.f6 Rows.inclWideRow.domain false Rows.inclWideRow.laid ((Xi os).forCall (fun _ _ => 0) ⟨#[], #[.agg #[.int .i64 0, .int .i64 0], .slice none 0 0, .slice none 0 0], []⟩).memory #[.agg #[.int .i64 0, .int .i64 0], .slice none 0 0, .slice none 0 0] := by
  have hw : (DataW.whole enc Tryz.prog ((Xi os).forCall (fun _ _ => 0) ⟨#[], #[.agg #[.int .i64 0, .int .i64 0], .slice none 0 0, .slice none 0 0], []⟩).memory Tryz.f6.params.toList (OpenSpec.ofChange Rows.inclWideSpec).vars false (#[.agg #[.int .i64 0, .int .i64 0], .slice none 0 0, .slice none 0 0] : Array Value).toList 8).map (fun x => (x.1, x.2.1)) =
      some ([.agg [.lit (.int .i64 0), .lit (.int .i64 0)], .nil, .nil], []) := by kernel_rfl
  obtain ⟨⟨x1, x2, x3⟩, hx, hx1⟩ := Option.map_eq_some_iff.1 hw
  simp only [Prod.mk.injEq] at hx1
  obtain ⟨rfl, rfl⟩ := hx1
  exact OpenSpec.preRow_of_cond 8 hx (by kernel_rfl) (fun k hk => by cases hk) (by kernel_rfl) (aeC os _)

theorem inclWide_lifted (os : Os) (started : os.Started) (H : Type) (enc : TypeId × Value → H) :
    ReturnsInHanded {} Tryz.checked os 6 .any ((OpenSpec.ofChange Rows.inclWideSpec).preRow enc Tryz.prog Tryz.f6 Rows.inclWideRow.domain false Rows.inclWideRow.laid) (Rows.inclWideSpec.post enc Tryz.prog Tryz.f6 false true false false) := by
  refine abU (C := Tryz.checked) (tb := 4) (by kernel_rfl) started (by kernel_rfl) Tryz.func6
    (witness_row_atRef (enc := enc) (C := Tryz.checked) false (Xi os) #[.agg #[.int .i64 0, .int .i64 0], .slice none 0 0, .slice none 0 0] rfl (by kernel_rfl) (by kernel_rfl) (by kernel_rfl) (inclWide_row os enc))
    (by kernel_rfl) (fun t ht => ?_) (by kernel_rfl) (by kernel_rfl) ac_ rfl rfl (fun ds hd => ?_) (fun W base args ds ps hval hA hw => ?_) (fun W h => adC h)
  · have h : (Tryz.f6.params.toList.all fun t => Tryz.prog.readableRec t && decide (t < Tryz.prog.types.size)) = true := by kernel_rfl
    have g := List.all_eq_true.1 h t ht
    rw [Bool.and_eq_true] at g
    exact ⟨g.1, of_decide_eq_true g.2⟩
  · have h : Tryz.f6.params.toList.length = 3 := by kernel_rfl
    rw [h] at hd
    match ds, hd with
    | [d0, d1, d2], _ => rfl
  · have h : Tryz.f6.params = #[55, 56, 23] := by kernel_rfl
    rw [h] at hval hA hw
    obtain ⟨v0, vs0, d0, ds0, p0, q0, rfl, rfl, rfl, h0, r0⟩ := Go.ChangeShapes.trodAll_cons hA
    obtain ⟨v1, vs1, d1, ds1, p1, q1, rfl, rfl, rfl, h1, r1⟩ := Go.ChangeShapes.trodAll_cons r0
    obtain ⟨v2, vs2, d2, ds2, p2, q2, rfl, rfl, rfl, h2, r2⟩ := Go.ChangeShapes.trodAll_cons r1
    obtain ⟨rfl, rfl, rfl⟩ := Go.ChangeShapes.trodAll_nil r2
    obtain ⟨a0, g0, w0⟩ := afL (hval 0 55 v0 rfl rfl) h0 (fun n hn => hw n (vQ _ _ 0 55 d0 rfl rfl hn))
    obtain ⟨a1, g1, w1⟩ := afs abb aeD (fun _ => rfl) (hval 1 56 v1 rfl rfl) h1 (fun n hn => hw n (vQ _ _ 1 56 d1 rfl rfl hn))
    obtain ⟨a2, g2, w2⟩ := afs adf aeU (fun _ => rfl) (hval 2 23 v2 rfl rfl) h2 (fun n hn => hw n (vQ _ _ 2 23 d2 rfl rfl hn))
    exact ⟨[U6 a0, bf a1, aA a2], dX w0 (dX w1 (dX w2 Qt)), aai a0 a1 a2 g0 g1 g2⟩

theorem inclWide_q0 : (Rows.inclWideRow.wf (OpenSpec.ofChange (OpenSpec.ofChange Rows.inclWideSpec).bare)) = true := by kernel_rfl
theorem inclWide_q1 : (laidOutB Tryz.pinned.checked.prog) = true := by kernel_rfl
theorem inclWide_q2 : (mapsRowed Tryz.pinned.checked.prog) = true := by kernel_rfl
theorem inclWide_q3 : (Tryz.f6.params.all (Tryz.pinned.checked.prog.readableRec ·)) = true := by kernel_rfl
theorem inclWide_q4 : (namedTie Tryz.pinned.checked.prog Rows.inclWideRow.named (OpenSpec.ofChange Rows.inclWideSpec).bare.vars) = true := by kernel_rfl
theorem inclWide_q5 : ((Rows.inclWideRow.stops == [])) = true := by kernel_rfl
theorem inclWide_q6 : ((Tryz.pinned.checked.prog.stops == [])) = true := by kernel_rfl
theorem inclWide_q7 : ((Rows.inclWideRow.knobs == [])) = true := by kernel_rfl
theorem inclWide_q8 : ((Tryz.pinned.checked.prog.stopKnobs == [])) = true := by kernel_rfl
theorem inclWide_q9 : ((Rows.inclWideRow.inPlace == Tryz.pinned.checked.prog.inPlace 6)) = true := by kernel_rfl
theorem inclWide_q10 : ((Rows.inclWideRow.unfollowed == Tryz.pinned.checked.prog.unfollowed 6)) = true := by kernel_rfl
theorem inclWide_q11 : ((Rows.inclWideRow.recurses == Tryz.pinned.checked.prog.recurses 6)) = true := by kernel_rfl
theorem inclWide_q12 : ((Rows.inclWideRow.named == Tryz.pinned.checked.prog.varsNamed 6)) = true := by kernel_rfl
theorem inclWide_q13 : ((Rows.inclWideRow.maps == (Tryz.f6.params.toList ++ (OpenSpec.ofChange Rows.inclWideSpec).bare.plain.varTypes Tryz.pinned.checked.prog).any (Tryz.pinned.checked.prog.mapsRec ·))) = true := by kernel_rfl
theorem inclWide_q14 : ((Rows.inclWideRow.ifaces == (Tryz.f6.params.toList ++ (OpenSpec.ofChange Rows.inclWideSpec).bare.plain.varTypes Tryz.pinned.checked.prog).any (Tryz.pinned.checked.prog.ifacesRec ·))) = true := by kernel_rfl
theorem inclWide_q15 : ((Rows.inclWideRow.mapsOut == Tryz.pinned.checked.prog.mapsAmong Tryz.f6.resultTypes.toList)) = true := by kernel_rfl
theorem inclWide_q16 : ((Rows.inclWideRow.loops == (Tryz.f6.params.toList ++ (OpenSpec.ofChange Rows.inclWideSpec).bare.plain.varTypes Tryz.pinned.checked.prog).any (Tryz.pinned.checked.prog.loopsFrom ·))) = true := by kernel_rfl
theorem inclWide_q17 : ((Rows.inclWideRow.wideKeys == (Tryz.f6.params.toList ++ (OpenSpec.ofChange Rows.inclWideSpec).bare.plain.varTypes Tryz.pinned.checked.prog ++ Tryz.f6.resultTypes.toList).any (Tryz.pinned.checked.prog.wideKeysFrom ·))) = true := by kernel_rfl
theorem inclWide_q18 : ((OpenSpec.ofChange Rows.inclWideSpec).bare.vars.all (Tryz.pinned.checked.prog.varReadable ·)) = true := by kernel_rfl
theorem inclWide_q19 : (Tryz.f6.resultTypes.all (fun t => Tryz.pinned.checked.prog.readableRec t && decide (t < Tryz.pinned.checked.prog.types.size))) = true := by kernel_rfl
theorem inclWide_q20 : ((Rows.inclWideRow.ifacesOut == Tryz.f6.resultTypes.toList.any (Tryz.pinned.checked.prog.ifacesRec ·))) = true := by kernel_rfl
theorem inclWide_q21 : ((Rows.inclWideRow.loopsOut == Tryz.f6.resultTypes.toList.any (Tryz.pinned.checked.prog.loopsFrom ·))) = true := by kernel_rfl
theorem inclWide_q22 : ((Rows.inclWideRow.plainKeys == Tryz.pinned.checked.prog.plainKeys)) = true := by kernel_rfl
theorem inclWide_q23 : (Rows.inclWideRow.shortTexts.isNone) = true := by kernel_rfl
theorem inclWide_q24 : (Tryz.pinned.checked.prog.stopsHeard) = true := by kernel_rfl
theorem inclWide_q25 : (Tryz.pinned.checked.prog.mayEnter) = true := by kernel_rfl
theorem inclWide_q26 : ((Rows.inclWideRow.lifted == Tryz.pinned.checked.prog.liftsFinal)) = true := by kernel_rfl
theorem inclWide_q27 : ((Tryz.pinned.checked.prog.make == some Rows.inclWideRow.make)) = true := by kernel_rfl
theorem inclWide_q28 : ((Rows.inclWideRow.kinds == (if Rows.inclWideRow.domain.isEmpty then [] else Tryz.f6.params.toList.map fun t => match Tryz.pinned.checked.prog.underlying t with | some (.int k) => some k | _ => none))) = true := by kernel_rfl
theorem inclWide_q29 : ((Rows.inclWideRow.pinned == Rows.inclWideRow.pinnedBy)) = true := by kernel_rfl
theorem inclWide_q30 : ((Rows.inclWideRow.veiled == (Tryz.f6.params.toList ++ (OpenSpec.ofChange Rows.inclWideSpec).bare.plain.varTypes Tryz.pinned.checked.prog ++ Tryz.f6.resultTypes.toList).any (Tryz.pinned.checked.prog.veiledRec ·))) = true := by kernel_rfl
theorem inclWide_q31 : (Rows.inclWideRow.veiledFits Tryz.pinned.checked.prog Tryz.f6.params.toList (Tryz.f6.params.toList ++ (OpenSpec.ofChange Rows.inclWideSpec).bare.plain.varTypes Tryz.pinned.checked.prog ++ Tryz.f6.resultTypes.toList)) = true := by kernel_rfl
theorem inclWide_qj : joinedFacts Tryz.pinned.checked.prog 6 Tryz.f6 (OpenSpec.ofChange Rows.inclWideSpec).bare Rows.inclWideRow = true := adD inclWide_q0 inclWide_q1 inclWide_q2 inclWide_q3 inclWide_q4 inclWide_q5 inclWide_q6 inclWide_q7 inclWide_q8 inclWide_q9 inclWide_q10 inclWide_q11 inclWide_q12 inclWide_q13 inclWide_q14 inclWide_q15 inclWide_q16 inclWide_q17 inclWide_q18 inclWide_q19 inclWide_q20 inclWide_q21 inclWide_q22 inclWide_q23 inclWide_q24 inclWide_q25 inclWide_q26 inclWide_q27 inclWide_q28 inclWide_q29 inclWide_q30 inclWide_q31
theorem inclWide_qn : Tryz.pinned.checked.prog.funcNamed Rows.inclWideRow.func = some 6 := by kernel_rfl
theorem inclWide_qd : Tryz.f6.isInstance Tryz.pinned.checked.prog Rows.inclWideRow.origin Rows.inclWideRow.targs := of_decide_eq_true (by kernel_rfl)
theorem inclWide_qw : Tryz.f6.isWrapper Tryz.pinned.checked.prog Rows.inclWideRow.wrapper Rows.inclWideRow.mainSum := by unfold Func.isWrapper; first | (rw [if_pos (by decide +kernel)]; kernel_rfl) | (rw [if_neg (by decide +kernel)]; exact ⟨rfl, rfl⟩)
theorem inclWide_q40 : Rows.inclWideRow.wfByText (OpenSpec.ofChange Rows.inclWideSpec) = true := by kernel_rfl
theorem inclWide_q41 : Tryz.pinned.checked.prog.mainIs = some ((true, "8381f30e633e0d7317f6c5999a06f8589083a5cc0e7a2d17ab385dd6225734d1").1, ((true, "8381f30e633e0d7317f6c5999a06f8589083a5cc0e7a2d17ab385dd6225734d1") : Bool × String).2.toList) := by kernel_rfl
theorem inclWide_q42 : false = Tryz.pinned.checked.prog.looks [] := by kernel_rfl
theorem inclWide_q43 : (Tryz.f6.params.toList.all fun t => !Tryz.prog.wantsStandIn t) = true := by kernel_rfl
theorem inclWide_q44 : false = Rows.inclWideRow.goesBy Tryz.pinned.checked.prog := by kernel_rfl

theorem inclWide_over : Rows.inclWideRow.holds Tryz.pinned (OpenSpec.ofChange Rows.inclWideSpec) :=
  OpenClaim.holds_of_cond 6 Tryz.f6 rfl rfl rfl rfl rfl rfl rfl ⟨rfl, rfl, rfl, rfl, rfl⟩ rfl rfl rfl rfl rfl inclWide_qn Tryz.func6 inclWide_qj
    inclWide_qd inclWide_qw
    (fun os started H enc _ F0 => by rw [OpenClaim.pre_eq_preRow]; exact inclWide_lifted os started H enc)

theorem inclWide_holds : Rows.InclWideCardSaid :=
  Claim7.holds_tied_plain_at .later [] [.data, .pinned] true (true, "8381f30e633e0d7317f6c5999a06f8589083a5cc0e7a2d17ab385dd6225734d1") false
    inclWide_over (fun _ h => by cases h) inclWide_q40 (fun _ h => by cases h) inclWide_row_tie rfl ⟨rfl, rfl⟩ inclWide_q41 rfl
    (fun f fn hf hfn => by
      obtain rfl : f = 6 := Option.some.inj (inclWide_qn.symm.trans hf) |>.symm
      obtain rfl : fn = Tryz.f6 := (Option.some.inj (Tryz.func6.symm.trans hfn)).symm
      refine ⟨inclWide_q42, fun j t ht => ?_⟩
      have g := List.all_eq_true.1 inclWide_q43 t (List.mem_of_getElem? (by simpa using ht))
      exact (by simpa using g : Tryz.prog.wantsStandIn t = false))
    inclWide_q44
#print axioms inclWide_holds

end Go.Proofs.YtgfdogdnlgfcpaaGreatDoor
