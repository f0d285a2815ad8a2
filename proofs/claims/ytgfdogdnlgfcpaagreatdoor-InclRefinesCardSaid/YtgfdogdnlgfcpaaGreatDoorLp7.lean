import Derived.Test.YtgfdogdnlgfcpaaGreatDoorLp6
import Derived.Test.YtgfdogdnlgfcpaaGreatDoorRows
import Derived.Test.YtgfdogdnlgfcpaaGreatDoorCards
import Derived.Test.YtgfdogdnlgfcpaaGreatDoorTie
import Derived.SevenTiedAt

set_option linter.all false
set_option maxHeartbeats 8000000
set_option maxRecDepth 100000

/-
  The statement InclRefines, a tied card: whatever its arguments the law returns true and leaves them as they are. No condition.
-/
namespace Go.Proofs.YtgfdogdnlgfcpaaGreatDoor
open Go Lp Go.Shelf Go.RowKit


theorem inclRefines_row (os : Os) {H : Type} (enc : TypeId × Value → H) :
    (OpenSpec.ofChange Rows.inclRefinesSpec).preRow enc Tryz.prog Tryz.f3 Rows.inclRefinesRow.domain false Rows.inclRefinesRow.laid ((U9 os).forCall (fun _ _ => 0) ⟨#[], #[.slice none 0 0, .slice none 0 0, .agg #[.int .i64 0, .int .i64 0, .int .i64 0, .string ⟨#[]⟩, .string ⟨#[]⟩, .bool false, .int .i64 0]], []⟩).memory #[.slice none 0 0, .slice none 0 0, .agg #[.int .i64 0, .int .i64 0, .int .i64 0, .string ⟨#[]⟩, .string ⟨#[]⟩, .bool false, .int .i64 0]] := by
  have hw : (DataW.whole enc Tryz.prog ((U9 os).forCall (fun _ _ => 0) ⟨#[], #[.slice none 0 0, .slice none 0 0, .agg #[.int .i64 0, .int .i64 0, .int .i64 0, .string ⟨#[]⟩, .string ⟨#[]⟩, .bool false, .int .i64 0]], []⟩).memory Tryz.f3.params.toList (OpenSpec.ofChange Rows.inclRefinesSpec).vars false (#[.slice none 0 0, .slice none 0 0, .agg #[.int .i64 0, .int .i64 0, .int .i64 0, .string ⟨#[]⟩, .string ⟨#[]⟩, .bool false, .int .i64 0]] : Array Value).toList 8).map (fun x => (x.1, x.2.1)) =
      some ([.nil, .nil, .agg [.lit (.int .i64 0), .agg [.lit (.int .i64 0), .lit (.int .i64 0), .lit (.string []), .lit (.string []), .lit (.bool false), .lit (.int .i64 0)]]], []) := by kernel_rfl
  obtain ⟨⟨x1, x2, x3⟩, hx, hx1⟩ := Option.map_eq_some_iff.1 hw
  simp only [Prod.mk.injEq] at hx1
  obtain ⟨rfl, rfl⟩ := hx1
  exact OpenSpec.preRow_of_cond 8 hx (by kernel_rfl) (fun k hk => by cases hk) (by kernel_rfl) (acB os _)

theorem inclRefines_lifted (os : Os) (started : os.Started) (H : Type) (enc : TypeId × Value → H) :
    ReturnsInHanded {} Tryz.checked os 3 .any ((OpenSpec.ofChange Rows.inclRefinesSpec).preRow enc Tryz.prog Tryz.f3 Rows.inclRefinesRow.domain false Rows.inclRefinesRow.laid) (Rows.inclRefinesSpec.post enc Tryz.prog Tryz.f3 false true false false) := by
  refine ZX (C := Tryz.checked) (tb := 4) (by kernel_rfl) started (by kernel_rfl) Tryz.func3
    (witness_row_atRef (enc := enc) (C := Tryz.checked) false (U9 os) #[.slice none 0 0, .slice none 0 0, .agg #[.int .i64 0, .int .i64 0, .int .i64 0, .string ⟨#[]⟩, .string ⟨#[]⟩, .bool false, .int .i64 0]] rfl (by kernel_rfl) (by kernel_rfl) (by kernel_rfl) (inclRefines_row os enc))
    (by kernel_rfl) (fun t ht => ?_) (by kernel_rfl) (by kernel_rfl) XC rfl rfl (fun ds hd => ?_) (fun W base args ds ps hval hA hw => ?_) (fun W h => abx h)
  · have h : (Tryz.f3.params.toList.all fun t => Tryz.prog.readableRec t && decide (t < Tryz.prog.types.size)) = true := by kernel_rfl
    have g := List.all_eq_true.1 h t ht
    rw [Bool.and_eq_true] at g
    exact ⟨g.1, of_decide_eq_true g.2⟩
  · have h : Tryz.f3.params.toList.length = 3 := by kernel_rfl
    rw [h] at hd
    match ds, hd with
    | [d0, d1, d2], _ => rfl
  · have h : Tryz.f3.params = #[23, 25, 29] := by kernel_rfl
    rw [h] at hval hA hw
    obtain ⟨v0, vs0, d0, ds0, p0, q0, rfl, rfl, rfl, h0, r0⟩ := Go.ChangeShapes.trodAll_cons hA
    obtain ⟨v1, vs1, d1, ds1, p1, q1, rfl, rfl, rfl, h1, r1⟩ := Go.ChangeShapes.trodAll_cons r0
    obtain ⟨v2, vs2, d2, ds2, p2, q2, rfl, rfl, rfl, h2, r2⟩ := Go.ChangeShapes.trodAll_cons r1
    obtain ⟨rfl, rfl, rfl⟩ := Go.ChangeShapes.trodAll_nil r2
    obtain ⟨a0, g0, w0⟩ := adt abe acQ (fun _ => rfl) (hval 0 23 v0 rfl rfl) h0 (fun n hn => hw n (uF _ _ 0 23 d0 rfl rfl hn))
    obtain ⟨a1, g1, w1⟩ := adt abq acR (fun _ => rfl) (hval 1 25 v1 rfl rfl) h1 (fun n hn => hw n (uF _ _ 1 25 d1 rfl rfl hn))
    obtain ⟨a2, g2, w2⟩ := adG (hval 2 29 v2 rfl rfl) h2 (fun n hn => hw n (uF _ _ 2 29 d2 rfl rfl hn))
    exact ⟨[aA a0, dF a1, bP a2], cZ w0 (cZ w1 (cZ w2 Gu)), Vk a0 a1 a2 g0 g1 g2⟩

theorem inclRefines_q0 : (Rows.inclRefinesRow.wf (OpenSpec.ofChange (OpenSpec.ofChange Rows.inclRefinesSpec).bare)) = true := by kernel_rfl
theorem inclRefines_q1 : (laidOutB Tryz.pinned.checked.prog) = true := by kernel_rfl
theorem inclRefines_q2 : (mapsRowed Tryz.pinned.checked.prog) = true := by kernel_rfl
theorem inclRefines_q3 : (Tryz.f3.params.all (Tryz.pinned.checked.prog.readableRec ·)) = true := by kernel_rfl
theorem inclRefines_q4 : (namedTie Tryz.pinned.checked.prog Rows.inclRefinesRow.named (OpenSpec.ofChange Rows.inclRefinesSpec).bare.vars) = true := by kernel_rfl
theorem inclRefines_q5 : ((Rows.inclRefinesRow.stops == [])) = true := by kernel_rfl
theorem inclRefines_q6 : ((Tryz.pinned.checked.prog.stops == [])) = true := by kernel_rfl
theorem inclRefines_q7 : ((Rows.inclRefinesRow.knobs == [])) = true := by kernel_rfl
theorem inclRefines_q8 : ((Tryz.pinned.checked.prog.stopKnobs == [])) = true := by kernel_rfl
theorem inclRefines_q9 : ((Rows.inclRefinesRow.inPlace == Tryz.pinned.checked.prog.inPlace 3)) = true := by kernel_rfl
theorem inclRefines_q10 : ((Rows.inclRefinesRow.unfollowed == Tryz.pinned.checked.prog.unfollowed 3)) = true := by kernel_rfl
theorem inclRefines_q11 : ((Rows.inclRefinesRow.recurses == Tryz.pinned.checked.prog.recurses 3)) = true := by kernel_rfl
theorem inclRefines_q12 : ((Rows.inclRefinesRow.named == Tryz.pinned.checked.prog.varsNamed 3)) = true := by kernel_rfl
theorem inclRefines_q13 : ((Rows.inclRefinesRow.maps == (Tryz.f3.params.toList ++ (OpenSpec.ofChange Rows.inclRefinesSpec).bare.plain.varTypes Tryz.pinned.checked.prog).any (Tryz.pinned.checked.prog.mapsRec ·))) = true := by kernel_rfl
theorem inclRefines_q14 : ((Rows.inclRefinesRow.ifaces == (Tryz.f3.params.toList ++ (OpenSpec.ofChange Rows.inclRefinesSpec).bare.plain.varTypes Tryz.pinned.checked.prog).any (Tryz.pinned.checked.prog.ifacesRec ·))) = true := by kernel_rfl
theorem inclRefines_q15 : ((Rows.inclRefinesRow.mapsOut == Tryz.pinned.checked.prog.mapsAmong Tryz.f3.resultTypes.toList)) = true := by kernel_rfl
theorem inclRefines_q16 : ((Rows.inclRefinesRow.loops == (Tryz.f3.params.toList ++ (OpenSpec.ofChange Rows.inclRefinesSpec).bare.plain.varTypes Tryz.pinned.checked.prog).any (Tryz.pinned.checked.prog.loopsFrom ·))) = true := by kernel_rfl
theorem inclRefines_q17 : ((Rows.inclRefinesRow.wideKeys == (Tryz.f3.params.toList ++ (OpenSpec.ofChange Rows.inclRefinesSpec).bare.plain.varTypes Tryz.pinned.checked.prog ++ Tryz.f3.resultTypes.toList).any (Tryz.pinned.checked.prog.wideKeysFrom ·))) = true := by kernel_rfl
theorem inclRefines_q18 : ((OpenSpec.ofChange Rows.inclRefinesSpec).bare.vars.all (Tryz.pinned.checked.prog.varReadable ·)) = true := by kernel_rfl
theorem inclRefines_q19 : (Tryz.f3.resultTypes.all (fun t => Tryz.pinned.checked.prog.readableRec t && decide (t < Tryz.pinned.checked.prog.types.size))) = true := by kernel_rfl
theorem inclRefines_q20 : ((Rows.inclRefinesRow.ifacesOut == Tryz.f3.resultTypes.toList.any (Tryz.pinned.checked.prog.ifacesRec ·))) = true := by kernel_rfl
theorem inclRefines_q21 : ((Rows.inclRefinesRow.loopsOut == Tryz.f3.resultTypes.toList.any (Tryz.pinned.checked.prog.loopsFrom ·))) = true := by kernel_rfl
theorem inclRefines_q22 : ((Rows.inclRefinesRow.plainKeys == Tryz.pinned.checked.prog.plainKeys)) = true := by kernel_rfl
theorem inclRefines_q23 : (Rows.inclRefinesRow.shortTexts.isNone) = true := by kernel_rfl
theorem inclRefines_q24 : (Tryz.pinned.checked.prog.stopsHeard) = true := by kernel_rfl
theorem inclRefines_q25 : (Tryz.pinned.checked.prog.mayEnter) = true := by kernel_rfl
theorem inclRefines_q26 : ((Rows.inclRefinesRow.lifted == Tryz.pinned.checked.prog.liftsFinal)) = true := by kernel_rfl
theorem inclRefines_q27 : ((Tryz.pinned.checked.prog.make == some Rows.inclRefinesRow.make)) = true := by kernel_rfl
theorem inclRefines_q28 : ((Rows.inclRefinesRow.kinds == (if Rows.inclRefinesRow.domain.isEmpty then [] else Tryz.f3.params.toList.map fun t => match Tryz.pinned.checked.prog.underlying t with | some (.int k) => some k | _ => none))) = true := by kernel_rfl
theorem inclRefines_q29 : ((Rows.inclRefinesRow.pinned == Rows.inclRefinesRow.pinnedBy)) = true := by kernel_rfl
theorem inclRefines_q30 : ((Rows.inclRefinesRow.veiled == (Tryz.f3.params.toList ++ (OpenSpec.ofChange Rows.inclRefinesSpec).bare.plain.varTypes Tryz.pinned.checked.prog ++ Tryz.f3.resultTypes.toList).any (Tryz.pinned.checked.prog.veiledRec ·))) = true := by kernel_rfl
theorem inclRefines_q31 : (Rows.inclRefinesRow.veiledFits Tryz.pinned.checked.prog Tryz.f3.params.toList (Tryz.f3.params.toList ++ (OpenSpec.ofChange Rows.inclRefinesSpec).bare.plain.varTypes Tryz.pinned.checked.prog ++ Tryz.f3.resultTypes.toList)) = true := by kernel_rfl
theorem inclRefines_qj : joinedFacts Tryz.pinned.checked.prog 3 Tryz.f3 (OpenSpec.ofChange Rows.inclRefinesSpec).bare Rows.inclRefinesRow = true := aby inclRefines_q0 inclRefines_q1 inclRefines_q2 inclRefines_q3 inclRefines_q4 inclRefines_q5 inclRefines_q6 inclRefines_q7 inclRefines_q8 inclRefines_q9 inclRefines_q10 inclRefines_q11 inclRefines_q12 inclRefines_q13 inclRefines_q14 inclRefines_q15 inclRefines_q16 inclRefines_q17 inclRefines_q18 inclRefines_q19 inclRefines_q20 inclRefines_q21 inclRefines_q22 inclRefines_q23 inclRefines_q24 inclRefines_q25 inclRefines_q26 inclRefines_q27 inclRefines_q28 inclRefines_q29 inclRefines_q30 inclRefines_q31
theorem inclRefines_qn : Tryz.pinned.checked.prog.funcNamed Rows.inclRefinesRow.func = some 3 := by kernel_rfl
theorem inclRefines_qd : Tryz.f3.isInstance Tryz.pinned.checked.prog Rows.inclRefinesRow.origin Rows.inclRefinesRow.targs := of_decide_eq_true (by kernel_rfl)
theorem inclRefines_qw : Tryz.f3.isWrapper Tryz.pinned.checked.prog Rows.inclRefinesRow.wrapper Rows.inclRefinesRow.mainSum := by unfold Func.isWrapper; first | (rw [if_pos (by decide +kernel)]; kernel_rfl) | (rw [if_neg (by decide +kernel)]; exact ⟨rfl, rfl⟩)
theorem inclRefines_q40 : Rows.inclRefinesRow.wfByText (OpenSpec.ofChange Rows.inclRefinesSpec) = true := by kernel_rfl
theorem inclRefines_q41 : Tryz.pinned.checked.prog.mainIs = some ((true, "8381f30e633e0d7317f6c5999a06f8589083a5cc0e7a2d17ab385dd6225734d1").1, ((true, "8381f30e633e0d7317f6c5999a06f8589083a5cc0e7a2d17ab385dd6225734d1") : Bool × String).2.toList) := by kernel_rfl
theorem inclRefines_q42 : false = Tryz.pinned.checked.prog.looks [] := by kernel_rfl
theorem inclRefines_q43 : (Tryz.f3.params.toList.all fun t => !Tryz.prog.wantsStandIn t) = true := by kernel_rfl
theorem inclRefines_q44 : false = Rows.inclRefinesRow.goesBy Tryz.pinned.checked.prog := by kernel_rfl

theorem inclRefines_over : Rows.inclRefinesRow.holds Tryz.pinned (OpenSpec.ofChange Rows.inclRefinesSpec) :=
  OpenClaim.holds_of_cond 3 Tryz.f3 rfl rfl rfl rfl rfl rfl rfl ⟨rfl, rfl, rfl, rfl, rfl⟩ rfl rfl rfl rfl rfl inclRefines_qn Tryz.func3 inclRefines_qj
    inclRefines_qd inclRefines_qw
    (fun os started H enc _ F0 => by rw [OpenClaim.pre_eq_preRow]; exact inclRefines_lifted os started H enc)

theorem inclRefines_holds : Rows.InclRefinesCardSaid :=
  Claim7.holds_tied_plain_at .later [] [.data, .pinned] true (true, "8381f30e633e0d7317f6c5999a06f8589083a5cc0e7a2d17ab385dd6225734d1") false
    inclRefines_over (fun _ h => by cases h) inclRefines_q40 (fun _ h => by cases h) inclRefines_row_tie rfl ⟨rfl, rfl⟩ inclRefines_q41 rfl
    (fun f fn hf hfn => by
      obtain rfl : f = 3 := Option.some.inj (inclRefines_qn.symm.trans hf) |>.symm
      obtain rfl : fn = Tryz.f3 := (Option.some.inj (Tryz.func3.symm.trans hfn)).symm
      refine ⟨inclRefines_q42, fun j t ht => ?_⟩
      have g := List.all_eq_true.1 inclRefines_q43 t (List.mem_of_getElem? (by simpa using ht))
      exact (by simpa using g : Tryz.prog.wantsStandIn t = false))
    inclRefines_q44
#print axioms inclRefines_holds

end Go.Proofs.YtgfdogdnlgfcpaaGreatDoor
