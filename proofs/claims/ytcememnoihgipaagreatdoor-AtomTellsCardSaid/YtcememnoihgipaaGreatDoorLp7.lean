/-
  The statement AtomTells, a tied card: whatever its arguments the law returns true and leaves them as they are. No condition.
-/
import Derived.Test.YtcememnoihgipaaGreatDoorLp6
import Derived.Test.YtcememnoihgipaaGreatDoorRows
import Derived.Test.YtcememnoihgipaaGreatDoorCards
import Derived.Test.YtcememnoihgipaaGreatDoorTie
import Derived.SevenTiedAt

set_option linter.all false
namespace Go.Proofs.YtcememnoihgipaaGreatDoor
open Go Lp Go.Shelf Go.RowKit

set_option maxHeartbeats 2000000
set_option maxRecDepth 100000

theorem atomTells_row (os : Os) {H : Type} (enc : TypeId × Value → H) :
    (OpenSpec.ofChange Rows.atomTellsSpec).preRow enc Tryz.prog Tryz.f3 Rows.atomTellsRow.domain false Rows.atomTellsRow.laid ((laidWorld os).forCall (fun _ _ => 0) ⟨#[], #[.int .i64 0, .slice none 0 0, .agg #[.int .i64 0, .int .i64 0, .string ⟨#[]⟩, .string ⟨#[]⟩, .bool false, .int .i64 0]], []⟩).memory #[.int .i64 0, .slice none 0 0, .agg #[.int .i64 0, .int .i64 0, .string ⟨#[]⟩, .string ⟨#[]⟩, .bool false, .int .i64 0]] := by
  have hw : (DataW.whole enc Tryz.prog ((laidWorld os).forCall (fun _ _ => 0) ⟨#[], #[.int .i64 0, .slice none 0 0, .agg #[.int .i64 0, .int .i64 0, .string ⟨#[]⟩, .string ⟨#[]⟩, .bool false, .int .i64 0]], []⟩).memory Tryz.f3.params.toList (OpenSpec.ofChange Rows.atomTellsSpec).vars false (#[.int .i64 0, .slice none 0 0, .agg #[.int .i64 0, .int .i64 0, .string ⟨#[]⟩, .string ⟨#[]⟩, .bool false, .int .i64 0]] : Array Value).toList 8).map (fun x => (x.1, x.2.1)) =
      some ([.lit (.int .i64 0), .nil, .agg [.lit (.int .i64 0), .lit (.int .i64 0), .lit (.string []), .lit (.string []), .lit (.bool false), .lit (.int .i64 0)]], []) := by kernel_rfl
  obtain ⟨⟨x1, x2, x3⟩, hx, hx1⟩ := Option.map_eq_some_iff.1 hw
  simp only [Prod.mk.injEq] at hx1
  obtain ⟨rfl, rfl⟩ := hx1
  exact OpenSpec.preRow_of_cond 8 hx (by kernel_rfl) (fun k hk => by cases hk) (by kernel_rfl) (laid_met os _)

theorem atomTells_lifted (os : Os) (started : os.Started) (H : Type) (enc : TypeId × Value → H) :
    ReturnsInHanded {} Tryz.checked os f_loupelaw11_AtomTells .any ((OpenSpec.ofChange Rows.atomTellsSpec).preRow enc Tryz.prog Tryz.f3 Rows.atomTellsRow.domain false Rows.atomTellsRow.laid) (Rows.atomTellsSpec.post enc Tryz.prog Tryz.f3 false true false false) := by
  refine law_lifted2 (C := Tryz.checked) (tb := t_bool) (by kernel_rfl) started (by kernel_rfl) Tryz.func3
    (witness_row_atRef (enc := enc) (C := Tryz.checked) false (laidWorld os) #[.int .i64 0, .slice none 0 0, .agg #[.int .i64 0, .int .i64 0, .string ⟨#[]⟩, .string ⟨#[]⟩, .bool false, .int .i64 0]] rfl (by kernel_rfl) (by kernel_rfl) (by kernel_rfl) (atomTells_row os enc))
    (by kernel_rfl) (fun t ht => ?_) (by kernel_rfl) (by kernel_rfl) u_bool rfl rfl (fun ds hd => ?_) (fun W base args ds ps hval hA hw => ?_) (fun W h => glob_laid h)
  · have h : (Tryz.f3.params.toList.all fun t => Tryz.prog.readableRec t && decide (t < Tryz.prog.types.size)) = true := by kernel_rfl
    have g := List.all_eq_true.1 h t ht
    rw [Bool.and_eq_true] at g
    exact ⟨g.1, of_decide_eq_true g.2⟩
  · have h : Tryz.f3.params.toList.length = 3 := by kernel_rfl
    rw [h] at hd
    match ds, hd with
    | [d0, d1, d2], _ => rfl
  · have h : Tryz.f3.params = #[t_int, t_L_api_Atom, t_api_Node] := by kernel_rfl
    rw [h] at hval hA hw
    obtain ⟨v0, vs0, d0, ds0, p0, q0, rfl, rfl, rfl, h0, r0⟩ := Go.ChangeShapes.trodAll_cons hA
    obtain ⟨v1, vs1, d1, ds1, p1, q1, rfl, rfl, rfl, h1, r1⟩ := Go.ChangeShapes.trodAll_cons r0
    obtain ⟨v2, vs2, d2, ds2, p2, q2, rfl, rfl, rfl, h2, r2⟩ := Go.ChangeShapes.trodAll_cons r1
    obtain ⟨rfl, rfl, rfl⟩ := Go.ChangeShapes.trodAll_nil r2
    obtain ⟨a0, g0, w0⟩ := rd_I (hval 0 t_int v0 rfl rfl) h0 (fun n hn => hw n (weightsEach_mem _ _ 0 t_int d0 rfl rfl hn))
    obtain ⟨a1, g1, w1⟩ := rd_arg u_atoms rd_atoms (fun _ => rfl) (hval 1 t_L_api_Atom v1 rfl rfl) h1 (fun n hn => hw n (weightsEach_mem _ _ 1 t_L_api_Atom d1 rfl rfl hn))
    obtain ⟨a2, g2, w2⟩ := rd_N (hval 2 t_api_Node v2 rfl rfl) h2 (fun n hn => hw n (weightsEach_mem _ _ 2 t_api_Node d2 rfl rfl hn))
    exact ⟨[.int .i64 a0, encAs a1, encN a2], repL_cons w0 (repL_cons w1 (repL_cons w2 repL_nil)), atomTells_spec a0 a1 a2 g0 g1 g2⟩

theorem atomTells_q0 : (Rows.atomTellsRow.wf (OpenSpec.ofChange (OpenSpec.ofChange Rows.atomTellsSpec).bare)) = true := by kernel_rfl
theorem atomTells_q1 : (laidOutB Tryz.pinned.checked.prog) = true := by kernel_rfl
theorem atomTells_q2 : (mapsRowed Tryz.pinned.checked.prog) = true := by kernel_rfl
theorem atomTells_q3 : (Tryz.f3.params.all (Tryz.pinned.checked.prog.readableRec ·)) = true := by kernel_rfl
theorem atomTells_q4 : (namedTie Tryz.pinned.checked.prog Rows.atomTellsRow.named (OpenSpec.ofChange Rows.atomTellsSpec).bare.vars) = true := by kernel_rfl
theorem atomTells_q5 : ((Rows.atomTellsRow.stops == [])) = true := by kernel_rfl
theorem atomTells_q6 : ((Tryz.pinned.checked.prog.stops == [])) = true := by kernel_rfl
theorem atomTells_q7 : ((Rows.atomTellsRow.knobs == [])) = true := by kernel_rfl
theorem atomTells_q8 : ((Tryz.pinned.checked.prog.stopKnobs == [])) = true := by kernel_rfl
theorem atomTells_q9 : ((Rows.atomTellsRow.inPlace == Tryz.pinned.checked.prog.inPlace f_loupelaw11_AtomTells)) = true := by kernel_rfl
theorem atomTells_q10 : ((Rows.atomTellsRow.unfollowed == Tryz.pinned.checked.prog.unfollowed f_loupelaw11_AtomTells)) = true := by kernel_rfl
theorem atomTells_q11 : ((Rows.atomTellsRow.recurses == Tryz.pinned.checked.prog.recurses f_loupelaw11_AtomTells)) = true := by kernel_rfl
theorem atomTells_q12 : ((Rows.atomTellsRow.named == Tryz.pinned.checked.prog.varsNamed f_loupelaw11_AtomTells)) = true := by kernel_rfl
theorem atomTells_q13 : ((Rows.atomTellsRow.maps == (Tryz.f3.params.toList ++ (OpenSpec.ofChange Rows.atomTellsSpec).bare.plain.varTypes Tryz.pinned.checked.prog).any (Tryz.pinned.checked.prog.mapsRec ·))) = true := by kernel_rfl
theorem atomTells_q14 : ((Rows.atomTellsRow.ifaces == (Tryz.f3.params.toList ++ (OpenSpec.ofChange Rows.atomTellsSpec).bare.plain.varTypes Tryz.pinned.checked.prog).any (Tryz.pinned.checked.prog.ifacesRec ·))) = true := by kernel_rfl
theorem atomTells_q15 : ((Rows.atomTellsRow.mapsOut == Tryz.pinned.checked.prog.mapsAmong Tryz.f3.resultTypes.toList)) = true := by kernel_rfl
theorem atomTells_q16 : ((Rows.atomTellsRow.loops == (Tryz.f3.params.toList ++ (OpenSpec.ofChange Rows.atomTellsSpec).bare.plain.varTypes Tryz.pinned.checked.prog).any (Tryz.pinned.checked.prog.loopsFrom ·))) = true := by kernel_rfl
theorem atomTells_q17 : ((Rows.atomTellsRow.wideKeys == (Tryz.f3.params.toList ++ (OpenSpec.ofChange Rows.atomTellsSpec).bare.plain.varTypes Tryz.pinned.checked.prog ++ Tryz.f3.resultTypes.toList).any (Tryz.pinned.checked.prog.wideKeysFrom ·))) = true := by kernel_rfl
theorem atomTells_q18 : ((OpenSpec.ofChange Rows.atomTellsSpec).bare.vars.all (Tryz.pinned.checked.prog.varReadable ·)) = true := by kernel_rfl
theorem atomTells_q19 : (Tryz.f3.resultTypes.all (fun t => Tryz.pinned.checked.prog.readableRec t && decide (t < Tryz.pinned.checked.prog.types.size))) = true := by kernel_rfl
theorem atomTells_q20 : ((Rows.atomTellsRow.ifacesOut == Tryz.f3.resultTypes.toList.any (Tryz.pinned.checked.prog.ifacesRec ·))) = true := by kernel_rfl
theorem atomTells_q21 : ((Rows.atomTellsRow.loopsOut == Tryz.f3.resultTypes.toList.any (Tryz.pinned.checked.prog.loopsFrom ·))) = true := by kernel_rfl
theorem atomTells_q22 : ((Rows.atomTellsRow.plainKeys == Tryz.pinned.checked.prog.plainKeys)) = true := by kernel_rfl
theorem atomTells_q23 : (Rows.atomTellsRow.shortTexts.isNone) = true := by kernel_rfl
theorem atomTells_q24 : (Tryz.pinned.checked.prog.stopsHeard) = true := by kernel_rfl
theorem atomTells_q25 : (Tryz.pinned.checked.prog.mayEnter) = true := by kernel_rfl
theorem atomTells_q26 : ((Rows.atomTellsRow.lifted == Tryz.pinned.checked.prog.liftsFinal)) = true := by kernel_rfl
theorem atomTells_q27 : ((Tryz.pinned.checked.prog.make == some Rows.atomTellsRow.make)) = true := by kernel_rfl
theorem atomTells_q28 : ((Rows.atomTellsRow.kinds == (if Rows.atomTellsRow.domain.isEmpty then [] else Tryz.f3.params.toList.map fun t => match Tryz.pinned.checked.prog.underlying t with | some (.int k) => some k | _ => none))) = true := by kernel_rfl
theorem atomTells_q29 : ((Rows.atomTellsRow.pinned == Rows.atomTellsRow.pinnedBy)) = true := by kernel_rfl
theorem atomTells_q30 : ((Rows.atomTellsRow.veiled == (Tryz.f3.params.toList ++ (OpenSpec.ofChange Rows.atomTellsSpec).bare.plain.varTypes Tryz.pinned.checked.prog ++ Tryz.f3.resultTypes.toList).any (Tryz.pinned.checked.prog.veiledRec ·))) = true := by kernel_rfl
theorem atomTells_q31 : (Rows.atomTellsRow.veiledFits Tryz.pinned.checked.prog Tryz.f3.params.toList (Tryz.f3.params.toList ++ (OpenSpec.ofChange Rows.atomTellsSpec).bare.plain.varTypes Tryz.pinned.checked.prog ++ Tryz.f3.resultTypes.toList)) = true := by kernel_rfl
theorem atomTells_qj : joinedFacts Tryz.pinned.checked.prog f_loupelaw11_AtomTells Tryz.f3 (OpenSpec.ofChange Rows.atomTellsSpec).bare Rows.atomTellsRow = true := joined_mk atomTells_q0 atomTells_q1 atomTells_q2 atomTells_q3 atomTells_q4 atomTells_q5 atomTells_q6 atomTells_q7 atomTells_q8 atomTells_q9 atomTells_q10 atomTells_q11 atomTells_q12 atomTells_q13 atomTells_q14 atomTells_q15 atomTells_q16 atomTells_q17 atomTells_q18 atomTells_q19 atomTells_q20 atomTells_q21 atomTells_q22 atomTells_q23 atomTells_q24 atomTells_q25 atomTells_q26 atomTells_q27 atomTells_q28 atomTells_q29 atomTells_q30 atomTells_q31
theorem atomTells_qn : Tryz.pinned.checked.prog.funcNamed Rows.atomTellsRow.func = some f_loupelaw11_AtomTells := by kernel_rfl
theorem atomTells_qd : Tryz.f3.isInstance Tryz.pinned.checked.prog Rows.atomTellsRow.origin Rows.atomTellsRow.targs := of_decide_eq_true (by kernel_rfl)
theorem atomTells_qw : Tryz.f3.isWrapper Tryz.pinned.checked.prog Rows.atomTellsRow.wrapper Rows.atomTellsRow.mainSum := by unfold Func.isWrapper; first | (rw [if_pos (by decide +kernel)]; kernel_rfl) | (rw [if_neg (by decide +kernel)]; exact ⟨rfl, rfl⟩)
theorem atomTells_q40 : Rows.atomTellsRow.wfByText (OpenSpec.ofChange Rows.atomTellsSpec) = true := by kernel_rfl
theorem atomTells_q41 : Tryz.pinned.checked.prog.mainIs = some ((true, "e72485a34481c9af3caea48386f20d1b6f5dea03a4c16c0b11945e70a970f3e9").1, ((true, "e72485a34481c9af3caea48386f20d1b6f5dea03a4c16c0b11945e70a970f3e9") : Bool × String).2.toList) := by kernel_rfl
theorem atomTells_q42 : true = Tryz.pinned.checked.prog.looks [] := by kernel_rfl
theorem atomTells_q43 : (Tryz.f3.params.toList.all fun t => !Tryz.prog.wantsStandIn t) = true := by kernel_rfl
theorem atomTells_q44 : false = Rows.atomTellsRow.goesBy Tryz.pinned.checked.prog := by kernel_rfl

theorem atomTells_over : Rows.atomTellsRow.holds Tryz.pinned (OpenSpec.ofChange Rows.atomTellsSpec) :=
  OpenClaim.holds_of_cond f_loupelaw11_AtomTells Tryz.f3 rfl rfl rfl rfl rfl rfl rfl ⟨rfl, rfl, rfl, rfl, rfl⟩ rfl rfl rfl rfl rfl atomTells_qn Tryz.func3 atomTells_qj
    atomTells_qd atomTells_qw
    (fun os started H enc _ F0 => by rw [OpenClaim.pre_eq_preRow]; exact atomTells_lifted os started H enc)

theorem atomTells_holds : Rows.AtomTellsCardSaid :=
  Claim7.holds_tied_plain_at .later [] [.data, .pinned] true (true, "e72485a34481c9af3caea48386f20d1b6f5dea03a4c16c0b11945e70a970f3e9") true
    atomTells_over (fun _ h => by cases h) atomTells_q40 (fun _ h => by cases h) atomTells_row_tie rfl ⟨rfl, rfl⟩ atomTells_q41 rfl
    (fun f fn hf hfn => by
      obtain rfl : f = f_loupelaw11_AtomTells := Option.some.inj (atomTells_qn.symm.trans hf) |>.symm
      obtain rfl : fn = Tryz.f3 := (Option.some.inj (Tryz.func3.symm.trans hfn)).symm
      refine ⟨atomTells_q42, fun j t ht => ?_⟩
      have g := List.all_eq_true.1 atomTells_q43 t (List.mem_of_getElem? (by simpa using ht))
      exact (by simpa using g : Tryz.prog.wantsStandIn t = false))
    atomTells_q44
#print axioms atomTells_holds

end Go.Proofs.YtcememnoihgipaaGreatDoor
