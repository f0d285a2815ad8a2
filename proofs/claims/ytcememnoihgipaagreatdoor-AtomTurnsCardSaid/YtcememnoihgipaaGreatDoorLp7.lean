/-
  The statement AtomTurns, a tied card: whatever its arguments the law returns true and leaves them as they are. No condition.
-/
import Derived.Test.YtcememnoihgipaaGreatDoorLp6
import Derived.Test.YtcememnoihgipaaGreatDoorRows
import Derived.Test.YtcememnoihgipaaGreatDoorCards
import Derived.Test.YtcememnoihgipaaGreatDoorTie
import Derived.SevenTiedAt

set_option linter.all false
namespace Go.Proofs.YtcememnoihgipaaGreatDoor
open Go Lp Go.Shelf Go.RowKit

set_option maxHeartbeats 2000000
set_option maxRecDepth 100000

theorem atomTurns_row (os : Os) {H : Type} (enc : TypeId × Value → H) :
    (OpenSpec.ofChange Rows.atomTurnsSpec).preRow enc Tryz.prog Tryz.f4 Rows.atomTurnsRow.domain false Rows.atomTurnsRow.laid ((laidWorld os).forCall (fun _ _ => 0) ⟨#[], #[.agg #[.int .i64 0, .int .i64 0], .slice none 0 0, .agg #[.int .i64 0, .int .i64 0, .string ⟨#[]⟩, .string ⟨#[]⟩, .bool false, .int .i64 0]], []⟩).memory #[.agg #[.int .i64 0, .int .i64 0], .slice none 0 0, .agg #[.int .i64 0, .int .i64 0, .string ⟨#[]⟩, .string ⟨#[]⟩, .bool false, .int .i64 0]] := by
  have hw : (DataW.whole enc Tryz.prog ((laidWorld os).forCall (fun _ _ => 0) ⟨#[], #[.agg #[.int .i64 0, .int .i64 0], .slice none 0 0, .agg #[.int .i64 0, .int .i64 0, .string ⟨#[]⟩, .string ⟨#[]⟩, .bool false, .int .i64 0]], []⟩).memory Tryz.f4.params.toList (OpenSpec.ofChange Rows.atomTurnsSpec).vars false (#[.agg #[.int .i64 0, .int .i64 0], .slice none 0 0, .agg #[.int .i64 0, .int .i64 0, .string ⟨#[]⟩, .string ⟨#[]⟩, .bool false, .int .i64 0]] : Array Value).toList 8).map (fun x => (x.1, x.2.1)) =
      some ([.agg [.lit (.int .i64 0), .lit (.int .i64 0)], .nil, .agg [.lit (.int .i64 0), .lit (.int .i64 0), .lit (.string []), .lit (.string []), .lit (.bool false), .lit (.int .i64 0)]], []) := by kernel_rfl
  obtain ⟨⟨x1, x2, x3⟩, hx, hx1⟩ := Option.map_eq_some_iff.1 hw
  simp only [Prod.mk.injEq] at hx1
  obtain ⟨rfl, rfl⟩ := hx1
  exact OpenSpec.preRow_of_cond 8 hx (by kernel_rfl) (fun k hk => by cases hk) (by kernel_rfl) (laid_met os _)

theorem atomTurns_lifted (os : Os) (started : os.Started) (H : Type) (enc : TypeId × Value → H) :
    ReturnsInHanded {} Tryz.checked os f_loupelaw11_AtomTurns .any ((OpenSpec.ofChange Rows.atomTurnsSpec).preRow enc Tryz.prog Tryz.f4 Rows.atomTurnsRow.domain false Rows.atomTurnsRow.laid) (Rows.atomTurnsSpec.post enc Tryz.prog Tryz.f4 false true false false) := by
  refine law_lifted2 (C := Tryz.checked) (tb := t_bool) (by kernel_rfl) started (by kernel_rfl) Tryz.func4
    (witness_row_atRef (enc := enc) (C := Tryz.checked) false (laidWorld os) #[.agg #[.int .i64 0, .int .i64 0], .slice none 0 0, .agg #[.int .i64 0, .int .i64 0, .string ⟨#[]⟩, .string ⟨#[]⟩, .bool false, .int .i64 0]] rfl (by kernel_rfl) (by kernel_rfl) (by kernel_rfl) (atomTurns_row os enc))
    (by kernel_rfl) (fun t ht => ?_) (by kernel_rfl) (by kernel_rfl) u_bool rfl rfl (fun ds hd => ?_) (fun W base args ds ps hval hA hw => ?_) (fun W h => glob_laid h)
  · have h : (Tryz.f4.params.toList.all fun t => Tryz.prog.readableRec t && decide (t < Tryz.prog.types.size)) = true := by kernel_rfl
    have g := List.all_eq_true.1 h t ht
    rw [Bool.and_eq_true] at g
    exact ⟨g.1, of_decide_eq_true g.2⟩
  · have h : Tryz.f4.params.toList.length = 3 := by kernel_rfl
    rw [h] at hd
    match ds, hd with
    | [d0, d1, d2], _ => rfl
  · have h : Tryz.f4.params = #[t__2_int, t_L_api_Atom, t_api_Node] := by kernel_rfl
    rw [h] at hval hA hw
    obtain ⟨v0, vs0, d0, ds0, p0, q0, rfl, rfl, rfl, h0, r0⟩ := Go.ChangeShapes.trodAll_cons hA
    obtain ⟨v1, vs1, d1, ds1, p1, q1, rfl, rfl, rfl, h1, r1⟩ := Go.ChangeShapes.trodAll_cons r0
    obtain ⟨v2, vs2, d2, ds2, p2, q2, rfl, rfl, rfl, h2, r2⟩ := Go.ChangeShapes.trodAll_cons r1
    obtain ⟨rfl, rfl, rfl⟩ := Go.ChangeShapes.trodAll_nil r2
    obtain ⟨a0, g0, w0⟩ := rd_I2 (hval 0 t__2_int v0 rfl rfl) h0 (fun n hn => hw n (weightsEach_mem _ _ 0 t__2_int d0 rfl rfl hn))
    obtain ⟨a1, g1, w1⟩ := rd_arg u_atoms rd_atoms (fun _ => rfl) (hval 1 t_L_api_Atom v1 rfl rfl) h1 (fun n hn => hw n (weightsEach_mem _ _ 1 t_L_api_Atom d1 rfl rfl hn))
    obtain ⟨a2, g2, w2⟩ := rd_N (hval 2 t_api_Node v2 rfl rfl) h2 (fun n hn => hw n (weightsEach_mem _ _ 2 t_api_Node d2 rfl rfl hn))
    exact ⟨[encI2 a0, encAs a1, encN a2], repL_cons w0 (repL_cons w1 (repL_cons w2 repL_nil)), atomTurns_spec a0 a1 a2 g0 g1 g2⟩

theorem atomTurns_q0 : (Rows.atomTurnsRow.wf (OpenSpec.ofChange (OpenSpec.ofChange Rows.atomTurnsSpec).bare)) = true := by kernel_rfl
theorem atomTurns_q1 : (laidOutB Tryz.pinned.checked.prog) = true := by kernel_rfl
theorem atomTurns_q2 : (mapsRowed Tryz.pinned.checked.prog) = true := by kernel_rfl
theorem atomTurns_q3 : (Tryz.f4.params.all (Tryz.pinned.checked.prog.readableRec ·)) = true := by kernel_rfl
theorem atomTurns_q4 : (namedTie Tryz.pinned.checked.prog Rows.atomTurnsRow.named (OpenSpec.ofChange Rows.atomTurnsSpec).bare.vars) = true := by kernel_rfl
theorem atomTurns_q5 : ((Rows.atomTurnsRow.stops == [])) = true := by kernel_rfl
theorem atomTurns_q6 : ((Tryz.pinned.checked.prog.stops == [])) = true := by kernel_rfl
theorem atomTurns_q7 : ((Rows.atomTurnsRow.knobs == [])) = true := by kernel_rfl
theorem atomTurns_q8 : ((Tryz.pinned.checked.prog.stopKnobs == [])) = true := by kernel_rfl
theorem atomTurns_q9 : ((Rows.atomTurnsRow.inPlace == Tryz.pinned.checked.prog.inPlace f_loupelaw11_AtomTurns)) = true := by kernel_rfl
theorem atomTurns_q10 : ((Rows.atomTurnsRow.unfollowed == Tryz.pinned.checked.prog.unfollowed f_loupelaw11_AtomTurns)) = true := by kernel_rfl
theorem atomTurns_q11 : ((Rows.atomTurnsRow.recurses == Tryz.pinned.checked.prog.recurses f_loupelaw11_AtomTurns)) = true := by kernel_rfl
theorem atomTurns_q12 : ((Rows.atomTurnsRow.named == Tryz.pinned.checked.prog.varsNamed f_loupelaw11_AtomTurns)) = true := by kernel_rfl
theorem atomTurns_q13 : ((Rows.atomTurnsRow.maps == (Tryz.f4.params.toList ++ (OpenSpec.ofChange Rows.atomTurnsSpec).bare.plain.varTypes Tryz.pinned.checked.prog).any (Tryz.pinned.checked.prog.mapsRec ·))) = true := by kernel_rfl
theorem atomTurns_q14 : ((Rows.atomTurnsRow.ifaces == (Tryz.f4.params.toList ++ (OpenSpec.ofChange Rows.atomTurnsSpec).bare.plain.varTypes Tryz.pinned.checked.prog).any (Tryz.pinned.checked.prog.ifacesRec ·))) = true := by kernel_rfl
theorem atomTurns_q15 : ((Rows.atomTurnsRow.mapsOut == Tryz.pinned.checked.prog.mapsAmong Tryz.f4.resultTypes.toList)) = true := by kernel_rfl
theorem atomTurns_q16 : ((Rows.atomTurnsRow.loops == (Tryz.f4.params.toList ++ (OpenSpec.ofChange Rows.atomTurnsSpec).bare.plain.varTypes Tryz.pinned.checked.prog).any (Tryz.pinned.checked.prog.loopsFrom ·))) = true := by kernel_rfl
theorem atomTurns_q17 : ((Rows.atomTurnsRow.wideKeys == (Tryz.f4.params.toList ++ (OpenSpec.ofChange Rows.atomTurnsSpec).bare.plain.varTypes Tryz.pinned.checked.prog ++ Tryz.f4.resultTypes.toList).any (Tryz.pinned.checked.prog.wideKeysFrom ·))) = true := by kernel_rfl
theorem atomTurns_q18 : ((OpenSpec.ofChange Rows.atomTurnsSpec).bare.vars.all (Tryz.pinned.checked.prog.varReadable ·)) = true := by kernel_rfl
theorem atomTurns_q19 : (Tryz.f4.resultTypes.all (fun t => Tryz.pinned.checked.prog.readableRec t && decide (t < Tryz.pinned.checked.prog.types.size))) = true := by kernel_rfl
theorem atomTurns_q20 : ((Rows.atomTurnsRow.ifacesOut == Tryz.f4.resultTypes.toList.any (Tryz.pinned.checked.prog.ifacesRec ·))) = true := by kernel_rfl
theorem atomTurns_q21 : ((Rows.atomTurnsRow.loopsOut == Tryz.f4.resultTypes.toList.any (Tryz.pinned.checked.prog.loopsFrom ·))) = true := by kernel_rfl
theorem atomTurns_q22 : ((Rows.atomTurnsRow.plainKeys == Tryz.pinned.checked.prog.plainKeys)) = true := by kernel_rfl
theorem atomTurns_q23 : (Rows.atomTurnsRow.shortTexts.isNone) = true := by kernel_rfl
theorem atomTurns_q24 : (Tryz.pinned.checked.prog.stopsHeard) = true := by kernel_rfl
theorem atomTurns_q25 : (Tryz.pinned.checked.prog.mayEnter) = true := by kernel_rfl
theorem atomTurns_q26 : ((Rows.atomTurnsRow.lifted == Tryz.pinned.checked.prog.liftsFinal)) = true := by kernel_rfl
theorem atomTurns_q27 : ((Tryz.pinned.checked.prog.make == some Rows.atomTurnsRow.make)) = true := by kernel_rfl
theorem atomTurns_q28 : ((Rows.atomTurnsRow.kinds == (if Rows.atomTurnsRow.domain.isEmpty then [] else Tryz.f4.params.toList.map fun t => match Tryz.pinned.checked.prog.underlying t with | some (.int k) => some k | _ => none))) = true := by kernel_rfl
theorem atomTurns_q29 : ((Rows.atomTurnsRow.pinned == Rows.atomTurnsRow.pinnedBy)) = true := by kernel_rfl
theorem atomTurns_q30 : ((Rows.atomTurnsRow.veiled == (Tryz.f4.params.toList ++ (OpenSpec.ofChange Rows.atomTurnsSpec).bare.plain.varTypes Tryz.pinned.checked.prog ++ Tryz.f4.resultTypes.toList).any (Tryz.pinned.checked.prog.veiledRec ·))) = true := by kernel_rfl
theorem atomTurns_q31 : (Rows.atomTurnsRow.veiledFits Tryz.pinned.checked.prog Tryz.f4.params.toList (Tryz.f4.params.toList ++ (OpenSpec.ofChange Rows.atomTurnsSpec).bare.plain.varTypes Tryz.pinned.checked.prog ++ Tryz.f4.resultTypes.toList)) = true := by kernel_rfl
theorem atomTurns_qj : joinedFacts Tryz.pinned.checked.prog f_loupelaw11_AtomTurns Tryz.f4 (OpenSpec.ofChange Rows.atomTurnsSpec).bare Rows.atomTurnsRow = true := joined_mk atomTurns_q0 atomTurns_q1 atomTurns_q2 atomTurns_q3 atomTurns_q4 atomTurns_q5 atomTurns_q6 atomTurns_q7 atomTurns_q8 atomTurns_q9 atomTurns_q10 atomTurns_q11 atomTurns_q12 atomTurns_q13 atomTurns_q14 atomTurns_q15 atomTurns_q16 atomTurns_q17 atomTurns_q18 atomTurns_q19 atomTurns_q20 atomTurns_q21 atomTurns_q22 atomTurns_q23 atomTurns_q24 atomTurns_q25 atomTurns_q26 atomTurns_q27 atomTurns_q28 atomTurns_q29 atomTurns_q30 atomTurns_q31
theorem atomTurns_qn : Tryz.pinned.checked.prog.funcNamed Rows.atomTurnsRow.func = some f_loupelaw11_AtomTurns := by kernel_rfl
theorem atomTurns_qd : Tryz.f4.isInstance Tryz.pinned.checked.prog Rows.atomTurnsRow.origin Rows.atomTurnsRow.targs := of_decide_eq_true (by kernel_rfl)
theorem atomTurns_qw : Tryz.f4.isWrapper Tryz.pinned.checked.prog Rows.atomTurnsRow.wrapper Rows.atomTurnsRow.mainSum := by unfold Func.isWrapper; first | (rw [if_pos (by decide +kernel)]; kernel_rfl) | (rw [if_neg (by decide +kernel)]; exact ⟨rfl, rfl⟩)
theorem atomTurns_q40 : Rows.atomTurnsRow.wfByText (OpenSpec.ofChange Rows.atomTurnsSpec) = true := by kernel_rfl
theorem atomTurns_q41 : Tryz.pinned.checked.prog.mainIs = some ((true, "e72485a34481c9af3caea48386f20d1b6f5dea03a4c16c0b11945e70a970f3e9").1, ((true, "e72485a34481c9af3caea48386f20d1b6f5dea03a4c16c0b11945e70a970f3e9") : Bool × String).2.toList) := by kernel_rfl
theorem atomTurns_q42 : true = Tryz.pinned.checked.prog.looks [] := by kernel_rfl
theorem atomTurns_q43 : (Tryz.f4.params.toList.all fun t => !Tryz.prog.wantsStandIn t) = true := by kernel_rfl
theorem atomTurns_q44 : false = Rows.atomTurnsRow.goesBy Tryz.pinned.checked.prog := by kernel_rfl

theorem atomTurns_over : Rows.atomTurnsRow.holds Tryz.pinned (OpenSpec.ofChange Rows.atomTurnsSpec) :=
  OpenClaim.holds_of_cond f_loupelaw11_AtomTurns Tryz.f4 rfl rfl rfl rfl rfl rfl rfl ⟨rfl, rfl, rfl, rfl, rfl⟩ rfl rfl rfl rfl rfl atomTurns_qn Tryz.func4 atomTurns_qj
    atomTurns_qd atomTurns_qw
    (fun os started H enc _ F0 => by rw [OpenClaim.pre_eq_preRow]; exact atomTurns_lifted os started H enc)

theorem atomTurns_holds : Rows.AtomTurnsCardSaid :=
  Claim7.holds_tied_plain_at .later [] [.data, .pinned] true (true, "e72485a34481c9af3caea48386f20d1b6f5dea03a4c16c0b11945e70a970f3e9") true
    atomTurns_over (fun _ h => by cases h) atomTurns_q40 (fun _ h => by cases h) atomTurns_row_tie rfl ⟨rfl, rfl⟩ atomTurns_q41 rfl
    (fun f fn hf hfn => by
      obtain rfl : f = f_loupelaw11_AtomTurns := Option.some.inj (atomTurns_qn.symm.trans hf) |>.symm
      obtain rfl : fn = Tryz.f4 := (Option.some.inj (Tryz.func4.symm.trans hfn)).symm
      refine ⟨atomTurns_q42, fun j t ht => ?_⟩
      have g := List.all_eq_true.1 atomTurns_q43 t (List.mem_of_getElem? (by simpa using ht))
      exact (by simpa using g : Tryz.prog.wantsStandIn t = false))
    atomTurns_q44
#print axioms atomTurns_holds

end Go.Proofs.YtcememnoihgipaaGreatDoor
