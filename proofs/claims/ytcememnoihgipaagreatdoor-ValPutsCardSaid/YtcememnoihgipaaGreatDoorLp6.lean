/-
  The statement ValPuts, a tied card: whatever its arguments the law returns true and leaves them as they are. No condition.
-/
import Derived.Test.YtcememnoihgipaaGreatDoorLp5
import Derived.Test.YtcememnoihgipaaGreatDoorRows
import Derived.Test.YtcememnoihgipaaGreatDoorCards
import Derived.Test.YtcememnoihgipaaGreatDoorTie
import Derived.SevenTiedAt

set_option linter.all false
namespace Go.Proofs.YtcememnoihgipaaGreatDoor
open Go Lp Go.Shelf Go.RowKit

set_option maxHeartbeats 2000000
set_option maxRecDepth 100000

theorem valPuts_row (os : Os) {H : Type} (enc : TypeId × Value → H) :
    (OpenSpec.ofChange Rows.valPutsSpec).preRow enc Tryz.prog Tryz.f6 Rows.valPutsRow.domain false Rows.valPutsRow.laid ((laidWorld os).forCall (fun _ _ => 0) ⟨#[], #[.slice none 0 0, .agg #[.string ⟨#[]⟩, .string ⟨#[]⟩], .slice none 0 0], []⟩).memory #[.slice none 0 0, .agg #[.string ⟨#[]⟩, .string ⟨#[]⟩], .slice none 0 0] := by
  have hw : (DataW.whole enc Tryz.prog ((laidWorld os).forCall (fun _ _ => 0) ⟨#[], #[.slice none 0 0, .agg #[.string ⟨#[]⟩, .string ⟨#[]⟩], .slice none 0 0], []⟩).memory Tryz.f6.params.toList (OpenSpec.ofChange Rows.valPutsSpec).vars false (#[.slice none 0 0, .agg #[.string ⟨#[]⟩, .string ⟨#[]⟩], .slice none 0 0] : Array Value).toList 8).map (fun x => (x.1, x.2.1)) =
      some ([.nil, .agg [.lit (.string []), .lit (.string [])], .nil], []) := by kernel_rfl
  obtain ⟨⟨x1, x2, x3⟩, hx, hx1⟩ := Option.map_eq_some_iff.1 hw
  simp only [Prod.mk.injEq] at hx1
  obtain ⟨rfl, rfl⟩ := hx1
  exact OpenSpec.preRow_of_cond 8 hx (by kernel_rfl) (fun k hk => by cases hk) (by kernel_rfl) (laid_met os _)

theorem valPuts_lifted (os : Os) (started : os.Started) (H : Type) (enc : TypeId × Value → H) :
    ReturnsInHanded {} Tryz.checked os f_loupelaw02_ValPuts .any ((OpenSpec.ofChange Rows.valPutsSpec).preRow enc Tryz.prog Tryz.f6 Rows.valPutsRow.domain false Rows.valPutsRow.laid) (Rows.valPutsSpec.post enc Tryz.prog Tryz.f6 false true false false) := by
  refine law_lifted2 (C := Tryz.checked) (tb := t_bool) (by kernel_rfl) started (by kernel_rfl) Tryz.func6
    (witness_row_atRef (enc := enc) (C := Tryz.checked) false (laidWorld os) #[.slice none 0 0, .agg #[.string ⟨#[]⟩, .string ⟨#[]⟩], .slice none 0 0] rfl (by kernel_rfl) (by kernel_rfl) (by kernel_rfl) (valPuts_row os enc))
    (by kernel_rfl) (fun t ht => ?_) (by kernel_rfl) (by kernel_rfl) u_bool rfl rfl (fun ds hd => ?_) (fun W base args ds ps hval hA hw => ?_) (fun W h => glob_laid h)
  · have h : (Tryz.f6.params.toList.all fun t => Tryz.prog.readableRec t && decide (t < Tryz.prog.types.size)) = true := by kernel_rfl
    have g := List.all_eq_true.1 h t ht
    rw [Bool.and_eq_true] at g
    exact ⟨g.1, of_decide_eq_true g.2⟩
  · have h : Tryz.f6.params.toList.length = 3 := by kernel_rfl
    rw [h] at hd
    match ds, hd with
    | [d0, d1, d2], _ => rfl
  · have h : Tryz.f6.params = #[t_api_Val, t__2_string, t_api_Val] := by kernel_rfl
    rw [h] at hval hA hw
    obtain ⟨v0, vs0, d0, ds0, p0, q0, rfl, rfl, rfl, h0, r0⟩ := Go.ChangeShapes.trodAll_cons hA
    obtain ⟨v1, vs1, d1, ds1, p1, q1, rfl, rfl, rfl, h1, r1⟩ := Go.ChangeShapes.trodAll_cons r0
    obtain ⟨v2, vs2, d2, ds2, p2, q2, rfl, rfl, rfl, h2, r2⟩ := Go.ChangeShapes.trodAll_cons r1
    obtain ⟨rfl, rfl, rfl⟩ := Go.ChangeShapes.trodAll_nil r2
    obtain ⟨a0, g0, w0⟩ := rd_arg u_val rd_val (fun _ => rfl) (hval 0 t_api_Val v0 rfl rfl) h0 (fun n hn => hw n (weightsEach_mem _ _ 0 t_api_Val d0 rfl rfl hn))
    obtain ⟨a1, g1, w1⟩ := rd_T2 (hval 1 t__2_string v1 rfl rfl) h1 (fun n hn => hw n (weightsEach_mem _ _ 1 t__2_string d1 rfl rfl hn))
    obtain ⟨a2, g2, w2⟩ := rd_arg u_val rd_val (fun _ => rfl) (hval 2 t_api_Val v2 rfl rfl) h2 (fun n hn => hw n (weightsEach_mem _ _ 2 t_api_Val d2 rfl rfl hn))
    exact ⟨[encV a0, encT2 a1, encV a2], repL_cons w0 (repL_cons w1 (repL_cons w2 repL_nil)), valPuts_spec a0 a1 a2 g0 g1 g2⟩

theorem and_t {a b : Bool} (ha : a = true) (hb : b = true) : (a && b) = true := by rw [ha, hb]; rfl

theorem joined_mk {P : Program} {f : FuncId} {fn : Func} {s : ChangeSpec} {c : OpenClaim}
    (h0 : (c.wf (OpenSpec.ofChange s)) = true)
    (h1 : (laidOutB P) = true)
    (h2 : (mapsRowed P) = true)
    (h3 : (fn.params.all (P.readableRec ·)) = true)
    (h4 : (namedTie P c.named s.vars) = true)
    (h5 : ((c.stops == [])) = true)
    (h6 : ((P.stops == [])) = true)
    (h7 : ((c.knobs == [])) = true)
    (h8 : ((P.stopKnobs == [])) = true)
    (h9 : ((c.inPlace == P.inPlace f)) = true)
    (h10 : ((c.unfollowed == P.unfollowed f)) = true)
    (h11 : ((c.recurses == P.recurses f)) = true)
    (h12 : ((c.named == P.varsNamed f)) = true)
    (h13 : ((c.maps == (fn.params.toList ++ s.plain.varTypes P).any (P.mapsRec ·))) = true)
    (h14 : ((c.ifaces == (fn.params.toList ++ s.plain.varTypes P).any (P.ifacesRec ·))) = true)
    (h15 : ((c.mapsOut == P.mapsAmong fn.resultTypes.toList)) = true)
    (h16 : ((c.loops == (fn.params.toList ++ s.plain.varTypes P).any (P.loopsFrom ·))) = true)
    (h17 : ((c.wideKeys == (fn.params.toList ++ s.plain.varTypes P ++ fn.resultTypes.toList).any (P.wideKeysFrom ·))) = true)
    (h18 : (s.vars.all (P.varReadable ·)) = true)
    (h19 : (fn.resultTypes.all (fun t => P.readableRec t && decide (t < P.types.size))) = true)
    (h20 : ((c.ifacesOut == fn.resultTypes.toList.any (P.ifacesRec ·))) = true)
    (h21 : ((c.loopsOut == fn.resultTypes.toList.any (P.loopsFrom ·))) = true)
    (h22 : ((c.plainKeys == P.plainKeys)) = true)
    (h23 : (c.shortTexts.isNone) = true)
    (h24 : (P.stopsHeard) = true)
    (h25 : (P.mayEnter) = true)
    (h26 : ((c.lifted == P.liftsFinal)) = true)
    (h27 : ((P.make == some c.make)) = true)
    (h28 : ((c.kinds == (if c.domain.isEmpty then [] else fn.params.toList.map fun t => match P.underlying t with | some (.int k) => some k | _ => none))) = true)
    (h29 : ((c.pinned == c.pinnedBy)) = true)
    (h30 : ((c.veiled == (fn.params.toList ++ s.plain.varTypes P ++ fn.resultTypes.toList).any (P.veiledRec ·))) = true)
    (h31 : (c.veiledFits P fn.params.toList (fn.params.toList ++ s.plain.varTypes P ++ fn.resultTypes.toList)) = true) : joinedFacts P f fn s c = true := by
  unfold joinedFacts
  exact (and_t (and_t (and_t (and_t (and_t (and_t (and_t (and_t (and_t (and_t (and_t (and_t (and_t (and_t (and_t (and_t (and_t (and_t (and_t (and_t (and_t (and_t (and_t (and_t (and_t (and_t (and_t (and_t (and_t (and_t (and_t h0 h1) h2) h3) h4) h5) h6) h7) h8) h9) h10) h11) h12) h13) h14) h15) h16) h17) h18) h19) h20) h21) h22) h23) h24) h25) h26) h27) h28) h29) h30) h31)

theorem valPuts_q0 : (Rows.valPutsRow.wf (OpenSpec.ofChange (OpenSpec.ofChange Rows.valPutsSpec).bare)) = true := by kernel_rfl
theorem valPuts_q1 : (laidOutB Tryz.pinned.checked.prog) = true := by kernel_rfl
theorem valPuts_q2 : (mapsRowed Tryz.pinned.checked.prog) = true := by kernel_rfl
theorem valPuts_q3 : (Tryz.f6.params.all (Tryz.pinned.checked.prog.readableRec ·)) = true := by kernel_rfl
theorem valPuts_q4 : (namedTie Tryz.pinned.checked.prog Rows.valPutsRow.named (OpenSpec.ofChange Rows.valPutsSpec).bare.vars) = true := by kernel_rfl
theorem valPuts_q5 : ((Rows.valPutsRow.stops == [])) = true := by kernel_rfl
theorem valPuts_q6 : ((Tryz.pinned.checked.prog.stops == [])) = true := by kernel_rfl
theorem valPuts_q7 : ((Rows.valPutsRow.knobs == [])) = true := by kernel_rfl
theorem valPuts_q8 : ((Tryz.pinned.checked.prog.stopKnobs == [])) = true := by kernel_rfl
theorem valPuts_q9 : ((Rows.valPutsRow.inPlace == Tryz.pinned.checked.prog.inPlace f_loupelaw02_ValPuts)) = true := by kernel_rfl
theorem valPuts_q10 : ((Rows.valPutsRow.unfollowed == Tryz.pinned.checked.prog.unfollowed f_loupelaw02_ValPuts)) = true := by kernel_rfl
theorem valPuts_q11 : ((Rows.valPutsRow.recurses == Tryz.pinned.checked.prog.recurses f_loupelaw02_ValPuts)) = true := by kernel_rfl
theorem valPuts_q12 : ((Rows.valPutsRow.named == Tryz.pinned.checked.prog.varsNamed f_loupelaw02_ValPuts)) = true := by kernel_rfl
theorem valPuts_q13 : ((Rows.valPutsRow.maps == (Tryz.f6.params.toList ++ (OpenSpec.ofChange Rows.valPutsSpec).bare.plain.varTypes Tryz.pinned.checked.prog).any (Tryz.pinned.checked.prog.mapsRec ·))) = true := by kernel_rfl
theorem valPuts_q14 : ((Rows.valPutsRow.ifaces == (Tryz.f6.params.toList ++ (OpenSpec.ofChange Rows.valPutsSpec).bare.plain.varTypes Tryz.pinned.checked.prog).any (Tryz.pinned.checked.prog.ifacesRec ·))) = true := by kernel_rfl
theorem valPuts_q15 : ((Rows.valPutsRow.mapsOut == Tryz.pinned.checked.prog.mapsAmong Tryz.f6.resultTypes.toList)) = true := by kernel_rfl
theorem valPuts_q16 : ((Rows.valPutsRow.loops == (Tryz.f6.params.toList ++ (OpenSpec.ofChange Rows.valPutsSpec).bare.plain.varTypes Tryz.pinned.checked.prog).any (Tryz.pinned.checked.prog.loopsFrom ·))) = true := by kernel_rfl
theorem valPuts_q17 : ((Rows.valPutsRow.wideKeys == (Tryz.f6.params.toList ++ (OpenSpec.ofChange Rows.valPutsSpec).bare.plain.varTypes Tryz.pinned.checked.prog ++ Tryz.f6.resultTypes.toList).any (Tryz.pinned.checked.prog.wideKeysFrom ·))) = true := by kernel_rfl
theorem valPuts_q18 : ((OpenSpec.ofChange Rows.valPutsSpec).bare.vars.all (Tryz.pinned.checked.prog.varReadable ·)) = true := by kernel_rfl
theorem valPuts_q19 : (Tryz.f6.resultTypes.all (fun t => Tryz.pinned.checked.prog.readableRec t && decide (t < Tryz.pinned.checked.prog.types.size))) = true := by kernel_rfl
theorem valPuts_q20 : ((Rows.valPutsRow.ifacesOut == Tryz.f6.resultTypes.toList.any (Tryz.pinned.checked.prog.ifacesRec ·))) = true := by kernel_rfl
theorem valPuts_q21 : ((Rows.valPutsRow.loopsOut == Tryz.f6.resultTypes.toList.any (Tryz.pinned.checked.prog.loopsFrom ·))) = true := by kernel_rfl
theorem valPuts_q22 : ((Rows.valPutsRow.plainKeys == Tryz.pinned.checked.prog.plainKeys)) = true := by kernel_rfl
theorem valPuts_q23 : (Rows.valPutsRow.shortTexts.isNone) = true := by kernel_rfl
theorem valPuts_q24 : (Tryz.pinned.checked.prog.stopsHeard) = true := by kernel_rfl
theorem valPuts_q25 : (Tryz.pinned.checked.prog.mayEnter) = true := by kernel_rfl
theorem valPuts_q26 : ((Rows.valPutsRow.lifted == Tryz.pinned.checked.prog.liftsFinal)) = true := by kernel_rfl
theorem valPuts_q27 : ((Tryz.pinned.checked.prog.make == some Rows.valPutsRow.make)) = true := by kernel_rfl
theorem valPuts_q28 : ((Rows.valPutsRow.kinds == (if Rows.valPutsRow.domain.isEmpty then [] else Tryz.f6.params.toList.map fun t => match Tryz.pinned.checked.prog.underlying t with | some (.int k) => some k | _ => none))) = true := by kernel_rfl
theorem valPuts_q29 : ((Rows.valPutsRow.pinned == Rows.valPutsRow.pinnedBy)) = true := by kernel_rfl
theorem valPuts_q30 : ((Rows.valPutsRow.veiled == (Tryz.f6.params.toList ++ (OpenSpec.ofChange Rows.valPutsSpec).bare.plain.varTypes Tryz.pinned.checked.prog ++ Tryz.f6.resultTypes.toList).any (Tryz.pinned.checked.prog.veiledRec ·))) = true := by kernel_rfl
theorem valPuts_q31 : (Rows.valPutsRow.veiledFits Tryz.pinned.checked.prog Tryz.f6.params.toList (Tryz.f6.params.toList ++ (OpenSpec.ofChange Rows.valPutsSpec).bare.plain.varTypes Tryz.pinned.checked.prog ++ Tryz.f6.resultTypes.toList)) = true := by kernel_rfl
theorem valPuts_qj : joinedFacts Tryz.pinned.checked.prog f_loupelaw02_ValPuts Tryz.f6 (OpenSpec.ofChange Rows.valPutsSpec).bare Rows.valPutsRow = true := joined_mk valPuts_q0 valPuts_q1 valPuts_q2 valPuts_q3 valPuts_q4 valPuts_q5 valPuts_q6 valPuts_q7 valPuts_q8 valPuts_q9 valPuts_q10 valPuts_q11 valPuts_q12 valPuts_q13 valPuts_q14 valPuts_q15 valPuts_q16 valPuts_q17 valPuts_q18 valPuts_q19 valPuts_q20 valPuts_q21 valPuts_q22 valPuts_q23 valPuts_q24 valPuts_q25 valPuts_q26 valPuts_q27 valPuts_q28 valPuts_q29 valPuts_q30 valPuts_q31
theorem valPuts_qn : Tryz.pinned.checked.prog.funcNamed Rows.valPutsRow.func = some f_loupelaw02_ValPuts := by kernel_rfl
theorem valPuts_qd : Tryz.f6.isInstance Tryz.pinned.checked.prog Rows.valPutsRow.origin Rows.valPutsRow.targs := of_decide_eq_true (by kernel_rfl)
theorem valPuts_qw : Tryz.f6.isWrapper Tryz.pinned.checked.prog Rows.valPutsRow.wrapper Rows.valPutsRow.mainSum := by unfold Func.isWrapper; first | (rw [if_pos (by decide +kernel)]; kernel_rfl) | (rw [if_neg (by decide +kernel)]; exact ⟨rfl, rfl⟩)
theorem valPuts_q40 : Rows.valPutsRow.wfByText (OpenSpec.ofChange Rows.valPutsSpec) = true := by kernel_rfl
theorem valPuts_q41 : Tryz.pinned.checked.prog.mainIs = some ((true, "e72485a34481c9af3caea48386f20d1b6f5dea03a4c16c0b11945e70a970f3e9").1, ((true, "e72485a34481c9af3caea48386f20d1b6f5dea03a4c16c0b11945e70a970f3e9") : Bool × String).2.toList) := by kernel_rfl
theorem valPuts_q42 : true = Tryz.pinned.checked.prog.looks [] := by kernel_rfl
theorem valPuts_q43 : (Tryz.f6.params.toList.all fun t => !Tryz.prog.wantsStandIn t) = true := by kernel_rfl
theorem valPuts_q44 : false = Rows.valPutsRow.goesBy Tryz.pinned.checked.prog := by kernel_rfl

theorem valPuts_over : Rows.valPutsRow.holds Tryz.pinned (OpenSpec.ofChange Rows.valPutsSpec) :=
  OpenClaim.holds_of_cond f_loupelaw02_ValPuts Tryz.f6 rfl rfl rfl rfl rfl rfl rfl ⟨rfl, rfl, rfl, rfl, rfl⟩ rfl rfl rfl rfl rfl valPuts_qn Tryz.func6 valPuts_qj
    valPuts_qd valPuts_qw
    (fun os started H enc _ F0 => by rw [OpenClaim.pre_eq_preRow]; exact valPuts_lifted os started H enc)

theorem valPuts_holds : Rows.ValPutsCardSaid :=
  Claim7.holds_tied_plain_at .later [] [.data, .pinned] true (true, "e72485a34481c9af3caea48386f20d1b6f5dea03a4c16c0b11945e70a970f3e9") true
    valPuts_over (fun _ h => by cases h) valPuts_q40 (fun _ h => by cases h) valPuts_row_tie rfl ⟨rfl, rfl⟩ valPuts_q41 rfl
    (fun f fn hf hfn => by
      obtain rfl : f = f_loupelaw02_ValPuts := Option.some.inj (valPuts_qn.symm.trans hf) |>.symm
      obtain rfl : fn = Tryz.f6 := (Option.some.inj (Tryz.func6.symm.trans hfn)).symm
      refine ⟨valPuts_q42, fun j t ht => ?_⟩
      have g := List.all_eq_true.1 valPuts_q43 t (List.mem_of_getElem? (by simpa using ht))
      exact (by simpa using g : Tryz.prog.wantsStandIn t = false))
    valPuts_q44
#print axioms valPuts_holds

end Go.Proofs.YtcememnoihgipaaGreatDoor
