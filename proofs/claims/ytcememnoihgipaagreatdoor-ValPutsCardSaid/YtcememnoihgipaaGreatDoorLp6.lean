/-
  The statement ValPuts, a tied card: whatever its arguments the law returns true and leaves them as they are. No condition.
-/
import Derived.Test.YtcememnoihgipaaGreatDoorLp5
import Derived.Test.YtcememnoihgipaaGreatDoorRows
import Derived.Test.YtcememnoihgipaaGreatDoorCards
import Derived.Test.YtcememnoihgipaaGreatDoorTie
import Derived.SevenTiedAt

set_option linter.all false
namespace Go.Proofs.YtcememnoihgipaaGreatDoor
open Go Lp Go.Shelf Go.RowKit

set_option maxHeartbeats 2000000
set_option maxRecDepth 100000

theorem valPuts_row (os : Os) {H : Type} (enc : TypeId × Value → H) :
    (OpenSpec.ofChange Rows.valPutsSpec).preRow enc Tryz.prog Tryz.f6 Rows.valPutsRow.domain false Rows.valPutsRow.laid ((laidWorld os).forCall (fun _ _ => 0) ⟨#[], #[.slice none 0 0, .agg #[.string ⟨#[]⟩, .string ⟨#[]⟩], .slice none 0 0], []⟩).memory #[.slice none 0 0, .agg #[.string ⟨#[]⟩, .string ⟨#[]⟩], .slice none 0 0] := by
  have hw : (DataW.whole enc Tryz.prog ((laidWorld os).forCall (fun _ _ => 0) ⟨#[], #[.slice none 0 0, .agg #[.string ⟨#[]⟩, .string ⟨#[]⟩], .slice none 0 0], []⟩).memory Tryz.f6.params.toList (OpenSpec.ofChange Rows.valPutsSpec).vars false (#[.slice none 0 0, .agg #[.string ⟨#[]⟩, .string ⟨#[]⟩], .slice none 0 0] : Array Value).toList 8).map (fun x => (x.1, x.2.1)) =
      some ([.nil, .agg [.lit (.string []), .lit (.string [])], .nil], []) := by kernel_rfl
  obtain ⟨⟨x1, x2, x3⟩, hx, hx1⟩ := Option.map_eq_some_iff.1 hw
  simp only [Prod.mk.injEq] at hx1
  obtain ⟨rfl, rfl⟩ := hx1
  exact OpenSpec.preRow_of_cond 8 hx (by kernel_rfl) (fun k hk => by cases hk) (by kernel_rfl) (laid_met os _)

theorem valPuts_lifted (os : Os) (started : os.Started) (H : Type) (enc : TypeId × Value → H) :
    ReturnsInHanded {} Tryz.checked os f_loupelaw02_ValPuts .any ((OpenSpec.ofChange Rows.valPutsSpec).preRow enc Tryz.prog Tryz.f6 Rows.valPutsRow.domain false Rows.valPutsRow.laid) (Rows.valPutsSpec.post enc Tryz.prog Tryz.f6 false true false false) := by
  refine law_lifted2 (C := Tryz.checked) (tb := t_bool) (by kernel_rfl) started (by kernel_rfl) Tryz.func6
    (witness_row_atRef (enc := enc) (C := Tryz.checked) false (laidWorld os) #[.slice none 0 0, .agg #[.string ⟨#[]⟩, .string ⟨#[]⟩], .slice none 0 0] rfl (by kernel_rfl) (by kernel_rfl) (by kernel_rfl) (valPuts_row os enc))
    (by kernel_rfl) (fun t ht => ?_) (by kernel_rfl) (by kernel_rfl) u_bool rfl rfl (fun ds hd => ?_) (fun W base args ds ps hval hA hw => ?_) (fun W h => glob_laid h)
  · have h : (Tryz.f6.params.toList.all fun t => Tryz.prog.readableRec t && decide (t < Tryz.prog.types.size)) = true := by kernel_rfl
    have g := List.all_eq_true.1 h t ht
    rw [Bool.and_eq_true] at g
    exact ⟨g.1, of_decide_eq_true g.2⟩
  · have h : Tryz.f6.params.toList.length = 3 := by kernel_rfl
    rw [h] at hd
    match ds, hd with
    | [d0, d1, d2], _ => rfl
  · have h : Tryz.f6.params = #[t_api_Val, t__2_string, t_api_Val] := by kernel_rfl
    rw [h] at hval hA hw
    obtain ⟨v0, vs0, d0, ds0, p0, q0, rfl, rfl, rfl, h0, r0⟩ := Go.ChangeShapes.trodAll_cons hA
    obtain ⟨v1, vs1, d1, ds1, p1, q1, rfl, rfl, rfl, h1, r1⟩ := Go.ChangeShapes.trodAll_cons r0
    obtain ⟨v2, vs2, d2, ds2, p2, q2, rfl, rfl, rfl, h2, r2⟩ := Go.ChangeShapes.trodAll_cons r1
    obtain ⟨rfl, rfl, rfl⟩ := Go.ChangeShapes.trodAll_nil r2
    obtain ⟨a0, g0, w0⟩ := rd_arg u_val rd_val (fun _ => rfl) (hval 0 t_api_Val v0 rfl rfl) h0 (fun n hn => hw n (weightsEach_mem _ _ 0 t_api_Val d0 rfl rfl hn))
    obtain ⟨a1, g1, w1⟩ := rd_T2 (hval 1 t__2_string v1 rfl rfl) h1 (fun n hn => hw n (weightsEach_mem _ _ 1 t__2_string d1 rfl rfl hn))
    obtain ⟨a2, g2, w2⟩ := rd_arg u_val rd_val (fun _ => rfl) (hval 2 t_api_Val v2 rfl rfl) h2 (fun n hn => hw n (weightsEach_mem _ _ 2 t_api_Val d2 rfl rfl hn))
    exact ⟨[encV a0, encT2 a1, encV a2], repL_cons w0 (repL_cons w1 (repL_cons w2 repL_nil)), valPuts_spec a0 a1 a2 g0 g1 g2⟩

theorem valPuts_over : Rows.valPutsRow.holds Tryz.pinned (OpenSpec.ofChange Rows.valPutsSpec) :=
  OpenClaim.holds_of_cond f_loupelaw02_ValPuts Tryz.f6 rfl rfl rfl rfl rfl rfl rfl ⟨rfl, rfl, rfl, rfl, rfl⟩ rfl rfl rfl rfl rfl (by kernel_rfl) Tryz.func6 (by kernel_rfl)
    (of_decide_eq_true (by kernel_rfl)) (by unfold Func.isWrapper; first | (rw [if_pos (by decide +kernel)]; kernel_rfl) | (rw [if_neg (by decide +kernel)]; exact ⟨rfl, rfl⟩))
    (fun os started H enc _ F0 => by rw [OpenClaim.pre_eq_preRow]; exact valPuts_lifted os started H enc)

theorem valPuts_holds : Rows.ValPutsCardSaid :=
  Claim7.holds_tied_plain_at .later [] [.data, .pinned] true (true, "e72485a34481c9af3caea48386f20d1b6f5dea03a4c16c0b11945e70a970f3e9") true
    valPuts_over (fun _ h => by cases h) (by kernel_rfl) (fun _ h => by cases h) valPuts_row_tie rfl ⟨rfl, rfl⟩ (by kernel_rfl) rfl
    (fun f fn hf hfn => by
      obtain rfl : f = f_loupelaw02_ValPuts := Option.some.inj ((show Tryz.prog.funcNamed "loupe/loupelaw02.ValPuts" = some f_loupelaw02_ValPuts by kernel_rfl).symm.trans hf) |>.symm
      obtain rfl : fn = Tryz.f6 := (Option.some.inj (Tryz.func6.symm.trans hfn)).symm
      refine ⟨by kernel_rfl, fun j t ht => ?_⟩
      have h : (Tryz.f6.params.toList.all fun t => !Tryz.prog.wantsStandIn t) = true := by kernel_rfl
      have g := List.all_eq_true.1 h t (List.mem_of_getElem? (by simpa using ht))
      exact (by simpa using g : Tryz.prog.wantsStandIn t = false))
    (by kernel_rfl)
#print axioms valPuts_holds

end Go.Proofs.YtcememnoihgipaaGreatDoor
