/-
  The statement ValOrder, a tied card: whatever its arguments the law returns true and leaves them as they are. No condition.
-/
import Derived.Test.YtcememnoihgipaaDoorLp7
import Derived.Test.YtcememnoihgipaaDoorRows
import Derived.Test.YtcememnoihgipaaDoorCards
import Derived.Test.YtcememnoihgipaaDoorTie
import Derived.SevenTiedAt

set_option linter.all false
namespace Go.Proofs.YtcememnoihgipaaDoor
open Go Lp Go.Shelf Go.RowKit

set_option maxHeartbeats 2000000
set_option maxRecDepth 100000

theorem valOrder_row (os : Os) {H : Type} (enc : TypeId × Value → H) :
    (OpenSpec.ofChange Rows.valOrderSpec).preRow enc Tryd.prog Tryd.f4 Rows.valOrderRow.domain false Rows.valOrderRow.laid ((laidWorld os).forCall (fun _ _ => 0) ⟨#[], #[.slice none 0 0, .slice none 0 0], []⟩).memory #[.slice none 0 0, .slice none 0 0] := by
  have hw : (DataW.whole enc Tryd.prog ((laidWorld os).forCall (fun _ _ => 0) ⟨#[], #[.slice none 0 0, .slice none 0 0], []⟩).memory Tryd.f4.params.toList (OpenSpec.ofChange Rows.valOrderSpec).vars false (#[.slice none 0 0, .slice none 0 0] : Array Value).toList 8).map (fun x => (x.1, x.2.1)) =
      some ([.nil, .nil], []) := by kernel_rfl
  obtain ⟨⟨x1, x2, x3⟩, hx, hx1⟩ := Option.map_eq_some_iff.1 hw
  simp only [Prod.mk.injEq] at hx1
  obtain ⟨rfl, rfl⟩ := hx1
  exact OpenSpec.preRow_of_cond 8 hx (by kernel_rfl) (fun k hk => by cases hk) (by kernel_rfl) (laid_met os _)

theorem valOrder_lifted (os : Os) (started : os.Started) (H : Type) (enc : TypeId × Value → H) :
    ReturnsInHanded {} Tryd.checked os f_loupelaw02_ValOrder .any ((OpenSpec.ofChange Rows.valOrderSpec).preRow enc Tryd.prog Tryd.f4 Rows.valOrderRow.domain false Rows.valOrderRow.laid) (Rows.valOrderSpec.post enc Tryd.prog Tryd.f4 false true false false) := by
  refine law_lifted2 (C := Tryd.checked) (tb := t_bool) (by kernel_rfl) started (by kernel_rfl) Tryd.func4
    (witness_row_atRef (enc := enc) (C := Tryd.checked) false (laidWorld os) #[.slice none 0 0, .slice none 0 0] rfl (by kernel_rfl) (by kernel_rfl) (by kernel_rfl) (valOrder_row os enc))
    (by kernel_rfl) (fun t ht => ?_) (by kernel_rfl) (by kernel_rfl) u_bool rfl rfl (fun ds hd => ?_) (fun W base args ds ps hval hA hw => ?_) (fun W h => glob_laid h)
  · have h : (Tryd.f4.params.toList.all fun t => Tryd.prog.readableRec t && decide (t < Tryd.prog.types.size)) = true := by kernel_rfl
    have g := List.all_eq_true.1 h t ht
    rw [Bool.and_eq_true] at g
    exact ⟨g.1, of_decide_eq_true g.2⟩
  · have h : Tryd.f4.params.toList.length = 2 := by kernel_rfl
    rw [h] at hd
    match ds, hd with
    | [d0, d1], _ => rfl
  · have h : Tryd.f4.params = #[t_L_string, t_L_api_Val] := by kernel_rfl
    rw [h] at hval hA hw
    obtain ⟨v0, vs0, d0, ds0, p0, q0, rfl, rfl, rfl, h0, r0⟩ := Go.ChangeShapes.trodAll_cons hA
    obtain ⟨v1, vs1, d1, ds1, p1, q1, rfl, rfl, rfl, h1, r1⟩ := Go.ChangeShapes.trodAll_cons r0
    obtain ⟨rfl, rfl, rfl⟩ := Go.ChangeShapes.trodAll_nil r1
    obtain ⟨a0, g0, w0⟩ := rd_arg u_texts rd_texts (fun _ => rfl) (hval 0 t_L_string v0 rfl rfl) h0 (fun n hn => hw n (weightsEach_mem _ _ 0 t_L_string d0 rfl rfl hn))
    obtain ⟨a1, g1, w1⟩ := rd_arg u_vals rd_vals (fun _ => rfl) (hval 1 t_L_api_Val v1 rfl rfl) h1 (fun n hn => hw n (weightsEach_mem _ _ 1 t_L_api_Val d1 rfl rfl hn))
    exact ⟨[encT a0, encL a1], repL_cons w0 (repL_cons w1 repL_nil), valOrder_spec a0 a1 g0 g1⟩

theorem valOrder_over : Rows.valOrderRow.holds Tryd.pinned (OpenSpec.ofChange Rows.valOrderSpec) :=
  OpenClaim.holds_of_cond f_loupelaw02_ValOrder Tryd.f4 rfl rfl rfl rfl rfl rfl rfl ⟨rfl, rfl, rfl, rfl, rfl⟩ rfl rfl rfl rfl rfl (by kernel_rfl) Tryd.func4 (by kernel_rfl)
    (of_decide_eq_true (by kernel_rfl)) (by unfold Func.isWrapper; first | (rw [if_pos (by decide +kernel)]; kernel_rfl) | (rw [if_neg (by decide +kernel)]; exact ⟨rfl, rfl⟩))
    (fun os started H enc _ F0 => by rw [OpenClaim.pre_eq_preRow]; exact valOrder_lifted os started H enc)

theorem valOrder_holds : Rows.ValOrderCardSaid :=
  Claim7.holds_tied_plain_at .later [] [.data, .pinned] true (true, "e73431e219a2f42a010fae13e0125a68f194169b185bdb3a6a95c1a0d8a68558") false
    valOrder_over (fun _ h => by cases h) (by kernel_rfl) (fun _ h => by cases h) valOrder_row_tie rfl ⟨rfl, rfl⟩ (by kernel_rfl) rfl
    (fun f fn hf hfn => by
      obtain rfl : f = f_loupelaw02_ValOrder := Option.some.inj ((show Tryd.prog.funcNamed "loupe/loupelaw02.ValOrder" = some f_loupelaw02_ValOrder by kernel_rfl).symm.trans hf) |>.symm
      obtain rfl : fn = Tryd.f4 := (Option.some.inj (Tryd.func4.symm.trans hfn)).symm
      refine ⟨by kernel_rfl, fun j t ht => ?_⟩
      have h : (Tryd.f4.params.toList.all fun t => !Tryd.prog.wantsStandIn t) = true := by kernel_rfl
      have g := List.all_eq_true.1 h t (List.mem_of_getElem? (by simpa using ht))
      exact (by simpa using g : Tryd.prog.wantsStandIn t = false))
    (by kernel_rfl)
#print axioms valOrder_holds

end Go.Proofs.YtcememnoihgipaaDoor
