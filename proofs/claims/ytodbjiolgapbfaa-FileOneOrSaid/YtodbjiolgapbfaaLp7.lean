/-
  The statement FileOneOr: whatever its arguments the law returns true and leaves them as they are. No condition.
-/
import Derived.Test.YtodbjiolgapbfaaLp6

set_option linter.all false
namespace Go.Proofs.Ytodbjiolgapbfaa
open Go Lp

set_option maxHeartbeats 2000000
set_option maxRecDepth 100000

theorem fileOneOr_lifted (os : Os) (started : os.Started) (H : Type) (enc : TypeId × Value → H) :
    ReturnsInHanded {} Try.checked os f_loupelaw23_FileOneOr .any (Rows.fileOneOrSpec.pre6 enc Try.prog Try.f12 Rows.fileOneOrRow.domain false) (Rows.fileOneOrSpec.post enc Try.prog Try.f12 false true false false) := by
  refine law_lifted (C := Try.checked) (tb := t_bool) (by kernel_rfl) started (by kernel_rfl) Try.func12
    (ChangeSpec.witness6 (enc := enc) (C := Try.checked) false ⟨#[], #[.agg #[.slice none 0 0, .slice none 0 0, .string ⟨#[]⟩, .string ⟨#[]⟩, .int .i64 0, .int .i64 0, .string ⟨#[]⟩]], []⟩ 8 (by kernel_rfl) (by kernel_rfl) (by kernel_rfl) (by kernel_rfl))
    (by kernel_rfl) (fun t ht => ?_) (by kernel_rfl) (by kernel_rfl) u_bool rfl rfl (fun ds hd => ?_) (fun W base args ds ps hval hA hw => ?_)
  · have h : (Try.f12.params.toList.all fun t => Try.prog.readableRec t && decide (t < Try.prog.types.size)) = true := by kernel_rfl
    have g := List.all_eq_true.1 h t ht
    rw [Bool.and_eq_true] at g
    exact ⟨g.1, of_decide_eq_true g.2⟩
  · have h : Try.f12.params.toList.length = 1 := by kernel_rfl
    rw [h] at hd
    match ds, hd with
    | [d0], _ => rfl
  · have h : Try.f12.params = #[t_loupelaw23_SaveIn] := by kernel_rfl
    rw [h] at hval hA hw
    obtain ⟨v0, vs0, d0, ds0, p0, q0, rfl, rfl, rfl, h0, r0⟩ := Go.ChangeShapes.trodAll_cons hA
    obtain ⟨rfl, rfl, rfl⟩ := Go.ChangeShapes.trodAll_nil r0
    obtain ⟨a0, g0, w0⟩ := rd_Q (hval 0 t_loupelaw23_SaveIn v0 rfl rfl) h0 (fun n hn => hw n (weightsEach_mem _ _ 0 t_loupelaw23_SaveIn d0 rfl rfl hn))
    exact ⟨[encQ a0], repL_cons w0 repL_nil, fileOneOr_spec a0 g0⟩

theorem fileOneOr_over : Rows.fileOneOrRow.holds Try.pinned (OpenSpec.ofChange Rows.fileOneOrSpec) :=
  OpenClaim.holds_of_wide f_loupelaw23_FileOneOr Try.f12 rfl rfl rfl rfl rfl rfl rfl ⟨rfl, rfl, rfl, rfl, rfl⟩ rfl rfl rfl rfl rfl (by kernel_rfl) Try.func12 (by kernel_rfl)
    (of_decide_eq_true (by kernel_rfl)) (by unfold Func.isWrapper; first | (rw [if_pos (by decide +kernel)]; kernel_rfl) | (rw [if_neg (by decide +kernel)]; exact ⟨rfl, rfl⟩))
    (fun os started H enc _ => fileOneOr_lifted os started H enc)

theorem fileOneOr_holds : Rows.FileOneOrSaid := fileOneOr_over
#print axioms fileOneOr_holds

end Go.Proofs.Ytodbjiolgapbfaa
