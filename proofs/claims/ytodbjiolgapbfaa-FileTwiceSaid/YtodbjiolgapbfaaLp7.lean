/-
  The statement FileTwice: whatever its arguments the law returns true and leaves them as they are. No condition.
-/
import Derived.Test.YtodbjiolgapbfaaLp6

set_option linter.all false
namespace Go.Proofs.Ytodbjiolgapbfaa
open Go Lp

set_option maxHeartbeats 2000000
set_option maxRecDepth 100000

theorem fileTwice_lifted (os : Os) (started : os.Started) (H : Type) (enc : TypeId × Value → H) :
    ReturnsInHanded {} Try.checked os f_loupelaw23_FileTwice .any (Rows.fileTwiceSpec.pre6 enc Try.prog Try.f15 Rows.fileTwiceRow.domain false) (Rows.fileTwiceSpec.post enc Try.prog Try.f15 false true false false) := by
  refine law_lifted (C := Try.checked) (tb := t_bool) (by kernel_rfl) started (by kernel_rfl) Try.func15
    (ChangeSpec.witness6 (enc := enc) (C := Try.checked) false ⟨#[], #[.agg #[.slice none 0 0, .slice none 0 0, .string ⟨#[]⟩, .string ⟨#[]⟩, .int .i64 0, .int .i64 0, .string ⟨#[]⟩], .string ⟨#[]⟩], []⟩ 8 (by kernel_rfl) (by kernel_rfl) (by kernel_rfl) (by kernel_rfl))
    (by kernel_rfl) (fun t ht => ?_) (by kernel_rfl) (by kernel_rfl) u_bool rfl rfl (fun ds hd => ?_) (fun W base args ds ps hval hA hw => ?_)
  · have h : (Try.f15.params.toList.all fun t => Try.prog.readableRec t && decide (t < Try.prog.types.size)) = true := by kernel_rfl
    have g := List.all_eq_true.1 h t ht
    rw [Bool.and_eq_true] at g
    exact ⟨g.1, of_decide_eq_true g.2⟩
  · have h : Try.f15.params.toList.length = 2 := by kernel_rfl
    rw [h] at hd
    match ds, hd with
    | [d0, d1], _ => rfl
  · have h : Try.f15.params = #[t_loupelaw23_SaveIn, t_string] := by kernel_rfl
    rw [h] at hval hA hw
    obtain ⟨v0, vs0, d0, ds0, p0, q0, rfl, rfl, rfl, h0, r0⟩ := Go.ChangeShapes.trodAll_cons hA
    obtain ⟨v1, vs1, d1, ds1, p1, q1, rfl, rfl, rfl, h1, r1⟩ := Go.ChangeShapes.trodAll_cons r0
    obtain ⟨rfl, rfl, rfl⟩ := Go.ChangeShapes.trodAll_nil r1
    obtain ⟨a0, g0, w0⟩ := rd_Q (hval 0 t_loupelaw23_SaveIn v0 rfl rfl) h0 (fun n hn => hw n (weightsEach_mem _ _ 0 t_loupelaw23_SaveIn d0 rfl rfl hn))
    obtain ⟨a1, g1, w1⟩ := rd_S (hval 1 t_string v1 rfl rfl) h1 (fun n hn => hw n (weightsEach_mem _ _ 1 t_string d1 rfl rfl hn))
    exact ⟨[encQ a0, .str a1], repL_cons w0 (repL_cons w1 repL_nil), fileTwice_spec a0 a1 g0 g1⟩

theorem fileTwice_over : Rows.fileTwiceRow.holds Try.pinned (OpenSpec.ofChange Rows.fileTwiceSpec) :=
  OpenClaim.holds_of_wide f_loupelaw23_FileTwice Try.f15 rfl rfl rfl rfl rfl rfl rfl ⟨rfl, rfl, rfl, rfl, rfl⟩ rfl rfl rfl rfl rfl (by kernel_rfl) Try.func15 (by kernel_rfl)
    (of_decide_eq_true (by kernel_rfl)) (by unfold Func.isWrapper; first | (rw [if_pos (by decide +kernel)]; kernel_rfl) | (rw [if_neg (by decide +kernel)]; exact ⟨rfl, rfl⟩))
    (fun os started H enc _ => fileTwice_lifted os started H enc)

theorem fileTwice_holds : Rows.FileTwiceSaid := fileTwice_over
#print axioms fileTwice_holds

end Go.Proofs.Ytodbjiolgapbfaa
