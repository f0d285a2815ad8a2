/-
  The statement FileFlush: whatever its arguments the law returns true and leaves them as they are. No condition.
-/
import Derived.Test.YtodbjiolgapbfaaLp6

set_option linter.all false
namespace Go.Proofs.Ytodbjiolgapbfaa
open Go Lp

set_option maxHeartbeats 2000000
set_option maxRecDepth 100000

theorem fileFlush_lifted (os : Os) (started : os.Started) (H : Type) (enc : TypeId × Value → H) :
    ReturnsInHanded {} Try.checked os f_loupelaw23_FileFlush .any (Rows.fileFlushSpec.pre6 enc Try.prog Try.f13 Rows.fileFlushRow.domain false) (Rows.fileFlushSpec.post enc Try.prog Try.f13 false true false false) := by
  refine law_lifted (C := Try.checked) (tb := t_bool) (by kernel_rfl) started (by kernel_rfl) Try.func13
    (ChangeSpec.witness6 (enc := enc) (C := Try.checked) false ⟨#[], #[.agg #[.slice none 0 0, .slice none 0 0], .agg #[.int .i64 0, .int .i64 0], .string ⟨#[]⟩], []⟩ 8 (by kernel_rfl) (by kernel_rfl) (by kernel_rfl) (by kernel_rfl))
    (by kernel_rfl) (fun t ht => ?_) (by kernel_rfl) (by kernel_rfl) u_bool rfl rfl (fun ds hd => ?_) (fun W base args ds ps hval hA hw => ?_)
  · have h : (Try.f13.params.toList.all fun t => Try.prog.readableRec t && decide (t < Try.prog.types.size)) = true := by kernel_rfl
    have g := List.all_eq_true.1 h t ht
    rw [Bool.and_eq_true] at g
    exact ⟨g.1, of_decide_eq_true g.2⟩
  · have h : Try.f13.params.toList.length = 3 := by kernel_rfl
    rw [h] at hd
    match ds, hd with
    | [d0, d1, d2], _ => rfl
  · have h : Try.f13.params = #[t_api_Disk, t__2_int, t_string] := by kernel_rfl
    rw [h] at hval hA hw
    obtain ⟨v0, vs0, d0, ds0, p0, q0, rfl, rfl, rfl, h0, r0⟩ := Go.ChangeShapes.trodAll_cons hA
    obtain ⟨v1, vs1, d1, ds1, p1, q1, rfl, rfl, rfl, h1, r1⟩ := Go.ChangeShapes.trodAll_cons r0
    obtain ⟨v2, vs2, d2, ds2, p2, q2, rfl, rfl, rfl, h2, r2⟩ := Go.ChangeShapes.trodAll_cons r1
    obtain ⟨rfl, rfl, rfl⟩ := Go.ChangeShapes.trodAll_nil r2
    obtain ⟨a0, g0, w0⟩ := rd_K (hval 0 t_api_Disk v0 rfl rfl) h0 (fun n hn => hw n (weightsEach_mem _ _ 0 t_api_Disk d0 rfl rfl hn))
    obtain ⟨a1, g1, w1⟩ := rd_N2 (hval 1 t__2_int v1 rfl rfl) h1 (fun n hn => hw n (weightsEach_mem _ _ 1 t__2_int d1 rfl rfl hn))
    obtain ⟨a2, g2, w2⟩ := rd_S (hval 2 t_string v2 rfl rfl) h2 (fun n hn => hw n (weightsEach_mem _ _ 2 t_string d2 rfl rfl hn))
    exact ⟨[encK a0, encN2 a1, .str a2], repL_cons w0 (repL_cons w1 (repL_cons w2 repL_nil)), fileFlush_spec a0 a1 a2 g0 g1 g2⟩

theorem fileFlush_over : Rows.fileFlushRow.holds Try.pinned (OpenSpec.ofChange Rows.fileFlushSpec) :=
  OpenClaim.holds_of_wide f_loupelaw23_FileFlush Try.f13 rfl rfl rfl rfl rfl rfl rfl ⟨rfl, rfl, rfl, rfl, rfl⟩ rfl rfl rfl rfl rfl (by kernel_rfl) Try.func13 (by kernel_rfl)
    (of_decide_eq_true (by kernel_rfl)) (by unfold Func.isWrapper; first | (rw [if_pos (by decide +kernel)]; kernel_rfl) | (rw [if_neg (by decide +kernel)]; exact ⟨rfl, rfl⟩))
    (fun os started H enc _ => fileFlush_lifted os started H enc)

theorem fileFlush_holds : Rows.FileFlushSaid := fileFlush_over
#print axioms fileFlush_holds

end Go.Proofs.Ytodbjiolgapbfaa
