/-
  Part 6 of what the statement rests on: LpTie. No condition.
-/
import Derived.Test.YtcememnoihgipaaDoorLp5
import Derived.Lib.LaidIn
import Derived.Lib.LaidU8T
import Derived.Deep.DeepHandedRow
import Derived.Deep.DeepWitnessRowRef
import Derived.ProofKit
import Derived.SizedLaws
import Derived.JoinedCond

set_option linter.all false

/-! LpTie -/

namespace Lp
open Go Go.Proofs Go.Shelf Go.RowKit Go.Lib Go.ChangeAt

set_option maxRecDepth 100000
set_option maxHeartbeats 2000000

def laidL : List (String × DataW Unit) := [("unicode/utf8.acceptRanges", Lib.acceptData), ("unicode/utf8.first", Lib.firstData)]

/-- The settled world, the two variables holding what is laid. -/
noncomputable def laidWorld (os : Os) : World :=
  let w0 := World.holding Tryd.prog os ⟨#[], #[], []⟩
  let put (h : Array Go.Obj) (g : Nat) (cs : Array Value) : Array Go.Obj := h.modify g fun
    | .cells _ t frozen => .cells cs t frozen
    | o => o
  let h1 := put w0.heap 0 (Lib.firstTab.map fun z => Value.int .u8 z).toArray
  let h2 := put h1 1 ((List.range 16).flatMap fun i => [Value.int .u8 (Lib.accLo i), Value.int .u8 (Lib.accHi i)]).toArray
  { w0 with heap := h2 }

theorem laid_met (os : Os) (args : Array Value) : laidMet Tryd.prog laidL ((laidWorld os).forCall (fun _ _ => 0) ⟨#[], args, []⟩).memory :=
  (LaidIn.of_run (l := laidL) [1, 0] 8 (by kernel_rfl) (by kernel_rfl) (by kernel_rfl) (by kernel_rfl)).met

theorem tabs_same {w W : World} (h : w.heap = W.heap) (hT : Lib.Utf8Tabs 0 1 W) : Lib.Utf8Tabs 0 1 w := by
  have e : ∀ b : Nat, w.heap[b]? = W.heap[b]? := fun b => by rw [h]
  refine ⟨fun c hc => ?_, fun i hi => ⟨?_, ?_⟩⟩
  · rw [cell_same (e 0)]; exact hT.1 c hc
  · rw [cell_same (e 1)]; exact (hT.2 i hi).1
  · rw [cell_same (e 1)]; exact (hT.2 i hi).2

theorem glob_laid {W : World} (h : laidMetH Tryd.prog laidL W) : glob.holds W.heap := by
  have hT : Lib.Utf8Tabs 0 1 W :=
    utf8Tabs_of_readsT (U8Types.of196 Tryd.lays196) ⟨by kernel_rfl, by kernel_rfl, by kernel_rfl, by kernel_rfl, by kernel_rfl, by kernel_rfl, by kernel_rfl⟩ (Lib.laidMet.reads h (.tail _ (.head _))) (Lib.laidMet.reads h (.head _))
  intro w hw
  exact tabs_same hw hT

theorem u_texts : Tryd.prog.underlying t_L_string = some (.slice t_string) := by kernel_rfl

/-- What any texts that can be read are. -/
structure BigT (l : List (List UInt8)) : Prop where
  len : l.length ≤ 1152921504606846976
  all : ∀ s ∈ l, s.length ≤ 4611686018427387904

theorem rd_texts : Rd Tryd.prog t_L_string encT BigT := by
  intro H eh w fuel cs x h hw
  obtain ⟨l, ⟨h1, h2⟩, h3⟩ := Rd.slice (sz := 1) u_texts (Rd.str u_string) (by kernel_rfl) (by decide) (fun _ => rfl) eh w fuel cs x h hw
  have hb : Tryd.prog.bytesOf t_string = 16 := by kernel_rfl
  rw [hb, reachBytes] at h1
  refine ⟨l, ⟨by omega, fun s hs => ?_⟩, h3⟩
  have := h2 s hs
  rw [reachBytes] at this
  omega

end Lp
