/-
  Part 6 of what the statement rests on: LpTie, LpM2, LpM3. No condition.
-/
import Derived.Test.YtcememnoihgipaaDoorLp5
import Derived.Lib.LaidIn
import Derived.Lib.LaidU8T
import Derived.Deep.DeepHandedRow
import Derived.Deep.DeepWitnessRowRef
import Derived.ProofKit
import Derived.SizedLaws
import Derived.JoinedCond

set_option linter.all false

/-! LpTie -/

namespace Lp
open Go Go.Proofs Go.Shelf Go.RowKit Go.Lib Go.ChangeAt

set_option maxRecDepth 100000
set_option maxHeartbeats 2000000

def laidL : List (String × DataW Unit) := [("unicode/utf8.acceptRanges", Lib.acceptData), ("unicode/utf8.first", Lib.firstData)]

/-- The settled world, the two variables holding what is laid. -/
noncomputable def laidWorld (os : Os) : World :=
  let w0 := World.holding Tryd.prog os ⟨#[], #[], []⟩
  let put (h : Array Go.Obj) (g : Nat) (cs : Array Value) : Array Go.Obj := h.modify g fun
    | .cells _ t frozen => .cells cs t frozen
    | o => o
  let h1 := put w0.heap 0 (Lib.firstTab.map fun z => Value.int .u8 z).toArray
  let h2 := put h1 1 ((List.range 16).flatMap fun i => [Value.int .u8 (Lib.accLo i), Value.int .u8 (Lib.accHi i)]).toArray
  { w0 with heap := h2 }

theorem laid_met (os : Os) (args : Array Value) : laidMet Tryd.prog laidL ((laidWorld os).forCall (fun _ _ => 0) ⟨#[], args, []⟩).memory :=
  (LaidIn.of_run (l := laidL) [1, 0] 8 (by kernel_rfl) (by kernel_rfl) (by kernel_rfl) (by kernel_rfl)).met

theorem tabs_same {w W : World} (h : w.heap = W.heap) (hT : Lib.Utf8Tabs 0 1 W) : Lib.Utf8Tabs 0 1 w := by
  have e : ∀ b : Nat, w.heap[b]? = W.heap[b]? := fun b => by rw [h]
  refine ⟨fun c hc => ?_, fun i hi => ⟨?_, ?_⟩⟩
  · rw [cell_same (e 0)]; exact hT.1 c hc
  · rw [cell_same (e 1)]; exact (hT.2 i hi).1
  · rw [cell_same (e 1)]; exact (hT.2 i hi).2

theorem glob_laid {W : World} (h : laidMetH Tryd.prog laidL W) : glob.holds W.heap := by
  have hT : Lib.Utf8Tabs 0 1 W :=
    utf8Tabs_of_readsT (U8Types.of196 Tryd.lays196) ⟨by kernel_rfl, by kernel_rfl, by kernel_rfl, by kernel_rfl, by kernel_rfl, by kernel_rfl, by kernel_rfl⟩ (Lib.laidMet.reads h (.tail _ (.head _))) (Lib.laidMet.reads h (.head _))
  intro w hw
  exact tabs_same hw hT

theorem u_texts : Tryd.prog.underlying t_L_string = some (.slice t_string) := by kernel_rfl

/-- What any texts that can be read are. -/
structure BigT (l : List (List UInt8)) : Prop where
  len : l.length ≤ 1152921504606846976
  all : ∀ s ∈ l, s.length ≤ 4611686018427387904

theorem rd_texts : Rd Tryd.prog t_L_string encT BigT := by
  intro H eh w fuel cs x h hw
  obtain ⟨l, ⟨h1, h2⟩, h3⟩ := Rd.slice (sz := 1) u_texts (Rd.str u_string) (by kernel_rfl) (by decide) (fun _ => rfl) eh w fuel cs x h hw
  have hb : Tryd.prog.bytesOf t_string = 16 := by kernel_rfl
  rw [hb, reachBytes] at h1
  refine ⟨l, ⟨by omega, fun s hs => ?_⟩, h3⟩
  have := h2 s hs
  rw [reachBytes] at this
  omega

end Lp

/-! LpM2 -/

namespace Lp
open Go Go.Proofs

set_option maxHeartbeats 4000000
set_option maxRecDepth 20000
set_option linter.unusedSimpArgs false

/-- Values that are right, together of few nodes. -/
theorem allB_facts {l : List Vl} {k : Nat} (h : allB l k = true) : l.length ≤ k ∧ l.flatten.length ≤ k ∧ (∀ v ∈ l, Rt v) ∧ (∀ v ∈ l, v.length ≤ k) ∧ (∀ v ∈ l, v ≠ []) := by
  simp only [allB, Bool.and_eq_true, decide_eq_true_eq, List.all_eq_true] at h
  obtain ⟨h1, h2⟩ := h
  have hN : ∀ q : List Vl, allN q = q.length + q.flatten.length := by
    intro q
    induction q with
    | nil => rfl
    | cons x q ih => simp only [allN, ih, List.length_cons, List.flatten_cons, List.length_append]; omega
  have h3 := hN l
  have hr : ∀ v ∈ l, Rt v := fun v hv => by
    have := h2 v hv
    simp only [fewB, Bool.and_eq_true] at this
    exact rightB_rt this.2
  refine ⟨by omega, by omega, hr, fun v hv => ?_, fun v hv => (hr v hv).one.ne⟩
  have := flatten_len_mem hv
  omega

theorem fewB_facts {v : Vl} {k : Nat} (h : fewB v k = true) : Rt v ∧ v.length ≤ k := by
  simp only [fewB, Bool.and_eq_true, decide_eq_true_eq] at h
  exact ⟨rightB_rt h.2, h.1.1⟩

theorem BigL.txt {l : List Vl} (h : BigL l) : ∀ v ∈ l, v.length ≤ 1152921504606846976 ∧ ∀ n ∈ v, n.s.length ≤ 4611686018427387904 ∧ n.name.length ≤ 4611686018427387904 := fun v hv => ⟨(h.all v hv).len, (h.all v hv).txt⟩

def ctrAll : Ctr := fun args objs K => match args with
  | [a0, .int .i64 k] => ofE encL a0 (HK.mk : HK fun l => (0 ≤ k ∧ k ≤ 1000000) ∧ (l.length ≤ 1152921504606846976) ∧ (∀ v ∈ l, v.length ≤ 1152921504606846976 ∧ ∀ n ∈ v, n.s.length ≤ 4611686018427387904 ∧ n.name.length ≤ 4611686018427387904) ∧ K (.bool (allB l k.toNat)) objs 0)
  | _ => False
theorem ctrAll_ok : CtrOk Tryd.prog f_louperef02_All (ctrAll) := by
  intro args objs K h
  unfold ctrAll at h
  split at h
  · rename_i a0 k
    obtain ⟨l, rfl, h1, h2, h3, hk⟩ := h
    exact ⟨_, _, _, .pure _ rfl ((by have := all_spec l k.toNat (by omega) h2 h3; rwa [Int.toNat_of_nonneg h1.1] at this)), hk⟩
  · exact h.elim

theorem objVal_len {names : List (List UInt8)} {l : List Vl} (h : names.length = l.length) : (objVal names l).length ≤ l.flatten.length + 1 := by
  unfold objVal
  split
  · have h1 := srtP_flat h
    have h2 : ∀ q : Prs, (q.map fun x => setN x.1 x.2).flatten.length = (q.map (·.2)).flatten.length := by
      intro q
      induction q with
      | nil => rfl
      | cons x q ih => simp only [List.map_cons, List.flatten_cons, List.length_append, setN_length, ih]
    simp only [mkO, List.length_cons, h2, h1]
    omega
  · simp

theorem listV_len (l : List Vl) : (listV l).length = l.flatten.length + 1 := rfl

theorem valMakes_spec (names : List (List UInt8)) (l : List Vl) (hn : BigT names) (hb : BigL l) : FnSpec Tryd.prog f_loupelaw02_ValMakes [encT names, encL l] [] (.bool true) [] := by
  have t60 : Int.toNat 60 = 60 := rfl
  refine k_loupelaw02_ValMakes.pureG (T := tabL Tryd.prog [(f_loupelaw02_alive, ctrAlive2), (f_louperef02_All, ctrAll), (f_val_Object, ctrValObject), (f_louperef02_Object, ctrRefObject), (f_val_List, ctrValList), (f_louperef02_List, ctrList), (f_louperef02_Same, ctrSame)]) 0 hD (kOk_tabL (tabOk_cons ctrAlive2_ok (tabOk_cons ctrAll_ok (tabOk_cons ctrValObject_ok (tabOk_cons ctrRefObject_ok (tabOk_cons ctrValList_ok (tabOk_cons ctrList_ok (tabOk_cons ctrSame_ok tabOk_nil)))))))) hmix (by decide) fun Q hQ => ?_
  try simp only [F_all]
  rcases Nat.lt_or_ge 60 names.length with h1 | h1
  · have h1' : ((60 : Int) < (names.length : Int)) = True := eq_true (by omega)
    simp (maxSteps := 400000) only [↓preZ, postZ, coreZ, ↓preU, postU, D_all, F_all, unR, outL, onePV, binS, ↓binS, boundR, ↓boundR, fieldOf, ↓fieldOf, boxR, allocR, newObj, zeroElem, buildSliceR, appendR, setAll, storeR, St.freeze, makeSliceR, minmaxR, makeFuncR, BEq.rfl, reduceIte, reduceCtorEq, Nat.reduceLT, Nat.reduceAdd, Nat.reduceSub, Nat.reduceMul, Nat.reduceBEq, Nat.reduceLeDiff, Int.reduceToNat, Int.reduceLE, hQ, c_loupelaw02_ValMakes, h1', ↓ctrAlive2]
  have h1' : ((60 : Int) < (names.length : Int)) = False := eq_false (by omega)
  cases fa : allB l 60
  · simp (maxSteps := 400000) only [↓preZ, postZ, coreZ, ↓preU, postU, D_all, F_all, unR, outL, onePV, binS, ↓binS, boundR, ↓boundR, fieldOf, ↓fieldOf, boxR, allocR, newObj, zeroElem, buildSliceR, appendR, setAll, storeR, St.freeze, makeSliceR, minmaxR, makeFuncR, BEq.rfl, reduceIte, reduceCtorEq, Nat.reduceLT, Nat.reduceAdd, Nat.reduceSub, Nat.reduceMul, Nat.reduceBEq, Nat.reduceLeDiff, Int.reduceToNat, Int.reduceLE, hQ, c_loupelaw02_ValMakes, h1', ↓ctrAlive2, ↓ctrAll, t60, fa]
    exact ⟨hb.len, hb.txt⟩
  obtain ⟨a1, a2, a3, a4, a5⟩ := allB_facts fa
  have hlen : (objVal names l).length ≤ 1000000 := by
    by_cases hp : names.length = l.length
    · have := objVal_len hp; omega
    · have : objVal names l = [] := by simp [objVal, namesOk, hp]
      rw [this]; simp
  have hll := listV_len l
  simp (maxSteps := 400000) only [↓preZ, postZ, coreZ, ↓preU, postU, D_all, F_all, unR, outL, onePV, binS, ↓binS, boundR, ↓boundR, fieldOf, ↓fieldOf, boxR, allocR, newObj, zeroElem, buildSliceR, appendR, setAll, storeR, St.freeze, makeSliceR, minmaxR, makeFuncR, BEq.rfl, reduceIte, reduceCtorEq, Nat.reduceLT, Nat.reduceAdd, Nat.reduceSub, Nat.reduceMul, Nat.reduceBEq, Nat.reduceLeDiff, Int.reduceToNat, Int.reduceLE, hQ, c_loupelaw02_ValMakes, h1', ↓ctrAlive2, ↓ctrAll, t60, fa, ↓ctrValObject, ↓ctrRefObject, ↓ctrValList, ↓ctrList, ↓ctrSame, extractR]
  repeat' (first | omega | exact hb.len | exact hb.txt | exact a5 | exact hn.all | refine ⟨?_, ?_⟩)
end Lp

/-! LpM3 -/

namespace Lp
open Go Go.Proofs

set_option maxHeartbeats 4000000
set_option maxRecDepth 20000
set_option linter.unusedSimpArgs false

theorem partsV_txt {v : Vl} (hr : Rt v) {q : Nd → Prop} (hq : ∀ n, q n → q { n with name := [] }) (hv : ∀ n ∈ v, q n) : ∀ p ∈ partsV v, ∀ n ∈ p, q n := by
  obtain ⟨n, r, rfl, _⟩ := nameOf_nil hr.name hr.one.ne
  obtain ⟨h1, h2, ps, h3, h4, _, _, _⟩ := hr.parts
  simp only [partsV, (partsOf_eq h3).1]
  intro p hp m hm
  obtain ⟨p', hp', rfl⟩ := List.mem_map.1 hp
  have hin : ∀ x ∈ p', q x := fun x hx => hv x (List.mem_cons_of_mem _ (by rw [← h4]; exact List.mem_flatten.2 ⟨p', hp', hx⟩))
  cases p' with
  | nil => cases hm
  | cons a t =>
    rcases List.mem_cons.1 hm with rfl | hm
    · exact hq a (hin a (by simp))
    · exact hin m (List.mem_cons_of_mem _ hm)

theorem namesV_list (l : List Vl) : namesV (listV l) = [] := rfl

theorem namesV_txt {v : Vl} (hr : Rt v) {k : Nat} (hv : ∀ n ∈ v, n.name.length ≤ k) : ∀ s ∈ namesV v, s.length ≤ k := by
  obtain ⟨n, r, rfl, _⟩ := nameOf_nil hr.name hr.one.ne
  obtain ⟨h1, h2, ps, h3, h4, _, h6, _⟩ := hr.parts
  simp only [namesV, (partsOf_eq h3).2]
  split
  · intro s hs
    obtain ⟨p, hp, rfl⟩ := List.mem_map.1 hs
    cases p with
    | nil => simp [nameOf]
    | cons a t => exact hv a (List.mem_cons_of_mem _ (by rw [← h4]; exact List.mem_flatten.2 ⟨_, hp, by simp⟩))
  · intro s hs; cases hs

theorem valBack_spec (v : Vl) (l : List Vl) (hv : Big v) (hb : BigL l) : FnSpec Tryd.prog f_loupelaw02_ValBack [encV v, encL l] [] (.bool true) [] := by
  have t60 : Int.toNat 60 = 60 := rfl
  have hvl := hv.len
  refine k_loupelaw02_ValBack.pureG (T := tabL Tryd.prog [(f_loupelaw02_alive, ctrAlive2), (f_louperef02_Few, ctrFew), (f_louperef02_All, ctrAll), (f_val_List, ctrValList), (f_louperef02_Right, ctrRight), (f_val_Parts, ctrParts), (f_louperef02_Lists, ctrLists), (f_val_Names, ctrNames), (f_val_Depth, ctrValDepth), (f_louperef02_Same, ctrSame), (f_val_Object, ctrValObject)]) 0 hD (kOk_tabL (tabOk_cons ctrAlive2_ok (tabOk_cons ctrFew_ok (tabOk_cons ctrAll_ok (tabOk_cons ctrValList_ok (tabOk_cons ctrRight_ok (tabOk_cons ctrParts_ok (tabOk_cons ctrLists_ok (tabOk_cons ctrNames_ok (tabOk_cons ctrValDepth_ok (tabOk_cons ctrSame_ok (tabOk_cons ctrValObject_ok tabOk_nil)))))))))))) hmix (by decide) fun Q hQ => ?_
  try simp only [F_all]
  cases fv : fewB v 60
  · simp (maxSteps := 400000) only [↓preZ, postZ, coreZ, ↓preU, postU, D_all, F_all, unR, outL, onePV, binS, ↓binS, boundR, ↓boundR, fieldOf, ↓fieldOf, boxR, allocR, newObj, zeroElem, buildSliceR, appendR, setAll, storeR, St.freeze, makeSliceR, minmaxR, makeFuncR, BEq.rfl, reduceIte, reduceCtorEq, Nat.reduceLT, Nat.reduceAdd, Nat.reduceSub, Nat.reduceMul, Nat.reduceBEq, Nat.reduceLeDiff, Int.reduceToNat, Int.reduceLE, hQ, c_loupelaw02_ValBack, ↓ctrAlive2, ↓ctrFew, t60, fv]
    repeat' (first | omega | exact hv.txt | refine ⟨?_, ?_⟩)
  cases fa : allB l 60
  · simp (maxSteps := 400000) only [↓preZ, postZ, coreZ, ↓preU, postU, D_all, F_all, unR, outL, onePV, binS, ↓binS, boundR, ↓boundR, fieldOf, ↓fieldOf, boxR, allocR, newObj, zeroElem, buildSliceR, appendR, setAll, storeR, St.freeze, makeSliceR, minmaxR, makeFuncR, BEq.rfl, reduceIte, reduceCtorEq, Nat.reduceLT, Nat.reduceAdd, Nat.reduceSub, Nat.reduceMul, Nat.reduceBEq, Nat.reduceLeDiff, Int.reduceToNat, Int.reduceLE, hQ, c_loupelaw02_ValBack, ↓ctrAlive2, ↓ctrFew, ↓ctrAll, t60, fv, fa]
    repeat' (first | omega | exact hv.txt | exact hb.len | exact hb.txt | refine ⟨?_, ?_⟩)
  obtain ⟨hrt, hl60⟩ := fewB_facts fv
  obtain ⟨a1, a2, a3, a4, a5⟩ := allB_facts fa
  have hrl := rt_rightB (rt_listV a3)
  have hpl := partsV_listV a3
  have hll := listV_len l
  have hsl : Small (listV l) := by
    refine ⟨by omega, fun n hn => ?_⟩
    rcases List.mem_cons.1 hn with rfl | hn
    · simp
    · obtain ⟨p, hp, hnp⟩ := List.mem_flatten.1 hn
      exact (hb.txt p hp).2 n hnp
  have hol := (rt_listV a3).one
  have hno : namesV (listV l) = [] := rfl
  have h00 : (((0 : Nat) : Int) = 0) = True := eq_true rfl
  have hss : ∀ a : List Vl, (a = a) = True := fun _ => eq_true rfl
  obtain ⟨p1, p2, p3, p4⟩ := partsV_facts hrt
  have ptx := partsV_txt hrt (q := fun n => n.s.length ≤ 4611686018427387904 ∧ n.name.length ≤ 4611686018427387904) (fun n h => ⟨h.1, by simp⟩) hv.txt
  have pdp : ∀ p ∈ partsV v, depthV p < depthV v := fun p hp => depth_part hrt hp
  have prt : ∀ p ∈ partsV v, Rt p := fun p hp => (partsV_rt hrt hp).1
  generalize hL : listV l = L at *
  simp (maxSteps := 400000) only [↓preZ, postZ, coreZ, ↓preU, postU, D_all, F_all, unR, outL, onePV, binS, ↓binS, boundR, ↓boundR, fieldOf, ↓fieldOf, boxR, allocR, newObj, zeroElem, buildSliceR, appendR, setAll, storeR, St.freeze, makeSliceR, minmaxR, makeFuncR, BEq.rfl, reduceIte, reduceCtorEq, Nat.reduceLT, Nat.reduceAdd, Nat.reduceSub, Nat.reduceMul, Nat.reduceBEq, Nat.reduceLeDiff, Int.reduceToNat, Int.reduceLE, hQ, c_loupelaw02_ValBack, ↓ctrAlive2, ↓ctrFew, ↓ctrAll, t60, fv, fa, ↓ctrValList, hL, ↓ctrRight, hrl, ↓ctrParts, hpl, ↓ctrLists, ↓ctrNames, hno, h00, hss]
  obtain ⟨n, r, hvr, _⟩ := nameOf_nil hrt.name hrt.one.ne
  have hg0 : v[0]? = some n := by rw [hvr]; rfl
  refine ⟨by omega, hv.txt, hb.len, hb.txt, by omega, by omega, hsl, by omega, hol, by omega, by omega, fun v hv => by have := a4 v hv; omega, fun v hv => by have := a4 v hv; omega, by omega, hol, by omega, hrt.one, ?_⟩
  generalize hP : partsV v = P at *
  refine wpc_loop (fun m S => ∃ i : Nat, i + m = P.length ∧ S = ⟨tmA 104 [(0, encV v), (6, encL P), (7, .int .i64 i)], []⟩) P.length ⟨0, by omega, ?_⟩ ?_
  · simp only [normR, keepR, Nat.reduceAdd, lkR, Nat.reduceBEq, F_all, List.map_nil]
    rfl
  rintro m S ⟨i, him, rfl⟩
  rcases Nat.lt_or_ge i P.length with h | h
  · have hlt : ((i : Int) < (P.length : Int)) = True := eq_true (by omega)
    have zi : (0 ≤ (i : Int)) = True := eq_true (by omega)
    have hgi := List.getElem?_eq_getElem h
    have hpm := List.getElem_mem h
    have x1 := pdp _ hpm
    have x2 := prt _ hpm
    have x3 := p4 _ hpm
    have x4 := ptx _ hpm
    generalize P[i] = p at hgi x1 x2 x3 x4
    have y1 := rt_rightB x2
    have y2 : ((depthV v : Int) ≤ (depthV p : Int)) = False := eq_false (by omega)
    simp (maxSteps := 400000) only [↓preZ, postZ, coreZ, ↓preU, postU, D_all, F_all, unR, outL, onePV, binS, ↓binS, boundR, ↓boundR, fieldOf, ↓fieldOf, boxR, allocR, newObj, zeroElem, buildSliceR, appendR, setAll, storeR, St.freeze, makeSliceR, minmaxR, makeFuncR, BEq.rfl, reduceIte, reduceCtorEq, Nat.reduceLT, Nat.reduceAdd, Nat.reduceSub, Nat.reduceMul, Nat.reduceBEq, Nat.reduceLeDiff, Int.reduceToNat, Int.reduceLE, hQ, hlt, zi, hgi, ↓ctrRight, y1, ↓ctrValDepth, y2]
    refine ⟨⟨by omega, x4⟩, x2, by omega, hrt, by omega, ⟨by omega, by omega⟩, m - 1, by omega, i + 1, by omega, rfl⟩
  have hlt : ((i : Int) < (P.length : Int)) = False := eq_false (by omega)
  by_cases k5 : n.kind = 5
  · have k5' : (n.kind = 5) = True := eq_true k5
    have hlv : listV P = v := by rw [← hP, hvr]; exact listV_parts (by rw [← hvr]; exact hrt) k5
    have hvv : (v = v) = True := eq_true rfl
    simp (maxSteps := 400000) only [↓preZ, postZ, coreZ, ↓preU, postU, D_all, F_all, unR, outL, onePV, binS, ↓binS, boundR, ↓boundR, fieldOf, ↓fieldOf, boxR, allocR, newObj, zeroElem, buildSliceR, appendR, setAll, storeR, St.freeze, makeSliceR, minmaxR, makeFuncR, BEq.rfl, reduceIte, reduceCtorEq, Nat.reduceLT, Nat.reduceAdd, Nat.reduceSub, Nat.reduceMul, Nat.reduceBEq, Nat.reduceLeDiff, Int.reduceToNat, Int.reduceLE, hQ, hlt, hg0, k5', ↓ctrAlive2, ↓ctrValList, hlv, ↓ctrSame, hvv]
    repeat' (first | omega | exact hrt | refine ⟨?_, ?_⟩)
  have k5' : (n.kind = 5) = False := eq_false k5
  by_cases k6 : n.kind = 6
  · have k6' : (n.kind = 6) = True := eq_true k6
    have hvv : (v = v) = True := eq_true rfl
    obtain ⟨ho1, ho2⟩ : objVal (namesV v) P = v ∧ objErr (namesV v) P = 0 := by rw [← hP, hvr]; exact obj_parts (by rw [← hvr]; exact hrt) k6
    simp (maxSteps := 400000) only [↓preZ, postZ, coreZ, ↓preU, postU, D_all, F_all, unR, outL, onePV, binS, ↓binS, boundR, ↓boundR, fieldOf, ↓fieldOf, boxR, allocR, newObj, zeroElem, buildSliceR, appendR, setAll, storeR, St.freeze, makeSliceR, minmaxR, makeFuncR, BEq.rfl, reduceIte, reduceCtorEq, Nat.reduceLT, Nat.reduceAdd, Nat.reduceSub, Nat.reduceMul, Nat.reduceBEq, Nat.reduceLeDiff, Int.reduceToNat, Int.reduceLE, hQ, hlt, hg0, k5', k6', ↓ctrAlive2, ↓ctrNames, ↓ctrValObject, ho1, ho2, ↓ctrSame, hvv, extractR]
    repeat' (first | omega | exact hrt.one | exact (fun p hp => (prt p hp).one.ne) | exact (namesV_txt hrt fun n hn => (hv.txt n hn).2) | refine ⟨?_, ?_⟩)
  have k6' : (n.kind = 6) = False := eq_false k6
  have hpn : P = [] := by rw [← hP, hvr]; exact (partsV_none (by rw [← hvr]; exact hrt) (by omega)).1
  have hd0 : depthV v = 0 := by rw [hvr, depthV_eq (by rw [← hvr]; exact hrt), if_neg (by omega)]
  have hpl0 : ((P.length : Int) = 0) = True := eq_true (by rw [hpn]; rfl)
  have hd0' : ((depthV v : Int) = 0) = True := eq_true (by omega)
  simp (maxSteps := 400000) only [↓preZ, postZ, coreZ, ↓preU, postU, D_all, F_all, unR, outL, onePV, binS, ↓binS, boundR, ↓boundR, fieldOf, ↓fieldOf, boxR, allocR, newObj, zeroElem, buildSliceR, appendR, setAll, storeR, St.freeze, makeSliceR, minmaxR, makeFuncR, BEq.rfl, reduceIte, reduceCtorEq, Nat.reduceLT, Nat.reduceAdd, Nat.reduceSub, Nat.reduceMul, Nat.reduceBEq, Nat.reduceLeDiff, Int.reduceToNat, Int.reduceLE, hQ, hlt, hg0, k5', k6', ↓ctrAlive2, ↓ctrValDepth, hpl0, hd0']
  repeat' (first | omega | exact hrt | refine ⟨?_, ?_⟩)
end Lp
