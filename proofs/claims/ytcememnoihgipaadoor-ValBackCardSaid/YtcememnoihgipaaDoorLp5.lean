/-
  Part 5 of what the statement rests on: LpW30, LpD1, LpD2, LpV5, LpLay, LpLib, LpD4, LpD5, LpV10, LpX, LpUse, LpRes, LpD6, LpD9, LpD10, LpD11, LpD12, LpD7, LpD8, LpD13, LpD3, LpRd, LpM1. No condition.
-/
import Derived.Test.YtcememnoihgipaaDoorLp4
import Derived.Lib.ValidLaws
import Derived.Shelf.Strings.FuncGrows
import Derived.Lib.TrimByte
import Derived.Shelf.SlGeneric
import Derived.Ground.NamesProg
import Derived.Ground.Names8Prog
import Derived.Shelf.Strings.Trim
import Derived.Shelf.Sort.Plain
import Derived.Shelf.Slices.In.SortNone
import Derived.Shelf.Unicode.ValidAny
import Derived.Shelf.Spec.SlicesGrow
import Derived.Test.YtcememnoihgipaaDoorProg
import Derived.Deep.Slices
import Derived.ChangeShapes
import Derived.SizedLaws
import Derived.Deep.DeepHandedRow
import Derived.JoinedOf
import Derived.Below
import Derived.Carry
import Derived.ChangeOld
import Derived.RowKit
import Derived.OpenShut

set_option linter.all false

/-! LpW30 -/

namespace Lp
open Go Go.Proofs

set_option maxHeartbeats 4000000
set_option maxRecDepth 20000
set_option linter.unusedSimpArgs false


theorem zNa : (PV.ofV (Value.agg { toList := [Value.int IntKind.i64 0, Value.int IntKind.i64 0, Value.string { data := { toList := [] } }, Value.string { data := { toList := [] } }, Value.bool false, Value.int IntKind.i64 0] })).isAgg = true := rfl
theorem zNp (n : Nd) : (PV.ofV (Value.agg { toList := [Value.int IntKind.i64 0, Value.int IntKind.i64 0, Value.string { data := { toList := [] } }, Value.string { data := { toList := [] } }, Value.bool false, Value.int IntKind.i64 0] })).putCells 0 [.int .i64 n.kind, .int .i64 n.many, .str n.name, .str n.s, .bool n.neg, .int .i64 n.e] = encN n := rfl
theorem nmP (n : Nd) (nm : List UInt8) : (encN n).putCells 2 [.str nm] = encN { n with name := nm } := rfl
theorem enc6 (n : Nd) : (encN n).cells.length = 6 := rfl
theorem enc6s (n : Nd) : (encN n).cells.all PV.storable = true := rfl
theorem enc6a (n : Nd) : (encN n).isAgg = true := rfl
theorem enc6c (n : Nd) : ((encN n).cells.all fun c => !c.isAgg) = true := rfl
theorem enc6t (n : Nd) : PV.agg (List.take 6 (encN n).cells) = encN n := rfl

theorem listV_take (l : List Vl) {i : Nat} {v : Vl} (h : l[i]? = some v) : (l.take (i + 1)).flatten = (l.take i).flatten ++ v := by
  rw [List.take_add_one, h]; simp

theorem flat_take (l : List Vl) {i : Nat} {v : Vl} (h : l[i]? = some v) : (l.take i).flatten.length + v.length ≤ l.flatten.length := by
  have e : l.flatten.length = ((l.take (i + 1)).flatten ++ (l.drop (i + 1)).flatten).length := by rw [← List.flatten_append, List.take_append_drop]
  rw [e, List.take_add_one, h]; simp

/-- A node of zeros. -/
theorem zNl : (PV.ofV (Value.agg { toList := [Value.int IntKind.i64 0, Value.int IntKind.i64 0, Value.string { data := { toList := [] } }, Value.string { data := { toList := [] } }, Value.bool false, Value.int IntKind.i64 0] })).cells.length = 6 := rfl
theorem zNs : (PV.ofV (Value.agg { toList := [Value.int IntKind.i64 0, Value.int IntKind.i64 0, Value.string { data := { toList := [] } }, Value.string { data := { toList := [] } }, Value.bool false, Value.int IntKind.i64 0] })).cells.all PV.storable = true := rfl

theorem map_frzNI (n : Nat) (objs : List Obj) (v : Vl) : (v.map encN).map (PV.mapCells (frzI 0 n objs)) = v.map encN := by
  rw [List.map_map]
  exact List.map_congr_left fun x _ => rfl

theorem nodes_frz (v : Vl) (ver : Nat) (t : TypeId) (rest : List Obj) : frz 1 0 (⟨t, 6, v.map encN, true, ver⟩ :: rest) (.osl 0 ver) = encV v := by
  simp only [frz, Nat.not_lt_zero, if_false, frzI, List.getElem?_cons_zero, Nat.le_refl, decide_true, Bool.true_and, beq_self_eq_true, if_true, map_frzNI]
  rfl

theorem list_spec (l : List Vl) (hl : l.length ≤ 1000000) (hb : l.flatten.length ≤ 1000000) : FnSpec Tryd.prog f_louperef02_List [encL l] [] (encV (listV l)) [] := by
  refine k_louperef02_List.pureG (T := tabL Tryd.prog []) 1 hD (kOk_tabL tabOk_nil) hmix (by decide) fun Q hQ => ?_
  try simp only [F_all]
  simp (maxSteps := 400000) only [↓preZ, postZ, coreZ, ↓preU, postU, D_all, F_all, unR, outL, onePV, binS, ↓binS, boundR, ↓boundR, fieldOf, ↓fieldOf, boxR, allocR, newObj, zeroElem, buildSliceR, appendR, setAll, storeR, St.freeze, makeSliceR, minmaxR, makeFuncR, BEq.rfl, reduceIte, reduceCtorEq, Nat.reduceLT, Nat.reduceAdd, Nat.reduceSub, Nat.reduceMul, Nat.reduceBEq, Nat.reduceLeDiff, Int.reduceToNat, Int.reduceLE, hQ, c_louperef02_List, zNl, zNs]
  refine wpc_loop (fun m S => ∃ i ver : Nat, i + m = l.length ∧ S = ⟨tmA 22 [(0, encL l), (3, .osl 0 ver), (4, .int .i64 i)], [⟨t_api_Node, 6, (((⟨5, l.length, [], [], false, 0⟩ : Nd) :: (l.take i).flatten).map encN), true, ver⟩]⟩) l.length ⟨0, 1, by omega, ?_⟩ ?_
  · simp only [normR, keepR, Nat.reduceAdd, lkR, Nat.reduceBEq, F_all, List.map_nil]
    rfl
  rintro m S ⟨i, ver, him, rfl⟩
  rcases Nat.lt_or_ge i l.length with h | h
  rotate_left 1
  · have hlt : ((i : Int) < (l.length : Int)) = False := eq_false (by omega)
    simp (maxSteps := 400000) only [↓preZ, postZ, coreZ, ↓preU, postU, D_all, F_all, unR, outL, onePV, binS, ↓binS, boundR, ↓boundR, fieldOf, ↓fieldOf, boxR, allocR, newObj, zeroElem, buildSliceR, appendR, setAll, storeR, St.freeze, makeSliceR, minmaxR, makeFuncR, BEq.rfl, reduceIte, reduceCtorEq, Nat.reduceLT, Nat.reduceAdd, Nat.reduceSub, Nat.reduceMul, Nat.reduceBEq, Nat.reduceLeDiff, Int.reduceToNat, Int.reduceLE, hQ, hlt]
    rw [List.take_of_length_le h]
    exact (nodes_frz (listV l) ver t_api_Node []).symm
  have hlt : ((i : Int) < (l.length : Int)) = True := eq_true (by omega)
  have hgi := List.getElem?_eq_getElem h
  generalize l[i] = v at hgi
  have hs := listV_take l hgi
  have hf := flat_take l hgi
  have zi : (0 ≤ (i : Int)) = True := eq_true (by omega)
  simp (maxSteps := 400000) only [↓preZ, postZ, coreZ, ↓preU, postU, D_all, F_all, unR, outL, onePV, binS, ↓binS, boundR, ↓boundR, fieldOf, ↓fieldOf, boxR, allocR, newObj, zeroElem, buildSliceR, appendR, setAll, storeR, St.freeze, makeSliceR, minmaxR, makeFuncR, BEq.rfl, reduceIte, reduceCtorEq, Nat.reduceLT, Nat.reduceAdd, Nat.reduceSub, Nat.reduceMul, Nat.reduceBEq, Nat.reduceLeDiff, Int.reduceToNat, Int.reduceLE, hQ, hlt, zi, hgi, zNl, zNs]
  refine ⟨by omega, by omega, ⟨by omega, by omega⟩, m - 1, by omega, i + 1, ver + 1, by omega, ?_⟩
  rw [hs]
  rfl

def ctrList : Ctr := fun args objs K => match args with
  | [a0] => ofE encL a0 (HK.mk : HK fun l => (l.length ≤ 1000000) ∧ (l.flatten.length ≤ 1000000) ∧ K (encV (listV l)) objs 0)
  | _ => False
theorem ctrList_ok : CtrOk Tryd.prog f_louperef02_List (ctrList) := by
  intro args objs K h
  unfold ctrList at h
  split at h
  · rename_i a0
    obtain ⟨l, rfl, h1, h2, hk⟩ := h
    exact ⟨_, _, _, .pure _ rfl (list_spec l h1 h2), hk⟩
  · exact h.elim
end Lp

/-! LpD1 -/

namespace Lp
open Go Go.Proofs

set_option maxHeartbeats 4000000
set_option maxRecDepth 20000
set_option linter.unusedSimpArgs false

theorem lists_spec (a b : List Vl) (ha : a.length ≤ 1000000) (hb : b.length ≤ 1000000) (ha' : ∀ v ∈ a, v.length ≤ 1000000) (hb' : ∀ v ∈ b, v.length ≤ 1000000) : FnSpec Tryd.prog f_louperef02_Lists [encL a, encL b] [] (.bool (decide (a = b))) [] := by
  refine k_louperef02_Lists.pureG (T := tabL Tryd.prog [(f_louperef02_Same, ctrSame)]) 0 hD (kOk_tabL (tabOk_cons ctrSame_ok tabOk_nil)) hmix (by decide) fun Q hQ => ?_
  try simp only [F_all]
  by_cases hl : a.length = b.length
  rotate_left 1
  · have hl' : ((a.length : Int) = (b.length : Int)) = False := eq_false (by omega)
    have hr : decide (a = b) = false := decide_eq_false fun h => hl (by rw [h])
    simp (maxSteps := 400000) only [↓preZ, postZ, coreZ, ↓preU, postU, D_all, F_all, unR, outL, onePV, binS, ↓binS, boundR, ↓boundR, fieldOf, ↓fieldOf, boxR, allocR, newObj, zeroElem, buildSliceR, appendR, setAll, storeR, St.freeze, makeSliceR, minmaxR, makeFuncR, BEq.rfl, reduceIte, reduceCtorEq, Nat.reduceLT, Nat.reduceAdd, Nat.reduceSub, Nat.reduceMul, Nat.reduceBEq, Nat.reduceLeDiff, Int.reduceToNat, Int.reduceLE, hQ, c_louperef02_Lists, hl', hr]
  have hl' : ((a.length : Int) = (b.length : Int)) = True := eq_true (by omega)
  simp (maxSteps := 400000) only [↓preZ, postZ, coreZ, ↓preU, postU, D_all, F_all, unR, outL, onePV, binS, ↓binS, boundR, ↓boundR, fieldOf, ↓fieldOf, boxR, allocR, newObj, zeroElem, buildSliceR, appendR, setAll, storeR, St.freeze, makeSliceR, minmaxR, makeFuncR, BEq.rfl, reduceIte, reduceCtorEq, Nat.reduceLT, Nat.reduceAdd, Nat.reduceSub, Nat.reduceMul, Nat.reduceBEq, Nat.reduceLeDiff, Int.reduceToNat, Int.reduceLE, hQ, c_louperef02_Lists, hl']
  refine wpc_loop (fun m S => ∃ i : Nat, i + m = a.length ∧ (∀ j, j < i → a[j]? = b[j]?) ∧ S = ⟨tmA 27 [(0, encL a), (1, encL b), (5, .int .i64 i)], []⟩) a.length ⟨0, by omega, fun j h => absurd h (by omega), ?_⟩ ?_
  · simp only [normR, keepR, Nat.reduceAdd, lkR, Nat.reduceBEq, F_all, List.map_nil]
    rfl
  rintro m S ⟨i, him, hj, rfl⟩
  have zi : (0 ≤ (i : Int)) = True := eq_true (by omega)
  rcases Nat.lt_or_ge i a.length with h | h
  rotate_left 1
  · have hlt : ((i : Int) < (a.length : Int)) = False := eq_false (by omega)
    have hab : a = b := List.ext_getElem? fun j => by
      by_cases hji : j < i
      · exact hj j hji
      · rw [List.getElem?_eq_none (by omega), List.getElem?_eq_none (by omega)]
    have hr : decide (a = b) = true := decide_eq_true hab
    simp (maxSteps := 400000) only [↓preZ, postZ, coreZ, ↓preU, postU, D_all, F_all, unR, outL, onePV, binS, ↓binS, boundR, ↓boundR, fieldOf, ↓fieldOf, boxR, allocR, newObj, zeroElem, buildSliceR, appendR, setAll, storeR, St.freeze, makeSliceR, minmaxR, makeFuncR, BEq.rfl, reduceIte, reduceCtorEq, Nat.reduceLT, Nat.reduceAdd, Nat.reduceSub, Nat.reduceMul, Nat.reduceBEq, Nat.reduceLeDiff, Int.reduceToNat, Int.reduceLE, hQ, hlt, hr]
  have hlt : ((i : Int) < (a.length : Int)) = True := eq_true (by omega)
  have ga := List.getElem?_eq_getElem h
  have gb : b[i]? = some (b[i]'(by omega)) := List.getElem?_eq_getElem (by omega)
  have la := ha' _ (List.getElem_mem h)
  have lb := hb' _ (List.getElem_mem (by omega : i < b.length))
  generalize a[i] = x at ga la
  generalize b[i]'(by omega) = y at gb lb
  by_cases hxy : x = y
  · have hxy' : (x = y) = True := eq_true hxy
    simp (maxSteps := 400000) only [↓preZ, postZ, coreZ, ↓preU, postU, D_all, F_all, unR, outL, onePV, binS, ↓binS, boundR, ↓boundR, fieldOf, ↓fieldOf, boxR, allocR, newObj, zeroElem, buildSliceR, appendR, setAll, storeR, St.freeze, makeSliceR, minmaxR, makeFuncR, BEq.rfl, reduceIte, reduceCtorEq, Nat.reduceLT, Nat.reduceAdd, Nat.reduceSub, Nat.reduceMul, Nat.reduceBEq, Nat.reduceLeDiff, Int.reduceToNat, Int.reduceLE, hQ, hlt, zi, ga, gb, ↓ctrSame, hxy']
    refine ⟨la, lb, ⟨by omega, by omega⟩, m - 1, by omega, i + 1, by omega, ?_, by simp⟩
    intro j hji
    by_cases hjj : j = i
    · subst hjj; rw [ga, gb, hxy]
    · exact hj j (by omega)
  · have hxy' : (x = y) = False := eq_false hxy
    have hr : decide (a = b) = false := decide_eq_false fun h => hxy (by rw [h, gb] at ga; exact (Option.some.inj ga).symm)
    simp (maxSteps := 400000) only [↓preZ, postZ, coreZ, ↓preU, postU, D_all, F_all, unR, outL, onePV, binS, ↓binS, boundR, ↓boundR, fieldOf, ↓fieldOf, boxR, allocR, newObj, zeroElem, buildSliceR, appendR, setAll, storeR, St.freeze, makeSliceR, minmaxR, makeFuncR, BEq.rfl, reduceIte, reduceCtorEq, Nat.reduceLT, Nat.reduceAdd, Nat.reduceSub, Nat.reduceMul, Nat.reduceBEq, Nat.reduceLeDiff, Int.reduceToNat, Int.reduceLE, hQ, hlt, zi, ga, gb, ↓ctrSame, hxy', hr]
    exact ⟨la, lb⟩

def ctrLists : Ctr := fun args objs K => match args with
  | [a0, a1] => ofE encL a0 (HK.mk : HK fun a => ofE encL a1 (HK.mk : HK fun b => (a.length ≤ 1000000) ∧ (b.length ≤ 1000000) ∧ (∀ v ∈ a, v.length ≤ 1000000) ∧ (∀ v ∈ b, v.length ≤ 1000000) ∧ K (.bool (decide (a = b))) objs 0))
  | _ => False
theorem ctrLists_ok : CtrOk Tryd.prog f_louperef02_Lists (ctrLists) := by
  intro args objs K h
  unfold ctrLists at h
  split at h
  · rename_i a0 a1
    obtain ⟨a, rfl, b, rfl, h1, h2, h3, h4, hk⟩ := h
    exact ⟨_, _, _, .pure _ rfl (lists_spec a b h1 h2 h3 h4), hk⟩
  · exact h.elim

theorem texts_spec (a b : List (List UInt8)) (ha : a.length ≤ 1000000) (hb : b.length ≤ 1000000) : FnSpec Tryd.prog f_louperef02_Texts [encT a, encT b] [] (.bool (decide (a = b))) [] := by
  refine k_louperef02_Texts.pureG (T := tabL Tryd.prog []) 0 hD (kOk_tabL tabOk_nil) hmix (by decide) fun Q hQ => ?_
  try simp only [F_all]
  by_cases hl : a.length = b.length
  rotate_left 1
  · have hl' : ((a.length : Int) = (b.length : Int)) = False := eq_false (by omega)
    have hr : decide (a = b) = false := decide_eq_false fun h => hl (by rw [h])
    simp (maxSteps := 400000) only [↓preZ, postZ, coreZ, ↓preU, postU, D_all, F_all, unR, outL, onePV, binS, ↓binS, boundR, ↓boundR, fieldOf, ↓fieldOf, boxR, allocR, newObj, zeroElem, buildSliceR, appendR, setAll, storeR, St.freeze, makeSliceR, minmaxR, makeFuncR, BEq.rfl, reduceIte, reduceCtorEq, Nat.reduceLT, Nat.reduceAdd, Nat.reduceSub, Nat.reduceMul, Nat.reduceBEq, Nat.reduceLeDiff, Int.reduceToNat, Int.reduceLE, hQ, c_louperef02_Texts, hl', hr]
  have hl' : ((a.length : Int) = (b.length : Int)) = True := eq_true (by omega)
  simp (maxSteps := 400000) only [↓preZ, postZ, coreZ, ↓preU, postU, D_all, F_all, unR, outL, onePV, binS, ↓binS, boundR, ↓boundR, fieldOf, ↓fieldOf, boxR, allocR, newObj, zeroElem, buildSliceR, appendR, setAll, storeR, St.freeze, makeSliceR, minmaxR, makeFuncR, BEq.rfl, reduceIte, reduceCtorEq, Nat.reduceLT, Nat.reduceAdd, Nat.reduceSub, Nat.reduceMul, Nat.reduceBEq, Nat.reduceLeDiff, Int.reduceToNat, Int.reduceLE, hQ, c_louperef02_Texts, hl']
  refine wpc_loop (fun m S => ∃ i : Nat, i + m = a.length ∧ (∀ j, j < i → a[j]? = b[j]?) ∧ S = ⟨tmA 26 [(0, encT a), (1, encT b), (5, .int .i64 i)], []⟩) a.length ⟨0, by omega, fun j h => absurd h (by omega), ?_⟩ ?_
  · simp only [normR, keepR, Nat.reduceAdd, lkR, Nat.reduceBEq, F_all, List.map_nil]
    rfl
  rintro m S ⟨i, him, hj, rfl⟩
  have zi : (0 ≤ (i : Int)) = True := eq_true (by omega)
  rcases Nat.lt_or_ge i a.length with h | h
  rotate_left 1
  · have hlt : ((i : Int) < (a.length : Int)) = False := eq_false (by omega)
    have hab : a = b := List.ext_getElem? fun j => by
      by_cases hji : j < i
      · exact hj j hji
      · rw [List.getElem?_eq_none (by omega), List.getElem?_eq_none (by omega)]
    have hr : decide (a = b) = true := decide_eq_true hab
    simp (maxSteps := 400000) only [↓preZ, postZ, coreZ, ↓preU, postU, D_all, F_all, unR, outL, onePV, binS, ↓binS, boundR, ↓boundR, fieldOf, ↓fieldOf, boxR, allocR, newObj, zeroElem, buildSliceR, appendR, setAll, storeR, St.freeze, makeSliceR, minmaxR, makeFuncR, BEq.rfl, reduceIte, reduceCtorEq, Nat.reduceLT, Nat.reduceAdd, Nat.reduceSub, Nat.reduceMul, Nat.reduceBEq, Nat.reduceLeDiff, Int.reduceToNat, Int.reduceLE, hQ, hlt, hr]
  have hlt : ((i : Int) < (a.length : Int)) = True := eq_true (by omega)
  have ga := List.getElem?_eq_getElem h
  have gb : b[i]? = some (b[i]'(by omega)) := List.getElem?_eq_getElem (by omega)
  generalize a[i] = x at ga
  generalize b[i]'(by omega) = y at gb
  by_cases hxy : x = y
  · have hxy' : (x = y) = True := eq_true hxy
    simp (maxSteps := 400000) only [↓preZ, postZ, coreZ, ↓preU, postU, D_all, F_all, unR, outL, onePV, binS, ↓binS, boundR, ↓boundR, fieldOf, ↓fieldOf, boxR, allocR, newObj, zeroElem, buildSliceR, appendR, setAll, storeR, St.freeze, makeSliceR, minmaxR, makeFuncR, BEq.rfl, reduceIte, reduceCtorEq, Nat.reduceLT, Nat.reduceAdd, Nat.reduceSub, Nat.reduceMul, Nat.reduceBEq, Nat.reduceLeDiff, Int.reduceToNat, Int.reduceLE, hQ, hlt, zi, ga, gb, hxy']
    refine ⟨⟨by omega, by omega⟩, m - 1, by omega, i + 1, by omega, ?_, by simp⟩
    intro j hji
    by_cases hjj : j = i
    · subst hjj; rw [ga, gb, hxy]
    · exact hj j (by omega)
  · have hxy' : (x = y) = False := eq_false hxy
    have hr : decide (a = b) = false := decide_eq_false fun h => hxy (by rw [h, gb] at ga; exact (Option.some.inj ga).symm)
    simp (maxSteps := 400000) only [↓preZ, postZ, coreZ, ↓preU, postU, D_all, F_all, unR, outL, onePV, binS, ↓binS, boundR, ↓boundR, fieldOf, ↓fieldOf, boxR, allocR, newObj, zeroElem, buildSliceR, appendR, setAll, storeR, St.freeze, makeSliceR, minmaxR, makeFuncR, BEq.rfl, reduceIte, reduceCtorEq, Nat.reduceLT, Nat.reduceAdd, Nat.reduceSub, Nat.reduceMul, Nat.reduceBEq, Nat.reduceLeDiff, Int.reduceToNat, Int.reduceLE, hQ, hlt, zi, ga, gb, hxy', hr]

def ctrTexts : Ctr := fun args objs K => match args with
  | [a0, a1] => ofE encT a0 (HK.mk : HK fun a => ofE encT a1 (HK.mk : HK fun b => (a.length ≤ 1000000) ∧ (b.length ≤ 1000000) ∧ K (.bool (decide (a = b))) objs 0))
  | _ => False
theorem ctrTexts_ok : CtrOk Tryd.prog f_louperef02_Texts (ctrTexts) := by
  intro args objs K h
  unfold ctrTexts at h
  split at h
  · rename_i a0 a1
    obtain ⟨a, rfl, b, rfl, h1, h2, hk⟩ := h
    exact ⟨_, _, _, .pure _ rfl (texts_spec a b h1 h2), hk⟩
  · exact h.elim

theorem foldl_take {l : List Nat} {i : Nat} {x : Nat} (h : l[i]? = some x) : (l.take (i + 1)).foldl max 0 = max ((l.take i).foldl max 0) x := by
  rw [List.take_add_one, h, List.foldl_append]; rfl

theorem maxI (a b : Nat) : (if ((b : Int) > (a : Int)) then (b : Int) else (a : Int)) = ((max a b : Nat) : Int) := by
  split <;> omega

theorem refDepth_spec : ∀ (f : Nat) (v : Vl), v.length ≤ f → Rt v → v.length ≤ 1000000 → FnSpec Tryd.prog f_louperef02_Depth [encV v] [] (.int .i64 (depthV v)) []
  | 0, v, h, hr, _ => by have := hr.one.ne; cases v <;> simp at h this
  | f + 1, [], _, hr, _ => absurd rfl hr.one.ne
  | f + 1, n :: r, h, hr, hl => by
    have hok : CtrOk Tryd.prog f_louperef02_Depth (fun args objs K => ∃ w : Vl, args = [encV w] ∧ w.length ≤ f ∧ Rt w ∧ w.length ≤ 1000000 ∧ K (.int .i64 (depthV w)) objs 0) := by
      rintro args objs K ⟨w, rfl, h1, h2, h3, hk⟩
      exact ⟨_, _, _, .pure _ rfl (refDepth_spec f w h1 h2 h3), hk⟩
    refine k_louperef02_Depth.pureG (T := tabL Tryd.prog [(f_louperef02_Parts, ctrRefParts), (f_louperef02_Depth, _)]) 0 hD (kOk_tabL (tabOk_cons ctrRefParts_ok (tabOk_cons hok tabOk_nil))) hmix (by decide) fun Q hQ => ?_
    try simp only [F_all]
    generalize hv : n :: r = v at *
    have hg0 : v[0]? = some n := by rw [← hv]; rfl
    have hd := depthV_eq (n := n) (r := r) (by rw [hv]; exact hr)
    rw [hv] at hd
    by_cases hk : n.kind = 5 ∨ n.kind = 6
    rotate_left 1
    · rw [if_neg hk] at hd
      have k5 : (n.kind = 5) = False := eq_false fun h => hk (.inl h)
      have k6 : (n.kind = 6) = False := eq_false fun h => hk (.inr h)
      simp (maxSteps := 400000) only [↓preZ, postZ, coreZ, ↓preU, postU, D_all, F_all, unR, outL, onePV, binS, ↓binS, boundR, ↓boundR, fieldOf, ↓fieldOf, boxR, allocR, newObj, zeroElem, buildSliceR, appendR, setAll, storeR, St.freeze, makeSliceR, minmaxR, makeFuncR, BEq.rfl, reduceIte, reduceCtorEq, Nat.reduceLT, Nat.reduceAdd, Nat.reduceSub, Nat.reduceMul, Nat.reduceBEq, Nat.reduceLeDiff, Int.reduceToNat, Int.reduceLE, hQ, c_louperef02_Depth, hg0, k5, k6]
      rw [hd]; rfl
    rw [if_pos hk] at hd
    have hps : ∀ p ∈ partsV v, Rt p ∧ p.length < v.length := fun p hp => partsV_rt hr hp
    have hdl := depthV_le hr
    have hlen : (partsV v).length ≤ 1000000 := by
      have hp := hr.one
      rw [← hv] at hp ⊢
      obtain ⟨_, ps, h1, _, _⟩ := hp.parts
      have h2 := parts_len _ _ _ h1
      have h3 := parts_le _ _ _ h1
      simp only [partsV, (partsOf_eq h1).1, List.length_map]
      have : r.length + 1 = v.length := by rw [← hv]; rfl
      omega
    generalize hP : partsV v = P at *
    have main : ∀ p5 p6 : Prop, (n.kind = 5) = p5 → (n.kind = 6) = p6 → (p5 = True ∨ p5 = False ∧ p6 = True) → wpc Tryd.prog D (tabL Tryd.prog [(f_louperef02_Parts, ctrRefParts), (f_louperef02_Depth, fun args objs K => ∃ w : Vl, args = [encV w] ∧ w.length ≤ f ∧ Rt w ∧ w.length ≤ 1000000 ∧ K (.int .i64 (depthV w)) objs 0)]) c_louperef02_Depth Q (startS [encV v] 35) := by
      intro p5 p6 k5 k6 hk
      rcases hk with rfl | ⟨rfl, rfl⟩
      all_goals
        simp (maxSteps := 400000) only [↓preZ, postZ, coreZ, ↓preU, postU, D_all, F_all, unR, outL, onePV, binS, ↓binS, boundR, ↓boundR, fieldOf, ↓fieldOf, boxR, allocR, newObj, zeroElem, buildSliceR, appendR, setAll, storeR, St.freeze, makeSliceR, minmaxR, makeFuncR, BEq.rfl, reduceIte, reduceCtorEq, Nat.reduceLT, Nat.reduceAdd, Nat.reduceSub, Nat.reduceMul, Nat.reduceBEq, Nat.reduceLeDiff, Int.reduceToNat, Int.reduceLE, hQ, c_louperef02_Depth, hg0, k5, k6, ↓ctrRefParts, hP]
        refine ⟨hr.one, hl, ?_⟩
        refine wpc_loop (fun m S => ∃ i : Nat, i + m = P.length ∧ S = ⟨tmA 35 [(3, encL P), (4, .int .i64 (((P.map depthV).take i).foldl max 0 : Nat)), (5, .int .i64 i)], []⟩) P.length ⟨0, by omega, ?_⟩ ?_
        · simp only [normR, keepR, Nat.reduceAdd, lkR, Nat.reduceBEq, F_all, List.map_nil]
          rfl
        rintro m S ⟨i, him, rfl⟩
        rcases Nat.lt_or_ge i P.length with h | h
        rotate_left 1
        · have hlt : ((i : Int) < (P.length : Int)) = False := eq_false (by omega)
          rw [List.take_of_length_le (by rw [List.length_map]; omega)]
          simp (maxSteps := 400000) only [↓preZ, postZ, coreZ, ↓preU, postU, D_all, F_all, unR, outL, onePV, binS, ↓binS, boundR, ↓boundR, fieldOf, ↓fieldOf, boxR, allocR, newObj, zeroElem, buildSliceR, appendR, setAll, storeR, St.freeze, makeSliceR, minmaxR, makeFuncR, BEq.rfl, reduceIte, reduceCtorEq, Nat.reduceLT, Nat.reduceAdd, Nat.reduceSub, Nat.reduceMul, Nat.reduceBEq, Nat.reduceLeDiff, Int.reduceToNat, Int.reduceLE, hQ, hlt]
          rw [hd]
          refine ⟨⟨by omega, by omega⟩, by simp⟩
        have hlt : ((i : Int) < (P.length : Int)) = True := eq_true (by omega)
        have zi : (0 ≤ (i : Int)) = True := eq_true (by omega)
        have hgi := List.getElem?_eq_getElem h
        have hpi := hps _ (List.getElem_mem h)
        generalize P[i] = p at hgi hpi
        have hft := foldl_take (l := P.map depthV) (i := i) (x := depthV p) (by rw [List.getElem?_map, hgi]; rfl)
        simp (maxSteps := 400000) only [↓preZ, postZ, coreZ, ↓preU, postU, D_all, F_all, unR, outL, onePV, binS, ↓binS, boundR, ↓boundR, fieldOf, ↓fieldOf, boxR, allocR, newObj, zeroElem, buildSliceR, appendR, setAll, storeR, St.freeze, makeSliceR, minmaxR, makeFuncR, BEq.rfl, reduceIte, reduceCtorEq, Nat.reduceLT, Nat.reduceAdd, Nat.reduceSub, Nat.reduceMul, Nat.reduceBEq, Nat.reduceLeDiff, Int.reduceToNat, Int.reduceLE, hQ, hlt, zi, hgi]
        refine ⟨p, rfl, by omega, hpi.1, by omega, ?_⟩
        refine ⟨⟨by omega, by omega⟩, m - 1, by omega, i + 1, by omega, ?_⟩
        rw [hft, maxI]
        simp
    rcases hk with hk | hk
    · exact main _ _ (eq_true hk) rfl (.inl rfl)
    · by_cases h5 : n.kind = 5
      · exact main _ _ (eq_true h5) rfl (.inl rfl)
      · exact main _ _ (eq_false h5) (eq_true hk) (.inr ⟨rfl, rfl⟩)
theorem refDepth_spec' (v : Vl) (hr : Rt v) (hl : v.length ≤ 1000000) : FnSpec Tryd.prog f_louperef02_Depth [encV v] [] (.int .i64 (depthV v)) [] := refDepth_spec _ v (Nat.le_refl _) hr hl

def ctrRefDepth : Ctr := fun args objs K => match args with
  | [a0] => ofE encV a0 (HK.mk : HK fun v => (Rt v) ∧ (v.length ≤ 1000000) ∧ K (.int .i64 (depthV v)) objs 0)
  | _ => False
theorem ctrRefDepth_ok : CtrOk Tryd.prog f_louperef02_Depth (ctrRefDepth) := by
  intro args objs K h
  unfold ctrRefDepth at h
  split at h
  · rename_i a0
    obtain ⟨v, rfl, h1, h2, hk⟩ := h
    exact ⟨_, _, _, .pure _ rfl (refDepth_spec' v h1 h2), hk⟩
  · exact h.elim
end Lp

/-! LpD2 -/

namespace Lp
open Go Go.Proofs

set_option maxHeartbeats 4000000
set_option maxRecDepth 20000
set_option linter.unusedSimpArgs false

theorem sEqual_spec (a b : Vl) (ha : a.length ≤ 1000000) (hb : b.length ≤ 1000000) : FnSpec Tryd.prog f_slices_Equal_api_Val_api_Node_ [encV a, encV b] [] (.bool (decide (a = b))) [] := by
  refine k_slices_Equal_api_Val_api_Node_.pureG (T := tabL Tryd.prog []) 0 hD (kOk_tabL tabOk_nil) hmix (by decide) fun Q hQ => ?_
  try simp only [F_all]
  by_cases hl : a.length = b.length
  rotate_left 1
  · have hl' : ((a.length : Int) = (b.length : Int)) = False := eq_false (by omega)
    have hr : decide (a = b) = false := decide_eq_false fun h => hl (by rw [h])
    simp (maxSteps := 400000) only [↓preZ, postZ, coreZ, ↓preU, postU, D_all, F_all, unR, outL, onePV, binS, ↓binS, boundR, ↓boundR, fieldOf, ↓fieldOf, boxR, allocR, newObj, zeroElem, buildSliceR, appendR, setAll, storeR, St.freeze, makeSliceR, minmaxR, makeFuncR, BEq.rfl, reduceIte, reduceCtorEq, Nat.reduceLT, Nat.reduceAdd, Nat.reduceSub, Nat.reduceMul, Nat.reduceBEq, Nat.reduceLeDiff, Int.reduceToNat, Int.reduceLE, hQ, c_slices_Equal_api_Val_api_Node_, hl', hr]
  have hl' : ((a.length : Int) = (b.length : Int)) = True := eq_true (by omega)
  simp (maxSteps := 400000) only [↓preZ, postZ, coreZ, ↓preU, postU, D_all, F_all, unR, outL, onePV, binS, ↓binS, boundR, ↓boundR, fieldOf, ↓fieldOf, boxR, allocR, newObj, zeroElem, buildSliceR, appendR, setAll, storeR, St.freeze, makeSliceR, minmaxR, makeFuncR, BEq.rfl, reduceIte, reduceCtorEq, Nat.reduceLT, Nat.reduceAdd, Nat.reduceSub, Nat.reduceMul, Nat.reduceBEq, Nat.reduceLeDiff, Int.reduceToNat, Int.reduceLE, hQ, c_slices_Equal_api_Val_api_Node_, hl']
  refine wpc_loop (fun m S => ∃ i : Nat, i + m = a.length ∧ (∀ j, j < i → a[j]? = b[j]?) ∧ S = ⟨tmA 26 [(0, encV a), (1, encV b), (12, .int .i64 a.length), (13, .int .i64 i)], []⟩) a.length ⟨0, by omega, fun j h => absurd h (by omega), ?_⟩ ?_
  · simp only [normR, keepR, Nat.reduceAdd, lkR, Nat.reduceBEq, F_all, List.map_nil]
    rfl
  rintro m S ⟨i, him, hj, rfl⟩
  have zi : (0 ≤ (i : Int)) = True := eq_true (by omega)
  rcases Nat.lt_or_ge i a.length with h | h
  rotate_left 1
  · have hlt : ((i : Int) < (a.length : Int)) = False := eq_false (by omega)
    have hab : a = b := List.ext_getElem? fun j => by
      by_cases hji : j < i
      · exact hj j hji
      · rw [List.getElem?_eq_none (by omega), List.getElem?_eq_none (by omega)]
    have hr : decide (a = b) = true := decide_eq_true hab
    simp (maxSteps := 400000) only [↓preZ, postZ, coreZ, ↓preU, postU, D_all, F_all, unR, outL, onePV, binS, ↓binS, boundR, ↓boundR, fieldOf, ↓fieldOf, boxR, allocR, newObj, zeroElem, buildSliceR, appendR, setAll, storeR, St.freeze, makeSliceR, minmaxR, makeFuncR, BEq.rfl, reduceIte, reduceCtorEq, Nat.reduceLT, Nat.reduceAdd, Nat.reduceSub, Nat.reduceMul, Nat.reduceBEq, Nat.reduceLeDiff, Int.reduceToNat, Int.reduceLE, hQ, hlt, hr]
  have hlt : ((i : Int) < (a.length : Int)) = True := eq_true (by omega)
  have ga := List.getElem?_eq_getElem h
  have gb : b[i]? = some (b[i]'(by omega)) := List.getElem?_eq_getElem (by omega)
  generalize a[i] = x at ga
  generalize b[i]'(by omega) = y at gb
  by_cases hxy : x = y
  · have hxy' : (x = y) = True := eq_true hxy
    simp (maxSteps := 400000) only [↓preZ, postZ, coreZ, ↓preU, postU, D_all, F_all, unR, outL, onePV, binS, ↓binS, boundR, ↓boundR, fieldOf, ↓fieldOf, boxR, allocR, newObj, zeroElem, buildSliceR, appendR, setAll, storeR, St.freeze, makeSliceR, minmaxR, makeFuncR, BEq.rfl, reduceIte, reduceCtorEq, Nat.reduceLT, Nat.reduceAdd, Nat.reduceSub, Nat.reduceMul, Nat.reduceBEq, Nat.reduceLeDiff, Int.reduceToNat, Int.reduceLE, hQ, hlt, zi, ga, gb, hxy']
    refine ⟨⟨by omega, by omega⟩, m - 1, by omega, i + 1, by omega, ?_, by simp⟩
    intro j hji
    by_cases hjj : j = i
    · subst hjj; rw [ga, gb, hxy]
    · exact hj j (by omega)
  · have hxy' : (x = y) = False := eq_false hxy
    have hr : decide (a = b) = false := decide_eq_false fun h => hxy (by rw [h, gb] at ga; exact (Option.some.inj ga).symm)
    simp (maxSteps := 400000) only [↓preZ, postZ, coreZ, ↓preU, postU, D_all, F_all, unR, outL, onePV, binS, ↓binS, boundR, ↓boundR, fieldOf, ↓fieldOf, boxR, allocR, newObj, zeroElem, buildSliceR, appendR, setAll, storeR, St.freeze, makeSliceR, minmaxR, makeFuncR, BEq.rfl, reduceIte, reduceCtorEq, Nat.reduceLT, Nat.reduceAdd, Nat.reduceSub, Nat.reduceMul, Nat.reduceBEq, Nat.reduceLeDiff, Int.reduceToNat, Int.reduceLE, hQ, hlt, zi, ga, gb, hxy', hr]

def ctrSEqual : Ctr := fun args objs K => match args with
  | [a0, a1] => ofE encV a0 (HK.mk : HK fun a => ofE encV a1 (HK.mk : HK fun b => (a.length ≤ 1000000) ∧ (b.length ≤ 1000000) ∧ K (.bool (decide (a = b))) objs 0))
  | _ => False
theorem ctrSEqual_ok : CtrOk Tryd.prog f_slices_Equal_api_Val_api_Node_ (ctrSEqual) := by
  intro args objs K h
  unfold ctrSEqual at h
  split at h
  · rename_i a0 a1
    obtain ⟨a, rfl, b, rfl, h1, h2, hk⟩ := h
    exact ⟨_, _, _, .pure _ rfl (sEqual_spec a b h1 h2), hk⟩
  · exact h.elim

theorem valSame_spec (a b : Vl) (ha : a.length ≤ 1000000) (hb : b.length ≤ 1000000) : FnSpec Tryd.prog f_val_Same [encV a, encV b] [] (.bool (decide (a = b))) [] := by
  refine k_val_Same.pureG (T := tabL Tryd.prog [(f_slices_Equal_api_Val_api_Node_, ctrSEqual)]) 0 hD (kOk_tabL (tabOk_cons ctrSEqual_ok tabOk_nil)) hmix (by decide) fun Q hQ => ?_
  try simp only [F_all]
  simp (maxSteps := 400000) only [↓preZ, postZ, coreZ, ↓preU, postU, D_all, F_all, unR, outL, onePV, binS, ↓binS, boundR, ↓boundR, fieldOf, ↓fieldOf, boxR, allocR, newObj, zeroElem, buildSliceR, appendR, setAll, storeR, St.freeze, makeSliceR, minmaxR, makeFuncR, BEq.rfl, reduceIte, reduceCtorEq, Nat.reduceLT, Nat.reduceAdd, Nat.reduceSub, Nat.reduceMul, Nat.reduceBEq, Nat.reduceLeDiff, Int.reduceToNat, Int.reduceLE, hQ, c_val_Same, ↓ctrSEqual]
  exact ⟨ha, hb⟩

def ctrValSame : Ctr := fun args objs K => match args with
  | [a0, a1] => ofE encV a0 (HK.mk : HK fun a => ofE encV a1 (HK.mk : HK fun b => (a.length ≤ 1000000) ∧ (b.length ≤ 1000000) ∧ K (.bool (decide (a = b))) objs 0))
  | _ => False
theorem ctrValSame_ok : CtrOk Tryd.prog f_val_Same (ctrValSame) := by
  intro args objs K h
  unfold ctrValSame at h
  split at h
  · rename_i a0 a1
    obtain ⟨a, rfl, b, rfl, h1, h2, hk⟩ := h
    exact ⟨_, _, _, .pure _ rfl (valSame_spec a b h1 h2), hk⟩
  · exact h.elim

/-- What is known in a round of a loop over a function. -/
theorem knI (l : List (FuncId × Ctr)) (n : Nat) : (((tabL Tryd.prog l).inner n).fn = tabF l) ∧ (((tabL Tryd.prog l).inner n).noY = (tabL Tryd.prog l).inner n) ∧ (((tabL Tryd.prog l).inner n).nx = n) := ⟨rfl, rfl, rfl⟩

/-- The parts, as a loop over val.each meets them. -/
theorem each_gives (v : Vl) (hr : Rt v) (hl : v.length ≤ 1000000) : ∃ ps : List Vl, partsV v = ps.map clr ∧ (∀ p ∈ ps, Rt (clr p)) ∧ ps.length ≤ v.length ∧ (namesV v = ps.map nameOf ∨ (∃ n r, v = n :: r ∧ n.kind ≠ 6)) ∧ Gives Tryd.prog f_val_each_1 [.addr (encV v)] (ps.map rowOf) := by
  obtain ⟨n, r, rfl, _⟩ := nameOf_nil hr.name hr.one.ne
  obtain ⟨h1, h2, ps, h3, h4, h5, h6, h7⟩ := hr.parts
  obtain ⟨q1, q2⟩ := partsOf_eq h3
  have h8 := parts_len _ _ _ h3
  have h9 := parts_le _ _ _ h3
  refine ⟨ps, by simp only [partsV, q1], h7, by simp only [List.length_cons]; omega, ?_, each1_gives (n :: r) n r ps rfl (by omega) h2 h3⟩
  by_cases hk : n.kind = 6
  · left; simp only [namesV, if_pos hk, q2]
  · right; exact ⟨n, r, rfl, hk⟩

theorem rowOf_len (ps : List Vl) : ∀ y ∈ ps.map rowOf, y.length = 2 := by
  intro y hy
  obtain ⟨p, _, rfl⟩ := List.mem_map.1 hy
  rfl

theorem rowOf_get {ps : List Vl} {i : Nat} {args : List PV} (h : (ps.map rowOf)[i]? = some args) : ∃ p, ps[i]? = some p ∧ args = [.str (nameOf p), encV (clr p)] := by
  rw [List.getElem?_map] at h
  cases hx : ps[i]? with
  | none => rw [hx] at h; simp at h
  | some p => rw [hx] at h; exact ⟨p, rfl, by simpa [rowOf] using h.symm⟩

def ctrEach2 : Ctr := fun args objs K => match args with
  | [a0] => ofE encV a0 (HK.mk : HK fun v => K (.fn f_val_each_1 [] [.addr (encV v)]) objs 0)
  | _ => False
theorem ctrEach2_ok : CtrOk Tryd.prog f_val_each (ctrEach2) := by
  intro args objs K h
  unfold ctrEach2 at h
  split at h
  · rename_i a0
    obtain ⟨v, rfl, hk⟩ := h
    exact ⟨_, _, _, .pure _ rfl (each_spec v), hk⟩
  · exact h.elim

def ctrDepthF (f : Nat) : Ctr := fun args objs K => match args with
  | [a0] => ofE encV a0 (HK.mk : HK fun v => (v.length ≤ f) ∧ (Rt v) ∧ (v.length ≤ 1000000) ∧ K (.int .i64 (depthV v)) objs 0)
  | _ => False

theorem depth_spec : ∀ (f : Nat) (v : Vl), v.length ≤ f → Rt v → v.length ≤ 1000000 → FnSpec Tryd.prog f_val_Depth [encV v] [] (.int .i64 (depthV v)) []
  | 0, v, h, hr, _ => by have := hr.one.ne; cases v <;> simp at h this
  | f + 1, [], _, hr, _ => absurd rfl hr.one.ne
  | f + 1, n :: r, h, hr, hl => by
    have okDepthF : CtrOk Tryd.prog f_val_Depth (ctrDepthF f) := by
      intro args objs K h
      unfold ctrDepthF at h
      split at h
      · rename_i a0
        obtain ⟨v, rfl, h1, h2, h3, hk⟩ := h
        exact ⟨_, _, _, .pure _ rfl (depth_spec f v h1 h2 h3), hk⟩
      · exact h.elim
    refine k_val_Depth.pureG (T := tabL Tryd.prog [(f_val_each, ctrEach2), (f_val_Depth, ctrDepthF f)]) 0 hD (kOk_tabL (tabOk_cons ctrEach2_ok (tabOk_cons okDepthF tabOk_nil))) hmix (by decide) fun Q hQ => ?_
    try simp only [F_all]
    generalize hv : n :: r = v at *
    have hg0 : v[0]? = some n := by rw [← hv]; rfl
    have hd := depthV_eq (n := n) (r := r) (by rw [hv]; exact hr)
    rw [hv] at hd
    by_cases hk : n.kind = 5 ∨ n.kind = 6
    rotate_left 1
    · rw [if_neg hk] at hd
      have k5 : (n.kind = 5) = False := eq_false fun h => hk (.inl h)
      have k6 : (n.kind = 6) = False := eq_false fun h => hk (.inr h)
      simp (maxSteps := 400000) only [↓preZ, postZ, coreZ, ↓preU, postU, D_all, F_all, unR, outL, onePV, binS, ↓binS, boundR, ↓boundR, fieldOf, ↓fieldOf, boxR, allocR, newObj, zeroElem, buildSliceR, appendR, setAll, storeR, St.freeze, makeSliceR, minmaxR, makeFuncR, BEq.rfl, reduceIte, reduceCtorEq, Nat.reduceLT, Nat.reduceAdd, Nat.reduceSub, Nat.reduceMul, Nat.reduceBEq, Nat.reduceLeDiff, Int.reduceToNat, Int.reduceLE, hQ, c_val_Depth, hg0, k5, k6]
      rw [hd]; rfl
    rw [if_pos hk] at hd
    have hps0 : ∀ p ∈ partsV v, Rt p ∧ p.length < v.length := fun p hp => partsV_rt hr hp
    have hdl := depthV_le hr
    obtain ⟨ps, hP, hprt, hpl, _, hgv⟩ := each_gives v hr hl
    rw [hP] at hd hps0
    have main : ∀ p5 p6 : Prop, (n.kind = 5) = p5 → (n.kind = 6) = p6 → (p5 = True ∨ p5 = False ∧ p6 = True) → wpc Tryd.prog D (tabL Tryd.prog [(f_val_each, ctrEach2), (f_val_Depth, ctrDepthF f)]) c_val_Depth Q (startS [encV v] 28) := by
      intro p5 p6 k5 k6 hk
      rcases hk with rfl | ⟨rfl, rfl⟩
      all_goals
        simp (maxSteps := 400000) only [↓preZ, postZ, coreZ, ↓preU, postU, D_all, F_all, unR, outL, onePV, binS, ↓binS, boundR, ↓boundR, fieldOf, ↓fieldOf, boxR, allocR, newObj, zeroElem, buildSliceR, appendR, setAll, storeR, St.freeze, makeSliceR, minmaxR, makeFuncR, BEq.rfl, reduceIte, reduceCtorEq, Nat.reduceLT, Nat.reduceAdd, Nat.reduceSub, Nat.reduceMul, Nat.reduceBEq, Nat.reduceLeDiff, Int.reduceToNat, Int.reduceLE, hQ, c_val_Depth, hg0, k5, k6, ↓ctrEach2]
        refine wpc_rf f_val_each_1 [.addr (encV v)] (ps.map rowOf) (fun i O => i ≤ ps.length ∧ O = [⟨t_int, 1, [.int .i64 (((ps.map (fun p => depthV (clr p))).take i).foldl max 0 : Nat)], true, 1⟩]) rfl rfl rfl trivial hgv (rowOf_len ps) ⟨Nat.zero_le _, rfl⟩ ?_ ?_ ?_
        · rintro i O ⟨_, rfl⟩
          refine ⟨by simp, ?_⟩
          intro o ho x hx c hc
          simp only [List.mem_singleton] at ho
          subst ho
          simp only [List.mem_singleton] at hx
          subst hx
          simp only [PV.cells, List.mem_singleton] at hc
          subst hc
          rfl
        · rintro i args O ⟨hi, rfl⟩ ha
          obtain ⟨p, hpi, rfl⟩ := rowOf_get ha
          have hpm := hps0 (clr p) (List.mem_map.2 ⟨p, List.mem_of_getElem? hpi, rfl⟩)
          have hft := foldl_take (l := ps.map (fun p => depthV (clr p))) (i := i) (x := depthV (clr p)) (by rw [List.getElem?_map, hpi]; rfl)
          have hil := (List.getElem?_eq_some_iff.1 hpi).1
          simp (maxSteps := 400000) only [↓preZ, postZ, coreZ, ↓preU, postU, D_all, F_all, unR, outL, onePV, binS, ↓binS, boundR, ↓boundR, fieldOf, ↓fieldOf, boxR, allocR, newObj, zeroElem, buildSliceR, appendR, setAll, storeR, St.freeze, makeSliceR, minmaxR, makeFuncR, BEq.rfl, reduceIte, reduceCtorEq, Nat.reduceLT, Nat.reduceAdd, Nat.reduceSub, Nat.reduceMul, Nat.reduceBEq, Nat.reduceLeDiff, Int.reduceToNat, Int.reduceLE, hQ, setL, knI, ↓ctrDepthF, maxI]
          exact ⟨by omega, hpm.1, by omega, rfl, by omega, by rw [hft]; rfl⟩
        · rintro O ⟨_, rfl⟩
          rw [List.length_map, List.take_of_length_le (by rw [List.length_map]; exact Nat.le_refl _)]
          simp (maxSteps := 400000) only [↓preZ, postZ, coreZ, ↓preU, postU, D_all, F_all, unR, outL, onePV, binS, ↓binS, boundR, ↓boundR, fieldOf, ↓fieldOf, boxR, allocR, newObj, zeroElem, buildSliceR, appendR, setAll, storeR, St.freeze, makeSliceR, minmaxR, makeFuncR, BEq.rfl, reduceIte, reduceCtorEq, Nat.reduceLT, Nat.reduceAdd, Nat.reduceSub, Nat.reduceMul, Nat.reduceBEq, Nat.reduceLeDiff, Int.reduceToNat, Int.reduceLE, hQ]
          rw [List.map_map] at hd
          have hd' : depthV v = List.foldl max 0 (List.map (fun p => depthV (clr p)) ps) + 1 := hd
          rw [hd']
          exact ⟨⟨by omega, by omega⟩, by simp⟩
    rcases hk with hk | hk
    · exact main _ _ (eq_true hk) rfl (.inl rfl)
    · by_cases h5 : n.kind = 5
      · exact main _ _ (eq_true h5) rfl (.inl rfl)
      · exact main _ _ (eq_false h5) (eq_true hk) (.inr ⟨rfl, rfl⟩)
theorem depth_spec' (v : Vl) (hr : Rt v) (hl : v.length ≤ 1000000) : FnSpec Tryd.prog f_val_Depth [encV v] [] (.int .i64 (depthV v)) [] := depth_spec _ v (Nat.le_refl _) hr hl

def ctrValDepth : Ctr := fun args objs K => match args with
  | [a0] => ofE encV a0 (HK.mk : HK fun v => (Rt v) ∧ (v.length ≤ 1000000) ∧ K (.int .i64 (depthV v)) objs 0)
  | _ => False
theorem ctrValDepth_ok : CtrOk Tryd.prog f_val_Depth (ctrValDepth) := by
  intro args objs K h
  unfold ctrValDepth at h
  split at h
  · rename_i a0
    obtain ⟨v, rfl, h1, h2, hk⟩ := h
    exact ⟨_, _, _, .pure _ rfl (depth_spec' v h1 h2), hk⟩
  · exact h.elim
end Lp

/-! LpV5 -/

namespace Lp
open Go Go.Lib

set_option maxRecDepth 100000
set_option maxHeartbeats 2000000

def leadOk (b0 : Nat) : Bool :=
  decide (b0 < 128) || (firstT b0 % 8 == 1 && (decide (b0 < 194) || decide (245 ≤ b0))) || (firstT b0 % 8 == 2 && accLo (firstT b0 / 16) == 128 && accHi (firstT b0 / 16) == 191 && decide (194 ≤ b0) && decide (b0 < 224)) ||
    (firstT b0 % 8 == 3 && accLo (firstT b0 / 16) == (if b0 = 224 then 160 else 128) && accHi (firstT b0 / 16) == (if b0 = 237 then 159 else 191) && decide (224 ≤ b0) && decide (b0 < 240)) ||
    (firstT b0 % 8 == 4 && accLo (firstT b0 / 16) == (if b0 = 240 then 144 else 128) && accHi (firstT b0 / 16) == (if b0 = 244 then 143 else 191) && decide (240 ≤ b0) && decide (b0 < 245))

theorem leadOk_all : (List.range 256).all leadOk = true := by decide

theorem lead_class (b0 : Nat) (h : b0 < 256) (h' : 128 ≤ b0) : (firstT b0 % 8 = 1 ∧ (b0 < 194 ∨ 245 ≤ b0)) ∨ (firstT b0 % 8 = 2 ∧ accLo (firstT b0 / 16) = 128 ∧ accHi (firstT b0 / 16) = 191 ∧ 194 ≤ b0 ∧ b0 < 224) ∨
    (firstT b0 % 8 = 3 ∧ accLo (firstT b0 / 16) = (if b0 = 224 then 160 else 128) ∧ accHi (firstT b0 / 16) = (if b0 = 237 then 159 else 191) ∧ 224 ≤ b0 ∧ b0 < 240) ∨
    (firstT b0 % 8 = 4 ∧ accLo (firstT b0 / 16) = (if b0 = 240 then 144 else 128) ∧ accHi (firstT b0 / 16) = (if b0 = 244 then 143 else 191) ∧ 240 ≤ b0 ∧ b0 < 245) := by
  have := List.all_eq_true.1 leadOk_all b0 (List.mem_range.2 h)
  simp only [leadOk, Bool.or_eq_true, Bool.and_eq_true, decide_eq_true_eq, beq_iff_eq, and_assoc] at this
  rcases this with (((g | g) | g) | g) | g
  · omega
  · exact .inl g
  · exact .inr (.inl g)
  · exact .inr (.inr (.inl g))
  · exact .inr (.inr (.inr g))

theorem utf_step (c : UInt8) (t : List UInt8) : utf (c :: t) = (runeN (c :: t) != 0 && utf ((c :: t).drop (runeN (c :: t)))) := by
  unfold utf
  rw [List.length_cons, utfF]
  simp only [List.isEmpty_cons, Bool.false_or]
  by_cases h : runeN (c :: t) = 0
  · simp [h]
  · congr 1
    exact utfF_more _ _ _ (by simp only [List.length_drop, List.length_cons]; omega) (Nat.le_refl _)

theorem u8n (c : UInt8) (n : Nat) (h : n < 256) : c = UInt8.ofNat n ↔ c.toNat = n := by
  constructor
  · rintro rfl; simp [UInt8.toNat_ofNat']; omega
  · intro e; rw [← e]; simp

theorem check_rune (c : UInt8) (t : List UInt8) (h : 128 ≤ c.toNat) :
    checkN (t.length + 1) (t.getD 0 0).toNat (t.getD 1 0).toNat (t.getD 2 0).toNat (firstT c.toNat % 8) (accLo (firstT c.toNat / 16)) (accHi (firstT c.toNat / 16)) =
      if runeN (c :: t) = 0 then none else some (runeN (c :: t)) := by
  have e1 : (c < 128) ↔ c.toNat < 128 := UInt8.lt_iff_toNat_lt
  have e2 : (194 ≤ c) ↔ 194 ≤ c.toNat := UInt8.le_iff_toNat_le
  have e3 : (c < 224) ↔ c.toNat < 224 := UInt8.lt_iff_toNat_lt
  have e4 : (224 ≤ c) ↔ 224 ≤ c.toNat := UInt8.le_iff_toNat_le
  have e5 : (c < 240) ↔ c.toNat < 240 := UInt8.lt_iff_toNat_lt
  have e6 : (240 ≤ c) ↔ 240 ≤ c.toNat := UInt8.le_iff_toNat_le
  have e7 : (c < 245) ↔ c.toNat < 245 := UInt8.lt_iff_toNat_lt
  have e8 : c = 224 ↔ c.toNat = 224 := u8n c 224 (by decide)
  have e9 : c = 237 ↔ c.toNat = 237 := u8n c 237 (by decide)
  have ea : c = 240 ↔ c.toNat = 240 := u8n c 240 (by decide)
  have eb : c = 244 ↔ c.toNat = 244 := u8n c 244 (by decide)
  have hc : ∀ i, contB t i = true ↔ i < t.length ∧ 128 ≤ (t.getD i 0).toNat ∧ (t.getD i 0).toNat < 192 := by
    intro i
    unfold contB
    cases hg : t[i]? with
    | none =>
      have := List.getElem?_eq_none_iff.1 hg
      simp; omega
    | some d =>
      have hl := (List.getElem?_eq_some_iff.1 hg).1
      have hd : t.getD i 0 = d := by simp [List.getD, hg]
      rw [hd]
      simp only [Bool.and_eq_true, decide_eq_true_eq]
      have x1 : (128 ≤ d) ↔ 128 ≤ d.toNat := UInt8.le_iff_toNat_le
      have x2 : (d < 192) ↔ d.toNat < 192 := UInt8.lt_iff_toNat_lt
      rw [x1, x2]
      exact ⟨fun g => ⟨hl, g⟩, fun g => g.2⟩
  have hh : t.headD 0 = t.getD 0 0 := by cases t <;> rfl
  have f1 : (t.getD 0 0 < 160) ↔ (t.getD 0 0).toNat < 160 := UInt8.lt_iff_toNat_lt
  have f2 : (160 ≤ t.getD 0 0) ↔ 160 ≤ (t.getD 0 0).toNat := UInt8.le_iff_toNat_le
  have f3 : (t.getD 0 0 < 144) ↔ (t.getD 0 0).toNat < 144 := UInt8.lt_iff_toNat_lt
  have f4 : (144 ≤ t.getD 0 0) ↔ 144 ≤ (t.getD 0 0).toNat := UInt8.le_iff_toNat_le
  simp only [runeN, e1, e2, e3, e4, e5, e6, e7, e8, e9, ea, eb, hc, hh, f1, f2, f3, f4]
  have hn := c.toNat_lt
  generalize c.toNat = n at *
  generalize (t.getD 0 0).toNat = b1 at *
  generalize (t.getD 1 0).toNat = b2 at *
  generalize (t.getD 2 0).toNat = b3 at *
  generalize t.length = L at *
  clear e1 e2 e3 e4 e5 e6 e7 e8 e9 ea eb hc f1 f2 f3 f4 hh
  obtain ⟨R, hR⟩ : ∃ R, (if n < 128 then 1 else if 194 ≤ n ∧ n < 224 ∧ 0 < L ∧ 128 ≤ b1 ∧ b1 < 192 then 2
    else if 224 ≤ n ∧ n < 240 ∧ (0 < L ∧ 128 ≤ b1 ∧ b1 < 192) ∧ 1 < L ∧ 128 ≤ b2 ∧ b2 < 192 then (if n = 224 ∧ b1 < 160 ∨ n = 237 ∧ 160 ≤ b1 then 0 else 3)
    else if 240 ≤ n ∧ n < 245 ∧ (0 < L ∧ 128 ≤ b1 ∧ b1 < 192) ∧ (1 < L ∧ 128 ≤ b2 ∧ b2 < 192) ∧ 2 < L ∧ 128 ≤ b3 ∧ b3 < 192 then (if n = 240 ∧ b1 < 144 ∨ n = 244 ∧ 144 ≤ b1 then 0 else 4) else 0) = R := ⟨_, rfl⟩
  rw [hR]
  rw [if_neg (by omega)] at hR
  rcases lead_class n hn h with ⟨k1, k2⟩ | ⟨k1, k2, k3, k4, k5⟩ | ⟨k1, k2, k3, k4, k5⟩ | ⟨k1, k2, k3, k4, k5⟩
  · rw [k1]
    rw [if_neg (by omega), if_neg (by omega), if_neg (by omega)] at hR
    subst hR; rfl
  · rw [k1, k2, k3]
    simp only [checkN, if_true]
    by_cases g : 0 < L ∧ 128 ≤ b1 ∧ b1 < 192
    · rw [if_pos ⟨k4, k5, g⟩] at hR
      subst hR
      rw [if_neg (by omega)]; rfl
    · rw [if_neg (by omega), if_neg (by omega), if_neg (by omega)] at hR
      subst hR
      rw [if_pos (by omega)]; rfl
  · rw [k1, k2, k3]
    simp only [checkN, Nat.reduceEqDiff, if_false, if_true]
    rw [if_neg (by omega)] at hR
    by_cases g : (0 < L ∧ 128 ≤ b1 ∧ b1 < 192) ∧ 1 < L ∧ 128 ≤ b2 ∧ b2 < 192
    · rw [if_pos ⟨k4, k5, g⟩] at hR
      by_cases g2 : n = 224 ∧ b1 < 160 ∨ n = 237 ∧ 160 ≤ b1
      · rw [if_pos g2] at hR
        subst hR
        rw [if_pos (by split <;> split <;> omega)]; rfl
      · rw [if_neg g2] at hR
        subst hR
        rw [if_neg (by split <;> split <;> omega)]; rfl
    · rw [if_neg (fun x => g x.2.2), if_neg (by omega)] at hR
      subst hR
      rw [if_pos (by split <;> split <;> omega)]; rfl
  · rw [k1, k2, k3]
    simp only [checkN, Nat.reduceEqDiff, if_false, if_true]
    rw [if_neg (by omega), if_neg (by omega)] at hR
    by_cases g : (0 < L ∧ 128 ≤ b1 ∧ b1 < 192) ∧ (1 < L ∧ 128 ≤ b2 ∧ b2 < 192) ∧ 2 < L ∧ 128 ≤ b3 ∧ b3 < 192
    · rw [if_pos ⟨k4, k5, g⟩] at hR
      by_cases g2 : n = 240 ∧ b1 < 144 ∨ n = 244 ∧ 144 ≤ b1
      · rw [if_pos g2] at hR
        subst hR
        rw [if_pos (by split <;> split <;> omega)]; rfl
      · rw [if_neg g2] at hR
        subst hR
        rw [if_neg (by split <;> split <;> omega)]; rfl
    · rw [if_neg (fun x => g x.2.2)] at hR
      subst hR
      rw [if_pos (by split <;> split <;> omega)]; rfl

theorem validD_utf : ∀ (k : Nat) (l : List UInt8), l.length ≤ k → validD l = utf l
  | _, [], _ => rfl
  | 0, _ :: _, h => by simp at h
  | k + 1, c :: t, h => by
    simp only [List.length_cons] at h
    rw [utf_step]
    by_cases hc : c.toNat < 128
    · have hr : runeN (c :: t) = 1 := by
        simp only [runeN]; rw [if_pos (UInt8.lt_iff_toNat_lt.2 hc)]
      rw [validD_cons c t hc, hr, validD_utf k t (by omega)]; simp
    · rw [validD_lead _ (by simp) (by simpa using hc)]
      have e := check_rune c t (by omega)
      simp only [List.getD_cons_zero, List.getD_cons_succ, List.length_cons] at e ⊢
      rw [e]
      by_cases h0 : runeN (c :: t) = 0
      · rw [if_pos h0, h0]; rfl
      · rw [if_neg h0]
        have : ((c :: t).drop (runeN (c :: t))).length ≤ k := by simp only [List.length_drop, List.length_cons]; omega
        rw [show (runeN (c :: t) != 0) = true by simpa using h0, Bool.true_and]
        exact validD_utf k _ this

theorem validD_eq (l : List UInt8) : validD l = utf l := validD_utf _ l (Nat.le_refl _)

/-- Figures, as runes. -/
def figP (x : Nat) : Bool := decide (48 ≤ x) && decide (x ≤ 57)

theorem decodeN_fig (n b0 b1 b2 b3 : Nat) (h : (decodeN n b0 b1 b2 b3).1 < 128) : b0 < 128 ∧ decodeN n b0 b1 b2 b3 = (b0, 1) := by
  unfold decodeN at *
  split at h
  · rename_i h0; rw [if_pos h0]; exact ⟨h0, rfl⟩
  · exfalso
    repeat' split at h
    all_goals (simp at h; try omega)

theorem decodeN_low (n b0 b1 b2 b3 : Nat) (h : b0 < 128) : decodeN n b0 b1 b2 b3 = (b0, 1) := by unfold decodeN; rw [if_pos h]

theorem figP_lt {x : Nat} (h : figP x = true) : x < 128 := by simp [figP] at h; omega

/-- From a place on there are figures alone. -/
def digFrom (l : List UInt8) (i : Nat) : Prop := ∀ j, i ≤ j → j < l.length → figP (l.getD j 0).toNat = true

theorem idx_figs (s : ByteArray) : ∀ (f pos : Nat), s.data.toList.length - pos ≤ f → (idxFuncFrom figP false s f pos = -1 ↔ digFrom s.data.toList pos)
  | 0, pos, h => by
    simp only [idxFuncFrom, true_iff]
    intro j h1 h2; omega
  | f + 1, pos, h => by
    unfold idxFuncFrom
    rw [size_eq]
    split
    · rename_i hp
      rw [decode_N]
      generalize hd : decodeN _ _ _ _ _ = d
      split
      · rename_i hf
        have : ¬ digFrom s.data.toList pos := fun hg => by
          have g := hg pos (Nat.le_refl _) hp
          rw [decodeN_low _ _ _ _ _ (figP_lt g)] at hd
          rw [← hd] at hf
          simp only at hf
          rw [g] at hf; cases hf
        simp only [this, iff_false]; omega
      · rename_i hf
        simp only [Bool.not_eq_false] at hf
        have hlt := figP_lt hf
        rw [← hd] at hlt
        obtain ⟨g1, g2⟩ := decodeN_fig _ _ _ _ _ hlt
        rw [g2] at hd
        subst hd
        rw [idx_figs s f (pos + 1) (by omega)]
        constructor
        · intro hh j h1 h2
          rcases Nat.eq_or_lt_of_le h1 with rfl | h1
          · exact hf
          · exact hh j h1 h2
        · intro hh j h1 h2; exact hh j (by omega) h2
    · rename_i hp
      simp only [true_iff]
      intro j h1 h2; omega

theorem decodeLast_fig (l : List UInt8) (h : (decodeLastL l).1 < 128) : l ≠ [] ∧ (l.getD (l.length - 1) 0).toNat < 128 ∧ decodeLastL l = ((l.getD (l.length - 1) 0).toNat, 1) := by
  unfold decodeLastL at *
  split at h
  · simp [Utf8.runeError] at h
  · rename_i hne
    rw [if_neg hne]
    split at h
    · rename_i h1; rw [if_pos h1]; exact ⟨hne, h1, rfl⟩
    · rename_i h1
      exfalso
      simp only at h
      split at h
      · rename_i h2
        rw [decodeL_N] at h h2
        obtain ⟨g1, g2⟩ := decodeN_fig _ _ _ _ _ h
        rw [g2] at h2
        simp only [getD_dropU] at g1
        have : lastStart l + 0 = l.length - 1 := by omega
        rw [this] at g1
        exact h1 g1
      · simp [Utf8.runeError] at h

theorem last_figs (s : ByteArray) : ∀ (f i : Nat), i ≤ f → i ≤ s.data.toList.length → lastIdxFuncFrom figP false s f i = -1 → ∀ j, j < i → figP (s.data.toList.getD j 0).toNat = true
  | 0, i, h, _, _, j, hj => by omega
  | f + 1, i, h, hi, hx, j, hj => by
    unfold lastIdxFuncFrom at hx
    rw [if_pos (by omega)] at hx
    split at hx
    · omega
    · rename_i hf
      simp only [Bool.not_eq_false] at hf
      obtain ⟨g0, g1, g2⟩ := decodeLast_fig _ (figP_lt hf)
      rw [g2] at hf hx
      have hl : (s.data.toList.take i).length = i := by rw [List.length_take]; omega
      rw [hl] at hf hx
      have e : (s.data.toList.take i).getD (i - 1) 0 = s.data.toList.getD (i - 1) 0 := by
        simp only [List.getD, List.getElem?_take]; rw [if_pos (by omega)]
      rw [e] at hf
      rcases Nat.lt_or_ge j (i - 1) with h1 | h1
      · exact last_figs s f (i - 1) (by omega) (by omega) hx j h1
      · have : j = i - 1 := by omega
        subst this; exact hf

theorem figs_dig (l : List UInt8) : figs l = true ↔ digFrom l 0 := by
  unfold figs digFrom
  rw [List.all_eq_true]
  have key : ∀ c : UInt8, (decide (48 ≤ c) && decide (c ≤ 57)) = figP c.toNat := fun c => by
    have x1 : (48 ≤ c) ↔ 48 ≤ c.toNat := UInt8.le_iff_toNat_le
    have x2 : (c ≤ 57) ↔ c.toNat ≤ 57 := UInt8.le_iff_toNat_le
    simp only [figP, x1, x2]
  constructor
  · intro h j _ hj
    rw [← key]
    have : l.getD j 0 = l[j] := by simp [List.getD, hj]
    rw [this]
    exact h _ (List.getElem_mem hj)
  · intro h c hc
    obtain ⟨j, hj, rfl⟩ := List.mem_iff_getElem.1 hc
    rw [key]
    have : l.getD j 0 = l[j] := by simp [List.getD, hj]
    rw [← this]
    exact h j (Nat.zero_le _) hj

theorem lastIdx_lt' (p : Nat → Bool) (truth : Bool) (s : ByteArray) : ∀ (f i : Nat), i ≤ s.size → lastIdxFuncFrom p truth s f i = -1 ∨ (0 ≤ lastIdxFuncFrom p truth s f i ∧ lastIdxFuncFrom p truth s f i < i)
  | 0, _, _ => .inl rfl
  | f + 1, i, hi => by
    unfold lastIdxFuncFrom
    split
    · rename_i h0
      have hk := decodeLastL_width (s.data.toList.take i) (by rw [List.length_take, ← size_eq]; omega)
      rw [List.length_take, ← size_eq, Nat.min_eq_left hi] at hk
      split
      · exact .inr ⟨by omega, by omega⟩
      · rcases lastIdx_lt' p truth s f (i - (decodeLastL (s.data.toList.take i)).2) (by omega) with h | ⟨h1, h2⟩
        · exact .inl h
        · exact .inr ⟨h1, by omega⟩
    · exact .inl rfl

theorem trimF_figs (l : List UInt8) : (trimF figP ⟨⟨l⟩⟩ = ⟨⟨[]⟩⟩) ↔ figs l = true := by
  have hi := idx_figs ⟨⟨l⟩⟩ l.length 0 (by simp)
  rw [figs_dig, ← (show (({ data := { toList := l } } : ByteArray).data.toList) = l from rfl), ← hi]
  have hidx : idxFunc figP false ⟨⟨l⟩⟩ = idxFuncFrom figP false ⟨⟨l⟩⟩ l.length 0 := rfl
  rw [← hidx]
  unfold trimF trimLeftF
  constructor
  · intro h
    refine Classical.byContradiction fun hne => ?_
    rw [if_neg hne] at h
    have hr := idxFunc_range figP false ⟨⟨l⟩⟩
    obtain ⟨r1, r2⟩ := hr.resolve_left hne
    rw [size_eq] at r2
    generalize hk : (idxFunc figP false ⟨⟨l⟩⟩).toNat = k at *
    have hkl : k < l.length := by simp at r2; omega
    rw [extract_from] at h
    simp only at h
    -- the rune at k is no figure
    have hnd : figP (l.getD k 0).toNat = false := by
      have key : ∀ f pos, idxFuncFrom figP false ⟨⟨l⟩⟩ f pos ≠ -1 → figP (Utf8.decode ⟨⟨l⟩⟩ (idxFuncFrom figP false ⟨⟨l⟩⟩ f pos).toNat).1 = false := by
        intro f
        induction f with
        | zero => intro pos h; exact absurd rfl h
        | succ f ih =>
          intro pos h
          unfold idxFuncFrom at h ⊢
          split at h
          · rename_i hp
            rw [if_pos hp]
            split at h
            · rename_i hf; rw [if_pos hf]; simpa using hf
            · rename_i hf; rw [if_neg hf]; exact ih _ h
          · exact absurd rfl h
      have := key _ _ hne
      rw [show (⟨⟨l⟩⟩ : ByteArray).size = l.length from rfl, ← hidx, hk, decode_N] at this
      cases hb : figP (l.getD k 0).toNat with
      | false => rfl
      | true =>
        have hlow := figP_lt hb
        rw [decodeN_low _ _ _ _ _ hlow] at this
        simp only at this
        rw [hb] at this; cases this
    unfold trimRightF at h
    rw [extract_upto] at h
    have hlen := congrArg (fun b : ByteArray => b.data.toList.length) h
    simp only [List.length_take, List.length_drop, List.length_nil] at hlen
    have hz : rightEndF figP ⟨(l.drop k).toArray⟩ = 0 := by omega
    unfold rightEndF at hz
    have hlt := lastIdx_lt' figP false ⟨(l.drop k).toArray⟩ (l.drop k).length (l.drop k).length (by rw [size_eq]; exact Nat.le_refl _)
    have hli : lastIdxFunc figP false ⟨(l.drop k).toArray⟩ = lastIdxFuncFrom figP false ⟨(l.drop k).toArray⟩ (l.drop k).length (l.drop k).length := rfl
    split at hz
    · rename_i h0
      rw [hli] at h0 hz
      obtain ⟨h1, h2⟩ := hlt.resolve_left (by omega)
      have h3 : 1 ≤ (decodeGoB ((⟨(l.drop k).toArray⟩ : ByteArray).extract (lastIdxFuncFrom figP false ⟨(l.drop k).toArray⟩ (l.drop k).length (l.drop k).length).toNat (⟨(l.drop k).toArray⟩ : ByteArray).size)).2 := by
        unfold decodeGoB
        rw [if_neg]
        · exact width_pos _ _
        · rw [extract_from, size_eq]
          simp only [List.length_drop] at h2 ⊢
          omega
      omega
    · rename_i h0
      rw [hli] at h0
      have h1 := hlt.resolve_right (by omega)
      have := last_figs ⟨(l.drop k).toArray⟩ _ _ (Nat.le_refl _) (Nat.le_refl _) h1 0 (by rw [List.length_drop]; omega)
      simp only [getD_dropU] at this
      rw [Nat.add_zero, hnd] at this
      cases this
  · intro h
    rw [if_pos h]
    rfl

theorem dropWhile_len {α : Type} (p : α → Bool) (l : List α) : (l.dropWhile p).length ≤ l.length := (List.dropWhile_suffix p).length_le

theorem dropWhile_self {α : Type} (p : α → Bool) : ∀ l : List α, l.dropWhile p = l ↔ (∀ x, l.head? = some x → p x = false)
  | [] => by simp
  | x :: t => by
    rw [List.dropWhile_cons]
    split
    · rename_i h
      constructor
      · intro e
        have := congrArg List.length e
        have h2 := dropWhile_len p t
        simp at this; omega
      · intro g; rw [g x rfl] at h; cases h
    · rename_i h; simpa using h

theorem trimB_self (l : List UInt8) (c : UInt8) : trimB l c = l ↔ l.head? ≠ some c ∧ l.getLast? ≠ some c := by
  have h1 : ∀ m : List UInt8, (m.dropWhile (· == c) = m) ↔ m.head? ≠ some c := fun m => by
    rw [dropWhile_self]
    constructor
    · intro h e; simpa using h c e
    · intro h x hx; rw [hx] at h; simpa using h
  unfold trimB trimLeftB
  have hlen : (trimRightB l c).length ≤ l.length := by
    unfold trimRightB
    have := dropWhile_len (· == c) l.reverse
    simpa using this
  have hr : trimRightB l c = l ↔ l.getLast? ≠ some c := by
    unfold trimRightB
    rw [List.reverse_eq_iff, h1, List.head?_reverse]
  constructor
  · intro h
    have h2 := dropWhile_len (· == c) (trimRightB l c)
    have h3 := congrArg List.length h
    have h4 : trimRightB l c = l := by
      unfold trimRightB at *
      have := List.dropWhile_suffix (l := l.reverse) (p := (· == c))
      have e := this.eq_of_length (by simp at *; omega)
      rw [e, List.reverse_reverse]
    rw [h4] at h
    exact ⟨(h1 l).1 h, hr.1 h4⟩
  · rintro ⟨g1, g2⟩
    rw [hr.2 g2]; exact (h1 l).2 g1

end Lp

/-! LpLay -/

namespace Go.Proofs
open Go.Shelf
def Tryd.lays160_ren : Go.Shelf.Ren := ⟨fun | 160 => 62 | 232 => 77 | 231 => 76 | 227 => 78 | 234 => 80 | 233 => 79 | 236 => 82 | 235 => 81 | 228 => 91 | 271 => 94 | 151 => 93 | 197 => 92 | 120 => 100 | 152 => 99 | 260 => 98 | 137 => 101 | 119 => 102 | 224 => 103 | 225 => 104 | 217 => 105 | 266 => 106 | n => n, fun | 9 => 9 | 4 => 4 | 3 => 3 | 5 => 5 | 117 => 103 | 116 => 102 | 0 => 0 | 124 => 106 | 21 => 21 | 105 => 114 | 46 => 72 | 119 => 68 | 139 => 71 | 138 => 70 | n => n, fun | 3 => 0 | 4 => 1 | n => n⟩
theorem Tryd.lays160 : Go.Proofs.Lays.n160 Tryd.prog Tryd.lays160_ren := {
  mixed := by kernel_rfl
  f119 := Tryd.func102.trans (congrArg some (by kernel_rfl))
  f120 := Tryd.func100.trans (congrArg some (by kernel_rfl))
  f137 := Tryd.func101.trans (congrArg some (by kernel_rfl))
  f151 := Tryd.func93.trans (congrArg some (by kernel_rfl))
  f152 := Tryd.func99.trans (congrArg some (by kernel_rfl))
  f160 := Tryd.func62.trans (congrArg some (by kernel_rfl))
  f197 := Tryd.func92.trans (congrArg some (by kernel_rfl))
  f217 := Tryd.func105.trans (congrArg some (by kernel_rfl))
  f224 := Tryd.func103.trans (congrArg some (by kernel_rfl))
  f225 := Tryd.func104.trans (congrArg some (by kernel_rfl))
  f227 := Tryd.func78.trans (congrArg some (by kernel_rfl))
  f228 := Tryd.func91.trans (congrArg some (by kernel_rfl))
  f231 := Tryd.func76.trans (congrArg some (by kernel_rfl))
  f232 := Tryd.func77.trans (congrArg some (by kernel_rfl))
  f233 := Tryd.func79.trans (congrArg some (by kernel_rfl))
  f234 := Tryd.func80.trans (congrArg some (by kernel_rfl))
  f235 := Tryd.func81.trans (congrArg some (by kernel_rfl))
  f236 := Tryd.func82.trans (congrArg some (by kernel_rfl))
  f260 := Tryd.func98.trans (congrArg some (by kernel_rfl))
  f266 := Tryd.func106.trans (congrArg some (by kernel_rfl))
  f271 := Tryd.func94.trans (congrArg some (by kernel_rfl))
  t0 := Tryd.underlying0
  a0 := Tryd.isAgg0
  z0 := Tryd.sizeOf0
  v0 := Tryd.zeroValue0
  t3 := Tryd.underlying3
  a3 := Tryd.isAgg3
  z3 := Tryd.sizeOf3
  v3 := Tryd.zeroValue3
  t4 := Tryd.underlying4
  a4 := Tryd.isAgg4
  z4 := Tryd.sizeOf4
  v4 := Tryd.zeroValue4
  t5 := Tryd.underlying5
  a5 := Tryd.isAgg5
  z5 := Tryd.sizeOf5
  v5 := Tryd.zeroValue5
  t9 := Tryd.underlying9
  a9 := Tryd.isAgg9
  z9 := Tryd.sizeOf9
  v9 := Tryd.zeroValue9
  t21 := Tryd.underlying21
  a21 := Tryd.isAgg21
  z21 := Tryd.sizeOf21
  v21 := Tryd.zeroValue21
  t46 := Tryd.underlying72
  a46 := Tryd.isAgg72
  z46 := Tryd.sizeOf72
  v46 := Tryd.zeroValue72
  t105 := Tryd.underlying114
  a105 := Tryd.isAgg114
  z105 := Tryd.sizeOf114
  v105 := Tryd.zeroValue114
  t116 := Tryd.underlying102
  a116 := Tryd.isAgg102
  z116 := Tryd.sizeOf102
  t117 := Tryd.underlying103
  a117 := Tryd.isAgg103
  z117 := Tryd.sizeOf103
  v117 := Tryd.zeroValue103
  t119 := Tryd.underlying68
  a119 := Tryd.isAgg68
  z119 := Tryd.sizeOf68
  t124 := Tryd.underlying106
  a124 := Tryd.isAgg106
  z124 := Tryd.sizeOf106
  v124 := Tryd.zeroValue106
  t138 := Tryd.underlying70
  a138 := Tryd.isAgg70
  z138 := Tryd.sizeOf70
  v138 := Tryd.zeroValue70
  t139 := Tryd.underlying71
  a139 := Tryd.isAgg71
  z139 := Tryd.sizeOf71
  v139 := Tryd.zeroValue71
  g3 := by kernel_rfl
  g4 := by kernel_rfl }
def Tryd.lays190_ren : Go.Shelf.Ren := ⟨fun | 190 => 45 | 125 => 57 | 258 => 56 | 128 => 72 | 129 => 73 | 302 => 63 | 303 => 64 | 304 => 65 | 305 => 66 | 306 => 67 | 307 => 68 | 308 => 69 | 309 => 70 | 310 => 71 | 333 => 83 | 329 => 84 | 330 => 85 | 334 => 86 | 335 => 87 | 336 => 88 | 344 => 95 | n => n, fun | 31 => 22 | 9 => 9 | 3 => 3 | 46 => 72 | 0 => 0 | 51 => 96 | 53 => 79 | 4 => 4 | 183 => 88 | 182 => 87 | 131 => 93 | 5 => 5 | 218 => 107 | 222 => 111 | 228 => 117 | 229 => 118 | n => n, fun | n => n⟩
theorem Tryd.lays190 : Go.Proofs.Lays.n190 Tryd.prog Tryd.lays190_ren := {
  mixed := by kernel_rfl
  f125 := Tryd.func57.trans (congrArg some (by kernel_rfl))
  f128 := Tryd.func72.trans (congrArg some (by kernel_rfl))
  f129 := Tryd.func73.trans (congrArg some (by kernel_rfl))
  f190 := Tryd.func45.trans (congrArg some (by kernel_rfl))
  f258 := Tryd.func56.trans (congrArg some (by kernel_rfl))
  f302 := Tryd.func63.trans (congrArg some (by kernel_rfl))
  f303 := Tryd.func64.trans (congrArg some (by kernel_rfl))
  f304 := Tryd.func65.trans (congrArg some (by kernel_rfl))
  f305 := Tryd.func66.trans (congrArg some (by kernel_rfl))
  f306 := Tryd.func67.trans (congrArg some (by kernel_rfl))
  f307 := Tryd.func68.trans (congrArg some (by kernel_rfl))
  f308 := Tryd.func69.trans (congrArg some (by kernel_rfl))
  f309 := Tryd.func70.trans (congrArg some (by kernel_rfl))
  f310 := Tryd.func71.trans (congrArg some (by kernel_rfl))
  f329 := Tryd.func84.trans (congrArg some (by kernel_rfl))
  f330 := Tryd.func85.trans (congrArg some (by kernel_rfl))
  f333 := Tryd.func83.trans (congrArg some (by kernel_rfl))
  f334 := Tryd.func86.trans (congrArg some (by kernel_rfl))
  f335 := Tryd.func87.trans (congrArg some (by kernel_rfl))
  f336 := Tryd.func88.trans (congrArg some (by kernel_rfl))
  f344 := Tryd.func95.trans (congrArg some (by kernel_rfl))
  t0 := Tryd.underlying0
  a0 := Tryd.isAgg0
  z0 := Tryd.sizeOf0
  v0 := Tryd.zeroValue0
  t3 := Tryd.underlying3
  a3 := Tryd.isAgg3
  z3 := Tryd.sizeOf3
  v3 := Tryd.zeroValue3
  t4 := Tryd.underlying4
  a4 := Tryd.isAgg4
  z4 := Tryd.sizeOf4
  v4 := Tryd.zeroValue4
  t5 := Tryd.underlying5
  a5 := Tryd.isAgg5
  z5 := Tryd.sizeOf5
  v5 := Tryd.zeroValue5
  t9 := Tryd.underlying9
  a9 := Tryd.isAgg9
  z9 := Tryd.sizeOf9
  v9 := Tryd.zeroValue9
  t31 := Tryd.underlying22
  a31 := Tryd.isAgg22
  z31 := Tryd.sizeOf22
  v31 := Tryd.zeroValue22
  t46 := Tryd.underlying72
  a46 := Tryd.isAgg72
  z46 := Tryd.sizeOf72
  v46 := Tryd.zeroValue72
  t51 := Tryd.underlying96
  a51 := Tryd.isAgg96
  z51 := Tryd.sizeOf96
  v51 := Tryd.zeroValue96
  t53 := Tryd.underlying79
  a53 := Tryd.isAgg79
  z53 := Tryd.sizeOf79
  v53 := Tryd.zeroValue79
  t131 := Tryd.underlying93
  a131 := Tryd.isAgg93
  z131 := Tryd.sizeOf93
  v131 := Tryd.zeroValue93
  t182 := Tryd.underlying87
  a182 := Tryd.isAgg87
  z182 := Tryd.sizeOf87
  v182 := Tryd.zeroValue87
  t183 := Tryd.underlying88
  a183 := Tryd.isAgg88
  z183 := Tryd.sizeOf88
  v183 := Tryd.zeroValue88
  t218 := Tryd.underlying107
  a218 := Tryd.isAgg107
  z218 := Tryd.sizeOf107
  v218 := Tryd.zeroValue107
  t222 := Tryd.underlying111
  a222 := Tryd.isAgg111
  z222 := Tryd.sizeOf111
  v222 := Tryd.zeroValue111
  t228 := Tryd.underlying117
  a228 := Tryd.isAgg117
  z228 := Tryd.sizeOf117
  v228 := Tryd.zeroValue117
  t229 := Tryd.underlying118
  a229 := Tryd.isAgg118
  z229 := Tryd.sizeOf118
  v229 := Tryd.zeroValue118 }
def Tryd.lays196_ren : Go.Shelf.Ren := ⟨fun | 196 => 27 | 259 => 43 | n => n, fun | 9 => 9 | 4 => 4 | 3 => 3 | 5 => 5 | 12 => 12 | 119 => 68 | 0 => 0 | 46 => 72 | 139 => 71 | 138 => 70 | 53 => 79 | n => n, fun | 3 => 0 | 4 => 1 | n => n⟩
theorem Tryd.lays196 : Go.Proofs.Lays.n196 Tryd.prog Tryd.lays196_ren := {
  mixed := by kernel_rfl
  f196 := Tryd.func27.trans (congrArg some (by kernel_rfl))
  f259 := Tryd.func43.trans (congrArg some (by kernel_rfl))
  t0 := Tryd.underlying0
  a0 := Tryd.isAgg0
  z0 := Tryd.sizeOf0
  v0 := Tryd.zeroValue0
  t3 := Tryd.underlying3
  a3 := Tryd.isAgg3
  z3 := Tryd.sizeOf3
  v3 := Tryd.zeroValue3
  t4 := Tryd.underlying4
  a4 := Tryd.isAgg4
  z4 := Tryd.sizeOf4
  v4 := Tryd.zeroValue4
  t5 := Tryd.underlying5
  a5 := Tryd.isAgg5
  z5 := Tryd.sizeOf5
  v5 := Tryd.zeroValue5
  t9 := Tryd.underlying9
  a9 := Tryd.isAgg9
  z9 := Tryd.sizeOf9
  v9 := Tryd.zeroValue9
  t12 := Tryd.underlying12
  a12 := Tryd.isAgg12
  z12 := Tryd.sizeOf12
  v12 := Tryd.zeroValue12
  t46 := Tryd.underlying72
  a46 := Tryd.isAgg72
  z46 := Tryd.sizeOf72
  v46 := Tryd.zeroValue72
  t53 := Tryd.underlying79
  a53 := Tryd.isAgg79
  z53 := Tryd.sizeOf79
  v53 := Tryd.zeroValue79
  t119 := Tryd.underlying68
  a119 := Tryd.isAgg68
  z119 := Tryd.sizeOf68
  t138 := Tryd.underlying70
  a138 := Tryd.isAgg70
  z138 := Tryd.sizeOf70
  v138 := Tryd.zeroValue70
  t139 := Tryd.underlying71
  a139 := Tryd.isAgg71
  z139 := Tryd.sizeOf71
  v139 := Tryd.zeroValue71
  g3 := by kernel_rfl
  g4 := by kernel_rfl }
def Tryd.lays237_ren : Go.Shelf.Ren := ⟨fun | 237 => 74 | 272 => 90 | 238 => 89 | 315 => 97 | 273 => 96 | 197 => 92 | 271 => 94 | 260 => 98 | 120 => 100 | n => n, fun | 9 => 9 | 40 => 99 | 4 => 4 | 3 => 3 | 105 => 114 | 21 => 21 | 0 => 0 | 5 => 5 | 119 => 68 | 46 => 72 | 139 => 71 | 138 => 70 | n => n, fun | 3 => 0 | 4 => 1 | n => n⟩
theorem Tryd.lays237 : Go.Proofs.Lays.n237 Tryd.prog Tryd.lays237_ren := {
  mixed := by kernel_rfl
  f120 := Tryd.func100.trans (congrArg some (by kernel_rfl))
  f197 := Tryd.func92.trans (congrArg some (by kernel_rfl))
  f237 := Tryd.func74.trans (congrArg some (by kernel_rfl))
  f238 := Tryd.func89.trans (congrArg some (by kernel_rfl))
  f260 := Tryd.func98.trans (congrArg some (by kernel_rfl))
  f271 := Tryd.func94.trans (congrArg some (by kernel_rfl))
  f272 := Tryd.func90.trans (congrArg some (by kernel_rfl))
  f273 := Tryd.func96.trans (congrArg some (by kernel_rfl))
  f315 := Tryd.func97.trans (congrArg some (by kernel_rfl))
  t0 := Tryd.underlying0
  a0 := Tryd.isAgg0
  z0 := Tryd.sizeOf0
  v0 := Tryd.zeroValue0
  t3 := Tryd.underlying3
  a3 := Tryd.isAgg3
  z3 := Tryd.sizeOf3
  v3 := Tryd.zeroValue3
  t4 := Tryd.underlying4
  a4 := Tryd.isAgg4
  z4 := Tryd.sizeOf4
  v4 := Tryd.zeroValue4
  t5 := Tryd.underlying5
  a5 := Tryd.isAgg5
  z5 := Tryd.sizeOf5
  v5 := Tryd.zeroValue5
  t9 := Tryd.underlying9
  a9 := Tryd.isAgg9
  z9 := Tryd.sizeOf9
  v9 := Tryd.zeroValue9
  t21 := Tryd.underlying21
  a21 := Tryd.isAgg21
  z21 := Tryd.sizeOf21
  v21 := Tryd.zeroValue21
  t40 := Tryd.underlying99
  a40 := Tryd.isAgg99
  z40 := Tryd.sizeOf99
  v40 := Tryd.zeroValue99
  t46 := Tryd.underlying72
  a46 := Tryd.isAgg72
  z46 := Tryd.sizeOf72
  v46 := Tryd.zeroValue72
  t105 := Tryd.underlying114
  a105 := Tryd.isAgg114
  z105 := Tryd.sizeOf114
  v105 := Tryd.zeroValue114
  t119 := Tryd.underlying68
  a119 := Tryd.isAgg68
  z119 := Tryd.sizeOf68
  t138 := Tryd.underlying70
  a138 := Tryd.isAgg70
  z138 := Tryd.sizeOf70
  v138 := Tryd.zeroValue70
  t139 := Tryd.underlying71
  a139 := Tryd.isAgg71
  z139 := Tryd.sizeOf71
  v139 := Tryd.zeroValue71
  g3 := by kernel_rfl
  g4 := by kernel_rfl }
def Tryd.layGrow_ren : Go.Shelf.Ren := ⟨fun | 4 => 48 | n => n, fun | 22 => 27 | 25 => 42 | 3 => 3 | 4 => 4 | 9 => 9 | 20 => 20 | 0 => 0 | n => n, fun | n => n⟩
theorem Tryd.layGrow : Go.Proofs.Lays8.n4 Tryd.prog Tryd.layGrow_ren := {
  mixed := by kernel_rfl
  f4 := ⟨Tryd.f48.name, by decide, Tryd.func48.trans (congrArg some (by kernel_rfl))⟩
  t0 := Tryd.underlying0
  a0 := Tryd.isAgg0
  z0 := Tryd.sizeOf0
  v0 := Tryd.zeroValue0
  t3 := Tryd.underlying3
  a3 := Tryd.isAgg3
  z3 := Tryd.sizeOf3
  v3 := Tryd.zeroValue3
  t4 := Tryd.underlying4
  a4 := Tryd.isAgg4
  z4 := Tryd.sizeOf4
  v4 := Tryd.zeroValue4
  t9 := Tryd.underlying9
  a9 := Tryd.isAgg9
  z9 := Tryd.sizeOf9
  v9 := Tryd.zeroValue9
  t20 := Tryd.underlying20
  a20 := Tryd.isAgg20
  z20 := Tryd.sizeOf20
  v20 := Tryd.zeroValue20
  t22 := Tryd.underlying27
  a22 := Tryd.isAgg27
  z22 := Tryd.sizeOf27
  v22 := Tryd.zeroValue27 }
end Go.Proofs

/-! LpLib -/

namespace Lp
open Go Go.Proofs Go.RowKit

set_option maxHeartbeats 4000000
set_option maxRecDepth 100000

theorem repL_of_nil {w : World} {ok : Nat → Prop} {blk : Nat → Option Nat} {args : List PV} {vs : List Value} (h : RepL (RepT w ok [] blk) args vs) : RepL (Rep w ok) args vs := h.mono fun _ _ h => repT_nil h

/-- A library function that leaves what there is, and hands back a value of no memory. -/
theorem FnSpec.of_keep {P : Program} {f : FuncId} {args : List PV} {r : PV} (hent : Enters P f)
    (h : ∀ (w : World) (vs : List Value) (ok : Nat → Prop), glob.holds w.heap → RepL (Rep w ok) args vs → Calls P f ⟨vs⟩ w fun e w' => ∃ v, e = .returned v ∧ (∀ w ok, Rep w ok r v) ∧ Below w.heap.size w w') :
    FnSpec P f args [] r [] := by
  refine ⟨hent, fun w blk vs base hb _ hargs => (h w vs _ hb.1 (repL_of_nil hargs)).mono ?_⟩
  rintro e w' ⟨v, h1, h2, h3⟩
  exact ⟨v, blk, h1, objsRel_nil, .of_rep (h2 _ _), fun b hb _ => h3.block b hb, h3.size, h3.os, h3.output⟩

/-- .. or a new row of no elements. -/
theorem FnSpec.made_empty {P : Program} {f : FuncId} {args : List PV} {ty : TypeId} {sz : Nat} (hent : Enters P f) (hty : ty ≠ MT)
    (h : ∀ (w : World) (vs : List Value) (ok : Nat → Prop), glob.holds w.heap → RepL (Rep w ok) args vs → Calls P f ⟨vs⟩ w fun e w' => ∃ v, e = .returned v ∧ Below w.heap.size w w' ∧
      (v = .slice none 0 0 ∨ ∃ g cap c, w.heap.size ≤ g ∧ v = .slice (some ⟨g, 0, none⟩) 0 cap ∧ w'.heap[g]? = some (.cells c ty (0, 0)) ∧ cap ≤ maxLen ∧ c.size = cap * sz)) :
    FnSpec P f args [] (.osl 0 0) [⟨ty, sz, [], true, 0⟩] := by
  refine ⟨hent, fun w blk vs base hb _ hargs => (h w vs _ hb.1 (repL_of_nil hargs)).mono ?_⟩
  have one : ∀ (k : Nat) (o : Obj), ([⟨ty, sz, [], true, 0⟩] : List Obj)[k]? = some o → k = 0 ∧ o = ⟨ty, sz, [], true, 0⟩ := fun k o ho => by
    match k, ho with
    | 0, ho => cases ho; exact ⟨rfl, rfl⟩
    | _ + 1, ho => simp at ho
  rintro e w' ⟨v, h1, h3, h4⟩
  rcases h4 with rfl | ⟨g, cap, c, hg, rfl, hc, hm, hs⟩
  · refine ⟨_, fun _ => none, h1, ⟨fun k o ho _ => ?_, fun k k' o o' g _ _ _ _ _ hx => (by cases hx), fun k o g _ _ hx => (by cases hx)⟩, ⟨rfl, _, rfl, Nat.le_refl _, fun _ _ => ⟨hty, ?_⟩⟩, fun b hb _ => h3.block b hb, h3.size, h3.os, h3.output⟩
    · obtain ⟨rfl, rfl⟩ := one k o ho; rfl
    · exact ⟨rfl, rfl⟩
  · refine ⟨_, fun _ => some g, h1, ⟨fun k o ho _ => ?_, fun k k' o o' g hkk ho _ ho' _ _ => ?_, fun k o g' ho _ hx hp => ?_⟩, ⟨rfl, _, rfl, Nat.le_refl _, fun _ _ => ⟨hty, ?_⟩⟩, fun b hb _ => h3.block b hb, h3.size, h3.os, h3.output⟩
    · obtain ⟨rfl, rfl⟩ := one k o ho
      exact ⟨c, by rw [hobj_ne hty]; exact hc, fits_ne hty (by simp), fun i x hx => by simp at hx⟩
    · obtain ⟨rfl, _⟩ := one k o ho
      obtain ⟨rfl, _⟩ := one k' o' ho'
      exact absurd rfl hkk
    · simp only [Option.some.injEq] at hx
      subst hx
      exact absurd hp.1 (by omega)
    · exact ⟨cap, c, rfl, hc, Nat.zero_le _, hm, hs⟩

theorem rep1 {w : World} {ok : Nat → Prop} {p : PV} {vs : List Value} (h : RepL (Rep w ok) [p] vs) : ∃ u, vs = [u] ∧ Rep w ok p u := by
  obtain ⟨hl, h⟩ := h
  match vs, hl with
  | [u], _ => exact ⟨u, rfl, h 0 _ _ rfl rfl⟩
theorem rep2 {w : World} {ok : Nat → Prop} {p q : PV} {vs : List Value} (h : RepL (Rep w ok) [p, q] vs) : ∃ u v, vs = [u, v] ∧ Rep w ok p u ∧ Rep w ok q v := by
  obtain ⟨hl, h⟩ := h
  match vs, hl with
  | [u, v], _ => exact ⟨u, v, rfl, h 0 _ _ rfl rfl, h 1 _ _ rfl rfl⟩

theorem rep_str' {w : World} {ok : Nat → Prop} {s : List UInt8} {v : Value} (h : Rep w ok (.str s) v) : v = .string ⟨⟨s⟩⟩ := by cases h; rfl
theorem rep_int' {w : World} {ok : Nat → Prop} {k : IntKind} {n : Int} {v : Value} (h : Rep w ok (.int k n) v) : v = .int k n := by cases h; rfl

theorem below_drew (w : World) : Below w.heap.size w w.drew := (Below.refl _ _).drew

/-! ### Texts -/

theorem glob_tabs {w : World} (h : glob.holds w.heap) : Lib.Utf8Tabs 0 1 w := h w rfl

theorem validString_spec (s : List UInt8) (hs : s.length ≤ 4611686018427387904) : FnSpec Tryd.prog f_unicode_utf8_ValidString [.str s] [] (.bool (utf s)) [] := by
  refine FnSpec.of_keep ⟨_, Tryd.lays196.f196, by kernel_rfl, by kernel_rfl⟩ fun w vs ok hg hr => ?_
  obtain ⟨u, rfl, h⟩ := rep1 hr
  cases rep_str' h
  refine (Any.utf8_ValidString Tryd.lays196 ⟨⟨s⟩⟩ w (by rw [Lib.size_eq]; simp; omega) (glob_tabs hg)).mono ?_
  rintro e w' ⟨h1, h2⟩
  exact ⟨_, h1, fun w ok => by rw [validD_eq]; exact .bool _, h2⟩

theorem trim0_spec (s : List UInt8) (hs : s.length ≤ 4611686018427387904) : FnSpec Tryd.prog f_strings_Trim [.str s, .str [48]] [] (.str (Lib.trimB s 48)) [] := by
  refine FnSpec.of_keep ⟨_, Tryd.lays160.f160, by kernel_rfl, by kernel_rfl⟩ fun w vs ok hg hr => ?_
  obtain ⟨u, v, rfl, h, h'⟩ := rep2 hr
  cases rep_str' h
  cases rep_str' h'
  refine (Any.strings_Trim_one Tryd.lays160 ⟨⟨s⟩⟩ 48 (by decide) w (by rw [Lib.size_eq]; simp; omega)).mono ?_
  rintro e w' ⟨h1, h2⟩
  refine ⟨_, h1, fun w ok => .str _, ?_⟩
  rcases h2 with rfl | rfl
  · exact .refl _ _
  · exact below_drew w

theorem isFigure_walk (W : World) (x : Nat) (hx : x ≤ 1114111) : Calls Tryd.prog f_num_isFigure #[.int .i32 (x : Int)] W fun e w' => e = .returned (.bool (figP x)) ∧ Below W.heap.size W w' := by
  have mixed : Tryd.prog.follows .mixedOrders = true := by kernel_rfl
  have e1 : figP x = (decide (48 ≤ (x : Int)) && decide ((x : Int) ≤ 57)) := by
    have a : decide (48 ≤ x) = decide (48 ≤ (x : Int)) := decide_eq_decide.2 (by omega)
    have b : decide (x ≤ 57) = decide ((x : Int) ≤ 57) := decide_eq_decide.2 (by omega)
    rw [figP, a, b]
  rw [e1]
  have h1 : (x : Int) < 48 ∨ 48 ≤ (x : Int) := by omega
  rcases h1 with h1 | h1
  · have h2 : ¬ (48 ≤ (x : Int)) := by omega
    rw [decide_eq_false h2]
    go_enter Tryd.func75, Tryd.ntmps75
    go_wp2
    go_ret
    exact ⟨rfl, .refl _ _⟩
  · rw [decide_eq_true h1]
    rcases (by omega : (x : Int) ≤ 57 ∨ 57 < (x : Int)) with h2 | h2
    · rw [decide_eq_true h2]
      go_enter Tryd.func75, Tryd.ntmps75
      go_wp2
      go_ret
      exact ⟨rfl, .refl _ _⟩
    · have h3 : ¬ ((x : Int) ≤ 57) := by omega
      rw [decide_eq_false h3]
      go_enter Tryd.func75, Tryd.ntmps75
      go_wp2
      go_ret
      exact ⟨rfl, .refl _ _⟩

theorem trimFig_spec (s : List UInt8) (hs : s.length ≤ 4611686018427387904) : FnSpec Tryd.prog f_strings_TrimFunc [.str s, .fn f_num_isFigure [] []] [] (.str (Lib.trimF figP ⟨⟨s⟩⟩).data.toList) [] := by
  refine FnSpec.of_keep ⟨_, Tryd.lays237.f237, by kernel_rfl, by kernel_rfl⟩ fun w vs ok hg hr => ?_
  obtain ⟨u, v, rfl, h, h'⟩ := rep2 hr
  cases rep_str' h
  have hv : v = .func (.func f_num_isFigure) #[] #[] := by
    cases h' with
    | fn _ _ _ va vc hla hlc ha hc =>
      have e1 : va = [] := List.length_eq_zero_iff.1 (by simpa using hla.symm)
      have e2 : vc = [] := List.length_eq_zero_iff.1 (by simpa using hlc.symm)
      subst e1; subst e2; rfl
  subst hv
  have eg : ∀ args w, (callFunc f_num_isFigure args).run Tryd.prog w = .ok (.enter f_num_isFigure args) w := enters_of Tryd.func75 (by kernel_rfl) rfl
  refine (Any.strings_TrimFunc_grows Tryd.lays237 f_num_isFigure #[] eg figP ⟨⟨s⟩⟩ w (by rw [Lib.size_eq]; simp; omega) (glob_tabs hg) fun W x hx _ => isFigure_walk W x hx).mono ?_
  rintro e w' ⟨h1, h2⟩
  exact ⟨_, h1, fun w ok => .str _, h2⟩

def ctrTrimFig : Ctr := fun args objs K => match args with
  | [.str s, a1] => a1 = (.fn f_num_isFigure [] []) ∧ (s.length ≤ 4611686018427387904) ∧ K (.str (Lib.trimF figP ⟨⟨s⟩⟩).data.toList) objs 0
  | _ => False
theorem ctrTrimFig_ok : CtrOk Tryd.prog f_strings_TrimFunc (ctrTrimFig) := by
  intro args objs K h
  unfold ctrTrimFig at h
  split at h
  · rename_i s a1
    obtain ⟨rfl, h1, hk⟩ := h
    exact ⟨_, _, _, .pure _ rfl (trimFig_spec s h1), hk⟩
  · exact h.elim
def ctrValidS : Ctr := fun args objs K => match args with
  | [.str s] => (s.length ≤ 4611686018427387904) ∧ K (.bool (utf s)) objs 0
  | _ => False
theorem ctrValidS_ok : CtrOk Tryd.prog f_unicode_utf8_ValidString (ctrValidS) := by
  intro args objs K h
  unfold ctrValidS at h
  split at h
  · rename_i s
    obtain ⟨h1, hk⟩ := h
    exact ⟨_, _, _, .pure _ rfl (validString_spec s h1), hk⟩
  · exact h.elim
def ctrTrim0 : Ctr := fun args objs K => match args with
  | [.str s, a1] => a1 = (.str [48]) ∧ (s.length ≤ 4611686018427387904) ∧ K (.str (Lib.trimB s 48)) objs 0
  | _ => False
theorem ctrTrim0_ok : CtrOk Tryd.prog f_strings_Trim (ctrTrim0) := by
  intro args objs K h
  unfold ctrTrim0 at h
  split at h
  · rename_i s a1
    obtain ⟨rfl, h1, hk⟩ := h
    exact ⟨_, _, _, .pure _ rfl (trim0_spec s h1), hk⟩
  · exact h.elim

theorem growV_spec (n : Int) (h0 : 0 ≤ n) (h1 : n ≤ 1000000) : FnSpec Tryd.prog f_slices_Grow_api_Val_api_Node_ [.sl 0 [] (some true), .int .i64 n] [] (.osl 0 0) [⟨t_api_Node, 6, [], true, 0⟩] := by
  obtain ⟨n, rfl⟩ : ∃ k : Nat, n = k := ⟨n.toNat, by omega⟩
  refine FnSpec.made_empty (by
    obtain ⟨nm, hn, hf⟩ := Tryd.layGrow.f4
    exact ⟨_, hf, hn, by kernel_rfl⟩) (by decide) fun w vs ok hg hr => ?_
  obtain ⟨u, v, rfl, h, h'⟩ := rep2 hr
  cases rep_int' h'
  have hu : u = .slice none 0 0 := by
    cases h with
    | slnil => rfl
    | slz _ _ hq => exact absurd rfl hq
    | sl _ _ _ hq => exact absurd rfl hq
  subst hu
  rcases Nat.eq_zero_or_pos n with h0 | h0
  · subst h0
    refine (Any8.slices_Grow_room Tryd.layGrow none 0 0 0 w (by decide) (by decide) (by decide) (by decide)).mono ?_
    rintro e w' ⟨h1, rfl⟩
    exact ⟨_, h1, .refl _ _, .inl rfl⟩
  · obtain ⟨⟨inf, hi0, hzs, hzb, hz0, _⟩, _⟩ := (hD t_api_Node).resolve_left (by simp [D_all])
    have hzs : inf.size = 6 := hzs
    have hzb : inf.bytes = 64 := hzb
    have hz0 : inf.zero = some (.agg ⟨[.int .i64 0, .int .i64 0, .string ⟨⟨[]⟩⟩, .string ⟨⟨[]⟩⟩, .bool false, .int .i64 0]⟩) := hz0
    have hge := grownCap_ge w (0 + n) 0 t_api_Node
    have hmx := grownCap_le_maxLen w (0 + n) 0 t_api_Node (by unfold maxLen; omega)
    refine (Any8.slices_Grow_grow Tryd.layGrow inf _ hi0 hz0 (by omega) none 0 0 n [] w (by decide) (by omega) (by rw [hzb]; omega) (by omega) (by simp) (fun _ => rfl) (fun a ha => by cases ha)).mono ?_
    rintro e w' ⟨h1, rfl⟩
    refine ⟨_, h1, (Below.refl w.heap.size w).drew.alloc (Nat.le_refl _) _, .inr ⟨w.heap.size, _, _, Nat.le_refl _, rfl, heap_alloc_new w.drew _, hmx, ?_⟩⟩
    simp only [Array.size_append, size_zeroCells, List.size_toArray, List.length_nil]
    have e6 : (Value.agg ⟨[.int .i64 0, .int .i64 0, .string ⟨⟨[]⟩⟩, .string ⟨⟨[]⟩⟩, .bool false, .int .i64 0]⟩).cells.size = 6 := by decide
    rw [e6]
    have et : Tryd.layGrow_ren.t 25 = t_api_Node := rfl
    rw [et]
    omega

def ctrGrowV : Ctr := fun args objs K => match args with
  | [.sl 0 [] (some true), .int .i64 n] => 0 ≤ n ∧ n ≤ 1000000 ∧ K (.osl objs.length 0) (objs ++ [⟨t_api_Node, 6, [], true, 0⟩]) 2
  | _ => False

theorem ctrGrowV_ok : CtrOk Tryd.prog f_slices_Grow_api_Val_api_Node_ ctrGrowV := by
  intro args objs K h
  unfold ctrGrowV at h
  split at h
  · rename_i n
    obtain ⟨h0, h1, hk⟩ := h
    have h := CallR.made (objs := objs) _ _ rfl (fun o ho x hx => by simp at ho; subst ho; cases hx) (growV_spec n h0 h1)
    exact ⟨_, _, _, h, by simpa [PV.shift, PV.shiftS] using hk⟩
  · exact h.elim

end Lp

/-! LpD4 -/

namespace Lp
open Go Go.Proofs

set_option maxHeartbeats 4000000
set_option maxRecDepth 20000
set_option linter.unusedSimpArgs false

theorem nodes_frz0 (v : Vl) (ver : Nat) (t : TypeId) (rest : List Obj) : frz 1 0 (⟨t, 6, v.map encN, true, ver⟩ :: rest) (.osl 0 ver) = encV v := nodes_frz v ver t rest

theorem concat_spec (l : List Vl) (hl : l.length ≤ 1000000) (hb : l.flatten.length ≤ 1000000) : FnSpec Tryd.prog f_slices_Concat_api_Val_api_Node_ [encL l] [] (encV l.flatten) [] := by
  refine k_slices_Concat_api_Val_api_Node_.pureG (T := tabL Tryd.prog [(f_slices_Grow_api_Val_api_Node_, ctrGrowV)]) 1 hD (kOk_tabL (tabOk_cons ctrGrowV_ok tabOk_nil)) hmix (by decide) fun Q hQ => ?_
  try simp only [F_all]
  simp (maxSteps := 400000) only [↓preZ, postZ, coreZ, ↓preU, postU, D_all, F_all, unR, outL, onePV, binS, ↓binS, boundR, ↓boundR, fieldOf, ↓fieldOf, boxR, allocR, newObj, zeroElem, buildSliceR, appendR, setAll, storeR, St.freeze, makeSliceR, minmaxR, makeFuncR, BEq.rfl, reduceIte, reduceCtorEq, Nat.reduceLT, Nat.reduceAdd, Nat.reduceSub, Nat.reduceMul, Nat.reduceBEq, Nat.reduceLeDiff, Int.reduceToNat, Int.reduceLE, hQ, c_slices_Concat_api_Val_api_Node_]
  refine wpc_loop (fun m S => ∃ i : Nat, i + m = l.length ∧ S = ⟨tmA 36 [(0, encL l), (3, .int .i64 ((l.take i).flatten.length : Nat)), (9, encL l), (10, .int .i64 l.length), (11, .int .i64 i)], []⟩) l.length ⟨0, by omega, ?_⟩ ?_
  · simp only [normR, keepR, Nat.reduceAdd, lkR, Nat.reduceBEq, F_all, List.map_nil]
    rfl
  rintro m S ⟨i, him, rfl⟩
  rcases Nat.lt_or_ge i l.length with h | h
  · have hlt : ((i : Int) < (l.length : Int)) = True := eq_true (by omega)
    have hgi := List.getElem?_eq_getElem h
    generalize l[i] = v at hgi
    have hs := listV_take l hgi
    have hf := flat_take l hgi
    have zi : (0 ≤ (i : Int)) = True := eq_true (by omega)
    have hs' : ((l.take (i + 1)).flatten.length : Int) = (l.take i).flatten.length + v.length := by rw [hs, List.length_append]; omega
    have hn : (((l.take i).flatten.length : Int) + v.length < 0) = False := eq_false (by omega)
    simp (maxSteps := 400000) only [↓preZ, postZ, coreZ, ↓preU, postU, D_all, F_all, unR, outL, onePV, binS, ↓binS, boundR, ↓boundR, fieldOf, ↓fieldOf, boxR, allocR, newObj, zeroElem, buildSliceR, appendR, setAll, storeR, St.freeze, makeSliceR, minmaxR, makeFuncR, BEq.rfl, reduceIte, reduceCtorEq, Nat.reduceLT, Nat.reduceAdd, Nat.reduceSub, Nat.reduceMul, Nat.reduceBEq, Nat.reduceLeDiff, Int.reduceToNat, Int.reduceLE, hQ, hlt, zi, hgi, hn]
    refine ⟨⟨by omega, by omega⟩, ⟨by omega, by omega⟩, m - 1, by omega, i + 1, by omega, ?_⟩
    rw [hs']
    rfl
  have hlt : ((i : Int) < (l.length : Int)) = False := eq_false (by omega)
  rw [List.take_of_length_le h]
  simp (maxSteps := 400000) only [↓preZ, postZ, coreZ, ↓preU, postU, D_all, F_all, unR, outL, onePV, binS, ↓binS, boundR, ↓boundR, fieldOf, ↓fieldOf, boxR, allocR, newObj, zeroElem, buildSliceR, appendR, setAll, storeR, St.freeze, makeSliceR, minmaxR, makeFuncR, BEq.rfl, reduceIte, reduceCtorEq, Nat.reduceLT, Nat.reduceAdd, Nat.reduceSub, Nat.reduceMul, Nat.reduceBEq, Nat.reduceLeDiff, Int.reduceToNat, Int.reduceLE, hQ, hlt, ↓ctrGrowV]
  refine ⟨by omega, by omega, ?_⟩
  refine wpc_loop (fun m S => ∃ i ver : Nat, i + m = l.length ∧ S = ⟨tmA 36 [(6, .osl 0 ver), (25, encL l), (26, .int .i64 l.length), (27, .int .i64 i)], [⟨t_api_Node, 6, (l.take i).flatten.map encN, true, ver⟩]⟩) l.length ⟨0, 0, by omega, ?_⟩ ?_
  · simp only [normR, keepR, Nat.reduceAdd, lkR, Nat.reduceBEq, F_all, List.map_nil]
    rfl
  rintro m' S ⟨j, ver, hjm, rfl⟩
  rcases Nat.lt_or_ge j l.length with h' | h'
  rotate_left 1
  · have hlt : ((j : Int) < (l.length : Int)) = False := eq_false (by omega)
    simp (maxSteps := 400000) only [↓preZ, postZ, coreZ, ↓preU, postU, D_all, F_all, unR, outL, onePV, binS, ↓binS, boundR, ↓boundR, fieldOf, ↓fieldOf, boxR, allocR, newObj, zeroElem, buildSliceR, appendR, setAll, storeR, St.freeze, makeSliceR, minmaxR, makeFuncR, BEq.rfl, reduceIte, reduceCtorEq, Nat.reduceLT, Nat.reduceAdd, Nat.reduceSub, Nat.reduceMul, Nat.reduceBEq, Nat.reduceLeDiff, Int.reduceToNat, Int.reduceLE, hQ, hlt]
    rw [List.take_of_length_le h']
    all_goals exact (nodes_frz l.flatten ver t_api_Node []).symm
  have hlt : ((j : Int) < (l.length : Int)) = True := eq_true (by omega)
  have hgi := List.getElem?_eq_getElem h'
  generalize l[j] = v at hgi
  have hs := listV_take l hgi
  have hf := flat_take l hgi
  have zi : (0 ≤ (j : Int)) = True := eq_true (by omega)
  simp (maxSteps := 400000) only [↓preZ, postZ, coreZ, ↓preU, postU, D_all, F_all, unR, outL, onePV, binS, ↓binS, boundR, ↓boundR, fieldOf, ↓fieldOf, boxR, allocR, newObj, zeroElem, buildSliceR, appendR, setAll, storeR, St.freeze, makeSliceR, minmaxR, makeFuncR, BEq.rfl, reduceIte, reduceCtorEq, Nat.reduceLT, Nat.reduceAdd, Nat.reduceSub, Nat.reduceMul, Nat.reduceBEq, Nat.reduceLeDiff, Int.reduceToNat, Int.reduceLE, hQ, hlt, zi, hgi, zNl, zNs]
  refine ⟨by omega, by omega, ⟨by omega, by omega⟩, m' - 1, by omega, j + 1, ver + 1, by omega, ?_⟩
  rw [hs]
  rfl

def ctrConcat : Ctr := fun args objs K => match args with
  | [a0] => ofE encL a0 (HK.mk : HK fun l => (l.length ≤ 1000000) ∧ (l.flatten.length ≤ 1000000) ∧ K (encV l.flatten) objs 0)
  | _ => False
theorem ctrConcat_ok : CtrOk Tryd.prog f_slices_Concat_api_Val_api_Node_ (ctrConcat) := by
  intro args objs K h
  unfold ctrConcat at h
  split at h
  · rename_i a0
    obtain ⟨l, rfl, h1, h2, hk⟩ := h
    exact ⟨_, _, _, .pure _ rfl (concat_spec l h1 h2), hk⟩
  · exact h.elim

theorem valList_spec (l : List Vl) (hl : l.length ≤ 1000000) (hb : l.flatten.length ≤ 1000000) : FnSpec Tryd.prog f_val_List [encL l] [] (encV (listV l)) [] := by
  refine k_val_List.pureG (T := tabL Tryd.prog [(f_slices_Concat_api_Val_api_Node_, ctrConcat)]) 1 hD (kOk_tabL (tabOk_cons ctrConcat_ok tabOk_nil)) hmix (by decide) fun Q hQ => ?_
  try simp only [F_all]
  simp (maxSteps := 400000) only [↓preZ, postZ, coreZ, ↓preU, postU, D_all, F_all, unR, outL, onePV, binS, ↓binS, boundR, ↓boundR, fieldOf, ↓fieldOf, boxR, allocR, newObj, zeroElem, buildSliceR, appendR, setAll, storeR, St.freeze, makeSliceR, minmaxR, makeFuncR, BEq.rfl, reduceIte, reduceCtorEq, Nat.reduceLT, Nat.reduceAdd, Nat.reduceSub, Nat.reduceMul, Nat.reduceBEq, Nat.reduceLeDiff, Int.reduceToNat, Int.reduceLE, hQ, c_val_List, ↓ctrConcat, zNl, zNs]
  exact ⟨hl, hb, by omega, by omega, (nodes_frz (listV l) 2 t_api_Node []).symm⟩

def ctrValList : Ctr := fun args objs K => match args with
  | [a0] => ofE encL a0 (HK.mk : HK fun l => (l.length ≤ 1000000) ∧ (l.flatten.length ≤ 1000000) ∧ K (encV (listV l)) objs 0)
  | _ => False
theorem ctrValList_ok : CtrOk Tryd.prog f_val_List (ctrValList) := by
  intro args objs K h
  unfold ctrValList at h
  split at h
  · rename_i a0
    obtain ⟨l, rfl, h1, h2, hk⟩ := h
    exact ⟨_, _, _, .pure _ rfl (valList_spec l h1 h2), hk⟩
  · exact h.elim

theorem zipT {names : List (List UInt8)} {l : List Vl} {i : Nat} {nm : List UInt8} {v : Vl} (h1 : names[i]? = some nm) (h2 : l[i]? = some v) :
    List.zipWith setN (names.take (i + 1)) (l.take (i + 1)) = List.zipWith setN (names.take i) (l.take i) ++ [setN nm v] := by
  have a := (List.getElem?_eq_some_iff.1 h1).1
  have b := (List.getElem?_eq_some_iff.1 h2).1
  rw [List.take_add_one, List.take_add_one, h1, h2, List.zipWith_append (by simp; omega)]
  rfl

theorem set_name (A : Vl) (n : Nd) (r : Vl) (nm : List UInt8) : (A.map encN ++ (n :: r).map encN).set A.length (encN { n with name := nm }) = (A ++ setN nm (n :: r)).map encN := by
  rw [List.set_append_right _ _ (by simp)]
  simp [setN]

theorem zip_flat_len (names : List (List UInt8)) (l : List Vl) : (List.zipWith setN names l).flatten.length ≤ l.flatten.length := by
  induction l generalizing names with
  | nil => simp
  | cons v l ih =>
    cases names with
    | nil => simp
    | cons nm names =>
      have := ih names
      simp only [List.zipWith_cons_cons, List.flatten_cons, List.length_append, setN_length]
      omega

theorem laid_spec (names : List (List UInt8)) (l : List Vl) (hn : names.length = l.length) (hl : l.length ≤ 1000000) (hb : l.flatten.length ≤ 1000000) (hne : ∀ v ∈ l, v ≠ []) : FnSpec Tryd.prog f_val_laid [encT names, encL l] [] (encV (layV names l)) [] := by
  refine k_val_laid.pureG (T := tabL Tryd.prog []) 1 hD (kOk_tabL tabOk_nil) hmix (by decide) fun Q hQ => ?_
  try simp only [F_all]
  simp (maxSteps := 400000) only [↓preZ, postZ, coreZ, ↓preU, postU, D_all, F_all, unR, outL, onePV, binS, ↓binS, boundR, ↓boundR, fieldOf, ↓fieldOf, boxR, allocR, newObj, zeroElem, buildSliceR, appendR, setAll, storeR, St.freeze, makeSliceR, minmaxR, makeFuncR, BEq.rfl, reduceIte, reduceCtorEq, Nat.reduceLT, Nat.reduceAdd, Nat.reduceSub, Nat.reduceMul, Nat.reduceBEq, Nat.reduceLeDiff, Int.reduceToNat, Int.reduceLE, hQ, c_val_laid, zNl, zNs]
  refine wpc_loop (fun m S => ∃ i ver : Nat, i + m = l.length ∧ S = ⟨tmA 35 [(0, encT names), (5, .osl 0 ver), (13, encL l), (14, .int .i64 l.length), (15, .int .i64 i)], [⟨t_api_Node, 6, ((⟨6, l.length, [], [], false, 0⟩ : Nd) :: (List.zipWith setN (names.take i) (l.take i)).flatten).map encN, true, ver⟩]⟩) l.length ⟨0, 1, by omega, ?_⟩ ?_
  · simp only [normR, keepR, Nat.reduceAdd, lkR, Nat.reduceBEq, F_all, List.map_nil]
    rfl
  rintro m S ⟨i, ver, him, rfl⟩
  rcases Nat.lt_or_ge i l.length with h | h
  rotate_left 1
  · have hlt : ((i : Int) < (l.length : Int)) = False := eq_false (by omega)
    simp (maxSteps := 400000) only [↓preZ, postZ, coreZ, ↓preU, postU, D_all, F_all, unR, outL, onePV, binS, ↓binS, boundR, ↓boundR, fieldOf, ↓fieldOf, boxR, allocR, newObj, zeroElem, buildSliceR, appendR, setAll, storeR, St.freeze, makeSliceR, minmaxR, makeFuncR, BEq.rfl, reduceIte, reduceCtorEq, Nat.reduceLT, Nat.reduceAdd, Nat.reduceSub, Nat.reduceMul, Nat.reduceBEq, Nat.reduceLeDiff, Int.reduceToNat, Int.reduceLE, hQ, hlt]
    rw [List.take_of_length_le h, List.take_of_length_le (by omega)]
    exact (nodes_frz (layV names l) ver t_api_Node []).symm
  have hlt : ((i : Int) < (l.length : Int)) = True := eq_true (by omega)
  have hgi := List.getElem?_eq_getElem h
  have hgn : names[i]? = some (names[i]'(by omega)) := List.getElem?_eq_getElem (by omega)
  have hv := hne _ (List.getElem_mem h)
  generalize l[i] = v at hgi hv
  generalize names[i]'(by omega) = nm at hgn
  have hz := zipT hgn hgi
  have hf := flat_take l hgi
  have hf2 := zip_flat_len (names.take i) (l.take i)
  generalize hA : (List.zipWith setN (names.take i) (l.take i)).flatten = A at *
  obtain ⟨n, r, rfl⟩ : ∃ n r, v = n :: r := by
    cases v with
    | nil => exact absurd rfl hv
    | cons n r => exact ⟨n, r, rfl⟩
  have zi : (0 ≤ (i : Int)) = True := eq_true (by omega)
  simp (maxSteps := 400000) only [↓preZ, postZ, coreZ, ↓preU, postU, D_all, F_all, unR, outL, onePV, binS, ↓binS, boundR, ↓boundR, fieldOf, ↓fieldOf, boxR, allocR, newObj, zeroElem, buildSliceR, appendR, setAll, storeR, St.freeze, makeSliceR, minmaxR, makeFuncR, BEq.rfl, reduceIte, reduceCtorEq, Nat.reduceLT, Nat.reduceAdd, Nat.reduceSub, Nat.reduceMul, Nat.reduceBEq, Nat.reduceLeDiff, Int.reduceToNat, Int.reduceLE, hQ, hlt, zi, hgi, hgn, zNl, zNs]
  have hf3 : A.length + (r.length + 1) ≤ 1000000 := by rw [List.length_cons] at hf; omega
  refine ⟨rowA2 n r ▸ trivial, by omega, by omega, by omega, by omega, encN n, by simp, by simp [enc6], ⟨by omega, by omega⟩, m - 1, by omega, i + 1, ver + 1, by omega, ?_⟩
  rw [hz, List.flatten_append, hA, nmP]
  have := set_name A n r nm
  rw [List.map_cons] at this
  rw [this]
  simp

def ctrLaid : Ctr := fun args objs K => match args with
  | [a0, a1] => ofE encT a0 (HK.mk : HK fun names => ofE encL a1 (HK.mk : HK fun l => (names.length = l.length) ∧ (l.length ≤ 1000000) ∧ (l.flatten.length ≤ 1000000) ∧ (∀ v ∈ l, v ≠ []) ∧ K (encV (layV names l)) objs 0))
  | _ => False
theorem ctrLaid_ok : CtrOk Tryd.prog f_val_laid (ctrLaid) := by
  intro args objs K h
  unfold ctrLaid at h
  split at h
  · rename_i a0 a1
    obtain ⟨names, rfl, l, rfl, h1, h2, h3, h4, hk⟩ := h
    exact ⟨_, _, _, .pure _ rfl (laid_spec names l h1 h2 h3 h4), hk⟩
  · exact h.elim

end Lp

/-! LpD5 -/

namespace Lp
open Go Go.Proofs

set_option maxHeartbeats 4000000
set_option maxRecDepth 20000
set_option linter.unusedSimpArgs false

theorem frzO_nodes (d n : Nat) (O : List Obj) (t : TypeId) (sz : Nat) (v : Vl) (ver : Nat) : frzO d n O ⟨t, sz, v.map encN, true, ver⟩ = ⟨t, sz, v.map encN, true, ver⟩ := by
  have : (v.map encN).map (PV.mapCells (frz d n O)) = v.map encN := by
    rw [List.map_map]
    exact List.map_congr_left fun x _ => rfl
  simp only [frzO, this]

theorem named_spec (names : List (List UInt8)) (l : List Vl) (hn : names.length = l.length) (hl : l.length ≤ 1000000) (hb : l.flatten.length ≤ 1000000) (hne : ∀ v ∈ l, v ≠ []) : FnSpec Tryd.prog f_louperef02_named [encT names, encL l] [] (encV (layV names l)) [] := by
  refine k_louperef02_named.pureG (T := tabL Tryd.prog []) 1 hD (kOk_tabL tabOk_nil) hmix (by decide) fun Q hQ => ?_
  try simp only [F_all]
  simp (maxSteps := 400000) only [↓preZ, postZ, coreZ, ↓preU, postU, D_all, F_all, unR, outL, onePV, binS, ↓binS, boundR, ↓boundR, fieldOf, ↓fieldOf, boxR, allocR, newObj, zeroElem, buildSliceR, appendR, setAll, storeR, St.freeze, makeSliceR, minmaxR, makeFuncR, BEq.rfl, reduceIte, reduceCtorEq, Nat.reduceLT, Nat.reduceAdd, Nat.reduceSub, Nat.reduceMul, Nat.reduceBEq, Nat.reduceLeDiff, Int.reduceToNat, Int.reduceLE, hQ, c_louperef02_named, zNl, zNs]
  refine wpc_loop (fun m S => ∃ i ver : Nat, i + m = l.length ∧ S = ⟨tmA 41 [(0, encT names), (1, encL l), (5, .osl 0 ver), (6, .int .i64 i)], [⟨t_api_Node, 6, ((⟨6, l.length, [], [], false, 0⟩ : Nd) :: (List.zipWith setN (names.take i) (l.take i)).flatten).map encN, true, ver⟩]⟩) l.length ⟨0, 1, by omega, ?_⟩ ?_ (hz := Nat.zero_le _)
  · simp only [normR, keepR, Nat.reduceAdd, lkR, Nat.reduceBEq, F_all, List.map_nil]
    rfl
  rintro m S ⟨i, ver, him, rfl⟩
  rcases Nat.lt_or_ge i l.length with h | h
  rotate_left 1
  · have hlt : ((i : Int) < (l.length : Int)) = False := eq_false (by omega)
    simp (maxSteps := 400000) only [↓preZ, postZ, coreZ, ↓preU, postU, D_all, F_all, unR, outL, onePV, binS, ↓binS, boundR, ↓boundR, fieldOf, ↓fieldOf, boxR, allocR, newObj, zeroElem, buildSliceR, appendR, setAll, storeR, St.freeze, makeSliceR, minmaxR, makeFuncR, BEq.rfl, reduceIte, reduceCtorEq, Nat.reduceLT, Nat.reduceAdd, Nat.reduceSub, Nat.reduceMul, Nat.reduceBEq, Nat.reduceLeDiff, Int.reduceToNat, Int.reduceLE, hQ, hlt]
    rw [List.take_of_length_le h, List.take_of_length_le (by omega)]
    exact (nodes_frz (layV names l) ver t_api_Node []).symm
  have hlt : ((i : Int) < (l.length : Int)) = True := eq_true (by omega)
  have hgi := List.getElem?_eq_getElem h
  have hgn : names[i]? = some (names[i]'(by omega)) := List.getElem?_eq_getElem (by omega)
  have hv := hne _ (List.getElem_mem h)
  generalize l[i] = v at hgi hv
  generalize names[i]'(by omega) = nm at hgn
  have hz := zipT hgn hgi
  have hf := flat_take l hgi
  have hf2 := zip_flat_len (names.take i) (l.take i)
  generalize hA : (List.zipWith setN (names.take i) (l.take i)).flatten = A at *
  obtain ⟨n, r, rfl⟩ : ∃ n r, v = n :: r := by
    cases v with
    | nil => exact absurd rfl hv
    | cons n r => exact ⟨n, r, rfl⟩
  have hf3 : A.length + (r.length + 1) ≤ 1000000 := by rw [List.length_cons] at hf; omega
  have zi : (0 ≤ (i : Int)) = True := eq_true (by omega)
  have hgA : (List.map encN A ++ encN n :: List.map encN r)[A.length]? = some (encN n) := by simp
  simp (maxSteps := 400000) only [↓preZ, postZ, coreZ, ↓preU, postU, D_all, F_all, unR, outL, onePV, binS, ↓binS, boundR, ↓boundR, fieldOf, ↓fieldOf, boxR, allocR, newObj, zeroElem, buildSliceR, appendR, setAll, storeR, St.freeze, makeSliceR, minmaxR, makeFuncR, BEq.rfl, reduceIte, reduceCtorEq, Nat.reduceLT, Nat.reduceAdd, Nat.reduceSub, Nat.reduceMul, Nat.reduceBEq, Nat.reduceLeDiff, Int.reduceToNat, Int.reduceLE, hQ, hlt, zi, hgi, hgn, zNl, zNs, hgA, nodeZ, nodeW, nmP]
  have hset : ∀ hd : Nd, encN hd :: (List.map encN A ++ encN n :: List.map encN r).set A.length (encN { kind := n.kind, many := n.many, name := nm, s := n.s, neg := n.neg, e := n.e }) = (hd :: (A ++ setN nm (n :: r))).map encN := fun hd => by
    rw [List.map_cons, ← set_name]; rfl
  refine ⟨rowA2 n r ▸ trivial, by omega, by omega, by omega, by omega, by omega, by omega, ⟨by omega, by omega⟩, m - 1, by omega, i + 1, ver + 1, by omega, ?_⟩
  rw [hset, hz, List.flatten_append, hA]
  simp only [List.take_succ_cons, List.take_zero, List.map_cons (f := frzO _ _ _), List.map_nil, frzO_nodes, List.flatten_cons, List.flatten_nil, List.append_nil]
  rfl

def ctrNamed : Ctr := fun args objs K => match args with
  | [a0, a1] => ofE encT a0 (HK.mk : HK fun names => ofE encL a1 (HK.mk : HK fun l => (names.length = l.length) ∧ (l.length ≤ 1000000) ∧ (l.flatten.length ≤ 1000000) ∧ (∀ v ∈ l, v ≠ []) ∧ K (encV (layV names l)) objs 0))
  | _ => False
theorem ctrNamed_ok : CtrOk Tryd.prog f_louperef02_named (ctrNamed) := by
  intro args objs K h
  unfold ctrNamed at h
  split at h
  · rename_i a0 a1
    obtain ⟨names, rfl, l, rfl, h1, h2, h3, h4, hk⟩ := h
    exact ⟨_, _, _, .pure _ rfl (named_spec names l h1 h2 h3 h4), hk⟩
  · exact h.elim

end Lp

/-! LpV10 -/

namespace Lp
open Go

/-- So far picked: q; which are done; how many are left. -/
structure Sel (names : List (List UInt8)) (l : List Vl) (q : Prs) (done : List Bool) (m : Nat) : Prop where
  par : names.length = l.length
  len : done.length = names.length
  cnt : q.length + m = names.length
  left : done.count false = m
  mem : ∀ x : List UInt8 × Vl, x ∈ q ↔ ∃ i : Nat, done[i]? = some true ∧ names[i]? = some x.1 ∧ l[i]? = some x.2
  rise : Rise (q.map (·.1))
  utf : ∀ x ∈ q, utf x.1 = true
  low : ∀ (i : Nat) nm, done[i]? = some false → names[i]? = some nm → ∀ x ∈ q, Op.bytesLess nm x.1 = false
  one : ∀ (i j : Nat) nm, done[i]? = some true → done[j]? = some true → names[i]? = some nm → names[j]? = some nm → i = j

theorem Sel.init (names : List (List UInt8)) (l : List Vl) (hp : names.length = l.length) : Sel names l [] (List.replicate names.length false) names.length := by
  have hno : ∀ i : Nat, (List.replicate names.length false)[i]? ≠ some true := fun i h => by
    rw [List.getElem?_replicate] at h
    split at h <;> cases h
  refine ⟨hp, by simp, by simp, by simp, fun x => ⟨fun h => (List.not_mem_nil h).elim, fun ⟨i, h, _⟩ => absurd h (hno i)⟩, List.Pairwise.nil, fun x h => (List.not_mem_nil h).elim, fun _ _ _ _ x h => (List.not_mem_nil h).elim, fun i j nm h => absurd h (hno i)⟩

/-- What is picked next is above all that is picked, if it is not the last one again. -/
theorem Sel.above {names : List (List UInt8)} {l : List Vl} {q : Prs} {done : List Bool} {m : Nat} (h : Sel names l q done m) {b : Nat} {nm : List UInt8} (hb : done[b]? = some false) (hn : names[b]? = some nm)
    (hl : ∀ x, q.getLast? = some x → x.1 ≠ nm) : ∀ x ∈ q, Op.bytesLess x.1 nm = true := by
  have hlow := h.low b nm hb hn
  rcases List.eq_nil_or_concat q with rfl | ⟨q', z, rfl⟩
  · intro x hx; cases hx
  rw [List.concat_eq_append] at *
  have hz : z ∈ q' ++ [z] := by simp
  have hzl : Op.bytesLess z.1 nm = true := by
    rcases bl_tri z.1 nm with g | g | g
    · exact g
    · exact absurd g (hl z (by simp))
    · rw [hlow z hz] at g; cases g
  intro x hx
  have hr := h.rise
  rw [List.map_append] at hr
  rcases List.mem_append.1 hx with hx | hx
  · exact bl_trans _ _ _ ((List.pairwise_append.1 hr).2.2 x.1 (List.mem_map.2 ⟨x, hx, rfl⟩) z.1 (by simp)) hzl
  · simp only [List.mem_singleton] at hx
    subst hx; exact hzl

theorem Sel.step {names : List (List UInt8)} {l : List Vl} {q : Prs} {done : List Bool} {m : Nat} (h : Sel names l q done (m + 1)) {b : Nat} {nm : List UInt8} {v : Vl} (hb : done[b]? = some false) (hn : names[b]? = some nm) (hv : l[b]? = some v)
    (hmin : ∀ (i : Nat) nm', done[i]? = some false → names[i]? = some nm' → Op.bytesLess nm' nm = false) (hu : Lp.utf nm = true) (hl : ∀ x, q.getLast? = some x → x.1 ≠ nm) :
    Sel names l (q ++ [(nm, v)]) (done.set b true) m := by
  have hbl := (List.getElem?_eq_some_iff.1 hb).1
  have hab := h.above hb hn hl
  have hset : ∀ i c, (done.set b true)[i]? = some c → (i = b ∧ c = true) ∨ (i ≠ b ∧ done[i]? = some c) := fun i c hc => by
    rw [List.getElem?_set] at hc
    split at hc
    · rename_i e
      subst e
      exact .inl ⟨rfl, by simpa [hbl] using hc.symm⟩
    · rename_i e
      exact .inr ⟨fun e' => e e'.symm, hc⟩
  have hset' : ∀ i c, i ≠ b → done[i]? = some c → (done.set b true)[i]? = some c := fun i c hi hc => by
    rw [List.getElem?_set_ne (fun e => hi e.symm)]; exact hc
  have hsb : (done.set b true)[b]? = some true := by rw [List.getElem?_set_self hbl]
  refine ⟨h.par, by simp [h.len], by have := h.cnt; simp; omega, ?_, fun x => ?_, ?_, ?_, ?_, ?_⟩
  · have h1 := h.left
    have e : done = done.take b ++ false :: done.drop (b + 1) := by
      have := List.getElem?_eq_some_iff.1 hb
      obtain ⟨_, e⟩ := this
      conv => lhs; rw [← List.take_append_drop b done, List.drop_eq_getElem_cons hbl, e]
    have e2 : done.set b true = done.take b ++ true :: done.drop (b + 1) := by
      rw [List.set_eq_take_append_cons_drop, if_pos hbl]
    rw [e2, List.count_append, List.count_cons]
    rw [e, List.count_append, List.count_cons] at h1
    simp at h1 ⊢
    omega
  · rw [List.mem_append, h.mem]
    constructor
    · rintro (⟨i, h1, h2, h3⟩ | hx)
      · have : i ≠ b := fun e => by subst e; rw [hb] at h1; cases h1
        exact ⟨i, hset' i _ this h1, h2, h3⟩
      · simp only [List.mem_singleton] at hx
        subst hx
        exact ⟨b, hsb, hn, hv⟩
    · rintro ⟨i, h1, h2, h3⟩
      rcases hset i _ h1 with ⟨rfl, _⟩ | ⟨hi, hd⟩
      · right
        rw [hn] at h2; rw [hv] at h3
        simp only [Option.some.injEq] at h2 h3
        simp [h2, h3]
      · exact .inl ⟨i, hd, h2, h3⟩
  · rw [List.map_append]
    refine List.pairwise_append.2 ⟨h.rise, by simp, fun x hx y hy => ?_⟩
    simp only [List.map_cons, List.map_nil, List.mem_singleton] at hy
    subst hy
    obtain ⟨z, hz, rfl⟩ := List.mem_map.1 hx
    exact hab z hz
  · intro x hx
    rcases List.mem_append.1 hx with hx | hx
    · exact h.utf x hx
    · simp only [List.mem_singleton] at hx
      subst hx; exact hu
  · intro i nm' h1 h2 x hx
    rcases hset i _ h1 with ⟨_, hc⟩ | ⟨hi, hd⟩
    · cases hc
    · rcases List.mem_append.1 hx with hx | hx
      · exact h.low i nm' hd h2 x hx
      · simp only [List.mem_singleton] at hx
        subst hx
        exact hmin i nm' hd h2
  · intro i j nm' h1 h2 h3 h4
    have key : ∀ k, k ≠ b → done[k]? = some true → names[k]? = some nm' → nm' ≠ nm := fun k hk hd hnk e => by
      subst e
      have hkl : k < l.length := by rw [← h.par]; exact (List.getElem?_eq_some_iff.1 hnk).1
      have := hab (nm', l[k]) ((h.mem _).2 ⟨k, hd, hnk, List.getElem?_eq_getElem hkl⟩)
      rw [bl_irrefl] at this; cases this
    rcases hset i _ h1 with ⟨rfl, _⟩ | ⟨hi, hd⟩
    · rcases hset j _ h2 with ⟨rfl, _⟩ | ⟨hj, hd'⟩
      · rfl
      · rw [hn] at h3
        simp only [Option.some.injEq] at h3
        exact absurd h3.symm (key j hj hd' h4)
    · rcases hset j _ h2 with ⟨rfl, _⟩ | ⟨hj, hd'⟩
      · rw [hn] at h4
        simp only [Option.some.injEq] at h4
        exact absurd h4.symm (key i hi hd h3)
      · exact h.one i j nm' hd hd' h3 h4

theorem Sel.all {names : List (List UInt8)} {l : List Vl} {q : Prs} {done : List Bool} (h : Sel names l q done 0) {i : Nat} (hi : i < names.length) : done[i]? = some true := by
  have h1 := List.getElem?_eq_getElem (by rw [h.len]; exact hi : i < done.length)
  rw [h1]
  cases hd : done[i]'(by rw [h.len]; exact hi) with
  | true => rfl
  | false =>
    have := h.left
    rw [List.count_eq_zero] at this
    exact absurd (by rw [← hd]; exact List.getElem_mem _) this

/-- All are picked: that is the object. -/
theorem Sel.end {names : List (List UInt8)} {l : List Vl} {q : Prs} {done : List Bool} (h : Sel names l q done 0) : namesOk names l.length = true ∧ q = srtP (names.zip l) := by
  have hq : ∀ (i : Nat) (hi : i < names.length), (names[i], l[i]'(by rw [← h.par]; exact hi)) ∈ q := fun i hi =>
    (h.mem _).2 ⟨i, h.all hi, List.getElem?_eq_getElem hi, List.getElem?_eq_getElem _⟩
  have hok : namesOk names l.length = true := by
    rw [namesOk_iff]
    refine ⟨h.par, ?_, fun x hx => ?_⟩
    · refine List.pairwise_iff_getElem.2 fun i j hi hj hij e => ?_
      have := h.one i j names[i] (h.all hi) (h.all hj) (List.getElem?_eq_getElem hi) (by rw [e]; exact List.getElem?_eq_getElem hj)
      omega
    · obtain ⟨i, hi, rfl⟩ := List.mem_iff_getElem.1 hx
      exact h.utf _ (hq i hi)
  refine ⟨hok, srtP_unique hok h.rise fun x => ?_⟩
  constructor
  · intro hx
    obtain ⟨i, _, h2, h3⟩ := (h.mem x).1 hx
    refine List.mem_iff_getElem?.2 ⟨i, ?_⟩
    rw [List.getElem?_zip_eq_some]
    exact ⟨h2, h3⟩
  · intro hx
    obtain ⟨i, hi⟩ := List.mem_iff_getElem?.1 hx
    rw [List.getElem?_zip_eq_some] at hi
    exact (h.mem x).2 ⟨i, h.all (List.getElem?_eq_some_iff.1 hi.1).1, hi.1, hi.2⟩

/-- The next one is no text: there is no object. -/
theorem not_utf {names : List (List UInt8)} {k : Nat} {b : Nat} {nm : List UInt8} (hn : names[b]? = some nm) (hu : Lp.utf nm = false) : namesOk names k = false := by
  cases hh : namesOk names k with
  | false => rfl
  | true =>
    have := (namesOk_iff.1 hh).2.2 nm (List.mem_of_getElem? hn)
    rw [hu] at this; cases this

/-- The next one is the last one again: there is no object. -/
theorem Sel.twice {names : List (List UInt8)} {l : List Vl} {q : Prs} {done : List Bool} {m : Nat} (h : Sel names l q done m) {b : Nat} {nm : List UInt8} (hb : done[b]? = some false) (hn : names[b]? = some nm) {x : List UInt8 × Vl} (hx : x ∈ q) (he : x.1 = nm) (k : Nat) : namesOk names k = false := by
  cases hh : namesOk names k with
  | false => rfl
  | true =>
    obtain ⟨i, h1, h2, _⟩ := (h.mem x).1 hx
    have hnd := (namesOk_iff.1 hh).2.1
    have hib : i ≠ b := fun e => by subst e; rw [hb] at h1; cases h1
    rw [he] at h2
    obtain ⟨hi, e1⟩ := List.getElem?_eq_some_iff.1 h2
    obtain ⟨hj, e2⟩ := List.getElem?_eq_some_iff.1 hn
    have hpw := List.pairwise_iff_getElem.1 hnd
    rcases Nat.lt_trichotomy i b with g | g | g
    · exact absurd (e1.trans e2.symm) (hpw i b hi hj g)
    · exact absurd g hib
    · exact absurd (e2.trans e1.symm) (hpw b i hj hi g)

/-- Somewhere one is left. -/
theorem Sel.some {names : List (List UInt8)} {l : List Vl} {q : Prs} {done : List Bool} {m : Nat} (h : Sel names l q done (m + 1)) : ∃ i : Nat, done[i]? = Option.some false := by
  have : 0 < done.count false := by rw [h.left]; omega
  exact List.mem_iff_getElem?.1 (List.count_pos_iff.1 this)

end Lp

/-! LpX -/

namespace Lp
open Go

/-- Cells of a type that can be read are values of this kind. -/
def Rd (P : Program) (t : TypeId) {α : Type} (enc : α → PV) (good : α → Prop) : Prop :=
  ∀ {H : Type} (eh : TypeId × Value → H) (w : World) (fuel : Nat) (cs : List Value) (x : DataW H × List MemPlace), DataW.trod eh P w 0 (fun _ => true) true fuel t cs = some x →
    (∀ n ∈ DataW.weights P t x.1, n ≤ reachBytes) → ∃ a : α, good a ∧ RepL (Rep w (fun _ => True)) (enc a).cells cs

variable {P : Program}

theorem repL_one {R : PV → Value → Prop} {p : PV} {v : Value} (h : R p v) : RepL R [p] [v] :=
  ⟨rfl, fun i q u h1 h2 => by
    cases i with
    | zero => simp at h1 h2; subst h1; subst h2; exact h
    | succ i => simp at h1⟩

theorem Rd.int {t : TypeId} {k : IntKind} (ht : P.underlying t = some (.int k)) : Rd P t (.int k) (inR k) := by
  intro H eh w fuel cs x h _
  obtain ⟨n, rfl, rfl, hw⟩ := DataW.trod_int ht h
  refine ⟨n, ?_, repL_one (.int k n)⟩
  simp only [Lit.wf, Bool.and_eq_true, decide_eq_true_eq] at hw
  cases k <;> simp only [IntKind.min, IntKind.max, IntKind.signed, IntKind.bits, inR] at hw ⊢ <;> first | exact ⟨by simpa using hw.1, by simpa using hw.2⟩ | (simp at hw; omega)

theorem Rd.bool {t : TypeId} (ht : P.underlying t = some .bool) : Rd P t PV.bool (fun _ => True) := by
  intro H eh w fuel cs x h _
  obtain ⟨b, rfl, rfl⟩ := DataW.trod_bool ht h
  exact ⟨b, trivial, repL_one (.bool b)⟩

theorem Rd.str {t : TypeId} (ht : P.underlying t = some .string) : Rd P t PV.str (fun s => s.length ≤ reachBytes) := by
  intro H eh w fuel cs x h hw
  obtain ⟨s, rfl, rfl, _⟩ := DataW.trod_string ht h
  refine ⟨s.data.toList, hw _ ?_, repL_one (rep_str w _ s)⟩
  rw [DataW.weights]; simp

theorem Rd.slice {t e : TypeId} {α : Type} [Inhabited α] {enc : α → PV} {good : α → Prop} {sz : Nat} (ht : P.underlying t = some (.slice e)) (he : Rd P e enc good) (hsz : P.cellsOf e = sz) (hpos : sz ≠ 0) (hc : ∀ a, (enc a).cells.length = sz) :
    Rd P t (fun l : List α => .sl sz (l.map enc) none) (fun l => l.length * P.bytesOf e ≤ reachBytes ∧ ∀ a ∈ l, good a) := by
  intro H eh w fuel cs x h hw
  rcases Go.Deep.open_slice ht h with ⟨rfl, rfl⟩ | ⟨a, len, cap, m, n, D, Pl, rfl, hb, hl, hm, hmm, rfl, hx⟩
  · exact ⟨[], by simp, repL_one (.slnil _ _ (by simp))⟩
  · simp only [if_true] at hmm
    subst hmm
    have hwt : ∀ i, i < len → ∀ n ∈ DataW.weights P e (D i), n ≤ reachBytes := by
      intro i hi n hn
      refine hw n ?_
      rw [DataW.weights, ht]
      simp only [List.mem_cons, List.mem_append]
      right; left
      have key : ∀ (l : List (DataW H)) d, d ∈ l → n ∈ DataW.weights P e d → n ∈ DataW.weightsAll P e l := by
        intro l
        induction l with
        | nil => intro d hd; cases hd
        | cons y ys ih =>
          intro d hd hn
          rw [DataW.weightsAll, List.mem_append]
          rcases List.mem_cons.1 hd with rfl | hd
          · exact .inl hn
          · exact .inr (ih d hd hn)
      exact key _ (D i) (List.mem_map.2 ⟨i, List.mem_range.2 hi, rfl⟩) hn
    have hlen : (len : Nat) * P.bytesOf e ≤ reachBytes := by
      have := hw ((((List.range len).map D).length + ((List.range (m - len)).map fun j => D (len + j)).length) * P.bytesOf e) (by rw [DataW.weights, ht]; exact List.mem_cons_self)
      simp only [List.length_map, List.length_range] at this
      exact Nat.le_trans (Nat.mul_le_mul_right _ (by omega)) this
    obtain ⟨f, hf⟩ : ∃ f : Nat → α × List Value, ∀ i, i < len → good (f i).1 ∧ w.cells? 0 (a.add (i * P.cellsOf e)) (P.cellsOf e) = some (f i).2 ∧ RepL (Rep w (fun _ => True)) (enc (f i).1).cells (f i).2 := by
      have hex : ∀ i, i < len → ∃ y : α × List Value, good y.1 ∧ w.cells? 0 (a.add (i * P.cellsOf e)) (P.cellsOf e) = some y.2 ∧ RepL (Rep w (fun _ => True)) (enc y.1).cells y.2 := by
        intro i hi
        obtain ⟨cs', h1, h2⟩ := hx i (by omega)
        obtain ⟨y, g1, g2⟩ := he eh w n cs' _ h2 (hwt i hi)
        exact ⟨(y, cs'), g1, h1, g2⟩
      exact Go.Deep.choose_lt hex
    rcases Nat.eq_zero_or_pos len with h0 | h0
    · subst h0
      exact ⟨[], by simp, repL_one (.slz _ _ (by simp) a m hm)⟩
    have hspot : a.spot = none := by
      obtain ⟨_, h2, h3⟩ := hf 0 h0
      obtain ⟨_, g1, g2⟩ := World.cells?_some h2
      have := g2 0 (by omega)
      rw [List.getElem?_eq_getElem (by omega)] at this
      have := World.cell?_spot this
      simpa [Addr.add] using this
    obtain ⟨b, off, spot⟩ := a
    simp only at hspot
    subst hspot
    have hcells : ∀ i, i < len → ∀ j, j < sz → w.cell? ⟨b, off + i * sz + j, none⟩ = (f i).2[j]? := by
      intro i hi j hj
      obtain ⟨_, h2, _⟩ := hf i hi
      obtain ⟨_, _, g2⟩ := World.cells?_some h2
      have := g2 j (by omega)
      rw [hsz, add_lit, add_lit] at this
      exact this
    have hget : ∀ (i : Nat) (x : PV), (((List.range len).map fun i => (f i).1).map enc)[i]? = some x → i < len ∧ x = enc (f i).1 := by
      intro i x hx
      have hi : i < len := by
        have := (List.getElem?_eq_some_iff.1 hx).1
        simpa using this
      rw [List.getElem?_map, List.getElem?_map, List.getElem?_range hi] at hx
      simp only [Option.map_some, Option.some.injEq] at hx
      exact ⟨hi, hx.symm⟩
    have hL : (((List.range len).map fun i => (f i).1).map enc).length = len := by simp
    refine ⟨(List.range len).map fun i => (f i).1, ⟨by simpa using hlen, fun y hy => ?_⟩, repL_one ?_⟩
    · obtain ⟨i, hi, rfl⟩ := List.mem_map.1 hy
      exact (hf i (List.mem_range.1 hi)).1
    · have : Rep w (fun _ => True) (.sl sz (((List.range len).map fun i => (f i).1).map enc) none) (.slice (some ⟨b, off, none⟩) (((List.range len).map fun i => (f i).1).map enc).length m) := by
        refine .sl sz _ none (by simp) b off m (fun i j => (f i).2.getD j undef) (fun _ => ⟨trivial, ?_⟩) (by rw [hL]; exact hl) hm (fun i x hx => ?_) (fun i x j p hx hp => ?_) (fun i x j p hx hp => ?_)
        · have := hcells 0 h0 0 (by omega)
          obtain ⟨_, h2, _⟩ := hf 0 h0
          obtain ⟨_, g1, _⟩ := World.cells?_some h2
          rw [List.getElem?_eq_getElem (by omega)] at this
          unfold World.cell? at this
          simp only at this
          cases hb' : w.heap[b]? with
          | none => rw [hb'] at this; simp at this
          | some o => exact (Array.getElem?_eq_some_iff.1 hb').1
        · obtain ⟨_, rfl⟩ := hget i x hx
          exact hc _
        · obtain ⟨hi, rfl⟩ := hget i x hx
          have hj : j < sz := by rw [← hc (f i).1]; exact (List.getElem?_eq_some_iff.1 hp).1
          rw [hcells i hi j hj]
          obtain ⟨_, h2, _⟩ := hf i hi
          obtain ⟨_, g1, _⟩ := World.cells?_some h2
          rw [List.getD_eq_getElem?_getD, List.getElem?_eq_getElem (by omega)]
          rfl
        · obtain ⟨hi, rfl⟩ := hget i x hx
          have hj : j < sz := by rw [← hc (f i).1]; exact (List.getElem?_eq_some_iff.1 hp).1
          obtain ⟨_, h2, h3⟩ := hf i hi
          obtain ⟨_, g1, _⟩ := World.cells?_some h2
          exact h3.2 j p _ hp (by rw [List.getD_eq_getElem?_getD, List.getElem?_eq_getElem (by omega)]; rfl)
      rw [hL] at this
      exact this


theorem weightsEach_mem {H : Type} {n : Nat} : ∀ (ts : List TypeId) (ds : List (DataW H)) (i : Nat) (t : TypeId) (d : DataW H), ts[i]? = some t → ds[i]? = some d → n ∈ DataW.weights P t d → n ∈ DataW.weightsEach P ts ds
  | [], _, i, t, d, h, _, _ => by simp at h
  | _ :: _, [], i, t, d, _, h, _ => by simp at h
  | t' :: ts, d' :: ds, i, t, d, h1, h2, hn => by
    rw [DataW.weightsEach, List.mem_append]
    cases i with
    | zero => simp at h1 h2; subst h1; subst h2; exact .inl hn
    | succ i => exact .inr (weightsEach_mem ts ds i t d (by simpa using h1) (by simpa using h2) hn)

/-- A struct's fields, read. -/
theorem struct_parts {H : Type} {eh : TypeId × Value → H} {w : World} {fuel : Nat} {t : TypeId} {fs : Array Field} {cs : List Value} {x : DataW H × List MemPlace} (ht : P.underlying t = some (.struct fs))
    (h : DataW.trod eh P w 0 (fun _ => true) true fuel t cs = some x) (hw : ∀ n ∈ DataW.weights P t x.1, n ≤ reachBytes) :
    cs.length = P.cellsOf t ∧ ∀ (i off : Nat) (e : TypeId), (fs.toList.map fun f => (f.offset, f.type))[i]? = some (off, e) → ∃ n y, DataW.trod eh P w 0 (fun _ => true) true n e ((cs.drop off).take (P.cellsOf e)) = some y ∧ (∀ m ∈ DataW.weights P e y.1, m ≤ reachBytes) := by
  obtain ⟨xs, n, _, rfl, hl, hlen, hf⟩ := DataW.trod_struct ht h
  refine ⟨hl, fun i off e he => ?_⟩
  rw [List.getElem?_map] at he
  cases hfi : fs.toList[i]? with
  | none => rw [hfi] at he; simp at he
  | some f =>
    rw [hfi] at he
    simp only [Option.map_some, Option.some.injEq, Prod.mk.injEq] at he
    obtain ⟨rfl, rfl⟩ := he
    have hfi' : fs[i]? = some f := by simpa using hfi
    have hi : i < xs.length := by rw [hlen]; exact (Array.getElem?_eq_some_iff.1 hfi').1
    have h1 := hf i f hfi'
    rw [List.getElem?_eq_getElem hi] at h1
    refine ⟨n, xs[i], h1, fun m hm => hw m ?_⟩
    rw [DataW.weights, ht]
    exact weightsEach_mem _ _ i f.type xs[i].1 (by rw [List.getElem?_map, hfi]; rfl) (by rw [List.getElem?_map, List.getElem?_eq_getElem hi]; rfl) hm

/-! ### A law -/

/-- Rows of arguments stay as they read. -/
theorem trodAll_stays {H : Type} {eh : TypeId × Value → H} (hl : laidOutB P = true) {W W' : World} (hb : ∀ b, b < W.heap.size → W'.heap[b]? = W.heap[b]?) :
    ∀ (ts : List TypeId) (vs : List Value) (ds : List (DataW H)) (ps : List MemPlace), (∀ t ∈ ts, P.readableRec t = true ∧ t < P.types.size) → DataW.TrodAll eh P W 0 (fun _ => true) true ts vs ds ps →
      DataW.TrodAll eh P W' 0 (fun b => decide (b < W.heap.size)) true ts vs ds ps
  | [], [], [], ps, _, h => h
  | t :: ts, v :: vs, d :: ds, ps, hr, ⟨p, q, h1, h2, h3⟩ => by
    have hlt : ∀ x ∈ p, x.block < W.heap.size := by obtain ⟨m, hm⟩ := h1; exact DataW.trod_lt m _ _ _ hm
    refine ⟨p, q, Go.WideElems.Trod_stays hl (hr t (by simp)).1 (hr t (by simp)).2 h1 (fun x hx => ?_) (fun x hx => by simpa using hlt x hx), trodAll_stays hl hb ts vs ds q (fun t ht => hr t (by simp [ht])) h2, h3⟩
    cases x with
    | cell b o => exact World.cell?_of_block (w := W) (hb b (hlt _ hx))
    | map b => exact hb b (hlt _ hx)
  | [], _ :: _, _, _, _, h => h.elim
  | [], [], _ :: _, _, _, h => h.elim
  | _ :: _, [], _, _, _, h => h.elim
  | _ :: _, _ :: _, [], _, _, h => h.elim

/-- Arguments that can be read are pure values of which a contract holds: what a call does. -/
theorem law_core {C : Checked} {H : Type} {enc : TypeId × Value → H} {f : FuncId} {fn : Func} {s : ChangeSpec} {tb : TypeId}
    (hlaid : laidOutB C.prog = true) (hr : ∀ t ∈ fn.params.toList, C.prog.readableRec t = true ∧ t < C.prog.types.size)
    (hres : fn.resultTypes.toList = [tb]) (hsz : fn.resultTypes.size = 1) (hb : C.prog.underlying tb = some .bool)
    (hvars : s.vars = []) (hpl : s.plain.varTypes C.prog = []) (hs : ∀ ds : List (DataW H), ds.length = fn.params.toList.length → s.fn H ds = { results := [.lit (.bool true)], args := ds })
    (hread : ∀ (W : World) (base : Nat) (args : List Value) (ds : List (DataW H)) (ps : List MemPlace), (∀ (j : Nat) t v, fn.params[j]? = some t → args[j]? = some v → Value.okWide C.prog W .any base t v) → DataW.TrodAll enc C.prog W 0 (fun _ => true) true fn.params.toList args ds ps → (∀ n ∈ DataW.weightsEach C.prog fn.params.toList ds, n ≤ reachBytes) →
      ∃ pvs, RepL (Rep W (fun _ => True)) pvs args ∧ FnSpec C.prog f pvs [] (.bool true) [])
    {W : World} {base : Nat} {args : Array Value} {ds gs : List (DataW H)} {before : List MemPlace} (hg : glob.holds W.heap)
    (hval : ∀ (j : Nat) t v, fn.params[j]? = some t → args[j]? = some v → Value.okWide C.prog W .any base t v) (hW : DataW.Whole enc C.prog fn.params.toList s.vars false W args.toList ds gs before)
    (hsize : (DataW.weightsEach C.prog (fn.params.toList ++ s.plain.varTypes C.prog) (ds ++ gs)).all (· ≤ reachBytes) = true) :
    Calls C.prog f args W fun e W' => ∃ v, e = .returned v ∧ s.post enc C.prog fn false true false false W args v W' := by
  have hW' := hW
  obtain ⟨p, q, hA, hV, rfl, hfz, hnd⟩ := hW
  rw [hvars] at hV
  obtain ⟨rfl, rfl⟩ := Go.ChangeShapes.trodVars_none hV
  have hlen : ds.length = fn.params.toList.length := by
    have : ∀ (ts : List TypeId) (vs : List Value) (ds : List (DataW H)) (ps : List MemPlace), DataW.TrodAll enc C.prog W 0 (fun _ => true) true ts vs ds ps → ds.length = ts.length := by
      intro ts
      induction ts with
      | nil => intro vs ds ps h; cases vs <;> cases ds <;> simp [DataW.TrodAll] at h ⊢
      | cons t ts ih =>
        intro vs ds ps h
        cases vs <;> cases ds <;> simp [DataW.TrodAll] at h ⊢
        obtain ⟨_, _, _, h2, _⟩ := h
        exact ih _ _ _ h2
    exact this _ _ _ _ hA
  rw [hpl, List.append_nil, List.append_nil, List.all_eq_true] at hsize
  obtain ⟨pvs, hrep, hspec⟩ := hread W base args.toList ds p (fun j t v h1 h2 => hval j t v h1 (by simpa using h2)) hA (fun n hn => by simpa using hsize n hn)
  have hargs : RepL (RepT W (okL (fun _ => True) [] (fun _ => none)) [] (fun _ => none)) pvs args.toList :=
    ⟨hrep.1, fun i p v a b => .of_rep ((hrep.2 i p v a b).anyOk fun _ _ _ => ⟨trivial, notLive_nil _ _⟩)⟩
  have hc := hspec.2 W (fun _ => none) args.toList (fun _ => True) ⟨hg, fun _ _ => trivial⟩ (nilObjs _ _ _ _) hargs
  refine Calls.mono hc fun e W' ⟨v, blk', he, _, hv, hheap, hsize', hsm⟩ => ?_
  subst he
  have hv' := hv.bool
  subst hv'
  have hkeep : ∀ b, b < W.heap.size → W'.heap[b]? = W.heap[b]? := fun b hb => hheap b hb (notLive_nil _ _)
  refine ⟨_, rfl, ds, [], p ++ [], [], p, [], hW', ?_, ?_, ?_, ?_, fun h => by cases h⟩
  · rw [List.append_nil, hs ds hlen, hres, hsz]
    exact Go.ChangeShapes.trodAll_mk1 (Go.RowKit.shut_bool hb true)
  · rw [List.append_nil, hs ds hlen]
    exact trodAll_stays hlaid hkeep _ _ _ _ hr hA
  · rw [hvars, List.append_nil, hs ds hlen]; rfl
  · refine ⟨hsm.1, hsm.2, fun i hi => ?_⟩
    rw [hkeep i hi]
    split <;> simp_all

/-- Then the law holds. -/
theorem law_lifted {C : Checked} {os : Os} {H : Type} {enc : TypeId × Value → H} {f : FuncId} {fn : Func} {s : ChangeSpec} {tb : TypeId}
    (own : ownKnob C.prog.godebug = none) (started : os.Started) (noInit : C.prog.inits.idxOf? f = none) (hfn : C.prog.funcs[f]? = some fn)
    (witness : ∃ (w : World) (tape : Tape) (i : Input), w.os = os ∧ (w.forCall tape i).Shaped C.prog ∧ i.vars = [] ∧ Input.okWide C.prog (w.forCall tape i) .any w.heap.size f i ∧
      s.pre6 enc C.prog fn [] false (w.forCall tape i).memory i.args ∧ ({} : Assume).holds C.prog (lone (Frame.enter C.prog f i.args .normal) [] (w.forCall tape i)))
    (hlaid : laidOutB C.prog = true) (hr : ∀ t ∈ fn.params.toList, C.prog.readableRec t = true ∧ t < C.prog.types.size)
    (hres : fn.resultTypes.toList = [tb]) (hsz : fn.resultTypes.size = 1) (hb : C.prog.underlying tb = some .bool)
    (hvars : s.vars = []) (hpl : s.plain.varTypes C.prog = []) (hs : ∀ ds : List (DataW H), ds.length = fn.params.toList.length → s.fn H ds = { results := [.lit (.bool true)], args := ds })
    (hread : ∀ (W : World) (base : Nat) (args : List Value) (ds : List (DataW H)) (ps : List MemPlace), (∀ (j : Nat) t v, fn.params[j]? = some t → args[j]? = some v → Value.okWide C.prog W .any base t v) → DataW.TrodAll enc C.prog W 0 (fun _ => true) true fn.params.toList args ds ps → (∀ n ∈ DataW.weightsEach C.prog fn.params.toList ds, n ≤ reachBytes) →
      ∃ pvs, RepL (Rep W (fun _ => True)) pvs args ∧ FnSpec C.prog f pvs [] (.bool true) [])
    (hg : ∀ W : World, glob.holds W.heap) :
    ReturnsInHanded {} C os f .any (s.pre6 enc C.prog fn [] false) (s.post enc C.prog fn false true false false) := by
  refine returnsInHanded_of_change_sized (C := C) own started noInit hfn witness ?_
  intro W base args ds gs before hval hW _ hsize _
  exact law_core hlaid hr hres hsz hb hvars hpl hs hread (hg W) hval hW hsize

/-- The same where variables are known. -/
theorem law_lifted2 {C : Checked} {os : Os} {H : Type} {enc : TypeId × Value → H} {f : FuncId} {fn : Func} {s : ChangeSpec} {tb : TypeId} {dom : List PathCond} {laid : List (String × DataW Unit)}
    (own : ownKnob C.prog.godebug = none) (started : os.Started) (noInit : C.prog.inits.idxOf? f = none) (hfn : C.prog.funcs[f]? = some fn)
    (witness : ∃ (w : World) (tape : Tape) (i : Input), w.os = os ∧ (w.forCall tape i).Shaped C.prog ∧ i.vars = [] ∧ Input.okWide C.prog (w.forCall tape i) .any w.heap.size f i ∧
      (OpenSpec.ofChange s).preRow enc C.prog fn dom false laid (w.forCall tape i).memory i.args ∧ ({} : Assume).holds C.prog (lone (Frame.enter C.prog f i.args .normal) [] (w.forCall tape i)))
    (hlaid : laidOutB C.prog = true) (hr : ∀ t ∈ fn.params.toList, C.prog.readableRec t = true ∧ t < C.prog.types.size)
    (hres : fn.resultTypes.toList = [tb]) (hsz : fn.resultTypes.size = 1) (hb : C.prog.underlying tb = some .bool)
    (hvars : s.vars = []) (hpl : s.plain.varTypes C.prog = []) (hs : ∀ ds : List (DataW H), ds.length = fn.params.toList.length → s.fn H ds = { results := [.lit (.bool true)], args := ds })
    (hread : ∀ (W : World) (base : Nat) (args : List Value) (ds : List (DataW H)) (ps : List MemPlace), (∀ (j : Nat) t v, fn.params[j]? = some t → args[j]? = some v → Value.okWide C.prog W .any base t v) → DataW.TrodAll enc C.prog W 0 (fun _ => true) true fn.params.toList args ds ps → (∀ n ∈ DataW.weightsEach C.prog fn.params.toList ds, n ≤ reachBytes) →
      ∃ pvs, RepL (Rep W (fun _ => True)) pvs args ∧ FnSpec C.prog f pvs [] (.bool true) [])
    (hg : ∀ W : World, laidMetH C.prog laid W → glob.holds W.heap) :
    ReturnsInHanded {} C os f .any ((OpenSpec.ofChange s).preRow enc C.prog fn dom false laid) (s.post enc C.prog fn false true false false) := by
  refine returnsInHanded_of_row (C := C) (s := OpenSpec.ofChange s) (F := fun _ _ => default) own started noInit hfn witness ?_
  intro W base args ds gs before hval hW _ _ hsize hL _ _
  exact law_core hlaid hr hres hsz hb hvars hpl hs hread (hg W hL) hval hW hsize

end Lp

/-! LpUse -/

namespace Lp
open Go
variable {P : Program} {D : TypeId → TInfo} {T : Know}

/-- What a function knows that is handed n objects of its caller. -/
def Know.use (T : Know) (n : Nat) : Know := { T with nx := n, top := false }

def Euse (n : Nat) : Env := fun _ _ V => ∀ w0, V w0 → w0.nx ≤ n

theorem KOk.use {n : Nat} (h : TabOk P T.fn) (hy : T.Y = fun _ _ _ => False) (hg : ∀ g cap ys, T.gives g cap ys → Gives P g cap ys) : KOk P none (Euse n) (T.use n) :=
  ⟨h, fun _ _ _ _ _ _ _ _ _ _ _ _ _ _ h => by
    have h' : T.Y _ _ _ := h
    rw [hy] at h'
    exact h'.elim, fun _ _ _ hE w0 hw => hE w0 hw, (fun h => by cases h), hg⟩

/-- A function ends: its one result, and the objects it leaves. -/
def retU (t : Nat) (r : PV) (objs' : List Obj) (e : Exit) (S : St) : Prop :=
  (e = .normal ∨ e = .ret) ∧ S.tmps.getD t .dead = r ∧ S.objs = objs'

theorem FnUse.of_body {f : FuncId} {fn : Func} {c : Code} {C : LC} {args : List PV} {r : PV} {objs objs' : List Obj} {t n : Nat} (hD : ∀ t, TOk P t (D t)) (hT : KOk P none (Euse objs.length) T) (hm : P.follows .mixedOrders = true)
    (hf : P.funcs[f]? = some fn) (hname : (fn.name == "runtime.NumGoroutine") = false) (hb : fn.body = some c) (hn : fn.ntmps = n) (hr : fn.results = #[.tmp t]) (hC : strip C = comp c) (hlen : objs'.length = objs.length)
    (h : wpc P D T C (retU t r objs') ⟨(startS args n).tmps, objs⟩) : FnUse P f args objs r objs' := by
  refine ⟨⟨fn, hf, hname, by rw [hb]; rfl⟩, hlen, fun base prot w0 tmps blk a w vs R hargs => ?_⟩
  have hpw : PW P none (Euse objs.length) c (retU t r objs') ⟨(startS args n).tmps, objs⟩ := wpc_sound hD hm C _ _ _ c _ _ hT hC h
  have hpp : ∀ b, prot b → b < w.heap.size ∧ notLive objs blk b := fun b hb => ⟨Nat.lt_of_lt_of_le (R.pr b hb) R.gr, fun k o h1 h2 h3 => R.objs.np k o b h1 h2 h3 hb⟩
  have hz : ∀ x ∈ tmps.zip a.tmps.toList, RepT w (okL base objs blk) objs blk x.1 x.2 := by
    intro x hx
    obtain ⟨i, hi, rfl⟩ := List.mem_iff_getElem.1 hx
    have hi' : i < tmps.length ∧ i < a.tmps.toList.length := by
      rw [List.length_zip] at hi
      omega
    rw [List.getElem_zip]
    have := R.tm i tmps[i] (List.getElem?_eq_getElem hi'.1)
    have e : a.tmps.getD i undef = a.tmps.toList[i] := by
      rw [Array.getD_eq_getD_getElem?, Array.getElem?_eq_getElem (by simpa using hi'.2)]; simp
    rw [e] at this
    exact this
  have R2 : Rel base (fun b => b < w.heap.size ∧ notLive objs blk b) ⟨w.heap, tmps.zip a.tmps.toList ++ w0.xs, objs.length, w⟩ ⟨(startS args n).tmps, objs⟩ blk { tmps := (⟨vs⟩ : Array Value) ++ Array.replicate (n - (⟨vs⟩ : Array Value).size) undef, defers := [] } w := by
    have hl := hargs.1
    have hext : ∀ x ∈ tmps.zip a.tmps.toList ++ w0.xs, RepT w (okL base objs blk) objs blk x.1 x.2 := fun x hx => by
      rcases List.mem_append.1 hx with hx | hx
      · exact hz x hx
      · exact R.ext x hx
    refine ⟨.nil _ _, ?_, fun t p hp => ?_, ⟨R.objs.ob, R.objs.dis, fun k o g h1 h2 h3 hp => hp.2 k o h1 h2 h3⟩, fun b hb => hb.1, fun _ _ => rfl, Nat.le_refl _, fun b hn => ?_, hext, fun x hx => repT_lt (hext x hx), .refl w, ⟨R.globOk, fun b hb => hpp b (R.gl.2 b hb)⟩⟩
    · simp [startS, hl]
    · simp only [startS] at hp
      rw [List.getElem?_append] at hp
      split at hp
      · rename_i ht
        obtain ⟨v, hv⟩ : ∃ v, vs[t]? = some v := ⟨vs[t]'(by omega), List.getElem?_eq_getElem (by omega)⟩
        have hg : ((⟨vs⟩ : Array Value) ++ Array.replicate (n - (⟨vs⟩ : Array Value).size) undef).getD t undef = v := by
          rw [Array.getD_eq_getD_getElem?, Array.getElem?_append, if_pos (by simpa using (by omega : t < vs.length))]
          simp [hv]
        rw [hg]
        exact hargs.2 t p v hp hv
      · rw [List.getElem?_replicate] at hp
        split at hp
        · cases hp; exact .dead _
        · cases hp
    · rcases Nat.lt_or_ge b w.heap.size with h1 | h1
      · refine R.pb b fun hp => hn (hpp b hp)
      · exact R.bs b (Nat.le_trans R.gr h1)
  have hw := hpw base _ (fun x => (⟨w.heap, tmps.zip a.tmps.toList ++ w0.xs, objs.length, w⟩ : Wz) = x) (by rintro z rfl; exact Nat.le_refl _) _ _ _ ⟨_, rfl, R2⟩
  rw [← callsIn_wide (n := 0)]
  refine callsIn_of_wp_marks hf hb trivial ?_
  rw [hn]
  refine wpIn_mono hw ?_
  rintro e a' w' ⟨S', blk', ⟨he, ho, hobj⟩, _, rfl, R'⟩
  have key : ∀ w', Rel base (fun b => b < w.heap.size ∧ notLive objs blk b) ⟨w.heap, tmps.zip a.tmps.toList ++ w0.xs, objs.length, w⟩ S' blk' { a' with defers := [] } w' →
      ∃ v, (results fn a'.tmps).run P w' = .ok v w' ∧ (∃ v' blk', Ending.returned v = .returned v' ∧ Rel base prot w0 ⟨tmps, objs'⟩ blk' a w' ∧ RepT w' (okL base objs' blk') objs' blk' r v') := by
    intro w' R'
    have hx := R'.ev (.tmp t)
    change RepT w' _ _ blk' (S'.tmps.getD t .dead) (a'.tmps.getD t undef) at hx
    rw [ho, hobj] at hx
    refine ⟨_, results_tmp hr _ _ _, _, blk', rfl, ?_, hx⟩
    have hpr : ∀ b, b < w.heap.size ∧ notLive objs blk b → w'.heap[b]? = w.heap[b]? := fun b hb => R'.fr b hb
    obtain ⟨Ds, e1, e2, e3⟩ := R.nodef
    have ob := R'.objs
    have ex := R'.ext
    rw [hobj] at ob ex
    refine ⟨⟨Ds, e1, e2, fun b hb => ?_⟩, R.tsz, fun t p hp => ?_, ⟨ob.ob, ob.dis, fun k o g h1 h2 h3 hp => ob.np k o g h1 h2 h3 (hpp g hp)⟩, R.pr, fun b hb => ?_, Nat.le_trans R.gr R'.gr, R.pb, fun x hx => ex x (List.mem_append_right _ hx), R.exn, R.sm.trans R'.sm, R.gl⟩
    · obtain ⟨h1, h2, h3⟩ := e3 b hb
      have hpb : b < w.heap.size ∧ notLive objs blk b := ⟨(Array.getElem?_eq_some_iff.1 h1).1, h2.2⟩
      exact ⟨by rw [hpr b hpb]; exact h1, ⟨h2.1, fun k o g1 g2 g3 => ob.np k o b g1 g2 g3 hpb⟩, h3⟩
    · refine ex (p, a.tmps.getD t undef) (List.mem_append_left _ ?_)
      have hlt : t < tmps.length := (List.getElem?_eq_some_iff.1 hp).1
      have htz : t < a.tmps.size := by rw [R.tsz]; exact hlt
      refine List.mem_iff_getElem.2 ⟨t, by rw [List.length_zip, Array.length_toList]; exact Nat.lt_min.2 ⟨hlt, htz⟩, ?_⟩
      rw [List.getElem_zip]
      have e : a.tmps.getD t undef = a.tmps.toList[t]'(by simpa using htz) := by
        rw [Array.getD_eq_getD_getElem?, Array.getElem?_eq_getElem htz]; simp
      rw [e, (List.getElem?_eq_some_iff.1 hp).2]
    · rw [hpr b (hpp b hb)]; exact R.fr b hb
  rcases he with rfl | rfl <;> exact leaves_of _ _ R' key

theorem FnOk.use {f : FuncId} {n t : Nat} {C : LC} {args : List PV} {r : PV} {objs objs' : List Obj} (h : FnOk P f n [.tmp t] C) (hD : ∀ t, TOk P t (D t)) (hT : TabOk P T.fn) (hy : T.Y = fun _ _ _ => False)
    (hg : ∀ g cap ys, T.gives g cap ys → Gives P g cap ys) (hm : P.follows .mixedOrders = true) (hlen : objs'.length = objs.length)
    (hw : wpc P D (T.use objs.length) C (retU t r objs') ⟨(startS args n).tmps, objs⟩) : FnUse P f args objs r objs' := by
  obtain ⟨fn, c, h1, h2, h3, h4, h5, h6⟩ := h
  exact FnUse.of_body hD (.use hT hy hg) hm h1 h2 h3 h4 h5 h6 hlen hw

end Lp

/-! LpRes -/

namespace Lp
open Go
variable {P : Program} {D : TypeId → TInfo} {T : Know}

/-- Whatever is like p is like q. -/
def Tells (p q : PV) : Prop := ∀ (w : World) (ok : Nat → Prop) (v : Value), Rep w ok p v → Rep w ok q v

theorem Tells.refl (p : PV) : Tells p p := fun _ _ _ h => h

theorem tells_nil (sz sz' : Nat) : Tells (.sl sz [] (some true)) (.sl sz' [] none) := by
  intro w ok v h
  cases h with
  | slnil _ _ _ => exact .slnil sz' none (by decide)
  | slz _ _ hq => exact absurd rfl hq
  | sl _ _ _ hq => exact absurd rfl hq

theorem Tells.agg {ps qs : List PV} (hl : ps.length = qs.length) (h : ∀ (i : Nat) (p q : PV), ps[i]? = some p → qs[i]? = some q → Tells p q) : Tells (.agg ps) (.agg qs) := by
  intro w ok v hr
  cases hr with
  | agg _ vs hl' hh =>
    refine .agg _ _ (by omega) fun i q u hq hu => ?_
    have hi : i < ps.length := by rw [hl]; exact (List.getElem?_eq_some_iff.1 hq).1
    exact h i _ q (List.getElem?_eq_getElem hi) hq w ok u (hh i _ u (List.getElem?_eq_getElem hi) hu)

theorem Tells.tup {ps qs : List PV} (hl : ps.length = qs.length) (h : ∀ (i : Nat) (p q : PV), ps[i]? = some p → qs[i]? = some q → Tells p q) : Tells (.tup ps) (.tup qs) := by
  intro w ok v hr
  cases hr with
  | tup _ vs hl' hh =>
    refine .tup _ _ (by omega) fun i q u hq hu => ?_
    have hi : i < ps.length := by rw [hl]; exact (List.getElem?_eq_some_iff.1 hq).1
    exact h i _ q (List.getElem?_eq_getElem hi) hq w ok u (hh i _ u (List.getElem?_eq_getElem hi) hu)

theorem tells2 {f : List PV → PV} (hf : f = PV.agg ∨ f = PV.tup) {a b c d : PV} (h1 : Tells a c) (h2 : Tells b d) : Tells (f [a, b]) (f [c, d]) := by
  have key : ∀ (i : Nat) (p q : PV), [a, b][i]? = some p → [c, d][i]? = some q → Tells p q := by
    intro i p q hp hq
    match i with
    | 0 => cases hp; cases hq; exact h1
    | 1 => cases hp; cases hq; exact h2
    | _ + 2 => simp at hp
  rcases hf with rfl | rfl
  · exact .agg rfl key
  · exact .tup rfl key

theorem FnSpec.res {f : FuncId} {args : List PV} {objs : List Obj} {r r' : PV} (h : FnSpec P f args objs r []) (ht : Tells r r') : FnSpec P f args objs r' [] := by
  refine ⟨h.1, fun w blk vs base hb R ha => (h.2 w blk vs base hb R ha).mono ?_⟩
  rintro e w' ⟨v, blk', h1, h2, h3, h4⟩
  exact ⟨v, blk', h1, h2, .of_rep (ht _ _ _ (repT_nil h3)), h4⟩

theorem FnSpec.arg {f : FuncId} {args args' : List PV} {r : PV} {objs' : List Obj} (h : FnSpec P f args [] r objs') (hl : args'.length = args.length) (ht : ∀ (i : Nat) (p q : PV), args'[i]? = some p → args[i]? = some q → Tells p q) : FnSpec P f args' [] r objs' := by
  refine ⟨h.1, fun w blk vs base hb R ha => h.2 w blk vs base hb R ⟨by rw [← hl]; exact ha.1, fun i q v hq hv => ?_⟩⟩
  have hi : i < args'.length := by rw [hl]; exact (List.getElem?_eq_some_iff.1 hq).1
  exact .of_rep (ht i _ q (List.getElem?_eq_getElem hi) hq _ _ _ (repT_nil (ha.2 i _ v (List.getElem?_eq_getElem hi) hv)))

/-- A slice, the first argument, is nil, or not. -/
theorem FnSpec.nil0 {f : FuncId} {sz : Nat} {xs : List PV} {rest : List PV} {r : PV} {objs' : List Obj} (h1 : FnSpec P f (.sl sz xs (some false) :: rest) [] r objs') (h2 : xs = [] → FnSpec P f (.sl sz [] (some true) :: rest) [] r objs') :
    FnSpec P f (.sl sz xs none :: rest) [] r objs' := by
  refine ⟨h1.1, fun w blk vs base hb R ha => ?_⟩
  obtain ⟨hl, hh⟩ := ha
  match vs, hl with
  | v :: vs, hl =>
    have hr := repT_nil (hh 0 _ v rfl rfl)
    have fin : ∀ p, Rep w (okL base [] blk) p v → RepL (RepT w (okL base [] blk) [] blk) (p :: rest) (v :: vs) := by
      intro p hp
      refine ⟨by simpa using hl, fun i q u hq hu => ?_⟩
      match i with
      | 0 => cases hq; cases hu; exact .of_rep hp
      | i + 1 => exact hh (i + 1) q u hq hu
    cases hr with
    | slnil _ _ hq => exact (h2 rfl).2 w blk _ base hb R (fin _ (.slnil sz (some true) (by decide)))
    | slz _ _ hq a cap hc => exact h1.2 w blk _ base hb R (fin _ (.slz sz (some false) (by decide) a cap hc))
    | sl _ _ _ hq b off cap us hok hlen hcap hsz hcell hrep => exact h1.2 w blk _ base hb R (fin _ (.sl sz xs (some false) (by decide) b off cap us hok hlen hcap hsz hcell hrep))

/-- As FnOk.pureG, for results of which the first lies in a variable. -/
theorem FnOk.pureC {f : FuncId} {n t : Nat} {ty : TypeId} {C : LC} {args : List PV} {r : PV} (h : FnOk P f n [.cell t ty] C) (d : Nat) (hD : ∀ t, TOk P t (D t)) (hT : KOk P none Etop T) (hm : P.follows .mixedOrders = true) (ht : t < n)
    (hw : ∀ Q : Exit → St → Prop, (∀ l ob, Q .ret ⟨tmA n l, ob⟩ = loadR (D ty) (lkA l t) ob fun p _ _ => r = frzT d 0 ob p) → wpc P D T C Q (startS args n)) : FnSpec P f args [] r [] := by
  refine h.pure d hD hT hm (by simp) (hw _ fun l ob => ?_)
  simp only [retR, outL, taR2.2.1 n l t ht, List.map_cons, List.map_nil, onePV]

theorem FnOk.pureC2 {f : FuncId} {n t u : Nat} {ty : TypeId} {C : LC} {args : List PV} {r : PV} (h : FnOk P f n [.cell t ty, .tmp u] C) (d : Nat) (hD : ∀ t, TOk P t (D t)) (hT : KOk P none Etop T) (hm : P.follows .mixedOrders = true) (ht : t < n) (hu : u < n)
    (hw : ∀ Q : Exit → St → Prop, (∀ l ob, Q .ret ⟨tmA n l, ob⟩ = loadR (D ty) (lkA l t) ob fun p _ _ => r = .tup [frzT d 0 ob p, frzT d 0 ob (lkA l u)]) → wpc P D T C Q (startS args n)) : FnSpec P f args [] r [] := by
  refine h.pure d hD hT hm (by simp) (hw _ fun l ob => ?_)
  simp only [retR, outL, taR2.2.1 n l t ht, taR2.2.1 n l u hu, List.map_cons, List.map_nil, onePV]

theorem FnOk.pureC3 {f : FuncId} {n t u x : Nat} {ty : TypeId} {C : LC} {args : List PV} {r : PV} (h : FnOk P f n [.cell t ty, .tmp u, .tmp x] C) (d : Nat) (hD : ∀ t, TOk P t (D t)) (hT : KOk P none Etop T) (hm : P.follows .mixedOrders = true) (ht : t < n) (hu : u < n) (hx : x < n)
    (hw : ∀ Q : Exit → St → Prop, (∀ l ob, Q .ret ⟨tmA n l, ob⟩ = loadR (D ty) (lkA l t) ob fun p _ _ => r = .tup [frzT d 0 ob p, frzT d 0 ob (lkA l u), frzT d 0 ob (lkA l x)]) → wpc P D T C Q (startS args n)) : FnSpec P f args [] r [] := by
  refine h.pure d hD hT hm (by simp) (hw _ fun l ob => ?_)
  simp only [retR, outL, taR2.2.1 n l t ht, taR2.2.1 n l u hu, taR2.2.1 n l x hx, List.map_cons, List.map_nil, onePV]

/-- How a function ends that hands back a slice of its own, out of simp's sight. -/
structure EndM (d t : Nat) (o' : Obj) (S : St) : Prop where
  h : retM d t o' .ret S

theorem endM {d t n : Nat} {o' : Obj} {l : List (Nat × PV)} {ob : List Obj} {k ver : Nat} {o : Obj} (h1 : (tmA n l).getD t .dead = .osl k ver) (h2 : ob[k]? = some o) (h3 : o.live = true) (h4 : o.ver = ver) (h5 : { frzO d (k + 1) ob o with ver := 0 } = o') (h6 : NoRefs [o']) : EndM d t o' ⟨tmA n l, ob⟩ :=
  ⟨.inr rfl, _, k, ver, o, Weak.refl _ _, h1, h2, h3, h4, h5, h6⟩

theorem FnOk.madeG {f : FuncId} {n t : Nat} {C : LC} {args : List PV} {o' : Obj} (h : FnOk P f n [.tmp t] C) (d : Nat) (hD : ∀ t, TOk P t (D t)) (hT : KOk P none Etop T) (hm : P.follows .mixedOrders = true)
    (hw : ∀ Q : Exit → St → Prop, (∀ l ob, Q .ret ⟨tmA n l, ob⟩ = EndM d t o' ⟨tmA n l, ob⟩) → wpc P D T C Q (startS args n)) : FnSpec P f args [] (.osl 0 0) [o'] :=
  h.made d hD hT hm (hw _ fun l ob => propext ⟨fun h => ⟨h⟩, fun h => h.h⟩)

theorem FnOk.useG {f : FuncId} {n t : Nat} {C : LC} {args : List PV} {r : PV} {objs objs' : List Obj} (h : FnOk P f n [.tmp t] C) (hD : ∀ t, TOk P t (D t)) (hT : TabOk P T.fn) (hy : T.Y = fun _ _ _ => False)
    (hg : ∀ g cap ys, T.gives g cap ys → Gives P g cap ys) (hm : P.follows .mixedOrders = true) (hlen : objs'.length = objs.length) (ht : t < n)
    (hw : ∀ Q : Exit → St → Prop, (∀ l ob, Q .ret ⟨tmA n l, ob⟩ = (lkA l t = r ∧ ob = objs')) → wpc P D (T.use objs.length) C Q ⟨(startS args n).tmps, objs⟩) : FnUse P f args objs r objs' := by
  refine h.use hD hT hy hg hm hlen (hw _ fun l ob => ?_)
  simp only [retU, taR2.2.1 n l t ht]
  simp

/-- A table of contracts, as what a function knows that is handed n objects of its caller. -/
theorem knU (l : List (FuncId × Ctr)) (n : Nat) : (((tabL P l).use n).noY = (tabL P l).use n) ∧ (((tabL P l).use n).fn = tabF l) ∧ (((tabL P l).use n).nx = n) := ⟨rfl, rfl, rfl⟩

@[congr] theorem convO_congr {s t : TypeId} {x x' : PV} {objs objs' : List Obj} {K : KT} (h : x = x') (ho : objs = objs') : convO D s t x objs K = convO D s t x' objs' K := by rw [h, ho]
@[congr] theorem nilCheckR_congr' {x x' : PV} {objs objs' : List Obj} {K : KT} (h : x = x') (ho : objs = objs') : nilCheckR x objs K = nilCheckR x' objs' K := by rw [h, ho]

end Lp

/-! LpD6 -/

namespace Lp
open Go Go.Proofs

set_option maxHeartbeats 4000000
set_option maxRecDepth 20000
set_option linter.unusedSimpArgs false

theorem map_frz_of {α : Type} {f : PV → PV} (enc : α → PV) (h : ∀ x, (enc x).mapCells f = enc x) (l : List α) : (l.map enc).map (PV.mapCells f) = l.map enc := by
  rw [List.map_map]
  exact List.map_congr_left fun x _ => h x

def objR (names : List (List UInt8)) (l : List Vl) : PV := if namesOk names l.length then .tup [encV (objVal names l), .int .i64 0] else .tup [.sl 0 [] (some true), .int .i64 4]

def selO (q : Prs) (done : List Bool) (v1 v2 : Nat) : List Obj := [⟨t_string, 1, (q.map (·.1)).map .str, true, v1⟩, ⟨t_api_Val, 1, (q.map (·.2)).map encV, true, v2⟩, ⟨t_bool, 1, done.map .bool, true, 1⟩]

theorem refObject_spec (names : List (List UInt8)) (l : List Vl) (hn : names.length ≤ 1000000) (hl : l.length ≤ 1000000) (hb : l.flatten.length ≤ 1000000) (hne : ∀ v ∈ l, v ≠ []) (htx : ∀ s ∈ names, s.length ≤ 4611686018427387904) : FnSpec Tryd.prog f_louperef02_Object [encT names, encL l] [] (objR names l) [] := by
  refine k_louperef02_Object.pureG2 (T := tabL Tryd.prog [(f_louperef02_Utf, ctrUtf), (f_louperef02_named, ctrNamed)]) 1 hD (kOk_tabL (tabOk_cons ctrUtf_ok (tabOk_cons ctrNamed_ok tabOk_nil))) hmix (by decide) (by decide) fun Q hQ => ?_
  try simp only [F_all]
  by_cases hp : names.length = l.length
  rotate_left 1
  · have hl' : ((names.length : Int) = (l.length : Int)) = False := eq_false (by omega)
    have hr : objR names l = .tup [.sl 0 [] (some true), .int .i64 4] := by
      have : namesOk names l.length = false := by simp [namesOk, hp]
      simp [objR, this]
    simp (maxSteps := 400000) only [↓preZ, postZ, coreZ, ↓preU, postU, D_all, F_all, unR, outL, onePV, binS, ↓binS, boundR, ↓boundR, fieldOf, ↓fieldOf, boxR, allocR, newObj, zeroElem, buildSliceR, appendR, setAll, storeR, St.freeze, makeSliceR, minmaxR, makeFuncR, BEq.rfl, reduceIte, reduceCtorEq, Nat.reduceLT, Nat.reduceAdd, Nat.reduceSub, Nat.reduceMul, Nat.reduceBEq, Nat.reduceLeDiff, Int.reduceToNat, Int.reduceLE, hQ, c_louperef02_Object, hl', hr]
  have hl' : ((names.length : Int) = (l.length : Int)) = True := eq_true (by omega)
  simp (maxSteps := 400000) only [↓preZ, postZ, coreZ, ↓preU, postU, D_all, F_all, unR, outL, onePV, binS, ↓binS, boundR, ↓boundR, fieldOf, ↓fieldOf, boxR, allocR, newObj, zeroElem, buildSliceR, appendR, setAll, storeR, St.freeze, makeSliceR, minmaxR, makeFuncR, BEq.rfl, reduceIte, reduceCtorEq, Nat.reduceLT, Nat.reduceAdd, Nat.reduceSub, Nat.reduceMul, Nat.reduceBEq, Nat.reduceLeDiff, Int.reduceToNat, Int.reduceLE, hQ, c_louperef02_Object, hl']
  refine ⟨by omega, by omega, by omega, by omega, ?_⟩
  refine wpc_loop (fun m S => ∃ (q : Prs) (done : List Bool) (v1 v2 : Nat), Sel names l q done m ∧ S = ⟨tmA 97 [(0, encT names), (1, encL l), (6, .osl 0 v1), (7, .osl 1 v2), (8, .osl 2 1)], selO q done v1 v2⟩) names.length ⟨[], List.replicate names.length false, 1, 1, Sel.init names l hp, ?_⟩ ?_
  · simp only [normR, keepR, Nat.reduceAdd, lkR, Nat.reduceBEq, F_all, List.map_nil]
    simp only [selO, List.map_nil, List.map_replicate]
  rintro m S ⟨q, done, v1, v2, hS, rfl⟩
  have hcnt := hS.cnt
  have hdl := hS.len
  cases m with
  | zero =>
    have hlt : ((q.length : Int) < (names.length : Int)) = False := eq_false (by omega)
    obtain ⟨hok, hq⟩ := hS.end
    unfold selO
    simp (maxSteps := 400000) only [↓preZ, postZ, coreZ, ↓preU, postU, D_all, F_all, unR, outL, onePV, binS, ↓binS, boundR, ↓boundR, fieldOf, ↓fieldOf, boxR, allocR, newObj, zeroElem, buildSliceR, appendR, setAll, storeR, St.freeze, makeSliceR, minmaxR, makeFuncR, BEq.rfl, reduceIte, reduceCtorEq, Nat.reduceLT, Nat.reduceAdd, Nat.reduceSub, Nat.reduceMul, Nat.reduceBEq, Nat.reduceLeDiff, Int.reduceToNat, Int.reduceLE, hQ, hlt]
    refine wpc_weak _ (Weak.freeze 1 0 (Nat.zero_le _) _) ?_
    have hpl : (q.map (·.1)).length = (q.map (·.2)).length := by simp
    have hql : q.length = l.length := by omega
    have f1 : ∀ x y z : Obj, frz 1 0 [⟨t_string, 1, List.map PV.str (q.map (·.1)), true, v1⟩, y, z] (.osl 0 v1) = encT (q.map (·.1)) := fun x y z => by
      simp only [frz, Nat.not_lt_zero, if_false, frzI, List.getElem?_cons_zero, Nat.le_refl, decide_true, Bool.true_and, beq_self_eq_true, if_true]
      rw [map_frz_of PV.str fun _ => rfl]; rfl
    have f2 : ∀ x z : Obj, frz 1 0 [x, ⟨t_api_Val, 1, List.map encV (q.map (·.2)), true, v2⟩, z] (.osl 1 v2) = encL (q.map (·.2)) := fun x z => by
      simp only [frz, Nat.not_lt_zero, if_false, frzI, List.getElem?_cons_succ, List.getElem?_cons_zero, Nat.zero_le, decide_true, Bool.true_and, beq_self_eq_true, if_true]
      rw [map_frz_of encV fun _ => rfl]; rfl
    have hr : objR names l = .tup [encV (layV (q.map (·.1)) (q.map (·.2))), .int .i64 0] := by
      rw [layV_mkO, hq]; simp [objR, objVal, hok]
    simp (maxSteps := 400000) only [↓preZ, postZ, coreZ, ↓preU, postU, D_all, F_all, unR, outL, onePV, binS, ↓binS, boundR, ↓boundR, fieldOf, ↓fieldOf, boxR, allocR, newObj, zeroElem, buildSliceR, appendR, setAll, storeR, St.freeze, makeSliceR, minmaxR, makeFuncR, BEq.rfl, reduceIte, reduceCtorEq, Nat.reduceLT, Nat.reduceAdd, Nat.reduceSub, Nat.reduceMul, Nat.reduceBEq, Nat.reduceLeDiff, Int.reduceToNat, Int.reduceLE, hQ, ↓ctrNamed, f1, f2]
    have hq2 : (q.map (·.2)).flatten.length ≤ 1000000 := by rw [hq, srtP_flat hp]; exact hb
    refine ⟨by omega, hq2, fun v hv => hne v ?_, hr⟩
    obtain ⟨x, hx, rfl⟩ := List.mem_map.1 hv
    obtain ⟨i, _, _, h3⟩ := (hS.mem x).1 hx
    exact List.mem_of_getElem? h3
  | succ m =>
  have hlt : ((q.length : Int) < (names.length : Int)) = True := eq_true (by omega)
  unfold selO
  simp (maxSteps := 400000) only [↓preZ, postZ, coreZ, ↓preU, postU, D_all, F_all, unR, outL, onePV, binS, ↓binS, boundR, ↓boundR, fieldOf, ↓fieldOf, boxR, allocR, newObj, zeroElem, buildSliceR, appendR, setAll, storeR, St.freeze, makeSliceR, minmaxR, makeFuncR, BEq.rfl, reduceIte, reduceCtorEq, Nat.reduceLT, Nat.reduceAdd, Nat.reduceSub, Nat.reduceMul, Nat.reduceBEq, Nat.reduceLeDiff, Int.reduceToNat, Int.reduceLE, hQ, hlt]
  refine wpc_loop (fun m' S => ∃ (j : Nat) (best : Int), j + m' = names.length ∧ ((best = -1 ∧ ∀ i, i < j → done[i]? = some true) ∨ ∃ (b : Nat) (nm : List UInt8), best = b ∧ done[b]? = some false ∧ names[b]? = some nm ∧ b < j ∧ ∀ (i : Nat) (nm' : List UInt8), i < j → done[i]? = some false → names[i]? = some nm' → Op.bytesLess nm' nm = false) ∧
    S = ⟨tmA 97 [(0, encT names), (1, encL l), (6, .osl 0 v1), (7, .osl 1 v2), (8, .osl 2 1), (9, .int .i64 best), (10, .int .i64 j)], selO q done v1 v2⟩) names.length ⟨0, -1, by omega, .inl ⟨rfl, fun i h => absurd h (Nat.not_lt_zero i)⟩, ?_⟩ ?_
  · simp only [normR, keepR, Nat.reduceAdd, lkR, Nat.reduceBEq, F_all, List.map_nil]
    rfl
  rintro m' S ⟨j, best, hjm, hbest, rfl⟩
  unfold selO
  rcases Nat.lt_or_ge j names.length with h | h
  · have hlt : ((j : Int) < (names.length : Int)) = True := eq_true (by omega)
    have zj : (0 ≤ (j : Int)) = True := eq_true (by omega)
    have hgj := List.getElem?_eq_getElem h
    have hdj : done[j]? = some (done[j]'(by omega)) := List.getElem?_eq_getElem (by omega)
    generalize names[j] = nj at hgj
    generalize done[j]'(by omega) = dj at hdj
    cases dj with
    | true =>
      simp (maxSteps := 400000) only [↓preZ, postZ, coreZ, ↓preU, postU, D_all, F_all, unR, outL, onePV, binS, ↓binS, boundR, ↓boundR, fieldOf, ↓fieldOf, boxR, allocR, newObj, zeroElem, buildSliceR, appendR, setAll, storeR, St.freeze, makeSliceR, minmaxR, makeFuncR, BEq.rfl, reduceIte, reduceCtorEq, Nat.reduceLT, Nat.reduceAdd, Nat.reduceSub, Nat.reduceMul, Nat.reduceBEq, Nat.reduceLeDiff, Int.reduceToNat, Int.reduceLE, hQ, hlt, zj, hgj, hdj]
      refine ⟨by omega, ⟨by omega, by omega⟩, m' - 1, by omega, j + 1, best, by omega, ?_, ?_⟩
      · rcases hbest with ⟨rfl, hh⟩ | ⟨b, nm, rfl, h1, h2, h3, h4⟩
        · refine .inl ⟨rfl, fun i hi => ?_⟩
          rcases Nat.lt_or_ge i j with g | g
          · exact hh i g
          · have : i = j := by omega
            subst this; exact hdj
        · refine .inr ⟨b, nm, rfl, h1, h2, by omega, fun i nm' hi hd hnn => ?_⟩
          rcases Nat.lt_or_ge i j with g | g
          · exact h4 i nm' g hd hnn
          · have : i = j := by omega
            subst this; rw [hdj] at hd; cases hd
      · rfl
    | false =>
      rcases hbest with ⟨rfl, hh⟩ | ⟨b, nm, rfl, h1, h2, h3, h4⟩
      · have hm1 : ((-1 : Int) < 0) = True := eq_true (by omega)
        simp (maxSteps := 400000) only [↓preZ, postZ, coreZ, ↓preU, postU, D_all, F_all, unR, outL, onePV, binS, ↓binS, boundR, ↓boundR, fieldOf, ↓fieldOf, boxR, allocR, newObj, zeroElem, buildSliceR, appendR, setAll, storeR, St.freeze, makeSliceR, minmaxR, makeFuncR, BEq.rfl, reduceIte, reduceCtorEq, Nat.reduceLT, Nat.reduceAdd, Nat.reduceSub, Nat.reduceMul, Nat.reduceBEq, Nat.reduceLeDiff, Int.reduceToNat, Int.reduceLE, hQ, hlt, zj, hgj, hdj, hm1]
        refine ⟨by omega, ⟨by omega, by omega⟩, m' - 1, by omega, j + 1, j, by omega, .inr ⟨j, nj, rfl, hdj, hgj, by omega, fun i nm' hi hd hnn => ?_⟩, ?_⟩
        · rcases Nat.lt_or_ge i j with g | g
          · have := hh i g; rw [this] at hd; cases hd
          · have : i = j := by omega
            subst this; rw [hgj] at hnn; cases hnn; exact bl_irrefl _
        · rfl
      · have hm1 : ((b : Int) < 0) = False := eq_false (by omega)
        have zb : (0 ≤ (b : Int)) = True := eq_true (by omega)
        cases hc : Op.bytesLess nj nm
        · simp (maxSteps := 400000) only [↓preZ, postZ, coreZ, ↓preU, postU, D_all, F_all, unR, outL, onePV, binS, ↓binS, boundR, ↓boundR, fieldOf, ↓fieldOf, boxR, allocR, newObj, zeroElem, buildSliceR, appendR, setAll, storeR, St.freeze, makeSliceR, minmaxR, makeFuncR, BEq.rfl, reduceIte, reduceCtorEq, Nat.reduceLT, Nat.reduceAdd, Nat.reduceSub, Nat.reduceMul, Nat.reduceBEq, Nat.reduceLeDiff, Int.reduceToNat, Int.reduceLE, hQ, hlt, zj, hgj, hdj, hm1, zb, h2, hc]
          refine ⟨by omega, ⟨by omega, by omega⟩, m' - 1, by omega, j + 1, b, by omega, .inr ⟨b, nm, rfl, h1, h2, by omega, fun i nm' hi hd hnn => ?_⟩, ?_⟩
          · rcases Nat.lt_or_ge i j with g | g
            · exact h4 i nm' g hd hnn
            · have : i = j := by omega
              subst this; rw [hgj] at hnn; cases hnn; exact hc
          · rfl
        · simp (maxSteps := 400000) only [↓preZ, postZ, coreZ, ↓preU, postU, D_all, F_all, unR, outL, onePV, binS, ↓binS, boundR, ↓boundR, fieldOf, ↓fieldOf, boxR, allocR, newObj, zeroElem, buildSliceR, appendR, setAll, storeR, St.freeze, makeSliceR, minmaxR, makeFuncR, BEq.rfl, reduceIte, reduceCtorEq, Nat.reduceLT, Nat.reduceAdd, Nat.reduceSub, Nat.reduceMul, Nat.reduceBEq, Nat.reduceLeDiff, Int.reduceToNat, Int.reduceLE, hQ, hlt, zj, hgj, hdj, hm1, zb, h2, hc]
          refine ⟨by omega, ⟨by omega, by omega⟩, m' - 1, by omega, j + 1, j, by omega, .inr ⟨j, nj, rfl, hdj, hgj, by omega, fun i nm' hi hd hnn => ?_⟩, ?_⟩
          · rcases Nat.lt_or_ge i j with g | g
            · have := h4 i nm' g hd hnn
              cases hx : Op.bytesLess nm' nj with
              | false => rfl
              | true => rw [bl_trans _ _ _ hx hc] at this; cases this
            · have : i = j := by omega
              subst this; rw [hgj] at hnn; cases hnn; exact bl_irrefl _
          · rfl
  have hltj : ((j : Int) < (names.length : Int)) = False := eq_false (by omega)
  obtain ⟨b, nm, rfl, hbd, hbn, hbj, hmin⟩ : ∃ (b : Nat) (nm : List UInt8), best = b ∧ done[b]? = some false ∧ names[b]? = some nm ∧ b < j ∧ ∀ (i : Nat) (nm' : List UInt8), done[i]? = some false → names[i]? = some nm' → Op.bytesLess nm' nm = false := by
    rcases hbest with ⟨rfl, hh⟩ | ⟨b, nm, rfl, h1, h2, h3, h4⟩
    · obtain ⟨i, hi⟩ := hS.some
      have := hh i (by have := (List.getElem?_eq_some_iff.1 hi).1; omega)
      rw [this] at hi; cases hi
    · exact ⟨b, nm, rfl, h1, h2, h3, fun i nm' hd hnn => h4 i nm' (by have := (List.getElem?_eq_some_iff.1 hnn).1; omega) hd hnn⟩
  have zb : (0 ≤ (b : Int)) = True := eq_true (by omega)
  have hnl : nm.length ≤ 4611686018427387904 := htx nm (List.mem_of_getElem? hbn)
  cases hu : utf nm
  · have hr : objR names l = .tup [.sl 0 [] (some true), .int .i64 4] := by simp [objR, not_utf hbn hu]
    simp (maxSteps := 400000) only [↓preZ, postZ, coreZ, ↓preU, postU, D_all, F_all, unR, outL, onePV, binS, ↓binS, boundR, ↓boundR, fieldOf, ↓fieldOf, boxR, allocR, newObj, zeroElem, buildSliceR, appendR, setAll, storeR, St.freeze, makeSliceR, minmaxR, makeFuncR, BEq.rfl, reduceIte, reduceCtorEq, Nat.reduceLT, Nat.reduceAdd, Nat.reduceSub, Nat.reduceMul, Nat.reduceBEq, Nat.reduceLeDiff, Int.reduceToNat, Int.reduceLE, hQ, hltj, zb, hbn, ↓ctrUtf, hu, hr]
    exact hnl
  have hgv : l[b]? = some (l[b]'(by have := (List.getElem?_eq_some_iff.1 hbn).1; omega)) := List.getElem?_eq_getElem _
  generalize l[b]'(by have := (List.getElem?_eq_some_iff.1 hbn).1; omega) = v at hgv
  have hql : (List.map (fun x : List UInt8 × Vl => PV.str x.1) q).length = q.length := List.length_map ..
  rcases List.eq_nil_or_concat q with rfl | ⟨q', z, hqz⟩
  · have hs := hS.step hbd hbn hgv hmin hu (fun x hx => by simp at hx)
    have h00 : ((0 : Int) < ((0 : Nat) : Int)) = False := eq_false (by omega)
    simp (maxSteps := 400000) only [↓preZ, postZ, coreZ, ↓preU, postU, D_all, F_all, unR, outL, onePV, binS, ↓binS, boundR, ↓boundR, fieldOf, ↓fieldOf, boxR, allocR, newObj, zeroElem, buildSliceR, appendR, setAll, storeR, St.freeze, makeSliceR, minmaxR, makeFuncR, BEq.rfl, reduceIte, reduceCtorEq, Nat.reduceLT, Nat.reduceAdd, Nat.reduceSub, Nat.reduceMul, Nat.reduceBEq, Nat.reduceLeDiff, Int.reduceToNat, Int.reduceLE, hQ, hltj, zb, hbn, ↓ctrUtf, hu, hgv, h00, hbd]
    refine ⟨hnl, by omega, m, by omega, [(nm, v)], done.set b true, v1 + 1, v2 + 1, hs, ?_⟩
    simp [selO, PV.putCells, PV.cells]
  · have hgz : q[q.length - 1]? = some z := by rw [hqz]; simp
    have hzq : z ∈ q := List.mem_of_getElem? hgz
    have hq1 : 0 < q.length := List.length_pos_of_mem hzq
    have h0q : ((0 : Int) < (q.length : Int)) = True := eq_true (by omega)
    have t1 : ((q.length : Int) - 1).toNat = q.length - 1 := by omega
    have z1 : (0 ≤ (q.length : Int) - 1) = True := eq_true (by omega)
    by_cases he : z.1 = nm
    · have he' : (z.1 = nm) = True := eq_true he
      have hr : objR names l = .tup [.sl 0 [] (some true), .int .i64 4] := by simp [objR, hS.twice hbd hbn hzq he]
      simp (maxSteps := 400000) only [↓preZ, postZ, coreZ, ↓preU, postU, D_all, F_all, unR, outL, onePV, binS, ↓binS, boundR, ↓boundR, fieldOf, ↓fieldOf, boxR, allocR, newObj, zeroElem, buildSliceR, appendR, setAll, storeR, St.freeze, makeSliceR, minmaxR, makeFuncR, BEq.rfl, reduceIte, reduceCtorEq, Nat.reduceLT, Nat.reduceAdd, Nat.reduceSub, Nat.reduceMul, Nat.reduceBEq, Nat.reduceLeDiff, Int.reduceToNat, Int.reduceLE, hQ, hltj, zb, hbn, ↓ctrUtf, hu, h0q, t1, z1, hgz, he', hr]
      exact ⟨hnl, ⟨by omega, by omega⟩, by omega⟩
    · have he' : (z.1 = nm) = False := eq_false he
      have hs := hS.step hbd hbn hgv hmin hu (fun x hx => by rw [hqz] at hx; simp at hx; rw [← hx]; exact he)
      simp (maxSteps := 400000) only [↓preZ, postZ, coreZ, ↓preU, postU, D_all, F_all, unR, outL, onePV, binS, ↓binS, boundR, ↓boundR, fieldOf, ↓fieldOf, boxR, allocR, newObj, zeroElem, buildSliceR, appendR, setAll, storeR, St.freeze, makeSliceR, minmaxR, makeFuncR, BEq.rfl, reduceIte, reduceCtorEq, Nat.reduceLT, Nat.reduceAdd, Nat.reduceSub, Nat.reduceMul, Nat.reduceBEq, Nat.reduceLeDiff, Int.reduceToNat, Int.reduceLE, hQ, hltj, zb, hbn, ↓ctrUtf, hu, h0q, t1, z1, hgz, he', hgv, hbd]
      refine ⟨hnl, ⟨by omega, by omega⟩, by omega, by omega, by omega, by omega, by omega, by omega, m, by omega, q ++ [(nm, v)], done.set b true, v1 + 1, v2 + 1, hs, ?_⟩
      simp [selO, PV.putCells, PV.cells, List.map_set]

theorem objR_tells (names : List (List UInt8)) (l : List Vl) : Tells (objR names l) (.tup [encV (objVal names l), .int .i64 (objErr names l)]) := by
  unfold objR objVal objErr
  split
  · exact .refl _
  · exact tells2 (.inr rfl) (tells_nil 0 6) (.refl _)

theorem refObject_spec' (names : List (List UInt8)) (l : List Vl) (hn : names.length ≤ 1000000) (hl : l.length ≤ 1000000) (hb : l.flatten.length ≤ 1000000) (hne : ∀ v ∈ l, v ≠ []) (htx : ∀ s ∈ names, s.length ≤ 4611686018427387904) :
    FnSpec Tryd.prog f_louperef02_Object [encT names, encL l] [] (.tup [encV (objVal names l), .int .i64 (objErr names l)]) [] :=
  (refObject_spec names l hn hl hb hne htx).res (objR_tells names l)

def ctrRefObject : Ctr := fun args objs K => match args with
  | [a0, a1] => ofE encT a0 (HK.mk : HK fun names => ofE encL a1 (HK.mk : HK fun l => (names.length ≤ 1000000) ∧ (l.length ≤ 1000000) ∧ (l.flatten.length ≤ 1000000) ∧ (∀ v ∈ l, v ≠ []) ∧ (∀ s ∈ names, s.length ≤ 4611686018427387904) ∧ K (.tup [encV (objVal names l), .int .i64 (objErr names l)]) objs 0))
  | _ => False
theorem ctrRefObject_ok : CtrOk Tryd.prog f_louperef02_Object (ctrRefObject) := by
  intro args objs K h
  unfold ctrRefObject at h
  split at h
  · rename_i a0 a1
    obtain ⟨names, rfl, l, rfl, h1, h2, h3, h4, h5, hk⟩ := h
    exact ⟨_, _, _, .pure _ rfl (refObject_spec' names l h1 h2 h3 h4 h5), hk⟩
  · exact h.elim
end Lp

/-! LpD9 -/

namespace Lp
open Go Go.Proofs

set_option maxHeartbeats 4000000
set_option maxRecDepth 20000
set_option linter.unusedSimpArgs false

/-- As FnOk.pureG, for two results that lie in variables. -/
theorem FnOk.pureCC {P : Program} {D : TypeId → TInfo} {T : Know} {f : FuncId} {n t u : Nat} {ty uy : TypeId} {C : LC} {args : List PV} {r : PV} (h : FnOk P f n [.cell t ty, .cell u uy] C) (d : Nat) (hD : ∀ t, TOk P t (D t)) (hT : KOk P none Etop T) (hm : P.follows .mixedOrders = true) (ht : t < n) (hu : u < n)
    (hw : ∀ Q : Exit → St → Prop, (∀ l ob, Q .ret ⟨tmA n l, ob⟩ = loadR (D ty) (lkA l t) ob fun p _ _ => loadR (D uy) (lkA l u) ob fun q _ _ => r = .tup [frzT d 0 ob p, frzT d 0 ob q]) → wpc P D T C Q (startS args n)) : FnSpec P f args [] r [] := by
  refine h.pure d hD hT hm (by simp) (hw _ fun l ob => ?_)
  simp only [retR, outL, taR2.2.1 n l t ht, taR2.2.1 n l u hu, List.map_cons, List.map_nil, onePV]

def kindV : Vl → Int
  | [] => 0
  | n :: _ => n.kind

def optV (v : Vl) (nm : List UInt8) : Option Vl := if kindV v = 6 then getP (prs v) nm else none
def fieldV (v : Vl) (nm : List UInt8) : Vl := (optV v nm).getD []
def hasV (v : Vl) (nm : List UInt8) : Bool := (optV v nm).isSome

def fieldR1 (v : Vl) (nm : List UInt8) : PV := match optV v nm with
  | some x => .tup [encV x, .bool true]
  | none => .tup [.sl 0 [] (some true), .bool false]

theorem find_hit {ps : List Vl} {nm : List UInt8} {i : Nat} {p : Vl} (h : ps[i]? = some p) (hp : nameOf p = nm) (hb : ∀ (j : Nat) q, j < i → ps[j]? = some q → nameOf q ≠ nm) : getP (ps.map fun p => (nameOf p, clr p)) nm = some (clr p) := by
  have : (ps.map fun p => (nameOf p, clr p)).find? (fun x => decide (x.1 = nm)) = some (nameOf p, clr p) := by
    rw [List.find?_eq_some_iff_getElem]
    obtain ⟨hi, he⟩ := List.getElem?_eq_some_iff.1 h
    refine ⟨by simp [hp], i, by simpa using hi, by simp [he], fun j hj => ?_⟩
    have := hb j _ hj (List.getElem?_eq_getElem (by omega))
    simpa using this
  simp [getP, this]

theorem find_none {ps : List Vl} {nm : List UInt8} (hb : ∀ (j : Nat) q, ps[j]? = some q → nameOf q ≠ nm) : getP (ps.map fun p => (nameOf p, clr p)) nm = none := by
  rw [getP_none]
  intro h
  simp only [List.map_map, List.mem_map, Function.comp] at h
  obtain ⟨p, hp, rfl⟩ := h
  obtain ⟨i, hi⟩ := List.mem_iff_getElem?.1 hp
  exact hb i p hi rfl

def fldO (nm : List UInt8) (x : PV) (b : Bool) : List Obj := [⟨t_string, 1, [.str nm], true, 1⟩, ⟨t_api_Val, 1, [x], true, 1⟩, ⟨t_bool, 1, [.bool b], true, 1⟩]

theorem NoRefs.lt {O : List Obj} (h : NoRefs O) : ObjsLt O := fun o ho x hx c hc => by
  have := h o ho x hx c hc
  cases c <;> first | rfl | (simp [PV.ref] at this)

theorem fldO_refs (nm : List UInt8) {x : PV} (b : Bool) (h1 : x.cells = [x]) (h2 : x.ref = false) : NoRefs (fldO nm x b ++ [ghA, hole]) := by
  intro o ho y hy c hc
  simp only [fldO, List.cons_append, List.nil_append, List.mem_cons, List.not_mem_nil, or_false] at ho
  rcases ho with rfl | rfl | rfl | rfl | rfl
  · simp only [List.mem_singleton] at hy; subst hy
    simp only [PV.cells, List.mem_singleton] at hc; subst hc; rfl
  · simp only [List.mem_singleton] at hy; subst hy
    rw [h1] at hc
    simp only [List.mem_singleton] at hc; subst hc; exact h2
  · simp only [List.mem_singleton] at hy; subst hy
    simp only [PV.cells, List.mem_singleton] at hc; subst hc; rfl
  · cases hy
  · cases hy

theorem fldO_gh (nm : List UInt8) {x : PV} (b : Bool) (h1 : x.cells = [x]) (h2 : x.ref = false) : Gh 3 (fldO nm x b ++ [ghA, hole]) := ⟨Nat.le_refl _, (fldO_refs nm b h1 h2).lt, rfl, rfl⟩

theorem field_spec (v : Vl) (nm : List UInt8) (hr : Rt v) (hl : v.length ≤ 1000000) : FnSpec Tryd.prog f_val_Field [encV v, .str nm] [] (fieldR1 v nm) [] := by
  refine k_val_Field.pureCC (T := tabL Tryd.prog [(f_val_each, ctrEach2)]) 1 hD (kOk_tabL (tabOk_cons ctrEach2_ok tabOk_nil)) hmix (by decide) (by decide) fun Q hQ => ?_
  try simp only [F_all]
  obtain ⟨n, r, rfl, _⟩ := nameOf_nil hr.name hr.one.ne
  generalize hv : n :: r = v at *
  have hg0 : v[0]? = some n := by rw [← hv]; rfl
  have hkv : kindV v = n.kind := by rw [← hv]; rfl
  by_cases hk : n.kind = 6
  rotate_left 1
  · have k6 : (n.kind = 6) = False := eq_false hk
    have hres : fieldR1 v nm = .tup [.sl 0 [] (some true), .bool false] := by simp [fieldR1, optV, hkv, hk]
    simp (maxSteps := 400000) only [↓preZ, postZ, coreZ, ↓preU, postU, D_all, F_all, unR, outL, onePV, binS, ↓binS, boundR, ↓boundR, fieldOf, ↓fieldOf, boxR, allocR, newObj, zeroElem, buildSliceR, appendR, setAll, storeR, St.freeze, makeSliceR, minmaxR, makeFuncR, BEq.rfl, reduceIte, reduceCtorEq, Nat.reduceLT, Nat.reduceAdd, Nat.reduceSub, Nat.reduceMul, Nat.reduceBEq, Nat.reduceLeDiff, Int.reduceToNat, Int.reduceLE, hQ, c_val_Field, hg0, k6]
    exact ⟨by decide, rfl, by decide, rfl, by rw [hres]; rfl⟩
  have k6 : (n.kind = 6) = True := eq_true hk
  obtain ⟨ps, hP, hprt, hpl, hnm, hgv⟩ := each_gives v hr hl
  have hnames : namesV v = ps.map nameOf := by
    rcases hnm with h | ⟨n', r', h1, h2⟩
    · exact h
    · rw [← hv] at h1; cases h1; exact absurd hk h2
  have hprs : prs v = ps.map fun p => (nameOf p, clr p) := by rw [prs, hnames, hP, zip_maps]
  simp (maxSteps := 400000) only [↓preZ, postZ, coreZ, ↓preU, postU, D_all, F_all, unR, outL, onePV, binS, ↓binS, boundR, ↓boundR, fieldOf, ↓fieldOf, boxR, allocR, newObj, zeroElem, buildSliceR, appendR, setAll, storeR, St.freeze, makeSliceR, minmaxR, makeFuncR, BEq.rfl, reduceIte, reduceCtorEq, Nat.reduceLT, Nat.reduceAdd, Nat.reduceSub, Nat.reduceMul, Nat.reduceBEq, Nat.reduceLeDiff, Int.reduceToNat, Int.reduceLE, hQ, c_val_Field, hg0, k6, ↓ctrEach2]
  refine wpc_rf2 f_val_each_1 [.addr (encV v)] (ps.map rowOf)
    (fun i O => (∀ (j : Nat) q, j < i → ps[j]? = some q → nameOf q ≠ nm) ∧ i ≤ ps.length ∧ O = fldO nm (.sl 0 [] (some true)) false ++ [ghA, hole])
    (fun i O => ∃ p, ps[i]? = some p ∧ nameOf p = nm ∧ (∀ (j : Nat) q, j < i → ps[j]? = some q → nameOf q ≠ nm) ∧ O = fldO nm (encV (clr p)) true ++ [ghA, hole]) .ret rfl rfl rfl rfl trivial hgv (rowOf_len ps) ⟨fun j q h => absurd h (Nat.not_lt_zero j), Nat.zero_le _, rfl⟩ ?_ ?_ ?_ ?_ ?_
  · rintro i O ⟨_, _, rfl⟩
    exact fldO_gh nm false rfl rfl
  · rintro i O ⟨p, _, _, _, rfl⟩
    exact ⟨fldO_gh nm true rfl rfl, fldO_refs nm true rfl rfl⟩
  · rintro i args O ⟨hb, hi, rfl⟩ ha
    obtain ⟨p, hpi, rfl⟩ := rowOf_get ha
    have hil := (List.getElem?_eq_some_iff.1 hpi).1
    unfold fldO
    by_cases he : nameOf p = nm
    · have he' : (nameOf p = nm) = True := eq_true he
      simp (maxSteps := 400000) only [↓preZ, postZ, coreZ, ↓preU, postU, D_all, F_all, unR, outL, onePV, binS, ↓binS, boundR, ↓boundR, fieldOf, ↓fieldOf, boxR, allocR, newObj, zeroElem, buildSliceR, appendR, setAll, storeR, St.freeze, makeSliceR, minmaxR, makeFuncR, BEq.rfl, reduceIte, reduceCtorEq, Nat.reduceLT, Nat.reduceAdd, Nat.reduceSub, Nat.reduceMul, Nat.reduceBEq, Nat.reduceLeDiff, Int.reduceToNat, Int.reduceLE, hQ, setL, knI, he']
      exact ⟨rfl, p, hpi, he, hb, rfl⟩
    · have he' : (nameOf p = nm) = False := eq_false he
      simp (maxSteps := 400000) only [↓preZ, postZ, coreZ, ↓preU, postU, D_all, F_all, unR, outL, onePV, binS, ↓binS, boundR, ↓boundR, fieldOf, ↓fieldOf, boxR, allocR, newObj, zeroElem, buildSliceR, appendR, setAll, storeR, St.freeze, makeSliceR, minmaxR, makeFuncR, BEq.rfl, reduceIte, reduceCtorEq, Nat.reduceLT, Nat.reduceAdd, Nat.reduceSub, Nat.reduceMul, Nat.reduceBEq, Nat.reduceLeDiff, Int.reduceToNat, Int.reduceLE, hQ, setL, knI, he']
      refine ⟨fun j q hj hq => ?_, by omega, rfl⟩
      rcases Nat.lt_or_ge j i with g | g
      · exact hb j q g hq
      · have : j = i := by omega
        subst this
        rw [hpi] at hq; cases hq; exact he
  · rintro O ⟨hb, hi, rfl⟩
    unfold fldO
    simp (maxSteps := 400000) only [↓preZ, postZ, coreZ, ↓preU, postU, D_all, F_all, unR, outL, onePV, binS, ↓binS, boundR, ↓boundR, fieldOf, ↓fieldOf, boxR, allocR, newObj, zeroElem, buildSliceR, appendR, setAll, storeR, St.freeze, makeSliceR, minmaxR, makeFuncR, BEq.rfl, reduceIte, reduceCtorEq, Nat.reduceLT, Nat.reduceAdd, Nat.reduceSub, Nat.reduceMul, Nat.reduceBEq, Nat.reduceLeDiff, Int.reduceToNat, Int.reduceLE, hQ]
    have hres : fieldR1 v nm = .tup [.sl 0 [] (some true), .bool false] := by
      have : getP (prs v) nm = none := by
        rw [hprs]
        refine find_none fun j q hq => hb j q ?_ hq
        rw [List.length_map]
        exact (List.getElem?_eq_some_iff.1 hq).1
      simp [fieldR1, optV, this]
    exact ⟨by decide, rfl, by decide, rfl, by rw [hres]; rfl⟩
  · rintro i O hi ⟨p, hpi, he, hb, rfl⟩
    unfold fldO
    simp (maxSteps := 400000) only [↓preZ, postZ, coreZ, ↓preU, postU, D_all, F_all, unR, outL, onePV, binS, ↓binS, boundR, ↓boundR, fieldOf, ↓fieldOf, boxR, allocR, newObj, zeroElem, buildSliceR, appendR, setAll, storeR, St.freeze, makeSliceR, minmaxR, makeFuncR, BEq.rfl, reduceIte, reduceCtorEq, Nat.reduceLT, Nat.reduceAdd, Nat.reduceSub, Nat.reduceMul, Nat.reduceBEq, Nat.reduceLeDiff, Int.reduceToNat, Int.reduceLE, hQ]
    have hres : fieldR1 v nm = .tup [encV (clr p), .bool true] := by
      have : getP (prs v) nm = some (clr p) := by rw [hprs]; exact find_hit hpi he hb
      simp [fieldR1, optV, hkv, hk, this]
    rw [hres]
    exact ⟨_, _, rfl, rfl, rfl, rfl, Nat.le_refl _, rfl, _, _, rfl, rfl, rfl, rfl, Nat.le_refl _, rfl, rfl⟩
theorem fieldR1_tells (v : Vl) (nm : List UInt8) : Tells (fieldR1 v nm) (.tup [encV (fieldV v nm), .bool (hasV v nm)]) := by
  unfold fieldR1 fieldV hasV
  split
  · rename_i x h; rw [h]; exact .refl _
  · rename_i h; rw [h]; exact tells2 (.inr rfl) (tells_nil 0 6) (.refl _)

theorem field_spec' (v : Vl) (nm : List UInt8) (hr : Rt v) (hl : v.length ≤ 1000000) : FnSpec Tryd.prog f_val_Field [encV v, .str nm] [] (.tup [encV (fieldV v nm), .bool (hasV v nm)]) [] := (field_spec v nm hr hl).res (fieldR1_tells v nm)

def ctrValField : Ctr := fun args objs K => match args with
  | [a0, .str nm] => ofE encV a0 (HK.mk : HK fun v => (Rt v) ∧ (v.length ≤ 1000000) ∧ K (.tup [encV (fieldV v nm), .bool (hasV v nm)]) objs 0)
  | _ => False
theorem ctrValField_ok : CtrOk Tryd.prog f_val_Field (ctrValField) := by
  intro args objs K h
  unfold ctrValField at h
  split at h
  · rename_i a0 nm
    obtain ⟨v, rfl, h1, h2, hk⟩ := h
    exact ⟨_, _, _, .pure _ rfl (field_spec' v nm h1 h2), hk⟩
  · exact h.elim
end Lp

/-! LpD10 -/

namespace Lp
open Go Go.Proofs Go.RowKit Go.Sort

set_option maxHeartbeats 4000000
set_option maxRecDepth 100000

def sortS (ss : List (List UInt8)) : List (List UInt8) := ss.mergeSort fun x y => decide (x ≤ y)

theorem sortS_length (ss : List (List UInt8)) : (sortS ss).length = ss.length := List.length_mergeSort _

theorem oneT {R : PV → Value → Prop} {p : PV} {vs : List Value} (h : RepL R [p] vs) : ∃ u, vs = [u] ∧ R p u := by
  obtain ⟨hl, h⟩ := h
  match vs, hl with
  | [u], _ => exact ⟨u, rfl, h 0 _ _ rfl rfl⟩

theorem frozen_row' {w : World} {g : Nat} {cur : Array Value} {t : TypeId} (hg : w.heap[g]? = some (.cells cur t (0, 0))) (o : Nat) : w.frozen? ⟨g, o, none⟩ = false := by
  simp [World.frozen?, hg]

theorem set_eqk {α : Type} {l : List α} {k : Nat} {x : α} (h : l[k]? = some x) : l.set k x = l := by
  refine List.ext_getElem? fun i => ?_
  rw [List.getElem?_set]
  split
  · rename_i e
    subst e
    rw [if_pos (List.getElem?_eq_some_iff.1 h).1, h]
  · rfl

theorem sort_use {objs : List Obj} {k ver : Nat} (ss : List (List UInt8)) (h1 : objs[k]? = some ⟨t_string, 1, ss.map .str, true, ver⟩) (hl : ss.length ≤ 1000000) :
    FnUse Tryd.prog f_slices_Sort_L_string_string_ [.osl k ver] objs (.tup []) (objs.set k ⟨t_string, 1, (sortS ss).map .str, true, ver⟩) := by
  refine ⟨⟨_, Tryd.lays190.f190, by kernel_rfl, by kernel_rfl⟩, by simp, fun base prot w0 tmps blk a w vs R hargs => ?_⟩
  obtain ⟨u, rfl, r⟩ := oneT hargs
  have hh := r.osl h1 rfl rfl
  have hob := R.objs.ob k _ h1 rfl
  unfold Hdr at hh
  unfold ObjRep at hob
  cases hb : blk k with
  | none =>
    rw [hb] at hh
    obtain ⟨rfl, hx⟩ := hh
    have hx' : ss.map PV.str = [] := hx
    have hs : ss = [] := List.map_eq_nil_iff.1 hx'
    subst hs
    refine (Any.slices_Sort_string_none Tryd.lays190 none 0 w).mono ?_
    rintro e w' ⟨h2, rfl⟩
    have hs0 : sortS [] = [] := List.mergeSort_nil
    have hset : objs.set k ⟨t_string, 1, (sortS []).map .str, true, ver⟩ = objs := by rw [hs0]; exact set_eqk h1
    rw [hset]
    exact ⟨_, blk, h2, R, ⟨[], rfl, rfl, fun i p v h => by simp at h⟩⟩
  | some g =>
    rw [hb] at hh hob
    obtain ⟨cap, c, hv, hc, h3, h4, h5⟩ := hh
    obtain ⟨c', hc', _, hcell⟩ := hob
    obtain ⟨_, ec, _, _⟩ := hobj_cells (hc'.symm.trans hc |> Option.some.inj)
    rw [ec] at hcell
    clear hc' ec
    have hv2 : u = .slice (some ⟨g, 0, none⟩) ss.length cap := by rw [hv]; simp
    clear hv
    subst hv2
    simp only [Nat.mul_one] at h5
    have hg := (Array.getElem?_eq_some_iff.1 hc).1
    have hsl : (ss.map PV.str).length = ss.length := List.length_map ..
    have hcl : ∀ (j : Nat) (x : List UInt8), ss[j]? = some x → c[j]? = some (encStr x) := fun j x hx => by
      obtain ⟨_, h⟩ := hcell j (.str x) (by simp only [List.getElem?_map, hx]; rfl)
      obtain ⟨v, h6, h7⟩ := h 0 (.str x) rfl
      cases h7
      simpa using h6
    have hH : Holds encStr w g 0 ss.toArray := fun j hj => by
      have hj' : j < ss.length := by simpa using hj
      refine ⟨?_, frozen_row' hc _⟩
      have e := hcl j ss[j] (List.getElem?_eq_getElem hj')
      have e2 : ss.toArray[j]! = ss[j] := by rw [getElem!_pos _ j (by simpa using hj')]; simp
      rw [e2, Nat.zero_add]
      simp only [World.cell?, hc]
      exact e
    refine (Any.slices_Sort_string Tryd.lays190 g 0 cap ss w hH hg (by omega)).mono ?_
    rintro e W ⟨h6, n, os, hW⟩
    have hW : W = grow (putRow encStr (ahead w n) g 0 (sortS ss).toArray) os := hW
    have h3' : ss.length ≤ cap := by simpa using h3
    have hsz : (sortS ss).length ≤ c.size := by rw [sortS_length]; omega
    have hheap : W.heap[g]? = some (.cells (putCells encStr 0 (sortS ss).toArray c) t_string (0, 0)) := by
      rw [hW]
      simp only [grow, putRow, mapBlock, heap_ahead]
      rw [Array.getElem?_append_left (by simpa using hg), Array.getElem?_modify, if_pos rfl, hc]
      rfl
    have hoth : ∀ b z, g ≠ b → w.heap[b]? = some z → W.heap[b]? = some z := fun b z hb hz => by
      rw [hW]
      have hbl := (Array.getElem?_eq_some_iff.1 hz).1
      simp only [grow, putRow, mapBlock, heap_ahead]
      rw [Array.getElem?_append_left (by simpa using hbl), Array.getElem?_modify, if_neg hb, hz]
    have hput : ∀ (j : Nat) (x : List UInt8), (sortS ss)[j]? = some x → (putCells encStr 0 (sortS ss).toArray c)[j]? = some (encStr x) := fun j x hx => by
      have hj := (List.getElem?_eq_some_iff.1 hx).1
      unfold putCells
      rw [Array.getElem?_mapIdx, Array.getElem?_eq_getElem (by omega : j < c.size)]
      simp only [Option.map_some, Nat.zero_le, true_and, Nat.zero_add, List.size_toArray, hj, if_true, Nat.sub_zero]
      rw [getElem!_pos _ j (by simpa using hj)]
      obtain ⟨_, rfl⟩ := List.getElem?_eq_some_iff.1 hx
      simp
    have hWs : w.heap.size ≤ W.heap.size := by rw [hW]; simp [grow]
    have hWo : W.os = w.os ∧ W.output = w.output := by rw [hW]; exact ⟨rfl, rfl⟩
    refine ⟨_, blkAdd blk k (blk k), h6, ?_, ⟨[], rfl, rfl, fun i p v h => by simp at h⟩⟩
    refine R.setObj (o' := ⟨t_string, 1, (sortS ss).map .str, true, ver⟩) hWo h1 rfl rfl hWs ?_ (fun g' hg' => .inl hg') (Nat.le_refl _) ?_ ?_
    · intro b z hbz hz
      exact hoth b z (fun e => hbz (by rw [hb, e])) hz
    · intro _
      refine ⟨rfl, rfl, rfl, fun _ => by simp [sortS_length], fun g' c' hg' hc' => ?_⟩
      rw [hb] at hg'; cases hg'
      rw [hc] at hc'; cases hc'
      exact ⟨_, hheap, by unfold putCells; simp⟩
    · intro hmono
      unfold ObjRep
      have hbk : blkAdd blk k (blk k) k = some g := by unfold blkAdd; rw [if_pos rfl, hb]
      rw [hbk]
      have hMT : t_string ≠ MT := by decide
      refine ⟨_, (by rw [hobj_ne hMT]; exact hheap), fits_ne hMT (by simp [putCells, sortS_length]; omega), fun i' x' hx' => ?_⟩
      rw [List.getElem?_map] at hx'
      cases hi : (sortS ss)[i']? with
      | none => rw [hi] at hx'; simp at hx'
      | some x =>
        rw [hi] at hx'
        simp only [Option.map_some, Option.some.injEq] at hx'
        subst hx'
        refine ⟨rfl, fun j p hp => ?_⟩
        match j, hp with
        | 0, hp =>
          cases hp
          exact ⟨_, by simpa using hput i' x hi, .of_rep (.str x)⟩
        | _ + 1, hp => simp [PV.cells] at hp
end Lp

/-! LpD11 -/

namespace Lp
open Go Go.Proofs Go.RowKit

set_option maxHeartbeats 4000000
set_option maxRecDepth 20000
set_option linter.unusedSimpArgs false

theorem lt_bl : ∀ x y : List UInt8, x < y ↔ Op.bytesLess x y = true
  | [], [] => by simp [Op.bytesLess]
  | [], b :: y => by simp [Op.bytesLess]
  | a :: x, [] => by simp [Op.bytesLess]
  | a :: x, b :: y => by
    have ih := lt_bl x y
    rw [List.cons_lt_cons_iff, ih]
    simp only [Op.bytesLess]
    by_cases h1 : a < b
    · simp [h1]
    · by_cases h2 : a = b
      · subst h2; simp [h1]
      · simp [h1, h2]

theorem le_bl (x y : List UInt8) : decide (x ≤ y) = !Op.bytesLess y x := by
  have : x ≤ y ↔ ¬ y < x := Iff.rfl
  rw [Bool.eq_iff_iff, decide_eq_true_iff, this, lt_bl]
  simp

theorem sortS_perm (ss : List (List UInt8)) : (sortS ss).Perm ss := List.mergeSort_perm ..

theorem sortS_rise {ss : List (List UInt8)} (h : ss.Nodup) : Rise (sortS ss) := by
  have h1 : (sortS ss).Pairwise fun x y => decide (x ≤ y) = true := List.pairwise_mergeSort
    (fun a b c h1 h2 => by
      rw [le_bl, Bool.not_eq_true'] at *
      cases h : Op.bytesLess c a with
      | false => rfl
      | true =>
        rcases bl_tri a b with g | g | g
        · rw [bl_trans _ _ _ h g] at h2; cases h2
        · subst g; rw [h] at h2; cases h2
        · rw [g] at h1; cases h1)
    (fun a b => by
      rw [le_bl, le_bl]
      cases h : Op.bytesLess b a with
      | false => rfl
      | true => rw [bl_asymm _ _ h]; rfl) ss
  have h2 : (sortS ss).Nodup := (sortS_perm ss).nodup_iff.2 h
  refine List.Pairwise.imp ?_ (h1.and h2)
  rintro a b ⟨h3, h4⟩
  rw [le_bl] at h3
  rcases bl_tri a b with g | g | g
  · exact g
  · exact absurd g h4
  · rw [g] at h3; cases h3

theorem values_spec (l : List (List UInt8)) : FnSpec Tryd.prog f_slices_Values_L_string_string_ [encT l] [] (.fn f_slices_Values_L_string_string__1 [] [.addr (encT l)]) [] := by
  refine k_slices_Values_L_string_string_.pureG (T := tabL Tryd.prog []) 1 hD (kOk_tabL tabOk_nil) hmix (by decide) fun Q hQ => ?_
  try simp only [F_all]
  simp (maxSteps := 400000) only [↓preZ, postZ, coreZ, ↓preU, postU, D_all, F_all, unR, outL, onePV, binS, ↓binS, boundR, ↓boundR, fieldOf, ↓fieldOf, boxR, allocR, newObj, zeroElem, buildSliceR, appendR, setAll, storeR, St.freeze, makeSliceR, minmaxR, makeFuncR, BEq.rfl, reduceIte, reduceCtorEq, Nat.reduceLT, Nat.reduceAdd, Nat.reduceSub, Nat.reduceMul, Nat.reduceBEq, Nat.reduceLeDiff, Int.reduceToNat, Int.reduceLE, hQ, c_slices_Values_L_string_string_]
  rfl

/-- What ranges over texts. -/
def encSeq (l : List (List UInt8)) : PV := .fn f_slices_Values_L_string_string__1 [] [.addr (encT l)]
theorem encSeq_inj : ∀ a b, encSeq a = encSeq b → a = b := by
  intro a b h
  simp only [encSeq, PV.fn.injEq, List.cons.injEq, PV.addr.injEq, and_true, true_and] at h
  exact encT_inj _ _ h
theorem seqB : type_of% (ofE_inj encSeq_inj) := ofE_inj encSeq_inj

def ctrValues : Ctr := fun args objs K => match args with
  | [a0] => ofE encT a0 (HK.mk : HK fun l => K (encSeq l) objs 0)
  | _ => False
theorem ctrValues_ok : CtrOk Tryd.prog f_slices_Values_L_string_string_ (ctrValues) := by
  intro args objs K h
  unfold ctrValues at h
  split at h
  · rename_i a0
    obtain ⟨l, rfl, hk⟩ := h
    exact ⟨_, _, _, .pure _ rfl (values_spec l), hk⟩
  · exact h.elim

theorem values1_gives (l : List (List UInt8)) (hl : l.length ≤ 1000000) : Gives Tryd.prog f_slices_Values_L_string_string__1 [.addr (encT l)] (l.map fun s => [.str s]) := by
  refine k_slices_Values_L_string_string__1.gives (fnT := tabF []) hD tabOk_nil hmix ?_
  intro I J objs y hI hIl hJl
  simp (maxSteps := 400000) only [↓preZ, postZ, coreZ, ↓preU, postU, D_all, F_all, unR, outL, onePV, binS, ↓binS, boundR, ↓boundR, fieldOf, ↓fieldOf, boxR, allocR, newObj, zeroElem, buildSliceR, appendR, setAll, storeR, St.freeze, makeSliceR, minmaxR, makeFuncR, BEq.rfl, reduceIte, reduceCtorEq, Nat.reduceLT, Nat.reduceAdd, Nat.reduceSub, Nat.reduceMul, Nat.reduceBEq, Nat.reduceLeDiff, Int.reduceToNat, Int.reduceLE, c_slices_Values_L_string_string__1]
  refine wpc_loop (fun m S => ∃ (i : Nat) (O : List Obj), i + m = l.length ∧ I i O ∧ S = ⟨tmA 16 [(0, .yld y), (5, encT l), (6, .int .i64 l.length), (7, .int .i64 i)], O⟩) l.length ⟨0, objs, by omega, hI, ?_⟩ ?_
  · simp only [normR, keepR, Nat.reduceAdd, lkR, Nat.reduceBEq, F_all, List.map_nil]
    rfl
  rintro m S ⟨i, O, him, hIi, rfl⟩
  rcases Nat.lt_or_ge i l.length with h | h
  · have hlt : ((i : Int) < (l.length : Int)) = True := eq_true (by omega)
    have zi : (0 ≤ (i : Int)) = True := eq_true (by omega)
    have hgi := List.getElem?_eq_getElem h
    generalize l[i] = s at hgi
    simp (maxSteps := 400000) only [↓preZ, postZ, coreZ, ↓preU, postU, D_all, F_all, unR, outL, onePV, binS, ↓binS, boundR, ↓boundR, fieldOf, ↓fieldOf, boxR, allocR, newObj, zeroElem, buildSliceR, appendR, setAll, storeR, St.freeze, makeSliceR, minmaxR, makeFuncR, BEq.rfl, reduceIte, reduceCtorEq, Nat.reduceLT, Nat.reduceAdd, Nat.reduceSub, Nat.reduceMul, Nat.reduceBEq, Nat.reduceLeDiff, Int.reduceToNat, Int.reduceLE, hlt, zi, hgi, Yof]
    refine ⟨rfl, i, hIi, by rw [hgi]; rfl, fun O' hI' => ⟨⟨by omega, by omega⟩, m - 1, by omega, i + 1, O', by omega, hI', rfl⟩, fun O' hJ' => ⟨.inr rfl, .inr ⟨i, h, hJ'⟩⟩⟩
  · have hlt : ((i : Int) < (l.length : Int)) = False := eq_false (by omega)
    simp (maxSteps := 400000) only [↓preZ, postZ, coreZ, ↓preU, postU, D_all, F_all, unR, outL, onePV, binS, ↓binS, boundR, ↓boundR, fieldOf, ↓fieldOf, boxR, allocR, newObj, zeroElem, buildSliceR, appendR, setAll, storeR, St.freeze, makeSliceR, minmaxR, makeFuncR, BEq.rfl, reduceIte, reduceCtorEq, Nat.reduceLT, Nat.reduceAdd, Nat.reduceSub, Nat.reduceMul, Nat.reduceBEq, Nat.reduceLeDiff, Int.reduceToNat, Int.reduceLE, hlt]
    have hi : i = l.length := by omega
    subst hi
    exact ⟨.inl rfl, .inl hIi⟩

theorem strArgs_len (l : List (List UInt8)) : ∀ y ∈ l.map (fun s => [PV.str s]), y.length = 1 := by
  intro y hy
  obtain ⟨p, _, rfl⟩ := List.mem_map.1 hy
  rfl

theorem strArgs_get {l : List (List UInt8)} {i : Nat} {args : List PV} (h : (l.map fun s => [PV.str s])[i]? = some args) : ∃ s, l[i]? = some s ∧ args = [.str s] := by
  rw [List.getElem?_map] at h
  cases hx : l[i]? with
  | none => rw [hx] at h; simp at h
  | some p => rw [hx] at h; exact ⟨p, rfl, by simpa using h.symm⟩

/-- What is collected so far. -/
def seqO (l : List (List UInt8)) (i : Nat) : List Obj → Prop := fun O =>
  (i = 0 ∧ O = [⟨t_L_string, 1, [.sl 0 [] (some true)], true, 1⟩]) ∨ (0 < i ∧ ∃ ver, O = [⟨t_L_string, 1, [.osl 1 ver], true, 1⟩, ⟨t_string, 1, (l.take i).map .str, true, ver⟩])

theorem strRefs (l : List (List UInt8)) {ver : Nat} : NoRefs [⟨t_string, 1, l.map .str, true, ver⟩] := by
  intro o ho x hx c hc
  simp only [List.mem_singleton] at ho; subst ho
  obtain ⟨p, _, rfl⟩ := List.mem_map.1 hx
  simp only [PV.cells, List.mem_singleton] at hc; subst hc; rfl

theorem appendSeq_made (l : List (List UInt8)) (h0 : l ≠ []) (hl : l.length ≤ 1000000) : FnSpec Tryd.prog f_slices_AppendSeq_L_string_string_ [.sl 0 [] (some true), .fn f_slices_Values_L_string_string__1 [] [.addr (encT l)]] [] (.osl 0 0) [⟨t_string, 1, l.map .str, true, 0⟩] := by
  refine k_slices_AppendSeq_L_string_string_.madeG (T := tabL Tryd.prog []) 0 hD (kOk_tabL tabOk_nil) hmix fun Q hQ => ?_
  try simp only [F_all]
  simp (maxSteps := 400000) only [↓preZ, postZ, coreZ, ↓preU, postU, D_all, F_all, unR, outL, onePV, binS, ↓binS, boundR, ↓boundR, fieldOf, ↓fieldOf, boxR, allocR, newObj, zeroElem, buildSliceR, appendR, setAll, storeR, St.freeze, makeSliceR, minmaxR, makeFuncR, BEq.rfl, reduceIte, reduceCtorEq, Nat.reduceLT, Nat.reduceAdd, Nat.reduceSub, Nat.reduceMul, Nat.reduceBEq, Nat.reduceLeDiff, Int.reduceToNat, Int.reduceLE, hQ, c_slices_AppendSeq_L_string_string_]
  refine wpc_rf f_slices_Values_L_string_string__1 [.addr (encT l)] (l.map fun s => [.str s]) (fun i O => seqO l i O ∧ i ≤ l.length) rfl rfl rfl trivial (values1_gives l hl) (strArgs_len l) ⟨.inl ⟨rfl, rfl⟩, Nat.zero_le _⟩ ?_ ?_ ?_
  · rintro i O ⟨⟨_, rfl⟩ | ⟨_, ver, rfl⟩, _⟩
    · refine ⟨Nat.le_refl _, ?_⟩
      intro o ho x hx c hc
      simp only [List.mem_singleton] at ho; subst ho
      simp only [List.mem_singleton] at hx; subst hx
      simp only [PV.cells, List.mem_singleton] at hc; subst hc; rfl
    · refine ⟨by simp, ?_⟩
      intro o ho x hx c hc
      simp only [List.mem_cons, List.not_mem_nil, or_false] at ho
      rcases ho with rfl | rfl
      · simp only [List.mem_singleton] at hx; subst hx
        simp only [PV.cells, List.mem_singleton] at hc; subst hc; rfl
      · obtain ⟨p, _, rfl⟩ := List.mem_map.1 hx
        simp only [PV.cells, List.mem_singleton] at hc; subst hc; rfl
  · rintro i args O ⟨hO, hi⟩ ha
    obtain ⟨s, hs, rfl⟩ := strArgs_get ha
    have hil := (List.getElem?_eq_some_iff.1 hs).1
    have htk : l.take (i + 1) = l.take i ++ [s] := by rw [List.take_add_one, hs]; rfl
    rcases hO with ⟨rfl, rfl⟩ | ⟨h1, ver, rfl⟩
    · simp (maxSteps := 400000) only [↓preZ, postZ, coreZ, ↓preU, postU, D_all, F_all, unR, outL, onePV, binS, ↓binS, boundR, ↓boundR, fieldOf, ↓fieldOf, boxR, allocR, newObj, zeroElem, buildSliceR, appendR, setAll, storeR, St.freeze, makeSliceR, minmaxR, makeFuncR, BEq.rfl, reduceIte, reduceCtorEq, Nat.reduceLT, Nat.reduceAdd, Nat.reduceSub, Nat.reduceMul, Nat.reduceBEq, Nat.reduceLeDiff, Int.reduceToNat, Int.reduceLE, hQ, setL, knI]
      exact ⟨.inr ⟨by omega, 1, by rw [htk]; rfl⟩, by omega⟩
    · simp (maxSteps := 400000) only [↓preZ, postZ, coreZ, ↓preU, postU, D_all, F_all, unR, outL, onePV, binS, ↓binS, boundR, ↓boundR, fieldOf, ↓fieldOf, boxR, allocR, newObj, zeroElem, buildSliceR, appendR, setAll, storeR, St.freeze, makeSliceR, minmaxR, makeFuncR, BEq.rfl, reduceIte, reduceCtorEq, Nat.reduceLT, Nat.reduceAdd, Nat.reduceSub, Nat.reduceMul, Nat.reduceBEq, Nat.reduceLeDiff, Int.reduceToNat, Int.reduceLE, hQ, setL, knI]
      have := List.length_take_le i l
      exact ⟨by omega, by omega, .inr ⟨by omega, ver + 1, by rw [htk, List.map_append]; rfl⟩, by omega⟩
  · rintro O ⟨hO, _⟩
    rw [List.length_map] at hO
    rcases hO with ⟨h1, rfl⟩ | ⟨h1, ver, rfl⟩
    · exact absurd (List.length_eq_zero_iff.1 h1) h0
    · simp (maxSteps := 400000) only [↓preZ, postZ, coreZ, ↓preU, postU, D_all, F_all, unR, outL, onePV, binS, ↓binS, boundR, ↓boundR, fieldOf, ↓fieldOf, boxR, allocR, newObj, zeroElem, buildSliceR, appendR, setAll, storeR, St.freeze, makeSliceR, minmaxR, makeFuncR, BEq.rfl, reduceIte, reduceCtorEq, Nat.reduceLT, Nat.reduceAdd, Nat.reduceSub, Nat.reduceMul, Nat.reduceBEq, Nat.reduceLeDiff, Int.reduceToNat, Int.reduceLE, hQ]
      refine endM (k := 1) (ver := ver) rfl rfl rfl rfl ?_ (strRefs l)
      simp only [frzO, List.take_length]
      rw [map_frz_of PV.str fun _ => rfl]

theorem appendSeq_nil : FnSpec Tryd.prog f_slices_AppendSeq_L_string_string_ [.sl 0 [] (some true), .fn f_slices_Values_L_string_string__1 [] [.addr (encT [])]] [] (.sl 0 [] (some true)) [] := by
  refine k_slices_AppendSeq_L_string_string_.pureG (T := tabL Tryd.prog []) 0 hD (kOk_tabL tabOk_nil) hmix (by decide) fun Q hQ => ?_
  try simp only [F_all]
  simp (maxSteps := 400000) only [↓preZ, postZ, coreZ, ↓preU, postU, D_all, F_all, unR, outL, onePV, binS, ↓binS, boundR, ↓boundR, fieldOf, ↓fieldOf, boxR, allocR, newObj, zeroElem, buildSliceR, appendR, setAll, storeR, St.freeze, makeSliceR, minmaxR, makeFuncR, BEq.rfl, reduceIte, reduceCtorEq, Nat.reduceLT, Nat.reduceAdd, Nat.reduceSub, Nat.reduceMul, Nat.reduceBEq, Nat.reduceLeDiff, Int.reduceToNat, Int.reduceLE, hQ, c_slices_AppendSeq_L_string_string_]
  refine wpc_rf f_slices_Values_L_string_string__1 [.addr (encT [])] ([].map fun s => [PV.str s]) (fun i O => i ≤ 0 ∧ O = [⟨t_L_string, 1, [.sl 0 [] (some true)], true, 1⟩]) rfl rfl rfl trivial (values1_gives [] (by simp)) (strArgs_len []) ⟨Nat.le_refl _, rfl⟩ ?_ ?_ ?_
  · rintro i O ⟨_, rfl⟩
    refine ⟨Nat.le_refl _, ?_⟩
    intro o ho x hx c hc
    simp only [List.mem_singleton] at ho; subst ho
    simp only [List.mem_singleton] at hx; subst hx
    simp only [PV.cells, List.mem_singleton] at hc; subst hc; rfl
  · rintro i args O _ ha
    simp at ha
  · rintro O ⟨_, rfl⟩
    simp (maxSteps := 400000) only [↓preZ, postZ, coreZ, ↓preU, postU, D_all, F_all, unR, outL, onePV, binS, ↓binS, boundR, ↓boundR, fieldOf, ↓fieldOf, boxR, allocR, newObj, zeroElem, buildSliceR, appendR, setAll, storeR, St.freeze, makeSliceR, minmaxR, makeFuncR, BEq.rfl, reduceIte, reduceCtorEq, Nat.reduceLT, Nat.reduceAdd, Nat.reduceSub, Nat.reduceMul, Nat.reduceBEq, Nat.reduceLeDiff, Int.reduceToNat, Int.reduceLE, hQ]

def ctrAppSeqM : Ctr := fun args objs K => ∃ l : List (List UInt8), args = [.sl 0 [] (some true), .fn f_slices_Values_L_string_string__1 [] [.addr (encT l)]] ∧ l ≠ [] ∧ l.length ≤ 1000000 ∧ K (.osl objs.length 0) (objs ++ [⟨t_string, 1, l.map .str, true, 0⟩]) 2
theorem ctrAppSeqM_ok : CtrOk Tryd.prog f_slices_AppendSeq_L_string_string_ ctrAppSeqM := by
  rintro args objs K ⟨l, rfl, h0, h1, hk⟩
  exact ⟨_, _, _, CallR.made (objs := objs) _ _ rfl (strRefs l) (appendSeq_made l h0 h1), by simpa [PV.shift, PV.shiftS] using hk⟩

def ctrAppSeq0 : Ctr := fun args objs K => match args with
  | [a0, a1] => a0 = (.sl 0 [] (some true)) ∧ a1 = (.fn f_slices_Values_L_string_string__1 [] [.addr (encT [])]) ∧ K (.sl 0 [] (some true)) objs 0
  | _ => False
theorem ctrAppSeq0_ok : CtrOk Tryd.prog f_slices_AppendSeq_L_string_string_ (ctrAppSeq0) := by
  intro args objs K h
  unfold ctrAppSeq0 at h
  split at h
  · rename_i a0 a1
    obtain ⟨rfl, rfl, hk⟩ := h
    exact ⟨_, _, _, .pure _ rfl (appendSeq_nil), hk⟩
  · exact h.elim

theorem collect_made (l : List (List UInt8)) (h0 : l ≠ []) (hl : l.length ≤ 1000000) : FnSpec Tryd.prog f_slices_Collect_string_ [.fn f_slices_Values_L_string_string__1 [] [.addr (encT l)]] [] (.osl 0 0) [⟨t_string, 1, l.map .str, true, 0⟩] := by
  refine k_slices_Collect_string_.madeG (T := tabL Tryd.prog [(f_slices_AppendSeq_L_string_string_, ctrAppSeqM)]) 0 hD (kOk_tabL (tabOk_cons ctrAppSeqM_ok tabOk_nil)) hmix fun Q hQ => ?_
  try simp only [F_all]
  simp (maxSteps := 400000) only [↓preZ, postZ, coreZ, ↓preU, postU, D_all, F_all, unR, outL, onePV, binS, ↓binS, boundR, ↓boundR, fieldOf, ↓fieldOf, boxR, allocR, newObj, zeroElem, buildSliceR, appendR, setAll, storeR, St.freeze, makeSliceR, minmaxR, makeFuncR, BEq.rfl, reduceIte, reduceCtorEq, Nat.reduceLT, Nat.reduceAdd, Nat.reduceSub, Nat.reduceMul, Nat.reduceBEq, Nat.reduceLeDiff, Int.reduceToNat, Int.reduceLE, hQ, c_slices_Collect_string_, ↓ctrAppSeqM]
  refine ⟨l, rfl, h0, hl, endM (k := 0) (ver := 0) rfl rfl rfl rfl ?_ (strRefs l)⟩
  simp only [frzO]
  rw [map_frz_of PV.str fun _ => rfl]

def ctrCollectM : Ctr := fun args objs K => ∃ l : List (List UInt8), args = [.fn f_slices_Values_L_string_string__1 [] [.addr (encT l)]] ∧ l ≠ [] ∧ l.length ≤ 1000000 ∧ K (.osl objs.length 0) (objs ++ [⟨t_string, 1, l.map .str, true, 0⟩]) 2
theorem ctrCollectM_ok : CtrOk Tryd.prog f_slices_Collect_string_ ctrCollectM := by
  rintro args objs K ⟨l, rfl, h0, h1, hk⟩
  exact ⟨_, _, _, CallR.made (objs := objs) _ _ rfl (strRefs l) (collect_made l h0 h1), by simpa [PV.shift, PV.shiftS] using hk⟩

def ctrSortM : Ctr := fun args objs K => ∃ (k ver : Nat) (ss : List (List UInt8)), args = [.osl k ver] ∧ objs[k]? = some ⟨t_string, 1, ss.map .str, true, ver⟩ ∧ ss.length ≤ 1000000 ∧ K (.tup []) (objs.set k ⟨t_string, 1, (sortS ss).map .str, true, ver⟩) 2
theorem ctrSortM_ok : CtrOk Tryd.prog f_slices_Sort_L_string_string_ ctrSortM := by
  rintro args objs K ⟨k, ver, ss, rfl, h1, h2, hk⟩
  exact ⟨_, _, _, .used _ _ (sort_use ss h1 h2), hk⟩

theorem collect_nil : FnSpec Tryd.prog f_slices_Collect_string_ [.fn f_slices_Values_L_string_string__1 [] [.addr (encT [])]] [] (.sl 0 [] (some true)) [] := by
  refine k_slices_Collect_string_.pureG (T := tabL Tryd.prog [(f_slices_AppendSeq_L_string_string_, ctrAppSeq0)]) 0 hD (kOk_tabL (tabOk_cons ctrAppSeq0_ok tabOk_nil)) hmix (by decide) fun Q hQ => ?_
  try simp only [F_all]
  simp (maxSteps := 400000) only [↓preZ, postZ, coreZ, ↓preU, postU, D_all, F_all, unR, outL, onePV, binS, ↓binS, boundR, ↓boundR, fieldOf, ↓fieldOf, boxR, allocR, newObj, zeroElem, buildSliceR, appendR, setAll, storeR, St.freeze, makeSliceR, minmaxR, makeFuncR, BEq.rfl, reduceIte, reduceCtorEq, Nat.reduceLT, Nat.reduceAdd, Nat.reduceSub, Nat.reduceMul, Nat.reduceBEq, Nat.reduceLeDiff, Int.reduceToNat, Int.reduceLE, hQ, c_slices_Collect_string_, ↓ctrAppSeq0]
def ctrCollect0 : Ctr := fun args objs K => match args with
  | [a0] => a0 = (.fn f_slices_Values_L_string_string__1 [] [.addr (encT [])]) ∧ K (.sl 0 [] (some true)) objs 0
  | _ => False
theorem ctrCollect0_ok : CtrOk Tryd.prog f_slices_Collect_string_ (ctrCollect0) := by
  intro args objs K h
  unfold ctrCollect0 at h
  split at h
  · rename_i a0
    obtain ⟨rfl, hk⟩ := h
    exact ⟨_, _, _, .pure _ rfl (collect_nil), hk⟩
  · exact h.elim

theorem sortNil_spec : FnSpec Tryd.prog f_slices_Sort_L_string_string_ [.sl 0 [] (some true)] [] (.tup []) [] := by
  refine FnSpec.of_keep ⟨_, Tryd.lays190.f190, by kernel_rfl, by kernel_rfl⟩ fun w vs ok hg hr => ?_
  obtain ⟨u, rfl, h⟩ := rep1 hr
  have hu : u = .slice none 0 0 := by
    cases h with
    | slnil => rfl
    | slz _ _ hq => exact absurd rfl hq
    | sl _ _ _ hq => exact absurd rfl hq
  subst hu
  refine (Any.slices_Sort_string_none Tryd.lays190 none 0 w).mono ?_
  rintro e w' ⟨h1, rfl⟩
  exact ⟨_, h1, fun w ok => .tup _ _ rfl (fun i p v h => by simp at h), .refl _ _⟩

def ctrSort0 : Ctr := fun args objs K => match args with
  | [a0] => a0 = (.sl 0 [] (some true)) ∧ K (.tup []) objs 0
  | _ => False
theorem ctrSort0_ok : CtrOk Tryd.prog f_slices_Sort_L_string_string_ (ctrSort0) := by
  intro args objs K h
  unfold ctrSort0 at h
  split at h
  · rename_i a0
    obtain ⟨rfl, hk⟩ := h
    exact ⟨_, _, _, .pure _ rfl (sortNil_spec), hk⟩
  · exact h.elim

theorem sorted_spec (l : List (List UInt8)) (hl : l.length ≤ 1000000) : FnSpec Tryd.prog f_slices_Sorted_string_ [.fn f_slices_Values_L_string_string__1 [] [.addr (encT l)]] [] (encT (sortS l)) [] := by
  by_cases h0 : l = []
  · subst h0
    refine FnSpec.res (r := .sl 0 [] (some true)) ?_ (by have : sortS [] = [] := List.mergeSort_nil; rw [this]; exact tells_nil 0 1)
    refine k_slices_Sorted_string_.pureG (T := tabL Tryd.prog [(f_slices_Collect_string_, ctrCollect0), (f_slices_Sort_L_string_string_, ctrSort0)]) 0 hD (kOk_tabL (tabOk_cons ctrCollect0_ok (tabOk_cons ctrSort0_ok tabOk_nil))) hmix (by decide) fun Q hQ => ?_
    try simp only [F_all]
    simp (maxSteps := 400000) only [↓preZ, postZ, coreZ, ↓preU, postU, D_all, F_all, unR, outL, onePV, binS, ↓binS, boundR, ↓boundR, fieldOf, ↓fieldOf, boxR, allocR, newObj, zeroElem, buildSliceR, appendR, setAll, storeR, St.freeze, makeSliceR, minmaxR, makeFuncR, BEq.rfl, reduceIte, reduceCtorEq, Nat.reduceLT, Nat.reduceAdd, Nat.reduceSub, Nat.reduceMul, Nat.reduceBEq, Nat.reduceLeDiff, Int.reduceToNat, Int.reduceLE, hQ, c_slices_Sorted_string_, ↓ctrCollect0, ↓ctrSort0]
  refine k_slices_Sorted_string_.pureG (T := tabL Tryd.prog [(f_slices_Collect_string_, ctrCollectM), (f_slices_Sort_L_string_string_, ctrSortM)]) 1 hD (kOk_tabL (tabOk_cons ctrCollectM_ok (tabOk_cons ctrSortM_ok tabOk_nil))) hmix (by decide) fun Q hQ => ?_
  try simp only [F_all]
  simp (maxSteps := 400000) only [↓preZ, postZ, coreZ, ↓preU, postU, D_all, F_all, unR, outL, onePV, binS, ↓binS, boundR, ↓boundR, fieldOf, ↓fieldOf, boxR, allocR, newObj, zeroElem, buildSliceR, appendR, setAll, storeR, St.freeze, makeSliceR, minmaxR, makeFuncR, BEq.rfl, reduceIte, reduceCtorEq, Nat.reduceLT, Nat.reduceAdd, Nat.reduceSub, Nat.reduceMul, Nat.reduceBEq, Nat.reduceLeDiff, Int.reduceToNat, Int.reduceLE, hQ, c_slices_Sorted_string_, ↓ctrCollectM]
  refine ⟨l, rfl, h0, hl, ?_⟩
  simp (maxSteps := 400000) only [↓preZ, postZ, coreZ, ↓preU, postU, D_all, F_all, unR, outL, onePV, binS, ↓binS, boundR, ↓boundR, fieldOf, ↓fieldOf, boxR, allocR, newObj, zeroElem, buildSliceR, appendR, setAll, storeR, St.freeze, makeSliceR, minmaxR, makeFuncR, BEq.rfl, reduceIte, reduceCtorEq, Nat.reduceLT, Nat.reduceAdd, Nat.reduceSub, Nat.reduceMul, Nat.reduceBEq, Nat.reduceLeDiff, Int.reduceToNat, Int.reduceLE, hQ, ↓ctrSortM]
  refine ⟨0, 0, l, rfl, rfl, hl, ?_⟩
  simp only [List.set_cons_zero, frz, Nat.not_lt_zero, if_false, frzI, List.getElem?_cons_zero, Nat.le_refl, decide_true, Bool.true_and, beq_self_eq_true, if_true]
  rw [map_frz_of PV.str fun _ => rfl]
  rfl

def ctrSorted : Ctr := fun args objs K => match args with
  | [a0] => ofE encSeq a0 (HK.mk : HK fun l => (l.length ≤ 1000000) ∧ K (encT (sortS l)) objs 0)
  | _ => False
theorem ctrSorted_ok : CtrOk Tryd.prog f_slices_Sorted_string_ (ctrSorted) := by
  intro args objs K h
  unfold ctrSorted at h
  split at h
  · rename_i a0
    obtain ⟨l, rfl, h1, hk⟩ := h
    exact ⟨_, _, _, .pure _ rfl (sorted_spec l h1), hk⟩
  · exact h.elim
end Lp

/-! LpD12 -/

namespace Lp
open Go Go.Proofs

set_option maxHeartbeats 4000000
set_option maxRecDepth 20000
set_option linter.unusedSimpArgs false

def encP (x : List UInt8 × Vl) : PV := .agg [.str x.1, encV x.2]
def mapO (q : Prs) : Obj := ⟨MT, 2, q.map encP, true, 1⟩

/-- What is asked of maps, and written. -/
theorem opsM (P : Program) (D : TypeId → TInfo) (T : Know) (w pt : Bool) (ev : Operand → PV) (objs : List Obj) (K : KT) :
    (∀ t x ix ok, opT P D T w pt ev objs (.lookup t x ix ok) K = lookupR D t (ev x) (ev ix) ok objs K) ∧
    (∀ t x y z, opT P D T w pt ev objs (.mapUpdate t x y z) K = mapUpdateR D t (ev x) (ev y) (ev z) objs K) ∧
    (∀ t, opT P D T w pt ev objs (.makeMap t none) K = makeMapR D t objs K) := ⟨fun _ _ _ _ => rfl, fun _ _ _ _ => rfl, fun _ => rfl⟩

theorem foundR (ti : TInfo) : (∀ i v, found ti (some (i, v)) true = .tup [v, .bool true]) ∧ (∀ i v, found ti (some (i, v)) false = v) ∧ (found ti none true = .tup [zeroElem ti, .bool false]) ∧ (found ti none false = zeroElem ti) := ⟨fun _ _ => rfl, fun _ _ => rfl, rfl, rfl⟩

theorem mfind_none {nm : List UInt8} : ∀ (q : Prs) (i : Nat), nm ∉ q.map (·.1) → mfind .str (.str nm) (q.map encP) i = some none
  | [], _, _ => rfl
  | x :: q, i, h => by
    simp only [List.map_cons, List.mem_cons, not_or] at h
    have : keq .str (.str nm) (.str x.1) = some false := by simp [keq, h.1]
    simp only [List.map_cons, encP, mfind, this]
    exact mfind_none q (i + 1) h.2

theorem mfind_some {nm : List UInt8} {v : Vl} : ∀ (q : Prs) (i : Nat), getP q nm = some v → ∃ j, mfind .str (.str nm) (q.map encP) i = some (some (j, encV v))
  | [], _, h => by simp [getP] at h
  | x :: q, i, h => by
    by_cases e : x.1 = nm
    · have hk : keq .str (.str nm) (.str x.1) = some true := by simp [keq, e]
      have hv : x.2 = v := by simpa [getP, e] using h
      refine ⟨i, ?_⟩
      simp only [List.map_cons, encP, mfind, hk, hv]
    · have hk : keq .str (.str nm) (.str x.1) = some false := by simp [keq]; exact fun h => e h.symm
      have h' : getP q nm = some v := by simpa [getP, e] using h
      obtain ⟨j, hj⟩ := mfind_some q (i + 1) h'
      refine ⟨j, ?_⟩
      simp only [List.map_cons, encP, mfind, hk]
      exact hj

/-- Texts sorted, each with what is its own. -/
theorem srt_lookup {names : List (List UInt8)} {l : List Vl} (h : namesOk names l.length = true) : ((sortS names).map fun nm => (nm, (getP (names.zip l) nm).getD [])) = srtP (names.zip l) ∧ ∀ nm ∈ names, ∃ v, getP (names.zip l) nm = some v ∧ v ∈ l := by
  obtain ⟨h1, h2, h3⟩ := namesOk_iff.1 h
  have hfst : (names.zip l).map (·.1) = names := List.map_fst_zip (by omega)
  have hget : ∀ nm ∈ names, ∃ v, getP (names.zip l) nm = some v ∧ v ∈ l := fun nm hm => by
    cases hg : getP (names.zip l) nm with
    | none => rw [getP_none, hfst] at hg; exact absurd hm hg
    | some v => exact ⟨v, rfl, (List.of_mem_zip (getP_some hg)).2⟩
  refine ⟨srtP_unique h ?_ fun x => ?_, hget⟩
  · rw [List.map_map]
    have : (Prod.fst ∘ fun nm => (nm, (getP (names.zip l) nm).getD [])) = id := rfl
    show Rise (List.map (Prod.fst ∘ fun nm => (nm, (getP (names.zip l) nm).getD [])) (sortS names))
    rw [this, List.map_id]
    exact sortS_rise h2
  · constructor
    · intro hx
      obtain ⟨nm, hn, rfl⟩ := List.mem_map.1 hx
      obtain ⟨v, hv, _⟩ := hget nm ((sortS_perm names).mem_iff.1 hn)
      rw [hv]
      exact getP_some hv
    · intro hx
      have hg := mem_getP (by rw [hfst]; exact h2) hx
      refine List.mem_map.2 ⟨x.1, (sortS_perm names).mem_iff.2 (by rw [← hfst]; exact List.mem_map.2 ⟨x, hx, rfl⟩), ?_⟩
      rw [hg]; rfl

theorem laid0_spec : FnSpec Tryd.prog f_val_laid [encT [], .sl 0 [] (some true)] [] (encV (layV [] [])) [] :=
  (laid_spec [] [] rfl (by simp) (by simp) (by simp)).arg rfl fun i p q hp hq => by
    match i, hp, hq with
    | 0, hp, hq => cases hp; cases hq; exact .refl _
    | 1, hp, hq => cases hp; cases hq; exact tells_nil 0 1
    | _ + 2, hp, _ => simp at hp

def ctrLaid0 : Ctr := fun args objs K => match args with
  | [a0, a1] => a0 = (encT []) ∧ a1 = (.sl 0 [] (some true)) ∧ K (encV (layV [] [])) objs 0
  | _ => False
theorem ctrLaid0_ok : CtrOk Tryd.prog f_val_laid (ctrLaid0) := by
  intro args objs K h
  unfold ctrLaid0 at h
  split at h
  · rename_i a0 a1
    obtain ⟨rfl, rfl, hk⟩ := h
    exact ⟨_, _, _, .pure _ rfl (laid0_spec), hk⟩
  · exact h.elim

theorem valObject_spec (names : List (List UInt8)) (l : List Vl) (hn : names.length ≤ 1000000) (hb : l.flatten.length ≤ 1000000) (hne : ∀ v ∈ l, v ≠ []) (htx : ∀ s ∈ names, s.length ≤ 4611686018427387904) : FnSpec Tryd.prog f_val_Object [encT names, encL l] [] (objR names l) [] := by
  by_cases hp : names.length = l.length
  rotate_left 1
  · skip
    refine k_val_Object.pureG2 (T := tabL Tryd.prog []) 1 hD (kOk_tabL tabOk_nil) hmix (by decide) (by decide) fun Q hQ => ?_
    try simp only [F_all]
    have hl' : ((names.length : Int) = (l.length : Int)) = False := eq_false (by omega)
    have hr : objR names l = .tup [.sl 0 [] (some true), .int .i64 4] := by
      have : namesOk names l.length = false := by simp [namesOk, hp]
      simp [objR, this]
    simp (maxSteps := 400000) only [↓preZ, postZ, coreZ, ↓preU, postU, D_all, F_all, unR, outL, onePV, binS, ↓binS, boundR, ↓boundR, fieldOf, ↓fieldOf, boxR, allocR, newObj, zeroElem, buildSliceR, appendR, setAll, storeR, St.freeze, makeSliceR, minmaxR, makeFuncR, BEq.rfl, reduceIte, reduceCtorEq, Nat.reduceLT, Nat.reduceAdd, Nat.reduceSub, Nat.reduceMul, Nat.reduceBEq, Nat.reduceLeDiff, Int.reduceToNat, Int.reduceLE, hQ, c_val_Object, hl', hr]
  have hl' : ((names.length : Int) = (l.length : Int)) = True := eq_true (by omega)
  cases names with
  | nil =>
    have hl0 : l = [] := List.length_eq_zero_iff.1 (by simpa using hp.symm)
    subst hl0
    have hss : sortS [] = [] := List.mergeSort_nil
    refine k_val_Object.pureG2 (T := tabL Tryd.prog [(f_unicode_utf8_ValidString, ctrValidS), (f_slices_Values_L_string_string_, ctrValues), (f_slices_Sorted_string_, ctrSorted), (f_val_laid, ctrLaid0)]) 1 hD (kOk_tabL (tabOk_cons ctrValidS_ok (tabOk_cons ctrValues_ok (tabOk_cons ctrSorted_ok (tabOk_cons ctrLaid0_ok tabOk_nil))))) hmix (by decide) (by decide) fun Q hQ => ?_
    try simp only [F_all]
    have h00 : (((0 : Nat) : Int) < ((0 : Nat) : Int)) = False := eq_false (by omega)
    simp (maxSteps := 400000) only [↓preZ, postZ, coreZ, ↓preU, postU, D_all, F_all, unR, outL, onePV, binS, ↓binS, boundR, ↓boundR, fieldOf, ↓fieldOf, boxR, allocR, newObj, zeroElem, buildSliceR, appendR, setAll, storeR, St.freeze, makeSliceR, minmaxR, makeFuncR, BEq.rfl, reduceIte, reduceCtorEq, Nat.reduceLT, Nat.reduceAdd, Nat.reduceSub, Nat.reduceMul, Nat.reduceBEq, Nat.reduceLeDiff, Int.reduceToNat, Int.reduceLE, hQ, c_val_Object, hl', ↓opsM, makeMapR]
    refine wpc_loop (fun m S => S = ⟨tmA 66 [(0, encT []), (1, encL []), (6, .omp 0 1), (21, encT []), (22, .int .i64 (0 : Nat)), (23, .int .i64 0)], [mapO []]⟩) 0 ?_ ?_
    · simp only [normR, keepR, Nat.reduceAdd, lkR, Nat.reduceBEq, F_all, List.map_nil]
      rfl
    rintro m S rfl
    have h01 : ((0 : Int) < ((0 : Nat) : Int)) = False := eq_false (by omega)
    simp (maxSteps := 400000) only [↓preZ, postZ, coreZ, ↓preU, postU, D_all, F_all, unR, outL, onePV, binS, ↓binS, boundR, ↓boundR, fieldOf, ↓fieldOf, boxR, allocR, newObj, zeroElem, buildSliceR, appendR, setAll, storeR, St.freeze, makeSliceR, minmaxR, makeFuncR, BEq.rfl, reduceIte, reduceCtorEq, Nat.reduceLT, Nat.reduceAdd, Nat.reduceSub, Nat.reduceMul, Nat.reduceBEq, Nat.reduceLeDiff, Int.reduceToNat, Int.reduceLE, hQ, h01, ↓ctrValues, ↓ctrSorted, seqB, hss]
    refine wpc_loop (fun m S => S = ⟨tmA 66 [(6, .omp 0 1), (11, encT []), (12, .sl 0 [] (some true)), (50, encT []), (51, .int .i64 (0 : Nat)), (52, .int .i64 0)], [mapO []]⟩) 0 ?_ ?_
    · simp only [normR, keepR, Nat.reduceAdd, lkR, Nat.reduceBEq, F_all, List.map_nil]
    rintro m' S rfl
    simp (maxSteps := 400000) only [↓preZ, postZ, coreZ, ↓preU, postU, D_all, F_all, unR, outL, onePV, binS, ↓binS, boundR, ↓boundR, fieldOf, ↓fieldOf, boxR, allocR, newObj, zeroElem, buildSliceR, appendR, setAll, storeR, St.freeze, makeSliceR, minmaxR, makeFuncR, BEq.rfl, reduceIte, reduceCtorEq, Nat.reduceLT, Nat.reduceAdd, Nat.reduceSub, Nat.reduceMul, Nat.reduceBEq, Nat.reduceLeDiff, Int.reduceToNat, Int.reduceLE, hQ, h01]
    refine wpc_weak _ (Weak.freeze 1 0 (Nat.zero_le _) _) ?_
    simp (maxSteps := 400000) only [↓preZ, postZ, coreZ, ↓preU, postU, D_all, F_all, unR, outL, onePV, binS, ↓binS, boundR, ↓boundR, fieldOf, ↓fieldOf, boxR, allocR, newObj, zeroElem, buildSliceR, appendR, setAll, storeR, St.freeze, makeSliceR, minmaxR, makeFuncR, BEq.rfl, reduceIte, reduceCtorEq, Nat.reduceLT, Nat.reduceAdd, Nat.reduceSub, Nat.reduceMul, Nat.reduceBEq, Nat.reduceLeDiff, Int.reduceToNat, Int.reduceLE, hQ, ↓ctrLaid0]
    rfl
  | cons nm0 nms =>
  generalize hnms : nm0 :: nms = names at *
  have hn0 : 0 < names.length := by rw [← hnms]; simp
  refine k_val_Object.pureG2 (T := tabL Tryd.prog [(f_unicode_utf8_ValidString, ctrValidS), (f_slices_Values_L_string_string_, ctrValues), (f_slices_Sorted_string_, ctrSorted), (f_val_laid, ctrLaid)]) 1 hD (kOk_tabL (tabOk_cons ctrValidS_ok (tabOk_cons ctrValues_ok (tabOk_cons ctrSorted_ok (tabOk_cons ctrLaid_ok tabOk_nil))))) hmix (by decide) (by decide) fun Q hQ => ?_
  try simp only [F_all]
  simp (maxSteps := 400000) only [↓preZ, postZ, coreZ, ↓preU, postU, D_all, F_all, unR, outL, onePV, binS, ↓binS, boundR, ↓boundR, fieldOf, ↓fieldOf, boxR, allocR, newObj, zeroElem, buildSliceR, appendR, setAll, storeR, St.freeze, makeSliceR, minmaxR, makeFuncR, BEq.rfl, reduceIte, reduceCtorEq, Nat.reduceLT, Nat.reduceAdd, Nat.reduceSub, Nat.reduceMul, Nat.reduceBEq, Nat.reduceLeDiff, Int.reduceToNat, Int.reduceLE, hQ, c_val_Object, hl', ↓opsM, makeMapR]
  refine wpc_loop (fun m S => ∃ i : Nat, i + m = names.length ∧ (names.take i).Nodup ∧ (∀ x ∈ names.take i, utf x = true) ∧ S = ⟨tmA 66 [(0, encT names), (1, encL l), (6, .omp 0 1), (21, encT names), (22, .int .i64 names.length), (23, .int .i64 i)], [mapO ((names.zip l).take i)]⟩) names.length ⟨0, by omega, by simp, by simp, ?_⟩ ?_
  · simp only [normR, keepR, Nat.reduceAdd, lkR, Nat.reduceBEq, F_all, List.map_nil]
    rfl
  rintro m S ⟨i, him, hnd, hut, rfl⟩
  rcases Nat.lt_or_ge i names.length with h | h
  · have hlt : ((i : Int) < (names.length : Int)) = True := eq_true (by omega)
    have zi : (0 ≤ (i : Int)) = True := eq_true (by omega)
    have hgi := List.getElem?_eq_getElem h
    have hgl : l[i]? = some (l[i]'(by omega)) := List.getElem?_eq_getElem _
    have hx := htx _ (List.getElem_mem h)
    generalize names[i] = nm at hgi hx
    generalize l[i]'(by omega) = v at hgl
    have hgz : (names.zip l)[i]? = some (nm, v) := by rw [List.getElem?_zip_eq_some]; exact ⟨hgi, hgl⟩
    have htk : names.take (i + 1) = names.take i ++ [nm] := by rw [List.take_add_one, hgi]; rfl
    have htz : (names.zip l).take (i + 1) = (names.zip l).take i ++ [(nm, v)] := by rw [List.take_add_one, hgz]; rfl
    have hfst : ((names.zip l).take i).map (·.1) = names.take i := by rw [List.map_take, List.map_fst_zip (by omega)]
    by_cases hin : nm ∈ names.take i
    · have hr : objR names l = .tup [.sl 0 [] (some true), .int .i64 4] := by
        have : namesOk names l.length = false := by
          cases hh : namesOk names l.length with
          | false => rfl
          | true =>
            have := (namesOk_iff.1 hh).2.1
            have h2 : (names.take (i + 1)).Nodup := List.Pairwise.sublist (List.take_sublist _ _) this
            rw [htk, List.nodup_append] at h2
            exact absurd rfl (h2.2.2 nm hin nm (by simp))
        simp [objR, this]
      obtain ⟨v', hv'⟩ : ∃ v', getP ((names.zip l).take i) nm = some v' := by
        cases hg : getP ((names.zip l).take i) nm with
        | none => rw [getP_none, hfst] at hg; exact absurd hin hg
        | some v' => exact ⟨v', rfl⟩
      obtain ⟨j, hj⟩ := mfind_some _ 0 hv'
      unfold mapO
      simp (maxSteps := 400000) only [↓preZ, postZ, coreZ, ↓preU, postU, D_all, F_all, unR, outL, onePV, binS, ↓binS, boundR, ↓boundR, fieldOf, ↓fieldOf, boxR, allocR, newObj, zeroElem, buildSliceR, appendR, setAll, storeR, St.freeze, makeSliceR, minmaxR, makeFuncR, BEq.rfl, reduceIte, reduceCtorEq, Nat.reduceLT, Nat.reduceAdd, Nat.reduceSub, Nat.reduceMul, Nat.reduceBEq, Nat.reduceLeDiff, Int.reduceToNat, Int.reduceLE, hQ, hlt, zi, hgi, hr, ↓opsM, lookupR, hj, foundR, extractR, true_or]
    · have hmf := mfind_none ((names.zip l).take i) 0 (by rw [hfst]; exact hin)
      cases hu : utf nm
      · have hr : objR names l = .tup [.sl 0 [] (some true), .int .i64 4] := by simp [objR, not_utf hgi hu]
        unfold mapO
        simp (maxSteps := 400000) only [↓preZ, postZ, coreZ, ↓preU, postU, D_all, F_all, unR, outL, onePV, binS, ↓binS, boundR, ↓boundR, fieldOf, ↓fieldOf, boxR, allocR, newObj, zeroElem, buildSliceR, appendR, setAll, storeR, St.freeze, makeSliceR, minmaxR, makeFuncR, BEq.rfl, reduceIte, reduceCtorEq, Nat.reduceLT, Nat.reduceAdd, Nat.reduceSub, Nat.reduceMul, Nat.reduceBEq, Nat.reduceLeDiff, Int.reduceToNat, Int.reduceLE, hQ, hlt, zi, hgi, hr, ↓ctrValidS, hu, ↓opsM, lookupR, hmf, foundR, extractR, true_or]
        exact hx
      · unfold mapO
        simp (maxSteps := 400000) only [↓preZ, postZ, coreZ, ↓preU, postU, D_all, F_all, unR, outL, onePV, binS, ↓binS, boundR, ↓boundR, fieldOf, ↓fieldOf, boxR, allocR, newObj, zeroElem, buildSliceR, appendR, setAll, storeR, St.freeze, makeSliceR, minmaxR, makeFuncR, BEq.rfl, reduceIte, reduceCtorEq, Nat.reduceLT, Nat.reduceAdd, Nat.reduceSub, Nat.reduceMul, Nat.reduceBEq, Nat.reduceLeDiff, Int.reduceToNat, Int.reduceLE, hQ, hlt, zi, hgi, hgl, ↓ctrValidS, hu, ↓opsM, lookupR, mapUpdateR, hmf, foundR, extractR, true_or, mput]
        refine ⟨hx, ⟨by omega, by omega⟩, m - 1, by omega, i + 1, by omega, ?_, fun x hx => ?_, ?_⟩
        · rw [htk, List.nodup_append]
          refine ⟨hnd, by simp, fun a ha b hb => ?_⟩
          simp only [List.mem_singleton] at hb
          subst hb
          rintro rfl; exact hin ha
        · rw [htk] at hx
          rcases List.mem_append.1 hx with hx | hx
          · exact hut x hx
          · simp only [List.mem_singleton] at hx
            subst hx; exact hu
        · rw [htz, List.map_append]; rfl
  have hlt : ((i : Int) < (names.length : Int)) = False := eq_false (by omega)
  rw [List.take_of_length_le h] at hnd hut
  have hok : namesOk names l.length = true := namesOk_iff.2 ⟨hp, hnd, hut⟩
  have htz : (names.zip l).take i = names.zip l := List.take_of_length_le (by simp; omega)
  rw [htz]
  obtain ⟨hsrt, hget⟩ := srt_lookup hok
  unfold mapO
  simp (maxSteps := 400000) only [↓preZ, postZ, coreZ, ↓preU, postU, D_all, F_all, unR, outL, onePV, binS, ↓binS, boundR, ↓boundR, fieldOf, ↓fieldOf, boxR, allocR, newObj, zeroElem, buildSliceR, appendR, setAll, storeR, St.freeze, makeSliceR, minmaxR, makeFuncR, BEq.rfl, reduceIte, reduceCtorEq, Nat.reduceLT, Nat.reduceAdd, Nat.reduceSub, Nat.reduceMul, Nat.reduceBEq, Nat.reduceLeDiff, Int.reduceToNat, Int.reduceLE, hQ, hlt, ↓ctrValues, ↓ctrSorted, seqB]
  refine ⟨by omega, ?_⟩
  have hsl : (sortS names).length = names.length := sortS_length names
  have hsm : ∀ nm ∈ sortS names, nm ∈ names := fun nm h => (sortS_perm names).mem_iff.1 h
  generalize sortS names = ss at *
  obtain ⟨P, hP⟩ : ∃ P : List UInt8 → Vl, P = fun nm => (getP (names.zip l) nm).getD [] := ⟨_, rfl⟩
  refine wpc_loop (fun m S => ∃ j : Nat, j + m = names.length ∧ ((j = 0 ∧ S = ⟨tmA 66 [(6, .omp 0 1), (11, encT ss), (12, .sl 0 [] (some true)), (50, encT ss), (51, .int .i64 ss.length), (52, .int .i64 j)], [mapO (names.zip l)]⟩) ∨
    (0 < j ∧ ∃ ver, S = ⟨tmA 66 [(6, .omp 0 1), (11, encT ss), (12, .osl 1 ver), (50, encT ss), (51, .int .i64 ss.length), (52, .int .i64 j)], [mapO (names.zip l), ⟨t_api_Val, 1, ((ss.take j).map P).map encV, true, ver⟩]⟩))) names.length ⟨0, by omega, .inl ⟨rfl, ?_⟩⟩ ?_
  · simp only [normR, keepR, Nat.reduceAdd, lkR, Nat.reduceBEq, F_all, List.map_nil]
    rfl
  rintro m' S ⟨j, hjm, hS⟩
  rcases Nat.lt_or_ge j ss.length with h' | h'
  · have hlt : ((j : Int) < (ss.length : Int)) = True := eq_true (by omega)
    have zj : (0 ≤ (j : Int)) = True := eq_true (by omega)
    have hgj := List.getElem?_eq_getElem h'
    have hm := hsm _ (List.getElem_mem h')
    generalize ss[j] = nm at hgj hm
    have htk : ss.take (j + 1) = ss.take j ++ [nm] := by rw [List.take_add_one, hgj]; rfl
    obtain ⟨v, hv, hvl⟩ := hget nm hm
    obtain ⟨j2, hj2⟩ := mfind_some _ 0 hv
    have hPv : P nm = v := by rw [hP]; simp [hv]
    rcases hS with ⟨rfl, rfl⟩ | ⟨h0, ver, rfl⟩
    · unfold mapO
      simp (maxSteps := 400000) only [↓preZ, postZ, coreZ, ↓preU, postU, D_all, F_all, unR, outL, onePV, binS, ↓binS, boundR, ↓boundR, fieldOf, ↓fieldOf, boxR, allocR, newObj, zeroElem, buildSliceR, appendR, setAll, storeR, St.freeze, makeSliceR, minmaxR, makeFuncR, BEq.rfl, reduceIte, reduceCtorEq, Nat.reduceLT, Nat.reduceAdd, Nat.reduceSub, Nat.reduceMul, Nat.reduceBEq, Nat.reduceLeDiff, Int.reduceToNat, Int.reduceLE, hQ, hlt, zj, hgj, ↓opsM, lookupR, hj2, foundR, true_or]
      refine ⟨⟨by omega, by omega⟩, m' - 1, by omega, 1, by omega, .inr ⟨by omega, 1, ?_⟩⟩
      rw [show ss.take 1 = [nm] from htk, List.map_cons, hPv]
      rfl
    · unfold mapO
      simp (maxSteps := 400000) only [↓preZ, postZ, coreZ, ↓preU, postU, D_all, F_all, unR, outL, onePV, binS, ↓binS, boundR, ↓boundR, fieldOf, ↓fieldOf, boxR, allocR, newObj, zeroElem, buildSliceR, appendR, setAll, storeR, St.freeze, makeSliceR, minmaxR, makeFuncR, BEq.rfl, reduceIte, reduceCtorEq, Nat.reduceLT, Nat.reduceAdd, Nat.reduceSub, Nat.reduceMul, Nat.reduceBEq, Nat.reduceLeDiff, Int.reduceToNat, Int.reduceLE, hQ, hlt, zj, hgj, ↓opsM, lookupR, hj2, foundR, true_or]
      have := List.length_take_le j ss
      refine ⟨by omega, by omega, ⟨by omega, by omega⟩, m' - 1, by omega, j + 1, by omega, .inr ⟨by omega, ver + 1, ?_⟩⟩
      rw [htk, List.map_append (f := P), List.map_append, List.map_cons, hPv]
      rfl
  have hlt : ((j : Int) < (ss.length : Int)) = False := eq_false (by omega)
  rcases hS with ⟨rfl, rfl⟩ | ⟨h0, ver, rfl⟩
  · omega
  simp (maxSteps := 400000) only [↓preZ, postZ, coreZ, ↓preU, postU, D_all, F_all, unR, outL, onePV, binS, ↓binS, boundR, ↓boundR, fieldOf, ↓fieldOf, boxR, allocR, newObj, zeroElem, buildSliceR, appendR, setAll, storeR, St.freeze, makeSliceR, minmaxR, makeFuncR, BEq.rfl, reduceIte, reduceCtorEq, Nat.reduceLT, Nat.reduceAdd, Nat.reduceSub, Nat.reduceMul, Nat.reduceBEq, Nat.reduceLeDiff, Int.reduceToNat, Int.reduceLE, hQ, hlt]
  refine wpc_weak _ (Weak.freeze 1 0 (Nat.zero_le _) _) ?_
  have f2 : ∀ x : Obj, frz 1 0 [x, ⟨t_api_Val, 1, List.map encV ((ss.take j).map P), true, ver⟩] (.osl 1 ver) = encL (ss.map P) := fun x => by
    simp only [frz, Nat.not_lt_zero, if_false, frzI, List.getElem?_cons_succ, List.getElem?_cons_zero, Nat.zero_le, decide_true, Bool.true_and, beq_self_eq_true, if_true]
    rw [map_frz_of encV fun _ => rfl, List.take_of_length_le h']; rfl
  have hq : (ss.map fun nm => (nm, P nm)) = srtP (names.zip l) := by rw [hP]; exact hsrt
  have hr : objR names l = .tup [encV (layV ss (ss.map P)), .int .i64 0] := by
    have e : layV ss (ss.map P) = mkO (ss.map fun nm => (nm, P nm)) := by
      rw [← layV_mkO, List.map_map, List.map_map]
      congr 1
      exact (List.map_id ss).symm
    rw [e, hq]
    simp [objR, objVal, hok]
  have hsn : ss.map P = (srtP (names.zip l)).map (·.2) := by
    rw [← hq, List.map_map]; rfl
  simp (maxSteps := 400000) only [↓preZ, postZ, coreZ, ↓preU, postU, D_all, F_all, unR, outL, onePV, binS, ↓binS, boundR, ↓boundR, fieldOf, ↓fieldOf, boxR, allocR, newObj, zeroElem, buildSliceR, appendR, setAll, storeR, St.freeze, makeSliceR, minmaxR, makeFuncR, BEq.rfl, reduceIte, reduceCtorEq, Nat.reduceLT, Nat.reduceAdd, Nat.reduceSub, Nat.reduceMul, Nat.reduceBEq, Nat.reduceLeDiff, Int.reduceToNat, Int.reduceLE, hQ, ↓ctrLaid, f2]
  refine ⟨by omega, by rw [hsn, srtP_flat hp]; exact hb, fun v hv => ?_, hr⟩
  obtain ⟨nm, hn, rfl⟩ := List.mem_map.1 hv
  obtain ⟨v, hv, hvl⟩ := hget nm (hsm nm hn)
  have hPv : P nm = v := by rw [hP]; simp [hv]
  rw [hPv]
  exact hne v hvl
theorem valObject_spec' (names : List (List UInt8)) (l : List Vl) (hn : names.length ≤ 1000000) (hb : l.flatten.length ≤ 1000000) (hne : ∀ v ∈ l, v ≠ []) (htx : ∀ s ∈ names, s.length ≤ 4611686018427387904) :
    FnSpec Tryd.prog f_val_Object [encT names, encL l] [] (.tup [encV (objVal names l), .int .i64 (objErr names l)]) [] :=
  (valObject_spec names l hn hb hne htx).res (objR_tells names l)

def ctrValObject : Ctr := fun args objs K => match args with
  | [a0, a1] => ofE encT a0 (HK.mk : HK fun names => ofE encL a1 (HK.mk : HK fun l => (names.length ≤ 1000000) ∧ (l.flatten.length ≤ 1000000) ∧ (∀ v ∈ l, v ≠ []) ∧ (∀ s ∈ names, s.length ≤ 4611686018427387904) ∧ K (.tup [encV (objVal names l), .int .i64 (objErr names l)]) objs 0))
  | _ => False
theorem ctrValObject_ok : CtrOk Tryd.prog f_val_Object (ctrValObject) := by
  intro args objs K h
  unfold ctrValObject at h
  split at h
  · rename_i a0 a1
    obtain ⟨names, rfl, l, rfl, h1, h2, h3, h4, hk⟩ := h
    exact ⟨_, _, _, .pure _ rfl (valObject_spec' names l h1 h2 h3 h4), hk⟩
  · exact h.elim
end Lp

/-! LpD7 -/

namespace Lp
open Go Go.Proofs

set_option maxHeartbeats 4000000
set_option maxRecDepth 20000
set_option linter.unusedSimpArgs false

def powB (m e : Int) : Bool := decide (-1000 ≤ e) && decide (e ≤ 1000) && decide (m + e ≤ 1000)

theorem isPower_spec (m e : Int) (hm : 0 ≤ m ∧ m ≤ 1000000) : FnSpec Tryd.prog f_num_isPower [.int .i64 m, .int .i64 e] [] (.bool (powB m e)) [] := by
  refine k_num_isPower.pureG (T := tabL Tryd.prog []) 0 hD (kOk_tabL tabOk_nil) hmix (by decide) fun Q hQ => ?_
  try simp only [F_all]
  rcases tf (-1000 ≤ e) with h1 | h1
  rotate_left 1
  · have hr : powB m e = false := by have : ¬ (-1000 ≤ e) := fun h => by rw [h1] at h; exact h
                                     simp [powB, this]
    simp (maxSteps := 400000) only [↓preZ, postZ, coreZ, ↓preU, postU, D_all, F_all, unR, outL, onePV, binS, ↓binS, boundR, ↓boundR, fieldOf, ↓fieldOf, boxR, allocR, newObj, zeroElem, buildSliceR, appendR, setAll, storeR, St.freeze, makeSliceR, minmaxR, makeFuncR, BEq.rfl, reduceIte, reduceCtorEq, Nat.reduceLT, Nat.reduceAdd, Nat.reduceSub, Nat.reduceMul, Nat.reduceBEq, Nat.reduceLeDiff, Int.reduceToNat, Int.reduceLE, hQ, c_num_isPower, h1, hr]
  rcases tf (e ≤ 1000) with h2 | h2
  rotate_left 1
  · have hr : powB m e = false := by have : ¬ (e ≤ 1000) := fun h => by rw [h2] at h; exact h
                                     simp [powB, this]
    simp (maxSteps := 400000) only [↓preZ, postZ, coreZ, ↓preU, postU, D_all, F_all, unR, outL, onePV, binS, ↓binS, boundR, ↓boundR, fieldOf, ↓fieldOf, boxR, allocR, newObj, zeroElem, buildSliceR, appendR, setAll, storeR, St.freeze, makeSliceR, minmaxR, makeFuncR, BEq.rfl, reduceIte, reduceCtorEq, Nat.reduceLT, Nat.reduceAdd, Nat.reduceSub, Nat.reduceMul, Nat.reduceBEq, Nat.reduceLeDiff, Int.reduceToNat, Int.reduceLE, hQ, c_num_isPower, h1, h2, hr]
  have h1' := of_eq_true h1
  have h2' := of_eq_true h2
  have hr : powB m e = decide (m + e ≤ 1000) := by simp [powB, h1', h2']
  simp (maxSteps := 400000) only [↓preZ, postZ, coreZ, ↓preU, postU, D_all, F_all, unR, outL, onePV, binS, ↓binS, boundR, ↓boundR, fieldOf, ↓fieldOf, boxR, allocR, newObj, zeroElem, buildSliceR, appendR, setAll, storeR, St.freeze, makeSliceR, minmaxR, makeFuncR, BEq.rfl, reduceIte, reduceCtorEq, Nat.reduceLT, Nat.reduceAdd, Nat.reduceSub, Nat.reduceMul, Nat.reduceBEq, Nat.reduceLeDiff, Int.reduceToNat, Int.reduceLE, hQ, c_num_isPower, h1, h2, hr]
  exact ⟨by omega, by omega⟩

def ctrIsPower : Ctr := fun args objs K => match args with
  | [.int .i64 m, .int .i64 e] => (0 ≤ m ∧ m ≤ 1000000) ∧ K (.bool (powB m e)) objs 0
  | _ => False
theorem ctrIsPower_ok : CtrOk Tryd.prog f_num_isPower (ctrIsPower) := by
  intro args objs K h
  unfold ctrIsPower at h
  split at h
  · rename_i m e
    obtain ⟨h1, hk⟩ := h
    exact ⟨_, _, _, .pure _ rfl (isPower_spec m e h1), hk⟩
  · exact h.elim

theorem isFigures_spec (s : List UInt8) (hs : s.length ≤ 4611686018427387904) : FnSpec Tryd.prog f_num_isFigures [.str s] [] (.bool (figs s)) [] := by
  refine k_num_isFigures.pureG (T := tabL Tryd.prog [(f_strings_TrimFunc, ctrTrimFig)]) 0 hD (kOk_tabL (tabOk_cons ctrTrimFig_ok tabOk_nil)) hmix (by decide) fun Q hQ => ?_
  try simp only [F_all]
  have hf := trimF_figs s
  simp (maxSteps := 400000) only [↓preZ, postZ, coreZ, ↓preU, postU, D_all, F_all, unR, outL, onePV, binS, ↓binS, boundR, ↓boundR, fieldOf, ↓fieldOf, boxR, allocR, newObj, zeroElem, buildSliceR, appendR, setAll, storeR, St.freeze, makeSliceR, minmaxR, makeFuncR, BEq.rfl, reduceIte, reduceCtorEq, Nat.reduceLT, Nat.reduceAdd, Nat.reduceSub, Nat.reduceMul, Nat.reduceBEq, Nat.reduceLeDiff, Int.reduceToNat, Int.reduceLE, hQ, c_num_isFigures, ↓ctrTrimFig]
  refine ⟨hs, ?_⟩
  rw [Bool.eq_iff_iff, ← hf, decide_eq_true_iff]
  constructor
  · intro h; rw [h]
  · intro h
    generalize Lib.trimF figP ⟨⟨s⟩⟩ = t at h
    obtain ⟨⟨t⟩⟩ := t
    have h' : t = [] := h
    rw [h']

def ctrIsFigures : Ctr := fun args objs K => match args with
  | [.str s] => (s.length ≤ 4611686018427387904) ∧ K (.bool (figs s)) objs 0
  | _ => False
theorem ctrIsFigures_ok : CtrOk Tryd.prog f_num_isFigures (ctrIsFigures) := by
  intro args objs K h
  unfold ctrIsFigures at h
  split at h
  · rename_i s
    obtain ⟨h1, hk⟩ := h
    exact ⟨_, _, _, .pure _ rfl (isFigures_spec s h1), hk⟩
  · exact h.elim

theorem numR_spec (n : Nd) (hk : n.kind = 3) (hn : n.name = []) (hs : n.s.length ≤ 4611686018427387904) : FnSpec Tryd.prog f_num_Right [encN n] [] (.bool (numB n)) [] := by
  refine k_num_Right.pureG (T := tabL Tryd.prog [(f_num_isPower, ctrIsPower), (f_num_isFigures, ctrIsFigures), (f_strings_Trim, ctrTrim0)]) 0 hD (kOk_tabL (tabOk_cons ctrIsPower_ok (tabOk_cons ctrIsFigures_ok (tabOk_cons ctrTrim0_ok tabOk_nil)))) hmix (by decide) fun Q hQ => ?_
  try simp only [F_all]
  simp (maxSteps := 400000) only [↓preZ, postZ, coreZ, ↓preU, postU, D_all, F_all, unR, outL, onePV, binS, ↓binS, boundR, ↓boundR, fieldOf, ↓fieldOf, boxR, allocR, newObj, zeroElem, buildSliceR, appendR, setAll, storeR, St.freeze, makeSliceR, minmaxR, makeFuncR, BEq.rfl, reduceIte, reduceCtorEq, Nat.reduceLT, Nat.reduceAdd, Nat.reduceSub, Nat.reduceMul, Nat.reduceBEq, Nat.reduceLeDiff, Int.reduceToNat, Int.reduceLE, hQ, c_num_Right]
  refine wpc_weak _ (Weak.freeze 1 0 (Nat.le_refl _) _) ?_
  have key := numB_iff n
  have hpw : ∀ b, powB n.s.length n.e = b → (b = true ↔ -1000 ≤ n.e ∧ n.e ≤ 1000 ∧ n.s.length + n.e ≤ 1000) := fun b hb => by
    rw [← hb]; simp [powB, and_assoc]
  cases hp : powB n.s.length n.e
  · have hr : numB n = false := bfalse fun h => by
      have g := (hpw _ hp).2 ⟨(key.1 h).2.2.2.1, (key.1 h).2.2.2.2.1, (key.1 h).2.2.2.2.2.1⟩
      cases g
    simp (maxSteps := 400000) only [↓preZ, postZ, coreZ, ↓preU, postU, D_all, F_all, unR, outL, onePV, binS, ↓binS, boundR, ↓boundR, fieldOf, ↓fieldOf, boxR, allocR, newObj, zeroElem, buildSliceR, appendR, setAll, storeR, St.freeze, makeSliceR, minmaxR, makeFuncR, BEq.rfl, reduceIte, reduceCtorEq, Nat.reduceLT, Nat.reduceAdd, Nat.reduceSub, Nat.reduceMul, Nat.reduceBEq, Nat.reduceLeDiff, Int.reduceToNat, Int.reduceLE, hQ, frzC0, ↓ctrIsPower, hk, hn, Int.reduceEq, hp, hr]
    refine fun h0 h1 => ⟨by omega, by omega⟩
  have hpw' := (hpw _ hp).1 rfl
  cases hf : figs n.s
  · have hr : numB n = false := bfalse fun h => by have := (key.1 h).2.1; rw [hf] at this; cases this
    simp (maxSteps := 400000) only [↓preZ, postZ, coreZ, ↓preU, postU, D_all, F_all, unR, outL, onePV, binS, ↓binS, boundR, ↓boundR, fieldOf, ↓fieldOf, boxR, allocR, newObj, zeroElem, buildSliceR, appendR, setAll, storeR, St.freeze, makeSliceR, minmaxR, makeFuncR, BEq.rfl, reduceIte, reduceCtorEq, Nat.reduceLT, Nat.reduceAdd, Nat.reduceSub, Nat.reduceMul, Nat.reduceBEq, Nat.reduceLeDiff, Int.reduceToNat, Int.reduceLE, hQ, frzC0, ↓ctrIsPower, ↓ctrIsFigures, hk, hn, Int.reduceEq, hp, hf, hr]
    refine fun h0 h1 => ⟨⟨by omega, by omega⟩, hs⟩
  by_cases hz : n.s = []
  · rw [if_pos hz] at key
    have hf0 : figs [] = true := rfl
    rw [hz] at hp key
    have hp0 : powB ((0 : Nat) : Int) n.e = true := hp
    simp (maxSteps := 400000) only [↓preZ, postZ, coreZ, ↓preU, postU, D_all, F_all, unR, outL, onePV, binS, ↓binS, boundR, ↓boundR, fieldOf, ↓fieldOf, boxR, allocR, newObj, zeroElem, buildSliceR, appendR, setAll, storeR, St.freeze, makeSliceR, minmaxR, makeFuncR, BEq.rfl, reduceIte, reduceCtorEq, Nat.reduceLT, Nat.reduceAdd, Nat.reduceSub, Nat.reduceMul, Nat.reduceBEq, Nat.reduceLeDiff, Int.reduceToNat, Int.reduceLE, hQ, frzC0, ↓ctrIsPower, ↓ctrIsFigures, hk, hn, Int.reduceEq, hp0, hf0, hz]
    refine ⟨fun h0 => ⟨fun h => absurd h (by omega), fun _ => ⟨⟨by omega, by omega⟩, fun hng => ?_, fun hng => ?_⟩⟩, fun h0 => bfalse fun hb => h0 (key.1 hb).1⟩
    · exact bfalse fun hb => by have := (key.1 hb).2.2.2.2.2.2.1; rw [hng] at this; cases this
    · rw [Bool.eq_iff_iff, decide_eq_true_iff, key]
      refine ⟨fun h => h.2.2.2.2.2.2.2, fun h => ⟨h0, rfl, by simp, hpw'.1, hpw'.2.1, by simp; omega, by simpa using hng, h⟩⟩
  · rw [if_neg hz] at key
    have htr := trimB_self n.s 48
    have hz' : (n.s = []) = False := eq_false hz
    simp (maxSteps := 400000) only [↓preZ, postZ, coreZ, ↓preU, postU, D_all, F_all, unR, outL, onePV, binS, ↓binS, boundR, ↓boundR, fieldOf, ↓fieldOf, boxR, allocR, newObj, zeroElem, buildSliceR, appendR, setAll, storeR, St.freeze, makeSliceR, minmaxR, makeFuncR, BEq.rfl, reduceIte, reduceCtorEq, Nat.reduceLT, Nat.reduceAdd, Nat.reduceSub, Nat.reduceMul, Nat.reduceBEq, Nat.reduceLeDiff, Int.reduceToNat, Int.reduceLE, hQ, frzC0, ↓ctrIsPower, ↓ctrIsFigures, ↓ctrTrim0, hk, hn, Int.reduceEq, hp, hf, hz']
    refine ⟨fun h0 => ⟨fun h => bfalse fun hb => ?_, fun h1 => ⟨⟨by omega, by omega⟩, hs, hs, ?_⟩⟩, fun h0 => bfalse fun hb => h0 (key.1 hb).1⟩
    · have := key.1 hb; omega
    · rw [Bool.eq_iff_iff, decide_eq_true_iff, key, htr]
      exact ⟨fun h => h.2.2.2.2.2.2, fun h => ⟨h0, hf, by omega, hpw'.1, hpw'.2.1, hpw'.2.2, h⟩⟩

def ctrNumR : Ctr := fun args objs K => match args with
  | [a0] => ofE encN a0 (HK.mk : HK fun n => (n.kind = 3) ∧ (n.name = []) ∧ (n.s.length ≤ 4611686018427387904) ∧ K (.bool (numB n)) objs 0)
  | _ => False
theorem ctrNumR_ok : CtrOk Tryd.prog f_num_Right (ctrNumR) := by
  intro args objs K h
  unfold ctrNumR at h
  split at h
  · rename_i a0
    obtain ⟨n, rfl, h1, h2, h3, hk⟩ := h
    exact ⟨_, _, _, .pure _ rfl (numR_spec n h1 h2 h3), hk⟩
  · exact h.elim

theorem isPlain_spec (n : Nd) (hl : n.s.length ≤ 4611686018427387904) : FnSpec Tryd.prog f_val_isPlain [encN n] [] (.bool (plainB n)) [] := by
  refine k_val_isPlain.pureG (T := tabL Tryd.prog [(f_unicode_utf8_ValidString, ctrValidS), (f_num_Right, ctrNumR)]) 0 hD (kOk_tabL (tabOk_cons ctrValidS_ok (tabOk_cons ctrNumR_ok tabOk_nil))) hmix (by decide) fun Q hQ => ?_
  try simp only [F_all]
  simp (maxSteps := 400000) only [↓preZ, postZ, coreZ, ↓preU, postU, D_all, F_all, unR, outL, onePV, binS, ↓binS, boundR, ↓boundR, fieldOf, ↓fieldOf, boxR, allocR, newObj, zeroElem, buildSliceR, appendR, setAll, storeR, St.freeze, makeSliceR, minmaxR, makeFuncR, BEq.rfl, reduceIte, reduceCtorEq, Nat.reduceLT, Nat.reduceAdd, Nat.reduceSub, Nat.reduceMul, Nat.reduceBEq, Nat.reduceLeDiff, Int.reduceToNat, Int.reduceLE, hQ, c_val_isPlain, nmP, enc6]
  refine wpc_weak _ (Weak.freeze 1 0 (Nat.le_refl _) _) ?_
  have hn0 : ∀ h, frz 1 0 [⟨t_api_Node, 6, [encN { kind := n.kind, many := n.many, name := [], s := n.s, neg := n.neg, e := n.e }], true, 1⟩] (.optr 0 1 0 0) = h → .addr (encN ⟨n.kind, n.many, [], n.s, n.neg, n.e⟩) = h := fun _ h => h
  have h8 : n.kind = 0 ∨ n.kind = 1 ∨ n.kind = 2 ∨ n.kind = 3 ∨ n.kind = 4 ∨ n.kind = 5 ∨ n.kind = 6 ∨ (n.kind ≠ 0 ∧ n.kind ≠ 1 ∧ n.kind ≠ 2 ∧ n.kind ≠ 3 ∧ n.kind ≠ 4 ∧ n.kind ≠ 5 ∧ n.kind ≠ 6) := by omega
  rcases h8 with hk | hk | hk | hk | hk | hk | hk | ⟨k0, k1, k2, k3, k4, k5, k6⟩
  · simp (maxSteps := 400000) only [↓preZ, postZ, coreZ, ↓preU, postU, D_all, F_all, unR, outL, onePV, binS, ↓binS, boundR, ↓boundR, fieldOf, ↓fieldOf, boxR, allocR, newObj, zeroElem, buildSliceR, appendR, setAll, storeR, St.freeze, makeSliceR, minmaxR, makeFuncR, BEq.rfl, reduceIte, reduceCtorEq, Nat.reduceLT, Nat.reduceAdd, Nat.reduceSub, Nat.reduceMul, Nat.reduceBEq, Nat.reduceLeDiff, Int.reduceToNat, Int.reduceLE, hQ, frzC0, ↓ctrValidS, ↓ctrNumR, hk, Int.reduceEq]
    rw [Bool.eq_iff_iff]
    simp [plainB, hk, and_assoc]
  · simp (maxSteps := 400000) only [↓preZ, postZ, coreZ, ↓preU, postU, D_all, F_all, unR, outL, onePV, binS, ↓binS, boundR, ↓boundR, fieldOf, ↓fieldOf, boxR, allocR, newObj, zeroElem, buildSliceR, appendR, setAll, storeR, St.freeze, makeSliceR, minmaxR, makeFuncR, BEq.rfl, reduceIte, reduceCtorEq, Nat.reduceLT, Nat.reduceAdd, Nat.reduceSub, Nat.reduceMul, Nat.reduceBEq, Nat.reduceLeDiff, Int.reduceToNat, Int.reduceLE, hQ, frzC0, ↓ctrValidS, ↓ctrNumR, hk, Int.reduceEq]
    rw [Bool.eq_iff_iff]
    simp [plainB, hk, and_assoc]
  · simp (maxSteps := 400000) only [↓preZ, postZ, coreZ, ↓preU, postU, D_all, F_all, unR, outL, onePV, binS, ↓binS, boundR, ↓boundR, fieldOf, ↓fieldOf, boxR, allocR, newObj, zeroElem, buildSliceR, appendR, setAll, storeR, St.freeze, makeSliceR, minmaxR, makeFuncR, BEq.rfl, reduceIte, reduceCtorEq, Nat.reduceLT, Nat.reduceAdd, Nat.reduceSub, Nat.reduceMul, Nat.reduceBEq, Nat.reduceLeDiff, Int.reduceToNat, Int.reduceLE, hQ, frzC0, ↓ctrValidS, ↓ctrNumR, hk, Int.reduceEq]
    rw [Bool.eq_iff_iff]
    simp [plainB, hk, and_assoc]
  · simp (maxSteps := 400000) only [↓preZ, postZ, coreZ, ↓preU, postU, D_all, F_all, unR, outL, onePV, binS, ↓binS, boundR, ↓boundR, fieldOf, ↓fieldOf, boxR, allocR, newObj, zeroElem, buildSliceR, appendR, setAll, storeR, St.freeze, makeSliceR, minmaxR, makeFuncR, BEq.rfl, reduceIte, reduceCtorEq, Nat.reduceLT, Nat.reduceAdd, Nat.reduceSub, Nat.reduceMul, Nat.reduceBEq, Nat.reduceLeDiff, Int.reduceToNat, Int.reduceLE, hQ, frzC0, ↓ctrValidS, ↓ctrNumR, hk, Int.reduceEq]
    refine ⟨hl, ?_⟩
    simp [plainB, hk, numB]
  · simp (maxSteps := 400000) only [↓preZ, postZ, coreZ, ↓preU, postU, D_all, F_all, unR, outL, onePV, binS, ↓binS, boundR, ↓boundR, fieldOf, ↓fieldOf, boxR, allocR, newObj, zeroElem, buildSliceR, appendR, setAll, storeR, St.freeze, makeSliceR, minmaxR, makeFuncR, BEq.rfl, reduceIte, reduceCtorEq, Nat.reduceLT, Nat.reduceAdd, Nat.reduceSub, Nat.reduceMul, Nat.reduceBEq, Nat.reduceLeDiff, Int.reduceToNat, Int.reduceLE, hQ, frzC0, ↓ctrValidS, ↓ctrNumR, hk, Int.reduceEq]
    refine ⟨hl, ?_⟩
    cases hu : utf n.s
    · simp [ifP, plainB, hk, hu]
    · simp only [ifR]
      rw [Bool.eq_iff_iff]
      simp [plainB, hk, hu, and_assoc]
  · simp (maxSteps := 400000) only [↓preZ, postZ, coreZ, ↓preU, postU, D_all, F_all, unR, outL, onePV, binS, ↓binS, boundR, ↓boundR, fieldOf, ↓fieldOf, boxR, allocR, newObj, zeroElem, buildSliceR, appendR, setAll, storeR, St.freeze, makeSliceR, minmaxR, makeFuncR, BEq.rfl, reduceIte, reduceCtorEq, Nat.reduceLT, Nat.reduceAdd, Nat.reduceSub, Nat.reduceMul, Nat.reduceBEq, Nat.reduceLeDiff, Int.reduceToNat, Int.reduceLE, hQ, frzC0, ↓ctrValidS, ↓ctrNumR, hk, Int.reduceEq]
    refine ⟨fun hm => ?_, fun hm => ?_⟩
    · rw [Bool.eq_iff_iff]
      simp [plainB, hk, hm, and_assoc]
    · simp [plainB, hk, hm]
  · simp (maxSteps := 400000) only [↓preZ, postZ, coreZ, ↓preU, postU, D_all, F_all, unR, outL, onePV, binS, ↓binS, boundR, ↓boundR, fieldOf, ↓fieldOf, boxR, allocR, newObj, zeroElem, buildSliceR, appendR, setAll, storeR, St.freeze, makeSliceR, minmaxR, makeFuncR, BEq.rfl, reduceIte, reduceCtorEq, Nat.reduceLT, Nat.reduceAdd, Nat.reduceSub, Nat.reduceMul, Nat.reduceBEq, Nat.reduceLeDiff, Int.reduceToNat, Int.reduceLE, hQ, frzC0, ↓ctrValidS, ↓ctrNumR, hk, Int.reduceEq]
    refine ⟨fun hm => ?_, fun hm => ?_⟩
    · rw [Bool.eq_iff_iff]
      simp [plainB, hk, hm, and_assoc]
    · simp [plainB, hk, hm]
  · simp (maxSteps := 400000) only [↓preZ, postZ, coreZ, ↓preU, postU, D_all, F_all, unR, outL, onePV, binS, ↓binS, boundR, ↓boundR, fieldOf, ↓fieldOf, boxR, allocR, newObj, zeroElem, buildSliceR, appendR, setAll, storeR, St.freeze, makeSliceR, minmaxR, makeFuncR, BEq.rfl, reduceIte, reduceCtorEq, Nat.reduceLT, Nat.reduceAdd, Nat.reduceSub, Nat.reduceMul, Nat.reduceBEq, Nat.reduceLeDiff, Int.reduceToNat, Int.reduceLE, hQ, frzC0, ↓ctrValidS, ↓ctrNumR, k0, k1, k2, k3, k4, k5, k6]
    simp [plainB, k0, k1, k2, k3, k4, k5, k6]

def ctrIsPlain : Ctr := fun args objs K => match args with
  | [a0] => ofE encN a0 (HK.mk : HK fun n => (n.s.length ≤ 4611686018427387904) ∧ K (.bool (plainB n)) objs 0)
  | _ => False
theorem ctrIsPlain_ok : CtrOk Tryd.prog f_val_isPlain (ctrIsPlain) := by
  intro args objs K h
  unfold ctrIsPlain at h
  split at h
  · rename_i a0
    obtain ⟨n, rfl, h1, hk⟩ := h
    exact ⟨_, _, _, .pure _ rfl (isPlain_spec n h1), hk⟩
  · exact h.elim
end Lp

/-! LpD8 -/

namespace Lp
open Go Go.Proofs

set_option maxHeartbeats 4000000
set_option maxRecDepth 20000
set_option linter.unusedSimpArgs false

def encO (o : Opn) : PV := .agg [.int .i64 o.kind, .int .i64 o.left, .bool o.first, .str o.last]
def encOs (l : List Opn) : PV := .sl 4 (l.map encO) none

theorem encO_inj : ∀ a b, encO a = encO b → a = b := by
  intro a b h
  cases a; cases b
  simp only [encO, PV.agg.injEq, List.cons.injEq, PV.int.injEq, PV.str.injEq, PV.bool.injEq, true_and, and_true] at h
  obtain ⟨rfl, rfl, rfl, rfl⟩ := h
  rfl

theorem opnC :
    (∀ o, (encO o).cells = [.int .i64 o.kind, .int .i64 o.left, .bool o.first, .str o.last]) ∧ (∀ o, (encO o).isAgg = true) ∧ (∀ o, (encO o).pure = true) ∧ (∀ d m O o, frz d m O (encO o) = encO o) ∧ (∀ d m O o, frzT d m O (encO o) = encO o) ∧ type_of% (ofE_inj encO_inj) :=
  ⟨fun _ => rfl, fun _ => rfl, fun _ => rfl, fun _ _ _ _ => rfl, fun _ _ _ _ => rfl, ofE_inj encO_inj⟩

theorem hO : ∀ l, encOs l = .sl 4 (l.map encO) none := fun _ => rfl
theorem encOs_inj : ∀ a b, encOs a = encOs b → a = b := row_inj hO encO_inj
theorem inO : Inert encO := by intro d n o x; cases d <;> rfl
theorem opnB : type_of% opnC ∧ type_of% (rowR hO) ∧ type_of% (rowS hO) ∧ type_of% (rowC hO) ∧ type_of% (ofE_inj encOs_inj) ∧ type_of% (frzRow hO inO) :=
  ⟨opnC, rowR hO, rowS hO, rowC hO, ofE_inj encOs_inj, frzRow hO inO⟩

def openP (o : Opn) : Bool := decide (0 < o.left)

theorem openR_spec (o : Opn) : FnSpec Tryd.prog f_val_Right_1 [encO o] [] (.bool (openP o)) [] := by
  unfold openP
  refine k_val_Right_1.pureG (T := tabL Tryd.prog []) 0 hD (kOk_tabL tabOk_nil) hmix (by decide) fun Q hQ => ?_
  try simp only [F_all]
  simp (maxSteps := 400000) only [↓preZ, postZ, coreZ, ↓preU, postU, D_all, F_all, unR, outL, onePV, binS, ↓binS, boundR, ↓boundR, fieldOf, ↓fieldOf, boxR, allocR, newObj, zeroElem, buildSliceR, appendR, setAll, storeR, St.freeze, makeSliceR, minmaxR, makeFuncR, BEq.rfl, reduceIte, reduceCtorEq, Nat.reduceLT, Nat.reduceAdd, Nat.reduceSub, Nat.reduceMul, Nat.reduceBEq, Nat.reduceLeDiff, Int.reduceToNat, Int.reduceLE, hQ, c_val_Right_1, encO]

def ctrOpenR : Ctr := fun args objs K => match args with
  | [a0] => ofE encO a0 (HK.mk : HK fun o => K (.bool (openP o)) objs 0)
  | _ => False
theorem ctrOpenR_ok : CtrOk Tryd.prog f_val_Right_1 (ctrOpenR) := by
  intro args objs K h
  unfold ctrOpenR at h
  split at h
  · rename_i a0
    obtain ⟨o, rfl, hk⟩ := h
    exact ⟨_, _, _, .pure _ rfl (openR_spec o), hk⟩
  · exact h.elim

def idxOf {α : Type} (p : α → Bool) (l : List α) : Int := match l.findIdx? p with
  | some i => i
  | none => -1

theorem idxOf_hit {α : Type} {p : α → Bool} {l : List α} {i : Nat} {x : α} (h : l[i]? = some x) (hx : p x = true) (hb : ∀ (j : Nat) y, j < i → l[j]? = some y → p y = false) : idxOf p l = i := by
  have : l.findIdx? p = some i := by
    rw [List.findIdx?_eq_some_iff_getElem]
    obtain ⟨hi, he⟩ := List.getElem?_eq_some_iff.1 h
    refine ⟨hi, by rw [he]; exact hx, fun j hj => ?_⟩
    have := hb j _ hj (List.getElem?_eq_getElem (by omega))
    simp [this]
  simp [idxOf, this]

theorem idxOf_none {α : Type} {p : α → Bool} {l : List α} (hb : ∀ (j : Nat) y, l[j]? = some y → p y = false) : idxOf p l = -1 := by
  have : l.findIdx? p = none := by
    rw [List.findIdx?_eq_none_iff]
    intro x hx
    obtain ⟨i, hi⟩ := List.mem_iff_getElem?.1 hx
    exact hb i x hi
  simp [idxOf, this]

theorem idxOf_any {α : Type} (p : α → Bool) (l : List α) : decide (0 ≤ idxOf p l) = l.any p := by
  rw [Bool.eq_iff_iff, decide_eq_true_iff]
  cases h : l.findIdx? p with
  | none =>
    rw [List.findIdx?_eq_none_iff] at h
    have : l.any p = false := by rw [List.any_eq_false]; intro x hx; simp [h x hx]
    simp [idxOf, List.findIdx?_eq_none_iff.2 h, this]
  | some i =>
    have h' := h
    rw [List.findIdx?_eq_some_iff_getElem] at h'
    obtain ⟨hi, hp, _⟩ := h'
    have : l.any p = true := List.any_eq_true.2 ⟨_, List.getElem_mem hi, hp⟩
    simp [idxOf, h, this]

theorem idxOpen_spec (l : List Opn) (hl : l.length ≤ 4611686018427387904) : FnSpec Tryd.prog f_slices_IndexFunc_L_val_open_val_open_ [encOs l, .fn f_val_Right_1 [] []] [] (.int .i64 (idxOf openP l)) [] := by
  refine k_slices_IndexFunc_L_val_open_val_open_.pureG (T := tabL Tryd.prog [(f_val_Right_1, ctrOpenR)]) 0 hD (kOk_tabL (tabOk_cons ctrOpenR_ok tabOk_nil)) hmix (by decide) fun Q hQ => ?_
  try simp only [F_all]
  simp (maxSteps := 400000) only [↓preZ, postZ, coreZ, ↓preU, postU, D_all, F_all, unR, outL, onePV, binS, ↓binS, boundR, ↓boundR, fieldOf, ↓fieldOf, boxR, allocR, newObj, zeroElem, buildSliceR, appendR, setAll, storeR, St.freeze, makeSliceR, minmaxR, makeFuncR, BEq.rfl, reduceIte, reduceCtorEq, Nat.reduceLT, Nat.reduceAdd, Nat.reduceSub, Nat.reduceMul, Nat.reduceBEq, Nat.reduceLeDiff, Int.reduceToNat, Int.reduceLE, hQ, c_slices_IndexFunc_L_val_open_val_open_, opnB]
  refine wpc_loop (fun m S => ∃ i : Nat, i + m = l.length ∧ (∀ (j : Nat) y, j < i → l[j]? = some y → openP y = false) ∧ S = ⟨tmA 19 [(0, encOs l), (1, .fn f_val_Right_1 [] []), (7, .int .i64 l.length), (8, .int .i64 i)], []⟩) l.length ⟨0, by omega, fun j y h => absurd h (Nat.not_lt_zero j), ?_⟩ ?_
  · simp only [normR, keepR, Nat.reduceAdd, lkR, Nat.reduceBEq, F_all, List.map_nil]
    rfl
  rintro m S ⟨i, him, hb, rfl⟩
  rcases Nat.lt_or_ge i l.length with h | h
  rotate_left 1
  · have hlt : ((i : Int) < (l.length : Int)) = False := eq_false (by omega)
    have hr := idxOf_none (l := l) fun j y hj => hb j y (by have := (List.getElem?_eq_some_iff.1 hj).1; omega) hj
    simp (maxSteps := 400000) only [↓preZ, postZ, coreZ, ↓preU, postU, D_all, F_all, unR, outL, onePV, binS, ↓binS, boundR, ↓boundR, fieldOf, ↓fieldOf, boxR, allocR, newObj, zeroElem, buildSliceR, appendR, setAll, storeR, St.freeze, makeSliceR, minmaxR, makeFuncR, BEq.rfl, reduceIte, reduceCtorEq, Nat.reduceLT, Nat.reduceAdd, Nat.reduceSub, Nat.reduceMul, Nat.reduceBEq, Nat.reduceLeDiff, Int.reduceToNat, Int.reduceLE, hQ, hlt, hr]
  have hlt : ((i : Int) < (l.length : Int)) = True := eq_true (by omega)
  have zi : (0 ≤ (i : Int)) = True := eq_true (by omega)
  have hgi := List.getElem?_eq_getElem h
  generalize l[i] = o at hgi
  cases hp : openP o
  rotate_left 1
  · have hr : idxOf openP l = i := idxOf_hit hgi hp hb
    simp (maxSteps := 400000) only [↓preZ, postZ, coreZ, ↓preU, postU, D_all, F_all, unR, outL, onePV, binS, ↓binS, boundR, ↓boundR, fieldOf, ↓fieldOf, boxR, allocR, newObj, zeroElem, buildSliceR, appendR, setAll, storeR, St.freeze, makeSliceR, minmaxR, makeFuncR, BEq.rfl, reduceIte, reduceCtorEq, Nat.reduceLT, Nat.reduceAdd, Nat.reduceSub, Nat.reduceMul, Nat.reduceBEq, Nat.reduceLeDiff, Int.reduceToNat, Int.reduceLE, hQ, hlt, zi, opnB, hgi, ↓ctrOpenR, hp, hr]
  · simp (maxSteps := 400000) only [↓preZ, postZ, coreZ, ↓preU, postU, D_all, F_all, unR, outL, onePV, binS, ↓binS, boundR, ↓boundR, fieldOf, ↓fieldOf, boxR, allocR, newObj, zeroElem, buildSliceR, appendR, setAll, storeR, St.freeze, makeSliceR, minmaxR, makeFuncR, BEq.rfl, reduceIte, reduceCtorEq, Nat.reduceLT, Nat.reduceAdd, Nat.reduceSub, Nat.reduceMul, Nat.reduceBEq, Nat.reduceLeDiff, Int.reduceToNat, Int.reduceLE, hQ, hlt, zi, opnB, hgi, ↓ctrOpenR, hp]
    refine ⟨⟨by omega, by omega⟩, m - 1, by omega, i + 1, by omega, fun j y hj hy => ?_, rfl⟩
    rcases Nat.lt_or_ge j i with g | g
    · exact hb j y g hy
    · have : j = i := by omega
      subst this
      rw [hgi] at hy; cases hy
      exact hp

def ctrIdxOpen : Ctr := fun args objs K => match args with
  | [a0, a1] => ofE encOs a0 (HK.mk : HK fun l => a1 = (.fn f_val_Right_1 [] []) ∧ (l.length ≤ 4611686018427387904) ∧ K (.int .i64 (idxOf openP l)) objs 0)
  | _ => False
theorem ctrIdxOpen_ok : CtrOk Tryd.prog f_slices_IndexFunc_L_val_open_val_open_ (ctrIdxOpen) := by
  intro args objs K h
  unfold ctrIdxOpen at h
  split at h
  · rename_i a0 a1
    obtain ⟨l, rfl, rfl, h1, hk⟩ := h
    exact ⟨_, _, _, .pure _ rfl (idxOpen_spec l h1), hk⟩
  · exact h.elim

theorem anyOpen_spec (l : List Opn) (hl : l.length ≤ 4611686018427387904) : FnSpec Tryd.prog f_slices_ContainsFunc_L_val_open_val_open_ [encOs l, .fn f_val_Right_1 [] []] [] (.bool (l.any openP)) [] := by
  refine k_slices_ContainsFunc_L_val_open_val_open_.pureG (T := tabL Tryd.prog [(f_slices_IndexFunc_L_val_open_val_open_, ctrIdxOpen)]) 0 hD (kOk_tabL (tabOk_cons ctrIdxOpen_ok tabOk_nil)) hmix (by decide) fun Q hQ => ?_
  try simp only [F_all]
  simp (maxSteps := 400000) only [↓preZ, postZ, coreZ, ↓preU, postU, D_all, F_all, unR, outL, onePV, binS, ↓binS, boundR, ↓boundR, fieldOf, ↓fieldOf, boxR, allocR, newObj, zeroElem, buildSliceR, appendR, setAll, storeR, St.freeze, makeSliceR, minmaxR, makeFuncR, BEq.rfl, reduceIte, reduceCtorEq, Nat.reduceLT, Nat.reduceAdd, Nat.reduceSub, Nat.reduceMul, Nat.reduceBEq, Nat.reduceLeDiff, Int.reduceToNat, Int.reduceLE, hQ, c_slices_ContainsFunc_L_val_open_val_open_, opnB, ↓ctrIdxOpen, idxOf_any]
  exact hl

def ctrAnyOpen : Ctr := fun args objs K => match args with
  | [a0, a1] => ofE encOs a0 (HK.mk : HK fun l => a1 = (.fn f_val_Right_1 [] []) ∧ (l.length ≤ 4611686018427387904) ∧ K (.bool (l.any openP)) objs 0)
  | _ => False
theorem ctrAnyOpen_ok : CtrOk Tryd.prog f_slices_ContainsFunc_L_val_open_val_open_ (ctrAnyOpen) := by
  intro args objs K h
  unfold ctrAnyOpen at h
  split at h
  · rename_i a0 a1
    obtain ⟨l, rfl, rfl, h1, hk⟩ := h
    exact ⟨_, _, _, .pure _ rfl (anyOpen_spec l h1), hk⟩
  · exact h.elim

theorem opnBuild (objs : List Obj) (K : KT) :
    (∀ k m, buildR' D t_val_open [(0, .int .i64 k), (1, .int .i64 m)] objs K = K (encO ⟨k, m, false, []⟩) objs 0) ∧
    (∀ k m b, buildR' D t_val_open [(0, .int .i64 k), (1, .int .i64 m), (2, .bool b)] objs K = K (encO ⟨k, m, b, []⟩) objs 0) := by
  have z : zeroElem (D t_val_open) = encO ⟨0, 0, false, []⟩ := by kernel_rfl
  have a : (D t_val_open).agg = true := by kernel_rfl
  simp only [D_all] at z a
  refine ⟨fun k m => ?_, fun k m b => ?_⟩
  all_goals
    simp [buildR', buildR, a, z, D_all, fillR, encO, PV.isAgg, partOk, PV.cells, PV.storable, PV.solid, PV.pure]

theorem zOl : (PV.ofV (Value.agg { toList := [Value.int IntKind.i64 0, Value.int IntKind.i64 0, Value.bool false, Value.string { data := { toList := [] } }] })).cells.length = 4 := rfl
theorem zOs : (PV.ofV (Value.agg { toList := [Value.int IntKind.i64 0, Value.int IntKind.i64 0, Value.bool false, Value.string { data := { toList := [] } }] })).cells.all PV.storable = true := rfl

def stkO (s : List Opn) (ver : Nat) : Obj := ⟨t_val_open, 4, s.reverse.map encO, true, ver⟩

theorem runR_drop (L : Int) (s : List Opn) (n : Nd) (r : Vl) : runR L (s.dropWhile fun o => o.left == 0) (n :: r) = runR L s (n :: r) := by
  have e : (s.dropWhile fun o => o.left == 0).dropWhile (fun o => o.left == 0) = s.dropWhile fun o => o.left == 0 := by
    induction s with
    | nil => rfl
    | cons o t ih =>
      by_cases h : (o.left == 0) = true
      · have e : (o :: t).dropWhile (fun o : Opn => o.left == 0) = t.dropWhile (fun o : Opn => o.left == 0) := List.dropWhile_cons_of_pos h
        rw [e, ih]
      · have e : (o :: t).dropWhile (fun o : Opn => o.left == 0) = o :: t := List.dropWhile_cons_of_neg h
        rw [e, e]
  rw [runR, runR, e]

theorem opnPut : (∀ (o : Opn) (m : Int), (encO o).putCells 1 [.int .i64 m] = encO { o with left := m }) ∧ (∀ (o : Opn) (b : Bool), (encO o).putCells 2 [.bool b] = encO { o with first := b }) ∧ (∀ (o : Opn) (t : List UInt8), (encO o).putCells 3 [.str t] = encO { o with last := t }) := ⟨fun _ _ => rfl, fun _ _ => rfl, fun _ _ => rfl⟩

theorem frzO_opn (d n : Nat) (O : List Obj) (t : TypeId) (sz : Nat) (l : List Opn) (ver : Nat) : frzO d n O ⟨t, sz, l.map encO, true, ver⟩ = ⟨t, sz, l.map encO, true, ver⟩ := by
  have : (l.map encO).map (PV.mapCells (frz d n O)) = l.map encO := by
    rw [List.map_map]
    exact List.map_congr_left fun x _ => rfl
  simp only [frzO, this]

theorem valRight_spec (v : Vl) (hs : Small v) : FnSpec Tryd.prog f_val_Right [encV v] [] (.bool (rightB v)) [] := by
  have hl := hs.len
  refine k_val_Right.pureG (T := tabL Tryd.prog [(f_val_isPlain, ctrIsPlain), (f_unicode_utf8_ValidString, ctrValidS), (f_slices_ContainsFunc_L_val_open_val_open_, ctrAnyOpen)]) 1 hD (kOk_tabL (tabOk_cons ctrIsPlain_ok (tabOk_cons ctrValidS_ok (tabOk_cons ctrAnyOpen_ok tabOk_nil)))) hmix (by decide) fun Q hQ => ?_
  try simp only [F_all]
  simp (maxSteps := 400000) only [↓preZ, postZ, coreZ, ↓preU, postU, D_all, F_all, unR, outL, onePV, binS, ↓binS, boundR, ↓boundR, fieldOf, ↓fieldOf, boxR, allocR, newObj, zeroElem, buildSliceR, appendR, setAll, storeR, St.freeze, makeSliceR, minmaxR, makeFuncR, BEq.rfl, reduceIte, reduceCtorEq, Nat.reduceLT, Nat.reduceAdd, Nat.reduceSub, Nat.reduceMul, Nat.reduceBEq, Nat.reduceLeDiff, Int.reduceToNat, Int.reduceLE, hQ, c_val_Right, zNl, zNs, opnBuild, zOl, zOs, opnC]
  refine wpc_loop (fun m S => ∃ (s : List Opn) (i ver : Nat), i + m = v.length ∧ runR v.length s (v.drop i) = rightB v ∧ s.length ≤ i + 1 ∧ (∀ o ∈ s, 0 ≤ o.left ∧ o.left ≤ 1000000) ∧ S = ⟨tmA 123 [(0, encV v), (3, .osl 0 ver), (10, encV v), (11, .int .i64 v.length), (12, .int .i64 i)], [stkO s ver]⟩) v.length
    ⟨[⟨5, 1, false, []⟩], 0, 1, by omega, runR_right v, by simp, by simp, ?_⟩ ?_ (hz := Nat.zero_le _)
  · simp only [normR, keepR, Nat.reduceAdd, lkR, Nat.reduceBEq, F_all, List.map_nil]
    rfl
  rintro m S ⟨s, i, ver, him, hrun, hsl, hle, rfl⟩
  rcases Nat.lt_or_ge i v.length with h | h
  rotate_left 1
  · have hlt : ((i : Int) < (v.length : Int)) = False := eq_false (by omega)
    have hr : rightB v = Bool.not (s.any openP) := by
      rw [← hrun, List.drop_eq_nil_of_le h, runR]; rfl
    have hf : frz 1 0 [⟨t_val_open, 4, s.reverse.map encO, true, ver⟩] (.osl 0 ver) = encOs s.reverse := by
      simp only [frz, Nat.not_lt_zero, if_false, frzI, List.getElem?_cons_zero, Nat.le_refl, decide_true, Bool.true_and, beq_self_eq_true, if_true]
      rw [List.map_map]
      rfl
    unfold stkO
    simp (maxSteps := 400000) only [↓preZ, postZ, coreZ, ↓preU, postU, D_all, F_all, unR, outL, onePV, binS, ↓binS, boundR, ↓boundR, fieldOf, ↓fieldOf, boxR, allocR, newObj, zeroElem, buildSliceR, appendR, setAll, storeR, St.freeze, makeSliceR, minmaxR, makeFuncR, BEq.rfl, reduceIte, reduceCtorEq, Nat.reduceLT, Nat.reduceAdd, Nat.reduceSub, Nat.reduceMul, Nat.reduceBEq, Nat.reduceLeDiff, Int.reduceToNat, Int.reduceLE, hQ, hlt]
    refine wpc_weak _ (Weak.freeze 1 0 (Nat.zero_le _) _) ?_
    rcases Nat.eq_zero_or_pos v.length with h0 | h0
    · have h0' : ((0 : Int) < (v.length : Int)) = False := eq_false (by omega)
      have hrf : rightB v = false := by
        have : v = [] := List.length_eq_zero_iff.1 h0
        rw [this]; rfl
      simp (maxSteps := 400000) only [↓preZ, postZ, coreZ, ↓preU, postU, D_all, F_all, unR, outL, onePV, binS, ↓binS, boundR, ↓boundR, fieldOf, ↓fieldOf, boxR, allocR, newObj, zeroElem, buildSliceR, appendR, setAll, storeR, St.freeze, makeSliceR, minmaxR, makeFuncR, BEq.rfl, reduceIte, reduceCtorEq, Nat.reduceLT, Nat.reduceAdd, Nat.reduceSub, Nat.reduceMul, Nat.reduceBEq, Nat.reduceLeDiff, Int.reduceToNat, Int.reduceLE, hQ, h0', hrf]
    · have h0' : ((0 : Int) < (v.length : Int)) = True := eq_true (by omega)
      simp (maxSteps := 400000) only [↓preZ, postZ, coreZ, ↓preU, postU, D_all, F_all, unR, outL, onePV, binS, ↓binS, boundR, ↓boundR, fieldOf, ↓fieldOf, boxR, allocR, newObj, zeroElem, buildSliceR, appendR, setAll, storeR, St.freeze, makeSliceR, minmaxR, makeFuncR, BEq.rfl, reduceIte, reduceCtorEq, Nat.reduceLT, Nat.reduceAdd, Nat.reduceSub, Nat.reduceMul, Nat.reduceBEq, Nat.reduceLeDiff, Int.reduceToNat, Int.reduceLE, hQ, h0', hf, opnB, ↓ctrAnyOpen]
      exact ⟨by rw [List.length_reverse]; omega, by rw [hr, List.any_reverse]⟩
  have hlt : ((i : Int) < (v.length : Int)) = True := eq_true (by omega)
  have zi : (0 ≤ (i : Int)) = True := eq_true (by omega)
  have hgi := List.getElem?_eq_getElem h
  have hdi := List.drop_eq_getElem_cons h
  have htx := hs.txt _ (List.getElem_mem h)
  generalize v[i] = n at hgi hdi htx
  simp (maxSteps := 400000) only [↓preZ, postZ, coreZ, ↓preU, postU, D_all, F_all, unR, outL, onePV, binS, ↓binS, boundR, ↓boundR, fieldOf, ↓fieldOf, boxR, allocR, newObj, zeroElem, buildSliceR, appendR, setAll, storeR, St.freeze, makeSliceR, minmaxR, makeFuncR, BEq.rfl, reduceIte, reduceCtorEq, Nat.reduceLT, Nat.reduceAdd, Nat.reduceSub, Nat.reduceMul, Nat.reduceBEq, Nat.reduceLeDiff, Int.reduceToNat, Int.reduceLE, hQ, hlt, zi, hgi, zNl, zNs, nodeZ, nodeW]
  rw [hdi] at hrun
  have hll : (n.many ≤ (v.length : Int)) = (n.many ≤ (v.length : Int)) := rfl
  refine wpc_loop (fun m' S => ∃ (s' : List Opn) (ver' : Nat), s'.length = m' ∧ s'.dropWhile (fun o => o.left == 0) = s.dropWhile (fun o => o.left == 0) ∧ s'.length ≤ i + 1 ∧ (∀ o ∈ s', 0 ≤ o.left ∧ o.left ≤ 1000000) ∧
    S = ⟨tmA 123 [(0, encV v), (3, .osl 0 ver'), (5, .optr 1 1 0 0), (10, encV v), (11, .int .i64 v.length), (12, .int .i64 i)], [stkO s' ver', ⟨t_api_Node, 6, [encN n], true, 1⟩]⟩) s.length ⟨s, ver, rfl, rfl, hsl, hle, ?_⟩ ?_
  · simp only [normR, keepR, Nat.reduceAdd, lkR, Nat.reduceBEq, F_all, List.map_nil]
  rintro m' S ⟨s', ver', hm', hdw, hsl', hle', rfl⟩
  cases s' with
  | nil =>
    have h00 : ((0 : Int) < ((0 : Nat) : Int)) = False := eq_false (by omega)
    have h01 : (((0 : Nat) : Int) = 0) = True := eq_true rfl
    have hr : rightB v = false := by rw [← hrun, runR, ← hdw]; rfl
    unfold stkO
    simp (maxSteps := 400000) only [↓preZ, postZ, coreZ, ↓preU, postU, D_all, F_all, unR, outL, onePV, binS, ↓binS, boundR, ↓boundR, fieldOf, ↓fieldOf, boxR, allocR, newObj, zeroElem, buildSliceR, appendR, setAll, storeR, St.freeze, makeSliceR, minmaxR, makeFuncR, BEq.rfl, reduceIte, reduceCtorEq, Nat.reduceLT, Nat.reduceAdd, Nat.reduceSub, Nat.reduceMul, Nat.reduceBEq, Nat.reduceLeDiff, Int.reduceToNat, Int.reduceLE, hQ, h00, h01, hr, List.reverse_nil]
  | cons o t =>
  have hst : ∀ w, stkO (o :: t) w = ⟨t_val_open, 4, t.reverse.map encO ++ [encO o], true, w⟩ := fun w => by simp [stkO]
  have hget : ∀ x : PV, (t.reverse.map encO ++ [x])[t.length]? = some x := fun x => by rw [List.getElem?_append_right (by simp)]; simp
  have hset : ∀ x y : PV, (t.reverse.map encO ++ [x]).set t.length y = t.reverse.map encO ++ [y] := fun x y => by rw [List.set_append_right _ _ (by simp)]; simp
  have hpos : ((0 : Int) < ((t.length + 1 : Nat) : Int)) = True := eq_true (by omega)
  have hne0 : (((t.length + 1 : Nat) : Int) = 0) = False := eq_false (by omega)
  have t1 : (((t.length + 1 : Nat) : Int) - 1).toNat = t.length := by omega
  have z1 : (0 ≤ ((t.length + 1 : Nat) : Int) - 1) = True := eq_true (by omega)
  have lt1 : (((t.length + 1 : Nat) : Int) - 1 < ((t.length + 1 : Nat) : Int)) = True := eq_true (by omega)
  have le1 : (((t.length + 1 : Nat) : Int) - 1 ≤ ((t.length + 1 : Nat) : Int)) = True := eq_true (by omega)
  simp only [List.length_cons] at hsl' hm'
  have i1 : (-9223372036854775808 ≤ ((t.length + 1 : Nat) : Int) - 1 ∧ ((t.length + 1 : Nat) : Int) - 1 ≤ 9223372036854775807) = True := eq_true ⟨by omega, by omega⟩
  have hlo := hle' o (by simp)
  by_cases h0 : o.left = 0
  · have h0' : (o.left = 0) = True := eq_true h0
    rw [hst]
    simp (maxSteps := 400000) only [↓preZ, postZ, coreZ, ↓preU, postU, D_all, F_all, unR, outL, onePV, binS, ↓binS, boundR, ↓boundR, fieldOf, ↓fieldOf, boxR, allocR, newObj, zeroElem, buildSliceR, appendR, setAll, storeR, St.freeze, makeSliceR, minmaxR, makeFuncR, BEq.rfl, reduceIte, reduceCtorEq, Nat.reduceLT, Nat.reduceAdd, Nat.reduceSub, Nat.reduceMul, Nat.reduceBEq, Nat.reduceLeDiff, Int.reduceToNat, Int.reduceLE, hQ, hpos, t1, z1, lt1, le1, i1, hget, hset, h0', opnC, List.length_reverse]
    refine ⟨m' - 1, by omega, t, ver' + 1, by omega, ?_, by omega, fun x hx => hle' x (List.mem_cons_of_mem _ hx), ?_⟩
    · rw [← hdw]; exact (List.dropWhile_cons_of_pos (by simpa using h0)).symm
    · rw [List.take_left' (by simp)]; rfl
  have h0' : (o.left = 0) = False := eq_false h0
  have hdw' : s.dropWhile (fun o => o.left == 0) = o :: t := by rw [← hdw]; exact List.dropWhile_cons_of_neg (by simpa using h0)
  have hstep : rightB v = (plainB n && decide (n.many ≤ v.length) && nameOkO o n.name && runR v.length (⟨n.kind, n.many, true, []⟩ :: ⟨o.kind, o.left - 1, false, n.name⟩ :: t) (v.drop (i + 1))) := by
    rw [← hrun, runR, hdw']
  rw [hst]
  cases hpl : plainB n
  · have hr : rightB v = false := by rw [hstep, hpl]; rfl
    simp (maxSteps := 400000) only [↓preZ, postZ, coreZ, ↓preU, postU, D_all, F_all, unR, outL, onePV, binS, ↓binS, boundR, ↓boundR, fieldOf, ↓fieldOf, boxR, allocR, newObj, zeroElem, buildSliceR, appendR, setAll, storeR, St.freeze, makeSliceR, minmaxR, makeFuncR, BEq.rfl, reduceIte, reduceCtorEq, Nat.reduceLT, Nat.reduceAdd, Nat.reduceSub, Nat.reduceMul, Nat.reduceBEq, Nat.reduceLeDiff, Int.reduceToNat, Int.reduceLE, hQ, hpos, hne0, t1, z1, lt1, le1, i1, hget, hset, h0', opnC, List.length_reverse, ↓ctrIsPlain, hpl, hr]
    exact htx.1
  by_cases hmL : n.many ≤ v.length
  rotate_left 1
  · have hmL' : ((v.length : Int) < n.many) = True := eq_true (by omega)
    have hr : rightB v = false := by rw [hstep, decide_eq_false hmL]; simp
    simp (maxSteps := 400000) only [↓preZ, postZ, coreZ, ↓preU, postU, D_all, F_all, unR, outL, onePV, binS, ↓binS, boundR, ↓boundR, fieldOf, ↓fieldOf, boxR, allocR, newObj, zeroElem, buildSliceR, appendR, setAll, storeR, St.freeze, makeSliceR, minmaxR, makeFuncR, BEq.rfl, reduceIte, reduceCtorEq, Nat.reduceLT, Nat.reduceAdd, Nat.reduceSub, Nat.reduceMul, Nat.reduceBEq, Nat.reduceLeDiff, Int.reduceToNat, Int.reduceLE, hQ, hpos, hne0, t1, z1, lt1, le1, i1, hget, hset, h0', opnC, List.length_reverse, ↓ctrIsPlain, hpl, hmL', hr]
    exact htx.1
  have hmL' : ((v.length : Int) < n.many) = False := eq_false (by omega)
  have hm0 : 0 ≤ n.many := by
    by_cases hk : n.kind = 5 ∨ n.kind = 6
    · exact (plain_arr hpl hk).1
    · rw [numB_many0 hpl hk]; exact Int.le_refl 0
  have hA : ∀ x y : Opn, t.reverse.map encO ++ [encO x] ++ [encO y] = (t.reverse ++ [x, y]).map encO := fun x y => by simp
  have fin : ∀ hn : nameOkO o n.name = true, ∃ m'_1, m'_1 < m ∧ ∃ (s : List Opn) (i_1 ver : Nat), i_1 + m'_1 = v.length ∧ runR v.length s (v.drop i_1) = rightB v ∧ s.length ≤ i_1 + 1 ∧ (∀ o ∈ s, 0 ≤ o.left ∧ o.left ≤ 1000000) ∧
      (⟨tmA 123 [(0, encV v), (3, .osl 0 (ver' + 1)), (10, encV v), (11, .int .i64 v.length), (12, .int .i64 ((i : Int) + 1))], [⟨t_val_open, 4, t.reverse.map encO ++ [encO ⟨o.kind, o.left - 1, false, n.name⟩] ++ [encO ⟨n.kind, n.many, true, []⟩], true, ver' + 1⟩]⟩ : St) =
      ⟨tmA 123 [(0, encV v), (3, .osl 0 ver), (10, encV v), (11, .int .i64 v.length), (12, .int .i64 i_1)], [stkO s ver]⟩ := fun hn => by
    refine ⟨m - 1, by omega, ⟨n.kind, n.many, true, []⟩ :: ⟨o.kind, o.left - 1, false, n.name⟩ :: t, i + 1, ver' + 1, by omega, ?_, by simp only [List.length_cons]; omega, fun x hx => ?_, ?_⟩
    · rw [hstep, hpl, hn, decide_eq_true hmL]; simp
    · rcases List.mem_cons.1 hx with rfl | hx
      · exact ⟨hm0, by simp only; omega⟩
      · rcases List.mem_cons.1 hx with rfl | hx
        · simp only; omega
        · exact hle' x (List.mem_cons_of_mem _ hx)
    · simp [stkO]
  by_cases k6 : o.kind = 6
  rotate_left 1
  · have k6' : (o.kind = 6) = False := eq_false k6
    by_cases hnm : n.name = []
    rotate_left 1
    · have hnm' : (n.name = []) = False := eq_false hnm
      have hr : rightB v = false := by
        have : nameOkO o n.name = false := by simp [nameOkO, k6, hnm]
        rw [hstep, this]; simp
      simp (maxSteps := 400000) only [↓preZ, postZ, coreZ, ↓preU, postU, D_all, F_all, unR, outL, onePV, binS, ↓binS, boundR, ↓boundR, fieldOf, ↓fieldOf, boxR, allocR, newObj, zeroElem, buildSliceR, appendR, setAll, storeR, St.freeze, makeSliceR, minmaxR, makeFuncR, BEq.rfl, reduceIte, reduceCtorEq, Nat.reduceLT, Nat.reduceAdd, Nat.reduceSub, Nat.reduceMul, Nat.reduceBEq, Nat.reduceLeDiff, Int.reduceToNat, Int.reduceLE, hQ, hpos, hne0, t1, z1, lt1, le1, i1, hget, hset, h0', opnC, List.length_reverse, ↓ctrIsPlain, hpl, hmL', k6', nilCheckR, opnPut, opnBuild, zOl, zOs, hnm', hr]
      exact htx.1
    · have hnm' : (n.name = []) = True := eq_true hnm
      simp (maxSteps := 400000) only [↓preZ, postZ, coreZ, ↓preU, postU, D_all, F_all, unR, outL, onePV, binS, ↓binS, boundR, ↓boundR, fieldOf, ↓fieldOf, boxR, allocR, newObj, zeroElem, buildSliceR, appendR, setAll, storeR, St.freeze, makeSliceR, minmaxR, makeFuncR, BEq.rfl, reduceIte, reduceCtorEq, Nat.reduceLT, Nat.reduceAdd, Nat.reduceSub, Nat.reduceMul, Nat.reduceBEq, Nat.reduceLeDiff, Int.reduceToNat, Int.reduceLE, hQ, hpos, hne0, t1, z1, lt1, le1, i1, hget, hset, h0', opnC, List.length_reverse, ↓ctrIsPlain, hpl, hmL', k6', nilCheckR, opnPut, opnBuild, zOl, zOs, hnm']
      have hn : nameOkO o n.name = true := by simp [nameOkO, k6, hnm]
      obtain ⟨m1, e0, s1, j1, w1, e1, e2, e3, e4, e5⟩ := fin hn
      refine ⟨htx.1, ⟨by omega, by omega⟩, rfl, by omega, by omega, ⟨by omega, by omega⟩, m1, e0, s1, j1, w1, e1, e2, e3, e4, ?_⟩
      rw [← e5]
      simp only [hA, List.take_succ_cons, List.take_zero, List.map_cons (f := frzO _ _ _), List.map_nil, frzO_opn]
      rfl
  have k6' : (o.kind = 6) = True := eq_true k6
  cases hu : utf n.name
  · have hr : rightB v = false := by
      have : nameOkO o n.name = false := by simp [nameOkO, k6, hu]
      rw [hstep, this]; simp
    simp (maxSteps := 400000) only [↓preZ, postZ, coreZ, ↓preU, postU, D_all, F_all, unR, outL, onePV, binS, ↓binS, boundR, ↓boundR, fieldOf, ↓fieldOf, boxR, allocR, newObj, zeroElem, buildSliceR, appendR, setAll, storeR, St.freeze, makeSliceR, minmaxR, makeFuncR, BEq.rfl, reduceIte, reduceCtorEq, Nat.reduceLT, Nat.reduceAdd, Nat.reduceSub, Nat.reduceMul, Nat.reduceBEq, Nat.reduceLeDiff, Int.reduceToNat, Int.reduceLE, hQ, hpos, hne0, t1, z1, lt1, le1, i1, hget, hset, h0', opnC, List.length_reverse, ↓ctrIsPlain, hpl, hmL', k6', nilCheckR, opnPut, opnBuild, zOl, zOs, ↓ctrValidS, hu, hr]
    exact ⟨htx.1, htx.2⟩
  cases hfst : o.first
  rotate_left 1
  · have hn : nameOkO o n.name = true := by simp [nameOkO, k6, hu, hfst]
    simp (maxSteps := 400000) only [↓preZ, postZ, coreZ, ↓preU, postU, D_all, F_all, unR, outL, onePV, binS, ↓binS, boundR, ↓boundR, fieldOf, ↓fieldOf, boxR, allocR, newObj, zeroElem, buildSliceR, appendR, setAll, storeR, St.freeze, makeSliceR, minmaxR, makeFuncR, BEq.rfl, reduceIte, reduceCtorEq, Nat.reduceLT, Nat.reduceAdd, Nat.reduceSub, Nat.reduceMul, Nat.reduceBEq, Nat.reduceLeDiff, Int.reduceToNat, Int.reduceLE, hQ, hpos, hne0, t1, z1, lt1, le1, i1, hget, hset, h0', opnC, List.length_reverse, ↓ctrIsPlain, hpl, hmL', k6', nilCheckR, opnPut, opnBuild, zOl, zOs, ↓ctrValidS, hu, hfst]
    obtain ⟨m1, e0, s1, j1, w1, e1, e2, e3, e4, e5⟩ := fin hn
    refine ⟨htx.1, htx.2, ⟨by omega, by omega⟩, rfl, by omega, by omega, ⟨by omega, by omega⟩, m1, e0, s1, j1, w1, e1, e2, e3, e4, ?_⟩
    rw [← e5]
    simp only [hA, List.take_succ_cons, List.take_zero, List.map_cons (f := frzO _ _ _), List.map_nil, frzO_opn]
    rfl
  cases hbl : Op.bytesLess n.name o.last
  rotate_left 1
  · have hr : rightB v = false := by
      have : nameOkO o n.name = false := by simp [nameOkO, k6, hu, hfst, bl_asymm _ _ hbl]
      rw [hstep, this]; simp
    simp (maxSteps := 400000) only [↓preZ, postZ, coreZ, ↓preU, postU, D_all, F_all, unR, outL, onePV, binS, ↓binS, boundR, ↓boundR, fieldOf, ↓fieldOf, boxR, allocR, newObj, zeroElem, buildSliceR, appendR, setAll, storeR, St.freeze, makeSliceR, minmaxR, makeFuncR, BEq.rfl, reduceIte, reduceCtorEq, Nat.reduceLT, Nat.reduceAdd, Nat.reduceSub, Nat.reduceMul, Nat.reduceBEq, Nat.reduceLeDiff, Int.reduceToNat, Int.reduceLE, hQ, hpos, hne0, t1, z1, lt1, le1, i1, hget, hset, h0', opnC, List.length_reverse, ↓ctrIsPlain, hpl, hmL', k6', nilCheckR, opnPut, opnBuild, zOl, zOs, ↓ctrValidS, hu, hfst, hbl, hr]
    exact ⟨htx.1, htx.2⟩
  by_cases heq : n.name = o.last
  · have heq' : (n.name = o.last) = True := eq_true heq
    have hr : rightB v = false := by
      have : nameOkO o n.name = false := by simp [nameOkO, k6, hu, hfst, heq, bl_irrefl]
      rw [hstep, this]; simp
    simp (maxSteps := 400000) only [↓preZ, postZ, coreZ, ↓preU, postU, D_all, F_all, unR, outL, onePV, binS, ↓binS, boundR, ↓boundR, fieldOf, ↓fieldOf, boxR, allocR, newObj, zeroElem, buildSliceR, appendR, setAll, storeR, St.freeze, makeSliceR, minmaxR, makeFuncR, BEq.rfl, reduceIte, reduceCtorEq, Nat.reduceLT, Nat.reduceAdd, Nat.reduceSub, Nat.reduceMul, Nat.reduceBEq, Nat.reduceLeDiff, Int.reduceToNat, Int.reduceLE, hQ, hpos, hne0, t1, z1, lt1, le1, i1, hget, hset, h0', opnC, List.length_reverse, ↓ctrIsPlain, hpl, hmL', k6', nilCheckR, opnPut, opnBuild, zOl, zOs, ↓ctrValidS, hu, hfst, hbl, heq', hr]
    exact ⟨htx.1, htx.2⟩
  · have heq' : (n.name = o.last) = False := eq_false heq
    have hn : nameOkO o n.name = true := by
      have : Op.bytesLess o.last n.name = true := by
        rcases bl_tri o.last n.name with g | g | g
        · exact g
        · exact absurd g.symm heq
        · rw [g] at hbl; cases hbl
      simp [nameOkO, k6, hu, this]
    simp (maxSteps := 400000) only [↓preZ, postZ, coreZ, ↓preU, postU, D_all, F_all, unR, outL, onePV, binS, ↓binS, boundR, ↓boundR, fieldOf, ↓fieldOf, boxR, allocR, newObj, zeroElem, buildSliceR, appendR, setAll, storeR, St.freeze, makeSliceR, minmaxR, makeFuncR, BEq.rfl, reduceIte, reduceCtorEq, Nat.reduceLT, Nat.reduceAdd, Nat.reduceSub, Nat.reduceMul, Nat.reduceBEq, Nat.reduceLeDiff, Int.reduceToNat, Int.reduceLE, hQ, hpos, hne0, t1, z1, lt1, le1, i1, hget, hset, h0', opnC, List.length_reverse, ↓ctrIsPlain, hpl, hmL', k6', nilCheckR, opnPut, opnBuild, zOl, zOs, ↓ctrValidS, hu, hfst, hbl, heq']
    obtain ⟨m1, e0, s1, j1, w1, e1, e2, e3, e4, e5⟩ := fin hn
    refine ⟨htx.1, htx.2, ⟨by omega, by omega⟩, rfl, by omega, by omega, ⟨by omega, by omega⟩, m1, e0, s1, j1, w1, e1, e2, e3, e4, ?_⟩
    rw [← e5]
    simp only [hA, List.take_succ_cons, List.take_zero, List.map_cons (f := frzO _ _ _), List.map_nil, frzO_opn]
    rfl
def ctrValRight : Ctr := fun args objs K => match args with
  | [a0] => ofE encV a0 (HK.mk : HK fun v => (Small v) ∧ K (.bool (rightB v)) objs 0)
  | _ => False
theorem ctrValRight_ok : CtrOk Tryd.prog f_val_Right (ctrValRight) := by
  intro args objs K h
  unfold ctrValRight at h
  split at h
  · rename_i a0
    obtain ⟨v, rfl, h1, hk⟩ := h
    exact ⟨_, _, _, .pure _ rfl (valRight_spec v h1), hk⟩
  · exact h.elim
end Lp

/-! LpD13 -/

namespace Lp
open Go Go.Proofs

set_option maxHeartbeats 4000000
set_option maxRecDepth 20000
set_option linter.unusedSimpArgs false

def oneT2 : Vl := [⟨2, 0, [], [], false, 0⟩]
def twoT2 : Vl := listV [oneT2, oneT2]
def objT2 : Vl := [⟨6, 2, [], [], false, 0⟩, ⟨2, 0, [97], [], false, 0⟩, ⟨5, 2, [98], [], false, 0⟩, ⟨2, 0, [], [], false, 0⟩, ⟨2, 0, [], [], false, 0⟩]

theorem valRightNil : FnSpec Tryd.prog f_val_Right [.sl 0 [] (some true)] [] (.bool (rightB [])) [] :=
  (valRight_spec [] ⟨by simp, by simp⟩).arg rfl fun i p q hp hq => by
    match i, hp, hq with
    | 0, hp, hq => cases hp; cases hq; exact tells_nil 0 6
    | _ + 1, hp, _ => simp at hp

def ctrRightN : Ctr := fun args objs K => ∃ v : Vl, (args = [encV v] ∨ (v = [] ∧ args = [.sl 0 [] (some true)])) ∧ Small v ∧ K (.bool (rightB v)) objs 0
theorem ctrRightN_ok : CtrOk Tryd.prog f_val_Right ctrRightN := by
  rintro args objs K ⟨v, rfl | ⟨rfl, rfl⟩, hs, hk⟩
  · exact ⟨_, _, _, .pure _ rfl (valRight_spec v hs), hk⟩
  · exact ⟨_, _, _, .pure _ rfl valRightNil, hk⟩

theorem obj_t1 : objVal [[98], [97]] [twoT2, oneT2] = objT2 ∧ objErr [[98], [97]] [twoT2, oneT2] = 0 ∧ objErr [[98], [98]] [oneT2, oneT2] = 4 ∧ fieldV objT2 [98] = twoT2 ∧ hasV objT2 [98] = true ∧ depthV objT2 = 2 ∧ rightB objT2 = true := by
  refine ⟨?_, ?_, ?_, ?_, ?_, ?_, ?_⟩ <;> decide +kernel

theorem alive_spec : FnSpec Tryd.prog f_loupelaw02_alive [] [] (.bool true) [] := by
  refine k_loupelaw02_alive.pureG (T := tabL Tryd.prog [(f_val_List, ctrValList), (f_val_Object, ctrValObject), (f_val_Field, ctrValField), (f_val_Same, ctrValSame), (f_val_Depth, ctrValDepth), (f_val_Right, ctrRightN)]) 0 hD (kOk_tabL (tabOk_cons ctrValList_ok (tabOk_cons ctrValObject_ok (tabOk_cons ctrValField_ok (tabOk_cons ctrValSame_ok (tabOk_cons ctrValDepth_ok (tabOk_cons ctrRightN_ok tabOk_nil))))))) hmix (by decide) fun Q hQ => ?_
  try simp only [F_all]
  obtain ⟨t1, t2, t3, t4, t5, t6, t7⟩ := obj_t1
  have e1 : ∀ x, listV [[⟨2, 0, [], [], false, 0⟩], [⟨2, 0, [], [], false, 0⟩]] = x → twoT2 = x := fun _ h => h
  have e0 : [(⟨2, 0, [], [], false, 0⟩ : Nd)] = oneT2 := rfl
  have e2 : listV [oneT2, oneT2] = twoT2 := rfl
  have hl : ((twoT2.length : Nat) : Int) = 3 := by decide
  have hl5 : ((objT2.length : Nat) : Int) = 5 := by decide
  have g1 : objT2[1]? = some ⟨2, 0, [97], [], false, 0⟩ := rfl
  have z1 : (0 ≤ (1 : Int)) = True := eq_true (by decide)
  have n1 : Int.toNat 1 = 1 := rfl
  have hr := rightB_rt t7
  simp (maxSteps := 400000) only [↓preZ, postZ, coreZ, ↓preU, postU, D_all, F_all, unR, outL, onePV, binS, ↓binS, boundR, ↓boundR, fieldOf, ↓fieldOf, boxR, allocR, newObj, zeroElem, buildSliceR, appendR, setAll, storeR, St.freeze, makeSliceR, minmaxR, makeFuncR, BEq.rfl, reduceIte, reduceCtorEq, Nat.reduceLT, Nat.reduceAdd, Nat.reduceSub, Nat.reduceMul, Nat.reduceBEq, Nat.reduceLeDiff, Int.reduceToNat, Int.reduceLE, hQ, c_loupelaw02_alive, ↓ctrValList, ↓ctrValObject, ↓ctrValField, ↓ctrValSame, ↓ctrValDepth, extractR, e0, e2, t1, t2, t3, t4, t5, t6, hl, hl5, zNl, zNs, g1, z1, n1, ↓ctrRightN]
  have sm : Small objT2 := ⟨by decide, by decide⟩
  refine ⟨by decide, by decide, by decide, by decide, by decide, by decide, by decide, hr, by decide, by decide, by decide, hr, by decide, fun _ => ⟨objT2, .inl rfl, sm, ?_⟩, fun h => h rfl⟩
  rw [t7]
  simp only [ifR]
  exact ⟨[], .inr rfl, ⟨by simp, by simp⟩, rfl⟩

def ctrAlive2 : Ctr := fun args objs K => match args with
  | [] => K (.bool true) objs 0
  | _ => False
theorem ctrAlive2_ok : CtrOk Tryd.prog f_loupelaw02_alive (ctrAlive2) := by
  intro args objs K h
  unfold ctrAlive2 at h
  split at h
  · skip
    have hk := h
    exact ⟨_, _, _, .pure _ rfl (alive_spec), hk⟩
  · exact h.elim
end Lp

/-! LpD3 -/

namespace Lp
open Go Go.Proofs

set_option maxHeartbeats 4000000
set_option maxRecDepth 20000

theorem partsV_spec (v : Vl) (hl : v.length ≤ 1099511627776) (ho : One v) : FnSpec Tryd.prog f_val_Parts [encV v] [] (encL (partsV v)) [] := by
  cases v with
  | nil => exact absurd rfl ho.ne
  | cons n r =>
    obtain ⟨hm, ps, h1, _, _⟩ := ho.parts
    have := parts_spec (n :: r) n r ps rfl hl hm h1
    rw [partsV, encL, (partsOf_eq h1).1, List.map_map]
    exact this

theorem namesV_spec (v : Vl) (hl : v.length ≤ 1099511627776) (ho : One v) : FnSpec Tryd.prog f_val_Names [encV v] [] (encT (namesV v)) [] := by
  cases v with
  | nil => exact absurd rfl ho.ne
  | cons n r =>
    obtain ⟨hm, ps, h1, _, _⟩ := ho.parts
    have := names_spec (n :: r) n r ps rfl hl hm h1
    rw [namesOf] at this
    rw [namesV, encT, (partsOf_eq h1).2]
    exact this

def ctrParts : Ctr := fun args objs K => match args with
  | [a0] => ofE encV a0 (HK.mk : HK fun v => (v.length ≤ 1099511627776) ∧ (One v) ∧ K (encL (partsV v)) objs 0)
  | _ => False
theorem ctrParts_ok : CtrOk Tryd.prog f_val_Parts (ctrParts) := by
  intro args objs K h
  unfold ctrParts at h
  split at h
  · rename_i a0
    obtain ⟨v, rfl, h1, h2, hk⟩ := h
    exact ⟨_, _, _, .pure _ rfl (partsV_spec v h1 h2), hk⟩
  · exact h.elim
def ctrNames : Ctr := fun args objs K => match args with
  | [a0] => ofE encV a0 (HK.mk : HK fun v => (v.length ≤ 1099511627776) ∧ (One v) ∧ K (encT (namesV v)) objs 0)
  | _ => False
theorem ctrNames_ok : CtrOk Tryd.prog f_val_Names (ctrNames) := by
  intro args objs K h
  unfold ctrNames at h
  split at h
  · rename_i a0
    obtain ⟨v, rfl, h1, h2, hk⟩ := h
    exact ⟨_, _, _, .pure _ rfl (namesV_spec v h1 h2), hk⟩
  · exact h.elim
end Lp

/-! LpRd -/

namespace Lp
open Go Go.Proofs

set_option maxHeartbeats 2000000
set_option maxRecDepth 20000

instance : Inhabited Nd := ⟨⟨0, 0, [], [], false, 0⟩⟩

/-- What any node that can be read is. -/
structure BigN (n : Nd) : Prop where
  kind : inR .i64 n.kind
  many : inR .i64 n.many
  name : n.name.length ≤ reachBytes
  s : n.s.length ≤ reachBytes
  e : inR .i64 n.e

theorem one_cell {t : TypeId} (hc : Tryd.prog.cellsOf t = 1) {cs : List Value} {off : Nat} {v : Value} (h : cs[off]? = some v) : (cs.drop off).take (Tryd.prog.cellsOf t) = [v] := by
  rw [hc]
  have hl := (List.getElem?_eq_some_iff.1 h).1
  rw [show (cs.drop off) = cs[off] :: cs.drop (off + 1) from List.drop_eq_getElem_cons hl]
  rw [List.getElem?_eq_getElem hl] at h
  cases h
  rw [List.take_succ_cons, List.take_zero]

theorem u_int : Tryd.prog.underlying t_int = some (.int .i64) := by kernel_rfl
theorem u_string : Tryd.prog.underlying t_string = some .string := by kernel_rfl
theorem u_bool : Tryd.prog.underlying t_bool = some .bool := by kernel_rfl
theorem u_val : Tryd.prog.underlying t_api_Val = some (.slice t_api_Node) := by kernel_rfl
theorem u_vals : Tryd.prog.underlying t_L_api_Val = some (.slice t_api_Val) := by kernel_rfl
theorem c_int : Tryd.prog.cellsOf t_int = 1 := by kernel_rfl
theorem c_string : Tryd.prog.cellsOf t_string = 1 := by kernel_rfl
theorem c_bool : Tryd.prog.cellsOf t_bool = 1 := by kernel_rfl

theorem u_node : ∃ fs : Array Field, Tryd.prog.underlying t_api_Node = some (.struct fs) ∧ fs.toList.map (fun f => (f.offset, f.type)) = [(0, t_int), (1, t_int), (2, t_string), (3, t_string), (4, t_bool), (5, t_int)] :=
  ⟨Tryd.prog.fieldsOf t_api_Node, by kernel_rfl, by kernel_rfl⟩

theorem rd_node : Rd Tryd.prog t_api_Node encN BigN := by
  intro H eh w fuel cs x h hw
  obtain ⟨fs, ht, hfs⟩ := u_node
  obtain ⟨hl, hp⟩ := struct_parts ht h hw
  rw [hfs] at hp
  have hc : Tryd.prog.cellsOf t_api_Node = 6 := by kernel_rfl
  rw [hc] at hl
  match cs, hl with
  | [v0, v1, v2, v3, v4, v5], _ =>
    obtain ⟨n0, y0, a0, b0⟩ := hp 0 0 t_int rfl
    obtain ⟨n1, y1, a1, b1⟩ := hp 1 1 t_int rfl
    obtain ⟨n2, y2, a2, b2⟩ := hp 2 2 t_string rfl
    obtain ⟨n3, y3, a3, b3⟩ := hp 3 3 t_string rfl
    obtain ⟨n4, y4, a4, b4⟩ := hp 4 4 t_bool rfl
    obtain ⟨n5, y5, a5, b5⟩ := hp 5 5 t_int rfl
    rw [one_cell c_int (v := v0) rfl] at a0
    rw [one_cell c_int (v := v1) rfl] at a1
    rw [one_cell c_string (v := v2) rfl] at a2
    rw [one_cell c_string (v := v3) rfl] at a3
    rw [one_cell c_bool (v := v4) rfl] at a4
    rw [one_cell c_int (v := v5) rfl] at a5
    obtain ⟨k, g0, r0⟩ := Rd.int u_int eh w n0 _ _ a0 b0
    obtain ⟨m, g1, r1⟩ := Rd.int u_int eh w n1 _ _ a1 b1
    obtain ⟨nm, g2, r2⟩ := Rd.str u_string eh w n2 _ _ a2 b2
    obtain ⟨s, g3, r3⟩ := Rd.str u_string eh w n3 _ _ a3 b3
    obtain ⟨g, _, r4⟩ := Rd.bool u_bool eh w n4 _ _ a4 b4
    obtain ⟨e, g5, r5⟩ := Rd.int u_int eh w n5 _ _ a5 b5
    refine ⟨⟨k, m, nm, s, g, e⟩, ⟨g0, g1, g2, g3, g5⟩, rfl, fun i p v h1 h2 => ?_⟩
    match i with
    | 0 => simp [encN, PV.cells] at h1 h2; subst h1; subst h2; exact r0.2 0 _ _ rfl rfl
    | 1 => simp [encN, PV.cells] at h1 h2; subst h1; subst h2; exact r1.2 0 _ _ rfl rfl
    | 2 => simp [encN, PV.cells] at h1 h2; subst h1; subst h2; exact r2.2 0 _ _ rfl rfl
    | 3 => simp [encN, PV.cells] at h1 h2; subst h1; subst h2; exact r3.2 0 _ _ rfl rfl
    | 4 => simp [encN, PV.cells] at h1 h2; subst h1; subst h2; exact r4.2 0 _ _ rfl rfl
    | 5 => simp [encN, PV.cells] at h1 h2; subst h1; subst h2; exact r5.2 0 _ _ rfl rfl
    | i + 6 => simp [encN, PV.cells] at h1

/-- What any value that can be read is. -/
structure Big (v : Vl) : Prop where
  len : v.length ≤ 1152921504606846976
  txt : ∀ n ∈ v, n.s.length ≤ 4611686018427387904 ∧ n.name.length ≤ 4611686018427387904
  nd : ∀ n ∈ v, BigN n

theorem rd_val : Rd Tryd.prog t_api_Val encV Big := by
  intro H eh w fuel cs x h hw
  obtain ⟨v, ⟨h1, h2⟩, h3⟩ := Rd.slice (sz := 6) u_val rd_node (by kernel_rfl) (by decide) (fun _ => rfl) eh w fuel cs x h hw
  have hb : Tryd.prog.bytesOf t_api_Node = 64 := by kernel_rfl
  rw [hb, reachBytes] at h1
  refine ⟨v, ⟨by omega, fun n hn => ?_, h2⟩, h3⟩
  have g := h2 n hn
  have g1 := g.name
  have g2 := g.s
  rw [reachBytes] at g1 g2
  exact ⟨by omega, by omega⟩

/-- What any keys that can be read are. -/
structure BigL (l : List Vl) : Prop where
  len : l.length ≤ 1152921504606846976
  all : ∀ v ∈ l, Big v

theorem rd_vals : Rd Tryd.prog t_L_api_Val encL BigL := by
  intro H eh w fuel cs x h hw
  obtain ⟨l, ⟨h1, h2⟩, h3⟩ := Rd.slice (sz := 1) u_vals rd_val (by kernel_rfl) (by decide) (fun _ => rfl) eh w fuel cs x h hw
  have hb : Tryd.prog.bytesOf t_api_Val = 24 := by kernel_rfl
  rw [hb, reachBytes] at h1
  exact ⟨l, ⟨by omega, h2⟩, h3⟩

/-- An argument that is a slice. -/
theorem rd_arg {t e : TypeId} {α : Type} {enc : α → PV} {good : α → Prop} (hu : Tryd.prog.underlying t = some (.slice e)) (hr : Rd Tryd.prog t enc good) (h1 : ∀ a, (enc a).cells = [enc a]) {H : Type} {eh : TypeId × Value → H} {w : World} {base : Nat} {v : Value} {d : DataW H} {p : List MemPlace}
    (hv : Value.okWide Tryd.prog w .any base t v) (h : DataW.Trod eh Tryd.prog w 0 (fun _ => true) true t v d p) (hw : ∀ n ∈ DataW.weights Tryd.prog t d, n ≤ reachBytes) : ∃ a : α, good a ∧ Rep w (fun _ => True) (enc a) v := by
  obtain ⟨ad, len, cap, rfl⟩ := Go.WideShapes.okWide_slice hu hv
  obtain ⟨fuel, h⟩ := h
  obtain ⟨a, g, r⟩ := hr eh w fuel _ _ h hw
  rw [h1 a] at r
  exact ⟨a, g, r.2 0 _ _ rfl rfl⟩

theorem repL_cons {R : PV → Value → Prop} {p : PV} {ps : List PV} {v : Value} {vs : List Value} (h : R p v) (hs : RepL R ps vs) : RepL R (p :: ps) (v :: vs) :=
  ⟨by simp [hs.1], fun i q u h1 h2 => by
    cases i with
    | zero => simp at h1 h2; subst h1; subst h2; exact h
    | succ i => exact hs.2 i q u (by simpa using h1) (by simpa using h2)⟩

theorem repL_nil {R : PV → Value → Prop} : RepL R [] [] := ⟨rfl, fun i q u h1 => by simp at h1⟩

end Lp

/-! LpM1 -/

namespace Lp
open Go Go.Proofs

set_option maxHeartbeats 4000000
set_option maxRecDepth 20000
set_option linter.unusedSimpArgs false

theorem Big.small {v : Vl} (h : Big v) (hl : v.length ≤ 1000000) : Small v := ⟨hl, h.txt⟩

theorem partsV_facts {v : Vl} (hr : Rt v) : (partsV v).length ≤ v.length ∧ (namesV v).length ≤ v.length ∧ (partsV v).flatten.length ≤ v.length ∧ ∀ p ∈ partsV v, p.length ≤ v.length := by
  obtain ⟨n, r, rfl, _⟩ := nameOf_nil hr.name hr.one.ne
  obtain ⟨h1, h2, ps, h3, h4, h5, h6, h7⟩ := hr.parts
  obtain ⟨q1, q2⟩ := partsOf_eq h3
  have h8 := parts_len _ _ _ h3
  have h9 := parts_le _ _ _ h3
  have hfl : (ps.map clr).flatten.length = r.length := by
    rw [← h4, List.length_flatten, List.length_flatten, List.map_map]
    congr 1
    exact List.map_congr_left fun p _ => clr_length p
  refine ⟨?_, ?_, ?_, fun p hp => Nat.le_of_lt (partsV_rt hr hp).2⟩
  · simp only [partsV, q1, List.length_map, List.length_cons]; omega
  · simp only [namesV, q2]
    split
    · simp only [List.length_map, List.length_cons]; omega
    · simp
  · simp only [partsV, q1, hfl, List.length_cons]; omega

theorem valTells_spec (a b : Vl) (ha : Big a) (hb : Big b) : FnSpec Tryd.prog f_loupelaw02_ValTells [encV a, encV b] [] (.bool true) [] := by
  refine k_loupelaw02_ValTells.pureG (T := tabL Tryd.prog [(f_loupelaw02_alive, ctrAlive2), (f_louperef02_Right, ctrRight), (f_val_Right, ctrValRight), (f_val_Same, ctrValSame), (f_louperef02_Same, ctrSame), (f_val_Depth, ctrValDepth), (f_louperef02_Depth, ctrRefDepth), (f_val_Parts, ctrParts), (f_louperef02_Parts, ctrRefParts), (f_louperef02_Lists, ctrLists), (f_val_Names, ctrNames), (f_louperef02_Names, ctrRefNamesOf), (f_louperef02_Texts, ctrTexts)]) 0 hD (kOk_tabL (tabOk_cons ctrAlive2_ok (tabOk_cons ctrRight_ok (tabOk_cons ctrValRight_ok (tabOk_cons ctrValSame_ok (tabOk_cons ctrSame_ok (tabOk_cons ctrValDepth_ok (tabOk_cons ctrRefDepth_ok (tabOk_cons ctrParts_ok (tabOk_cons ctrRefParts_ok (tabOk_cons ctrLists_ok (tabOk_cons ctrNames_ok (tabOk_cons ctrRefNamesOf_ok (tabOk_cons ctrTexts_ok tabOk_nil)))))))))))))) hmix (by decide) fun Q hQ => ?_
  try simp only [F_all]
  rcases Nat.lt_or_ge 60 a.length with h1 | h1
  · have h1' : ((60 : Int) < (a.length : Int)) = True := eq_true (by omega)
    simp (maxSteps := 400000) only [↓preZ, postZ, coreZ, ↓preU, postU, D_all, F_all, unR, outL, onePV, binS, ↓binS, boundR, ↓boundR, fieldOf, ↓fieldOf, boxR, allocR, newObj, zeroElem, buildSliceR, appendR, setAll, storeR, St.freeze, makeSliceR, minmaxR, makeFuncR, BEq.rfl, reduceIte, reduceCtorEq, Nat.reduceLT, Nat.reduceAdd, Nat.reduceSub, Nat.reduceMul, Nat.reduceBEq, Nat.reduceLeDiff, Int.reduceToNat, Int.reduceLE, hQ, c_loupelaw02_ValTells, h1', ↓ctrAlive2]
  have h1' : ((60 : Int) < (a.length : Int)) = False := eq_false (by omega)
  rcases Nat.lt_or_ge 60 b.length with h2 | h2
  · have h2' : ((60 : Int) < (b.length : Int)) = True := eq_true (by omega)
    simp (maxSteps := 400000) only [↓preZ, postZ, coreZ, ↓preU, postU, D_all, F_all, unR, outL, onePV, binS, ↓binS, boundR, ↓boundR, fieldOf, ↓fieldOf, boxR, allocR, newObj, zeroElem, buildSliceR, appendR, setAll, storeR, St.freeze, makeSliceR, minmaxR, makeFuncR, BEq.rfl, reduceIte, reduceCtorEq, Nat.reduceLT, Nat.reduceAdd, Nat.reduceSub, Nat.reduceMul, Nat.reduceBEq, Nat.reduceLeDiff, Int.reduceToNat, Int.reduceLE, hQ, c_loupelaw02_ValTells, h1', h2', ↓ctrAlive2]
  have h2' : ((60 : Int) < (b.length : Int)) = False := eq_false (by omega)
  have sa := ha.small (by omega)
  have e1 : ∀ x : Bool, (!(x == x)) = false := fun x => by cases x <;> rfl
  have e2 : ∀ x : Bool, (x == x) = true := fun x => by cases x <;> rfl
  cases hr : rightB a
  · simp (maxSteps := 400000) only [↓preZ, postZ, coreZ, ↓preU, postU, D_all, F_all, unR, outL, onePV, binS, ↓binS, boundR, ↓boundR, fieldOf, ↓fieldOf, boxR, allocR, newObj, zeroElem, buildSliceR, appendR, setAll, storeR, St.freeze, makeSliceR, minmaxR, makeFuncR, BEq.rfl, reduceIte, reduceCtorEq, Nat.reduceLT, Nat.reduceAdd, Nat.reduceSub, Nat.reduceMul, Nat.reduceBEq, Nat.reduceLeDiff, Int.reduceToNat, Int.reduceLE, hQ, c_loupelaw02_ValTells, h1', h2', ↓ctrAlive2, ↓ctrRight, ↓ctrValRight, ↓ctrValSame, ↓ctrSame, hr, e1]
    repeat' (first | omega | exact sa | refine ⟨?_, ?_⟩)
  have hrt := rightB_rt hr
  obtain ⟨p1, p2, p3, p4⟩ := partsV_facts hrt
  simp (maxSteps := 400000) only [↓preZ, postZ, coreZ, ↓preU, postU, D_all, F_all, unR, outL, onePV, binS, ↓binS, boundR, ↓boundR, fieldOf, ↓fieldOf, boxR, allocR, newObj, zeroElem, buildSliceR, appendR, setAll, storeR, St.freeze, makeSliceR, minmaxR, makeFuncR, BEq.rfl, reduceIte, reduceCtorEq, Nat.reduceLT, Nat.reduceAdd, Nat.reduceSub, Nat.reduceMul, Nat.reduceBEq, Nat.reduceLeDiff, Int.reduceToNat, Int.reduceLE, hQ, c_loupelaw02_ValTells, h1', h2', ↓ctrAlive2, ↓ctrRight, ↓ctrValRight, ↓ctrValSame, ↓ctrSame, hr, e1, ↓ctrValDepth, ↓ctrRefDepth, ↓ctrParts, ↓ctrRefParts, ↓ctrLists, ↓ctrNames, ↓ctrRefNamesOf, ↓ctrTexts]
  repeat' (first | omega | exact sa | exact hrt | exact hrt.one | exact (fun p hp => by have := p4 p hp; omega) | refine ⟨?_, ?_⟩)
end Lp
