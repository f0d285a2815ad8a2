/-
  Part 7 of what the statement rests on: LpD8, LpD13, LpD3, LpRd, LpMf, LpTie, LpX2, LpM4. No condition.
-/
import Derived.Test.YtcememnoihgipaaDoorLp6
import Derived.Lib.LaidIn
import Derived.Lib.LaidU8T
import Derived.Deep.DeepHandedRow
import Derived.Deep.DeepWitnessRowRef
import Derived.ProofKit
import Derived.SizedLaws
import Derived.JoinedCond

set_option linter.all false

/-! LpD8 -/

namespace Lp
open Go Go.Proofs

set_option maxHeartbeats 4000000
set_option maxRecDepth 20000
set_option linter.unusedSimpArgs false

def encO (o : Opn) : PV := .agg [.int .i64 o.kind, .int .i64 o.left, .bool o.first, .str o.last]
def encOs (l : List Opn) : PV := .sl 4 (l.map encO) none

theorem encO_inj : ∀ a b, encO a = encO b → a = b := by
  intro a b h
  cases a; cases b
  simp only [encO, PV.agg.injEq, List.cons.injEq, PV.int.injEq, PV.str.injEq, PV.bool.injEq, true_and, and_true] at h
  obtain ⟨rfl, rfl, rfl, rfl⟩ := h
  rfl

theorem opnC :
    (∀ o, (encO o).cells = [.int .i64 o.kind, .int .i64 o.left, .bool o.first, .str o.last]) ∧ (∀ o, (encO o).isAgg = true) ∧ (∀ o, (encO o).pure = true) ∧ (∀ d m O o, frz d m O (encO o) = encO o) ∧ (∀ d m O o, frzT d m O (encO o) = encO o) ∧ type_of% (ofE_inj encO_inj) :=
  ⟨fun _ => rfl, fun _ => rfl, fun _ => rfl, fun _ _ _ _ => rfl, fun _ _ _ _ => rfl, ofE_inj encO_inj⟩

theorem hO : ∀ l, encOs l = .sl 4 (l.map encO) none := fun _ => rfl
theorem encOs_inj : ∀ a b, encOs a = encOs b → a = b := row_inj hO encO_inj
theorem inO : Inert encO := by intro d n o x; cases d <;> rfl
theorem opnB : type_of% opnC ∧ type_of% (rowR hO) ∧ type_of% (rowS hO) ∧ type_of% (rowC hO) ∧ type_of% (ofE_inj encOs_inj) ∧ type_of% (frzRow hO inO) :=
  ⟨opnC, rowR hO, rowS hO, rowC hO, ofE_inj encOs_inj, frzRow hO inO⟩

def openP (o : Opn) : Bool := decide (0 < o.left)

theorem openR_spec (o : Opn) : FnSpec Tryd.prog f_val_Right_1 [encO o] [] (.bool (openP o)) [] := by
  unfold openP
  refine k_val_Right_1.pureG (T := tabL Tryd.prog []) 0 hD (kOk_tabL tabOk_nil) hmix (by decide) fun Q hQ => ?_
  try simp only [F_all]
  simp (maxSteps := 400000) only [↓preZ, postZ, coreZ, ↓preU, postU, D_all, F_all, unR, outL, onePV, binS, ↓binS, boundR, ↓boundR, fieldOf, ↓fieldOf, boxR, allocR, newObj, zeroElem, buildSliceR, appendR, setAll, storeR, St.freeze, makeSliceR, minmaxR, makeFuncR, BEq.rfl, reduceIte, reduceCtorEq, Nat.reduceLT, Nat.reduceAdd, Nat.reduceSub, Nat.reduceMul, Nat.reduceBEq, Nat.reduceLeDiff, Int.reduceToNat, Int.reduceLE, hQ, c_val_Right_1, encO]

def ctrOpenR : Ctr := fun args objs K => match args with
  | [a0] => ofE encO a0 (HK.mk : HK fun o => K (.bool (openP o)) objs 0)
  | _ => False
theorem ctrOpenR_ok : CtrOk Tryd.prog f_val_Right_1 (ctrOpenR) := by
  intro args objs K h
  unfold ctrOpenR at h
  split at h
  · rename_i a0
    obtain ⟨o, rfl, hk⟩ := h
    exact ⟨_, _, _, .pure _ rfl (openR_spec o), hk⟩
  · exact h.elim

def idxOf {α : Type} (p : α → Bool) (l : List α) : Int := match l.findIdx? p with
  | some i => i
  | none => -1

theorem idxOf_hit {α : Type} {p : α → Bool} {l : List α} {i : Nat} {x : α} (h : l[i]? = some x) (hx : p x = true) (hb : ∀ (j : Nat) y, j < i → l[j]? = some y → p y = false) : idxOf p l = i := by
  have : l.findIdx? p = some i := by
    rw [List.findIdx?_eq_some_iff_getElem]
    obtain ⟨hi, he⟩ := List.getElem?_eq_some_iff.1 h
    refine ⟨hi, by rw [he]; exact hx, fun j hj => ?_⟩
    have := hb j _ hj (List.getElem?_eq_getElem (by omega))
    simp [this]
  simp [idxOf, this]

theorem idxOf_none {α : Type} {p : α → Bool} {l : List α} (hb : ∀ (j : Nat) y, l[j]? = some y → p y = false) : idxOf p l = -1 := by
  have : l.findIdx? p = none := by
    rw [List.findIdx?_eq_none_iff]
    intro x hx
    obtain ⟨i, hi⟩ := List.mem_iff_getElem?.1 hx
    exact hb i x hi
  simp [idxOf, this]

theorem idxOf_any {α : Type} (p : α → Bool) (l : List α) : decide (0 ≤ idxOf p l) = l.any p := by
  rw [Bool.eq_iff_iff, decide_eq_true_iff]
  cases h : l.findIdx? p with
  | none =>
    rw [List.findIdx?_eq_none_iff] at h
    have : l.any p = false := by rw [List.any_eq_false]; intro x hx; simp [h x hx]
    simp [idxOf, List.findIdx?_eq_none_iff.2 h, this]
  | some i =>
    have h' := h
    rw [List.findIdx?_eq_some_iff_getElem] at h'
    obtain ⟨hi, hp, _⟩ := h'
    have : l.any p = true := List.any_eq_true.2 ⟨_, List.getElem_mem hi, hp⟩
    simp [idxOf, h, this]

theorem idxOpen_spec (l : List Opn) (hl : l.length ≤ 4611686018427387904) : FnSpec Tryd.prog f_slices_IndexFunc_L_val_open_val_open_ [encOs l, .fn f_val_Right_1 [] []] [] (.int .i64 (idxOf openP l)) [] := by
  refine k_slices_IndexFunc_L_val_open_val_open_.pureG (T := tabL Tryd.prog [(f_val_Right_1, ctrOpenR)]) 0 hD (kOk_tabL (tabOk_cons ctrOpenR_ok tabOk_nil)) hmix (by decide) fun Q hQ => ?_
  try simp only [F_all]
  simp (maxSteps := 400000) only [↓preZ, postZ, coreZ, ↓preU, postU, D_all, F_all, unR, outL, onePV, binS, ↓binS, boundR, ↓boundR, fieldOf, ↓fieldOf, boxR, allocR, newObj, zeroElem, buildSliceR, appendR, setAll, storeR, St.freeze, makeSliceR, minmaxR, makeFuncR, BEq.rfl, reduceIte, reduceCtorEq, Nat.reduceLT, Nat.reduceAdd, Nat.reduceSub, Nat.reduceMul, Nat.reduceBEq, Nat.reduceLeDiff, Int.reduceToNat, Int.reduceLE, hQ, c_slices_IndexFunc_L_val_open_val_open_, opnB]
  refine wpc_loop (fun m S => ∃ i : Nat, i + m = l.length ∧ (∀ (j : Nat) y, j < i → l[j]? = some y → openP y = false) ∧ S = ⟨tmA 19 [(0, encOs l), (1, .fn f_val_Right_1 [] []), (7, .int .i64 l.length), (8, .int .i64 i)], []⟩) l.length ⟨0, by omega, fun j y h => absurd h (Nat.not_lt_zero j), ?_⟩ ?_
  · simp only [normR, keepR, Nat.reduceAdd, lkR, Nat.reduceBEq, F_all, List.map_nil]
    rfl
  rintro m S ⟨i, him, hb, rfl⟩
  rcases Nat.lt_or_ge i l.length with h | h
  rotate_left 1
  · have hlt : ((i : Int) < (l.length : Int)) = False := eq_false (by omega)
    have hr := idxOf_none (l := l) fun j y hj => hb j y (by have := (List.getElem?_eq_some_iff.1 hj).1; omega) hj
    simp (maxSteps := 400000) only [↓preZ, postZ, coreZ, ↓preU, postU, D_all, F_all, unR, outL, onePV, binS, ↓binS, boundR, ↓boundR, fieldOf, ↓fieldOf, boxR, allocR, newObj, zeroElem, buildSliceR, appendR, setAll, storeR, St.freeze, makeSliceR, minmaxR, makeFuncR, BEq.rfl, reduceIte, reduceCtorEq, Nat.reduceLT, Nat.reduceAdd, Nat.reduceSub, Nat.reduceMul, Nat.reduceBEq, Nat.reduceLeDiff, Int.reduceToNat, Int.reduceLE, hQ, hlt, hr]
  have hlt : ((i : Int) < (l.length : Int)) = True := eq_true (by omega)
  have zi : (0 ≤ (i : Int)) = True := eq_true (by omega)
  have hgi := List.getElem?_eq_getElem h
  generalize l[i] = o at hgi
  cases hp : openP o
  rotate_left 1
  · have hr : idxOf openP l = i := idxOf_hit hgi hp hb
    simp (maxSteps := 400000) only [↓preZ, postZ, coreZ, ↓preU, postU, D_all, F_all, unR, outL, onePV, binS, ↓binS, boundR, ↓boundR, fieldOf, ↓fieldOf, boxR, allocR, newObj, zeroElem, buildSliceR, appendR, setAll, storeR, St.freeze, makeSliceR, minmaxR, makeFuncR, BEq.rfl, reduceIte, reduceCtorEq, Nat.reduceLT, Nat.reduceAdd, Nat.reduceSub, Nat.reduceMul, Nat.reduceBEq, Nat.reduceLeDiff, Int.reduceToNat, Int.reduceLE, hQ, hlt, zi, opnB, hgi, ↓ctrOpenR, hp, hr]
  · simp (maxSteps := 400000) only [↓preZ, postZ, coreZ, ↓preU, postU, D_all, F_all, unR, outL, onePV, binS, ↓binS, boundR, ↓boundR, fieldOf, ↓fieldOf, boxR, allocR, newObj, zeroElem, buildSliceR, appendR, setAll, storeR, St.freeze, makeSliceR, minmaxR, makeFuncR, BEq.rfl, reduceIte, reduceCtorEq, Nat.reduceLT, Nat.reduceAdd, Nat.reduceSub, Nat.reduceMul, Nat.reduceBEq, Nat.reduceLeDiff, Int.reduceToNat, Int.reduceLE, hQ, hlt, zi, opnB, hgi, ↓ctrOpenR, hp]
    refine ⟨⟨by omega, by omega⟩, m - 1, by omega, i + 1, by omega, fun j y hj hy => ?_, rfl⟩
    rcases Nat.lt_or_ge j i with g | g
    · exact hb j y g hy
    · have : j = i := by omega
      subst this
      rw [hgi] at hy; cases hy
      exact hp

def ctrIdxOpen : Ctr := fun args objs K => match args with
  | [a0, a1] => ofE encOs a0 (HK.mk : HK fun l => a1 = (.fn f_val_Right_1 [] []) ∧ (l.length ≤ 4611686018427387904) ∧ K (.int .i64 (idxOf openP l)) objs 0)
  | _ => False
theorem ctrIdxOpen_ok : CtrOk Tryd.prog f_slices_IndexFunc_L_val_open_val_open_ (ctrIdxOpen) := by
  intro args objs K h
  unfold ctrIdxOpen at h
  split at h
  · rename_i a0 a1
    obtain ⟨l, rfl, rfl, h1, hk⟩ := h
    exact ⟨_, _, _, .pure _ rfl (idxOpen_spec l h1), hk⟩
  · exact h.elim

theorem anyOpen_spec (l : List Opn) (hl : l.length ≤ 4611686018427387904) : FnSpec Tryd.prog f_slices_ContainsFunc_L_val_open_val_open_ [encOs l, .fn f_val_Right_1 [] []] [] (.bool (l.any openP)) [] := by
  refine k_slices_ContainsFunc_L_val_open_val_open_.pureG (T := tabL Tryd.prog [(f_slices_IndexFunc_L_val_open_val_open_, ctrIdxOpen)]) 0 hD (kOk_tabL (tabOk_cons ctrIdxOpen_ok tabOk_nil)) hmix (by decide) fun Q hQ => ?_
  try simp only [F_all]
  simp (maxSteps := 400000) only [↓preZ, postZ, coreZ, ↓preU, postU, D_all, F_all, unR, outL, onePV, binS, ↓binS, boundR, ↓boundR, fieldOf, ↓fieldOf, boxR, allocR, newObj, zeroElem, buildSliceR, appendR, setAll, storeR, St.freeze, makeSliceR, minmaxR, makeFuncR, BEq.rfl, reduceIte, reduceCtorEq, Nat.reduceLT, Nat.reduceAdd, Nat.reduceSub, Nat.reduceMul, Nat.reduceBEq, Nat.reduceLeDiff, Int.reduceToNat, Int.reduceLE, hQ, c_slices_ContainsFunc_L_val_open_val_open_, opnB, ↓ctrIdxOpen, idxOf_any]
  exact hl

def ctrAnyOpen : Ctr := fun args objs K => match args with
  | [a0, a1] => ofE encOs a0 (HK.mk : HK fun l => a1 = (.fn f_val_Right_1 [] []) ∧ (l.length ≤ 4611686018427387904) ∧ K (.bool (l.any openP)) objs 0)
  | _ => False
theorem ctrAnyOpen_ok : CtrOk Tryd.prog f_slices_ContainsFunc_L_val_open_val_open_ (ctrAnyOpen) := by
  intro args objs K h
  unfold ctrAnyOpen at h
  split at h
  · rename_i a0 a1
    obtain ⟨l, rfl, rfl, h1, hk⟩ := h
    exact ⟨_, _, _, .pure _ rfl (anyOpen_spec l h1), hk⟩
  · exact h.elim

theorem opnBuild (objs : List Obj) (K : KT) :
    (∀ k m, buildR' D t_val_open [(0, .int .i64 k), (1, .int .i64 m)] objs K = K (encO ⟨k, m, false, []⟩) objs 0) ∧
    (∀ k m b, buildR' D t_val_open [(0, .int .i64 k), (1, .int .i64 m), (2, .bool b)] objs K = K (encO ⟨k, m, b, []⟩) objs 0) := by
  have z : zeroElem (D t_val_open) = encO ⟨0, 0, false, []⟩ := by kernel_rfl
  have a : (D t_val_open).agg = true := by kernel_rfl
  simp only [D_all] at z a
  refine ⟨fun k m => ?_, fun k m b => ?_⟩
  all_goals
    simp [buildR', buildR, a, z, D_all, fillR, encO, PV.isAgg, partOk, PV.cells, PV.storable, PV.solid, PV.pure]

theorem zOl : (PV.ofV (Value.agg { toList := [Value.int IntKind.i64 0, Value.int IntKind.i64 0, Value.bool false, Value.string { data := { toList := [] } }] })).cells.length = 4 := rfl
theorem zOs : (PV.ofV (Value.agg { toList := [Value.int IntKind.i64 0, Value.int IntKind.i64 0, Value.bool false, Value.string { data := { toList := [] } }] })).cells.all PV.storable = true := rfl

def stkO (s : List Opn) (ver : Nat) : Obj := ⟨t_val_open, 4, s.reverse.map encO, true, ver⟩

theorem runR_drop (L : Int) (s : List Opn) (n : Nd) (r : Vl) : runR L (s.dropWhile fun o => o.left == 0) (n :: r) = runR L s (n :: r) := by
  have e : (s.dropWhile fun o => o.left == 0).dropWhile (fun o => o.left == 0) = s.dropWhile fun o => o.left == 0 := by
    induction s with
    | nil => rfl
    | cons o t ih =>
      by_cases h : (o.left == 0) = true
      · have e : (o :: t).dropWhile (fun o : Opn => o.left == 0) = t.dropWhile (fun o : Opn => o.left == 0) := List.dropWhile_cons_of_pos h
        rw [e, ih]
      · have e : (o :: t).dropWhile (fun o : Opn => o.left == 0) = o :: t := List.dropWhile_cons_of_neg h
        rw [e, e]
  rw [runR, runR, e]

theorem opnPut : (∀ (o : Opn) (m : Int), (encO o).putCells 1 [.int .i64 m] = encO { o with left := m }) ∧ (∀ (o : Opn) (b : Bool), (encO o).putCells 2 [.bool b] = encO { o with first := b }) ∧ (∀ (o : Opn) (t : List UInt8), (encO o).putCells 3 [.str t] = encO { o with last := t }) := ⟨fun _ _ => rfl, fun _ _ => rfl, fun _ _ => rfl⟩

theorem frzO_opn (d n : Nat) (O : List Obj) (t : TypeId) (sz : Nat) (l : List Opn) (ver : Nat) : frzO d n O ⟨t, sz, l.map encO, true, ver⟩ = ⟨t, sz, l.map encO, true, ver⟩ := by
  have : (l.map encO).map (PV.mapCells (frz d n O)) = l.map encO := by
    rw [List.map_map]
    exact List.map_congr_left fun x _ => rfl
  simp only [frzO, this]

theorem valRight_spec (v : Vl) (hs : Small v) : FnSpec Tryd.prog f_val_Right [encV v] [] (.bool (rightB v)) [] := by
  have hl := hs.len
  refine k_val_Right.pureG (T := tabL Tryd.prog [(f_val_isPlain, ctrIsPlain), (f_unicode_utf8_ValidString, ctrValidS), (f_slices_ContainsFunc_L_val_open_val_open_, ctrAnyOpen)]) 1 hD (kOk_tabL (tabOk_cons ctrIsPlain_ok (tabOk_cons ctrValidS_ok (tabOk_cons ctrAnyOpen_ok tabOk_nil)))) hmix (by decide) fun Q hQ => ?_
  try simp only [F_all]
  simp (maxSteps := 400000) only [↓preZ, postZ, coreZ, ↓preU, postU, D_all, F_all, unR, outL, onePV, binS, ↓binS, boundR, ↓boundR, fieldOf, ↓fieldOf, boxR, allocR, newObj, zeroElem, buildSliceR, appendR, setAll, storeR, St.freeze, makeSliceR, minmaxR, makeFuncR, BEq.rfl, reduceIte, reduceCtorEq, Nat.reduceLT, Nat.reduceAdd, Nat.reduceSub, Nat.reduceMul, Nat.reduceBEq, Nat.reduceLeDiff, Int.reduceToNat, Int.reduceLE, hQ, c_val_Right, zNl, zNs, opnBuild, zOl, zOs, opnC]
  refine wpc_loop (fun m S => ∃ (s : List Opn) (i ver : Nat), i + m = v.length ∧ runR v.length s (v.drop i) = rightB v ∧ s.length ≤ i + 1 ∧ (∀ o ∈ s, 0 ≤ o.left ∧ o.left ≤ 1000000) ∧ S = ⟨tmA 123 [(0, encV v), (3, .osl 0 ver), (10, encV v), (11, .int .i64 v.length), (12, .int .i64 i)], [stkO s ver]⟩) v.length
    ⟨[⟨5, 1, false, []⟩], 0, 1, by omega, runR_right v, by simp, by simp, ?_⟩ ?_ (hz := Nat.zero_le _)
  · simp only [normR, keepR, Nat.reduceAdd, lkR, Nat.reduceBEq, F_all, List.map_nil]
    rfl
  rintro m S ⟨s, i, ver, him, hrun, hsl, hle, rfl⟩
  rcases Nat.lt_or_ge i v.length with h | h
  rotate_left 1
  · have hlt : ((i : Int) < (v.length : Int)) = False := eq_false (by omega)
    have hr : rightB v = Bool.not (s.any openP) := by
      rw [← hrun, List.drop_eq_nil_of_le h, runR]; rfl
    have hf : frz 1 0 [⟨t_val_open, 4, s.reverse.map encO, true, ver⟩] (.osl 0 ver) = encOs s.reverse := by
      simp only [frz, Nat.not_lt_zero, if_false, frzI, List.getElem?_cons_zero, Nat.le_refl, decide_true, Bool.true_and, beq_self_eq_true, if_true]
      rw [List.map_map]
      rfl
    unfold stkO
    simp (maxSteps := 400000) only [↓preZ, postZ, coreZ, ↓preU, postU, D_all, F_all, unR, outL, onePV, binS, ↓binS, boundR, ↓boundR, fieldOf, ↓fieldOf, boxR, allocR, newObj, zeroElem, buildSliceR, appendR, setAll, storeR, St.freeze, makeSliceR, minmaxR, makeFuncR, BEq.rfl, reduceIte, reduceCtorEq, Nat.reduceLT, Nat.reduceAdd, Nat.reduceSub, Nat.reduceMul, Nat.reduceBEq, Nat.reduceLeDiff, Int.reduceToNat, Int.reduceLE, hQ, hlt]
    refine wpc_weak _ (Weak.freeze 1 0 (Nat.zero_le _) _) ?_
    rcases Nat.eq_zero_or_pos v.length with h0 | h0
    · have h0' : ((0 : Int) < (v.length : Int)) = False := eq_false (by omega)
      have hrf : rightB v = false := by
        have : v = [] := List.length_eq_zero_iff.1 h0
        rw [this]; rfl
      simp (maxSteps := 400000) only [↓preZ, postZ, coreZ, ↓preU, postU, D_all, F_all, unR, outL, onePV, binS, ↓binS, boundR, ↓boundR, fieldOf, ↓fieldOf, boxR, allocR, newObj, zeroElem, buildSliceR, appendR, setAll, storeR, St.freeze, makeSliceR, minmaxR, makeFuncR, BEq.rfl, reduceIte, reduceCtorEq, Nat.reduceLT, Nat.reduceAdd, Nat.reduceSub, Nat.reduceMul, Nat.reduceBEq, Nat.reduceLeDiff, Int.reduceToNat, Int.reduceLE, hQ, h0', hrf]
    · have h0' : ((0 : Int) < (v.length : Int)) = True := eq_true (by omega)
      simp (maxSteps := 400000) only [↓preZ, postZ, coreZ, ↓preU, postU, D_all, F_all, unR, outL, onePV, binS, ↓binS, boundR, ↓boundR, fieldOf, ↓fieldOf, boxR, allocR, newObj, zeroElem, buildSliceR, appendR, setAll, storeR, St.freeze, makeSliceR, minmaxR, makeFuncR, BEq.rfl, reduceIte, reduceCtorEq, Nat.reduceLT, Nat.reduceAdd, Nat.reduceSub, Nat.reduceMul, Nat.reduceBEq, Nat.reduceLeDiff, Int.reduceToNat, Int.reduceLE, hQ, h0', hf, opnB, ↓ctrAnyOpen]
      exact ⟨by rw [List.length_reverse]; omega, by rw [hr, List.any_reverse]⟩
  have hlt : ((i : Int) < (v.length : Int)) = True := eq_true (by omega)
  have zi : (0 ≤ (i : Int)) = True := eq_true (by omega)
  have hgi := List.getElem?_eq_getElem h
  have hdi := List.drop_eq_getElem_cons h
  have htx := hs.txt _ (List.getElem_mem h)
  generalize v[i] = n at hgi hdi htx
  simp (maxSteps := 400000) only [↓preZ, postZ, coreZ, ↓preU, postU, D_all, F_all, unR, outL, onePV, binS, ↓binS, boundR, ↓boundR, fieldOf, ↓fieldOf, boxR, allocR, newObj, zeroElem, buildSliceR, appendR, setAll, storeR, St.freeze, makeSliceR, minmaxR, makeFuncR, BEq.rfl, reduceIte, reduceCtorEq, Nat.reduceLT, Nat.reduceAdd, Nat.reduceSub, Nat.reduceMul, Nat.reduceBEq, Nat.reduceLeDiff, Int.reduceToNat, Int.reduceLE, hQ, hlt, zi, hgi, zNl, zNs, nodeZ, nodeW]
  rw [hdi] at hrun
  have hll : (n.many ≤ (v.length : Int)) = (n.many ≤ (v.length : Int)) := rfl
  refine wpc_loop (fun m' S => ∃ (s' : List Opn) (ver' : Nat), s'.length = m' ∧ s'.dropWhile (fun o => o.left == 0) = s.dropWhile (fun o => o.left == 0) ∧ s'.length ≤ i + 1 ∧ (∀ o ∈ s', 0 ≤ o.left ∧ o.left ≤ 1000000) ∧
    S = ⟨tmA 123 [(0, encV v), (3, .osl 0 ver'), (5, .optr 1 1 0 0), (10, encV v), (11, .int .i64 v.length), (12, .int .i64 i)], [stkO s' ver', ⟨t_api_Node, 6, [encN n], true, 1⟩]⟩) s.length ⟨s, ver, rfl, rfl, hsl, hle, ?_⟩ ?_
  · simp only [normR, keepR, Nat.reduceAdd, lkR, Nat.reduceBEq, F_all, List.map_nil]
  rintro m' S ⟨s', ver', hm', hdw, hsl', hle', rfl⟩
  cases s' with
  | nil =>
    have h00 : ((0 : Int) < ((0 : Nat) : Int)) = False := eq_false (by omega)
    have h01 : (((0 : Nat) : Int) = 0) = True := eq_true rfl
    have hr : rightB v = false := by rw [← hrun, runR, ← hdw]; rfl
    unfold stkO
    simp (maxSteps := 400000) only [↓preZ, postZ, coreZ, ↓preU, postU, D_all, F_all, unR, outL, onePV, binS, ↓binS, boundR, ↓boundR, fieldOf, ↓fieldOf, boxR, allocR, newObj, zeroElem, buildSliceR, appendR, setAll, storeR, St.freeze, makeSliceR, minmaxR, makeFuncR, BEq.rfl, reduceIte, reduceCtorEq, Nat.reduceLT, Nat.reduceAdd, Nat.reduceSub, Nat.reduceMul, Nat.reduceBEq, Nat.reduceLeDiff, Int.reduceToNat, Int.reduceLE, hQ, h00, h01, hr, List.reverse_nil]
  | cons o t =>
  have hst : ∀ w, stkO (o :: t) w = ⟨t_val_open, 4, t.reverse.map encO ++ [encO o], true, w⟩ := fun w => by simp [stkO]
  have hget : ∀ x : PV, (t.reverse.map encO ++ [x])[t.length]? = some x := fun x => by rw [List.getElem?_append_right (by simp)]; simp
  have hset : ∀ x y : PV, (t.reverse.map encO ++ [x]).set t.length y = t.reverse.map encO ++ [y] := fun x y => by rw [List.set_append_right _ _ (by simp)]; simp
  have hpos : ((0 : Int) < ((t.length + 1 : Nat) : Int)) = True := eq_true (by omega)
  have hne0 : (((t.length + 1 : Nat) : Int) = 0) = False := eq_false (by omega)
  have t1 : (((t.length + 1 : Nat) : Int) - 1).toNat = t.length := by omega
  have z1 : (0 ≤ ((t.length + 1 : Nat) : Int) - 1) = True := eq_true (by omega)
  have lt1 : (((t.length + 1 : Nat) : Int) - 1 < ((t.length + 1 : Nat) : Int)) = True := eq_true (by omega)
  have le1 : (((t.length + 1 : Nat) : Int) - 1 ≤ ((t.length + 1 : Nat) : Int)) = True := eq_true (by omega)
  simp only [List.length_cons] at hsl' hm'
  have i1 : (-9223372036854775808 ≤ ((t.length + 1 : Nat) : Int) - 1 ∧ ((t.length + 1 : Nat) : Int) - 1 ≤ 9223372036854775807) = True := eq_true ⟨by omega, by omega⟩
  have hlo := hle' o (by simp)
  by_cases h0 : o.left = 0
  · have h0' : (o.left = 0) = True := eq_true h0
    rw [hst]
    simp (maxSteps := 400000) only [↓preZ, postZ, coreZ, ↓preU, postU, D_all, F_all, unR, outL, onePV, binS, ↓binS, boundR, ↓boundR, fieldOf, ↓fieldOf, boxR, allocR, newObj, zeroElem, buildSliceR, appendR, setAll, storeR, St.freeze, makeSliceR, minmaxR, makeFuncR, BEq.rfl, reduceIte, reduceCtorEq, Nat.reduceLT, Nat.reduceAdd, Nat.reduceSub, Nat.reduceMul, Nat.reduceBEq, Nat.reduceLeDiff, Int.reduceToNat, Int.reduceLE, hQ, hpos, t1, z1, lt1, le1, i1, hget, hset, h0', opnC, List.length_reverse]
    refine ⟨m' - 1, by omega, t, ver' + 1, by omega, ?_, by omega, fun x hx => hle' x (List.mem_cons_of_mem _ hx), ?_⟩
    · rw [← hdw]; exact (List.dropWhile_cons_of_pos (by simpa using h0)).symm
    · rw [List.take_left' (by simp)]; rfl
  have h0' : (o.left = 0) = False := eq_false h0
  have hdw' : s.dropWhile (fun o => o.left == 0) = o :: t := by rw [← hdw]; exact List.dropWhile_cons_of_neg (by simpa using h0)
  have hstep : rightB v = (plainB n && decide (n.many ≤ v.length) && nameOkO o n.name && runR v.length (⟨n.kind, n.many, true, []⟩ :: ⟨o.kind, o.left - 1, false, n.name⟩ :: t) (v.drop (i + 1))) := by
    rw [← hrun, runR, hdw']
  rw [hst]
  cases hpl : plainB n
  · have hr : rightB v = false := by rw [hstep, hpl]; rfl
    simp (maxSteps := 400000) only [↓preZ, postZ, coreZ, ↓preU, postU, D_all, F_all, unR, outL, onePV, binS, ↓binS, boundR, ↓boundR, fieldOf, ↓fieldOf, boxR, allocR, newObj, zeroElem, buildSliceR, appendR, setAll, storeR, St.freeze, makeSliceR, minmaxR, makeFuncR, BEq.rfl, reduceIte, reduceCtorEq, Nat.reduceLT, Nat.reduceAdd, Nat.reduceSub, Nat.reduceMul, Nat.reduceBEq, Nat.reduceLeDiff, Int.reduceToNat, Int.reduceLE, hQ, hpos, hne0, t1, z1, lt1, le1, i1, hget, hset, h0', opnC, List.length_reverse, ↓ctrIsPlain, hpl, hr]
    exact htx.1
  by_cases hmL : n.many ≤ v.length
  rotate_left 1
  · have hmL' : ((v.length : Int) < n.many) = True := eq_true (by omega)
    have hr : rightB v = false := by rw [hstep, decide_eq_false hmL]; simp
    simp (maxSteps := 400000) only [↓preZ, postZ, coreZ, ↓preU, postU, D_all, F_all, unR, outL, onePV, binS, ↓binS, boundR, ↓boundR, fieldOf, ↓fieldOf, boxR, allocR, newObj, zeroElem, buildSliceR, appendR, setAll, storeR, St.freeze, makeSliceR, minmaxR, makeFuncR, BEq.rfl, reduceIte, reduceCtorEq, Nat.reduceLT, Nat.reduceAdd, Nat.reduceSub, Nat.reduceMul, Nat.reduceBEq, Nat.reduceLeDiff, Int.reduceToNat, Int.reduceLE, hQ, hpos, hne0, t1, z1, lt1, le1, i1, hget, hset, h0', opnC, List.length_reverse, ↓ctrIsPlain, hpl, hmL', hr]
    exact htx.1
  have hmL' : ((v.length : Int) < n.many) = False := eq_false (by omega)
  have hm0 : 0 ≤ n.many := by
    by_cases hk : n.kind = 5 ∨ n.kind = 6
    · exact (plain_arr hpl hk).1
    · rw [numB_many0 hpl hk]; exact Int.le_refl 0
  have hA : ∀ x y : Opn, t.reverse.map encO ++ [encO x] ++ [encO y] = (t.reverse ++ [x, y]).map encO := fun x y => by simp
  have fin : ∀ hn : nameOkO o n.name = true, ∃ m'_1, m'_1 < m ∧ ∃ (s : List Opn) (i_1 ver : Nat), i_1 + m'_1 = v.length ∧ runR v.length s (v.drop i_1) = rightB v ∧ s.length ≤ i_1 + 1 ∧ (∀ o ∈ s, 0 ≤ o.left ∧ o.left ≤ 1000000) ∧
      (⟨tmA 123 [(0, encV v), (3, .osl 0 (ver' + 1)), (10, encV v), (11, .int .i64 v.length), (12, .int .i64 ((i : Int) + 1))], [⟨t_val_open, 4, t.reverse.map encO ++ [encO ⟨o.kind, o.left - 1, false, n.name⟩] ++ [encO ⟨n.kind, n.many, true, []⟩], true, ver' + 1⟩]⟩ : St) =
      ⟨tmA 123 [(0, encV v), (3, .osl 0 ver), (10, encV v), (11, .int .i64 v.length), (12, .int .i64 i_1)], [stkO s ver]⟩ := fun hn => by
    refine ⟨m - 1, by omega, ⟨n.kind, n.many, true, []⟩ :: ⟨o.kind, o.left - 1, false, n.name⟩ :: t, i + 1, ver' + 1, by omega, ?_, by simp only [List.length_cons]; omega, fun x hx => ?_, ?_⟩
    · rw [hstep, hpl, hn, decide_eq_true hmL]; simp
    · rcases List.mem_cons.1 hx with rfl | hx
      · exact ⟨hm0, by simp only; omega⟩
      · rcases List.mem_cons.1 hx with rfl | hx
        · simp only; omega
        · exact hle' x (List.mem_cons_of_mem _ hx)
    · simp [stkO]
  by_cases k6 : o.kind = 6
  rotate_left 1
  · have k6' : (o.kind = 6) = False := eq_false k6
    by_cases hnm : n.name = []
    rotate_left 1
    · have hnm' : (n.name = []) = False := eq_false hnm
      have hr : rightB v = false := by
        have : nameOkO o n.name = false := by simp [nameOkO, k6, hnm]
        rw [hstep, this]; simp
      simp (maxSteps := 400000) only [↓preZ, postZ, coreZ, ↓preU, postU, D_all, F_all, unR, outL, onePV, binS, ↓binS, boundR, ↓boundR, fieldOf, ↓fieldOf, boxR, allocR, newObj, zeroElem, buildSliceR, appendR, setAll, storeR, St.freeze, makeSliceR, minmaxR, makeFuncR, BEq.rfl, reduceIte, reduceCtorEq, Nat.reduceLT, Nat.reduceAdd, Nat.reduceSub, Nat.reduceMul, Nat.reduceBEq, Nat.reduceLeDiff, Int.reduceToNat, Int.reduceLE, hQ, hpos, hne0, t1, z1, lt1, le1, i1, hget, hset, h0', opnC, List.length_reverse, ↓ctrIsPlain, hpl, hmL', k6', nilCheckR, opnPut, opnBuild, zOl, zOs, hnm', hr]
      exact htx.1
    · have hnm' : (n.name = []) = True := eq_true hnm
      simp (maxSteps := 400000) only [↓preZ, postZ, coreZ, ↓preU, postU, D_all, F_all, unR, outL, onePV, binS, ↓binS, boundR, ↓boundR, fieldOf, ↓fieldOf, boxR, allocR, newObj, zeroElem, buildSliceR, appendR, setAll, storeR, St.freeze, makeSliceR, minmaxR, makeFuncR, BEq.rfl, reduceIte, reduceCtorEq, Nat.reduceLT, Nat.reduceAdd, Nat.reduceSub, Nat.reduceMul, Nat.reduceBEq, Nat.reduceLeDiff, Int.reduceToNat, Int.reduceLE, hQ, hpos, hne0, t1, z1, lt1, le1, i1, hget, hset, h0', opnC, List.length_reverse, ↓ctrIsPlain, hpl, hmL', k6', nilCheckR, opnPut, opnBuild, zOl, zOs, hnm']
      have hn : nameOkO o n.name = true := by simp [nameOkO, k6, hnm]
      obtain ⟨m1, e0, s1, j1, w1, e1, e2, e3, e4, e5⟩ := fin hn
      refine ⟨htx.1, ⟨by omega, by omega⟩, rfl, by omega, by omega, ⟨by omega, by omega⟩, m1, e0, s1, j1, w1, e1, e2, e3, e4, ?_⟩
      rw [← e5]
      simp only [hA, List.take_succ_cons, List.take_zero, List.map_cons (f := frzO _ _ _), List.map_nil, frzO_opn]
      rfl
  have k6' : (o.kind = 6) = True := eq_true k6
  cases hu : utf n.name
  · have hr : rightB v = false := by
      have : nameOkO o n.name = false := by simp [nameOkO, k6, hu]
      rw [hstep, this]; simp
    simp (maxSteps := 400000) only [↓preZ, postZ, coreZ, ↓preU, postU, D_all, F_all, unR, outL, onePV, binS, ↓binS, boundR, ↓boundR, fieldOf, ↓fieldOf, boxR, allocR, newObj, zeroElem, buildSliceR, appendR, setAll, storeR, St.freeze, makeSliceR, minmaxR, makeFuncR, BEq.rfl, reduceIte, reduceCtorEq, Nat.reduceLT, Nat.reduceAdd, Nat.reduceSub, Nat.reduceMul, Nat.reduceBEq, Nat.reduceLeDiff, Int.reduceToNat, Int.reduceLE, hQ, hpos, hne0, t1, z1, lt1, le1, i1, hget, hset, h0', opnC, List.length_reverse, ↓ctrIsPlain, hpl, hmL', k6', nilCheckR, opnPut, opnBuild, zOl, zOs, ↓ctrValidS, hu, hr]
    exact ⟨htx.1, htx.2⟩
  cases hfst : o.first
  rotate_left 1
  · have hn : nameOkO o n.name = true := by simp [nameOkO, k6, hu, hfst]
    simp (maxSteps := 400000) only [↓preZ, postZ, coreZ, ↓preU, postU, D_all, F_all, unR, outL, onePV, binS, ↓binS, boundR, ↓boundR, fieldOf, ↓fieldOf, boxR, allocR, newObj, zeroElem, buildSliceR, appendR, setAll, storeR, St.freeze, makeSliceR, minmaxR, makeFuncR, BEq.rfl, reduceIte, reduceCtorEq, Nat.reduceLT, Nat.reduceAdd, Nat.reduceSub, Nat.reduceMul, Nat.reduceBEq, Nat.reduceLeDiff, Int.reduceToNat, Int.reduceLE, hQ, hpos, hne0, t1, z1, lt1, le1, i1, hget, hset, h0', opnC, List.length_reverse, ↓ctrIsPlain, hpl, hmL', k6', nilCheckR, opnPut, opnBuild, zOl, zOs, ↓ctrValidS, hu, hfst]
    obtain ⟨m1, e0, s1, j1, w1, e1, e2, e3, e4, e5⟩ := fin hn
    refine ⟨htx.1, htx.2, ⟨by omega, by omega⟩, rfl, by omega, by omega, ⟨by omega, by omega⟩, m1, e0, s1, j1, w1, e1, e2, e3, e4, ?_⟩
    rw [← e5]
    simp only [hA, List.take_succ_cons, List.take_zero, List.map_cons (f := frzO _ _ _), List.map_nil, frzO_opn]
    rfl
  cases hbl : Op.bytesLess n.name o.last
  rotate_left 1
  · have hr : rightB v = false := by
      have : nameOkO o n.name = false := by simp [nameOkO, k6, hu, hfst, bl_asymm _ _ hbl]
      rw [hstep, this]; simp
    simp (maxSteps := 400000) only [↓preZ, postZ, coreZ, ↓preU, postU, D_all, F_all, unR, outL, onePV, binS, ↓binS, boundR, ↓boundR, fieldOf, ↓fieldOf, boxR, allocR, newObj, zeroElem, buildSliceR, appendR, setAll, storeR, St.freeze, makeSliceR, minmaxR, makeFuncR, BEq.rfl, reduceIte, reduceCtorEq, Nat.reduceLT, Nat.reduceAdd, Nat.reduceSub, Nat.reduceMul, Nat.reduceBEq, Nat.reduceLeDiff, Int.reduceToNat, Int.reduceLE, hQ, hpos, hne0, t1, z1, lt1, le1, i1, hget, hset, h0', opnC, List.length_reverse, ↓ctrIsPlain, hpl, hmL', k6', nilCheckR, opnPut, opnBuild, zOl, zOs, ↓ctrValidS, hu, hfst, hbl, hr]
    exact ⟨htx.1, htx.2⟩
  by_cases heq : n.name = o.last
  · have heq' : (n.name = o.last) = True := eq_true heq
    have hr : rightB v = false := by
      have : nameOkO o n.name = false := by simp [nameOkO, k6, hu, hfst, heq, bl_irrefl]
      rw [hstep, this]; simp
    simp (maxSteps := 400000) only [↓preZ, postZ, coreZ, ↓preU, postU, D_all, F_all, unR, outL, onePV, binS, ↓binS, boundR, ↓boundR, fieldOf, ↓fieldOf, boxR, allocR, newObj, zeroElem, buildSliceR, appendR, setAll, storeR, St.freeze, makeSliceR, minmaxR, makeFuncR, BEq.rfl, reduceIte, reduceCtorEq, Nat.reduceLT, Nat.reduceAdd, Nat.reduceSub, Nat.reduceMul, Nat.reduceBEq, Nat.reduceLeDiff, Int.reduceToNat, Int.reduceLE, hQ, hpos, hne0, t1, z1, lt1, le1, i1, hget, hset, h0', opnC, List.length_reverse, ↓ctrIsPlain, hpl, hmL', k6', nilCheckR, opnPut, opnBuild, zOl, zOs, ↓ctrValidS, hu, hfst, hbl, heq', hr]
    exact ⟨htx.1, htx.2⟩
  · have heq' : (n.name = o.last) = False := eq_false heq
    have hn : nameOkO o n.name = true := by
      have : Op.bytesLess o.last n.name = true := by
        rcases bl_tri o.last n.name with g | g | g
        · exact g
        · exact absurd g.symm heq
        · rw [g] at hbl; cases hbl
      simp [nameOkO, k6, hu, this]
    simp (maxSteps := 400000) only [↓preZ, postZ, coreZ, ↓preU, postU, D_all, F_all, unR, outL, onePV, binS, ↓binS, boundR, ↓boundR, fieldOf, ↓fieldOf, boxR, allocR, newObj, zeroElem, buildSliceR, appendR, setAll, storeR, St.freeze, makeSliceR, minmaxR, makeFuncR, BEq.rfl, reduceIte, reduceCtorEq, Nat.reduceLT, Nat.reduceAdd, Nat.reduceSub, Nat.reduceMul, Nat.reduceBEq, Nat.reduceLeDiff, Int.reduceToNat, Int.reduceLE, hQ, hpos, hne0, t1, z1, lt1, le1, i1, hget, hset, h0', opnC, List.length_reverse, ↓ctrIsPlain, hpl, hmL', k6', nilCheckR, opnPut, opnBuild, zOl, zOs, ↓ctrValidS, hu, hfst, hbl, heq']
    obtain ⟨m1, e0, s1, j1, w1, e1, e2, e3, e4, e5⟩ := fin hn
    refine ⟨htx.1, htx.2, ⟨by omega, by omega⟩, rfl, by omega, by omega, ⟨by omega, by omega⟩, m1, e0, s1, j1, w1, e1, e2, e3, e4, ?_⟩
    rw [← e5]
    simp only [hA, List.take_succ_cons, List.take_zero, List.map_cons (f := frzO _ _ _), List.map_nil, frzO_opn]
    rfl
def ctrValRight : Ctr := fun args objs K => match args with
  | [a0] => ofE encV a0 (HK.mk : HK fun v => (Small v) ∧ K (.bool (rightB v)) objs 0)
  | _ => False
theorem ctrValRight_ok : CtrOk Tryd.prog f_val_Right (ctrValRight) := by
  intro args objs K h
  unfold ctrValRight at h
  split at h
  · rename_i a0
    obtain ⟨v, rfl, h1, hk⟩ := h
    exact ⟨_, _, _, .pure _ rfl (valRight_spec v h1), hk⟩
  · exact h.elim
end Lp

/-! LpD13 -/

namespace Lp
open Go Go.Proofs

set_option maxHeartbeats 4000000
set_option maxRecDepth 20000
set_option linter.unusedSimpArgs false

def oneT2 : Vl := [⟨2, 0, [], [], false, 0⟩]
def twoT2 : Vl := listV [oneT2, oneT2]
def objT2 : Vl := [⟨6, 2, [], [], false, 0⟩, ⟨2, 0, [97], [], false, 0⟩, ⟨5, 2, [98], [], false, 0⟩, ⟨2, 0, [], [], false, 0⟩, ⟨2, 0, [], [], false, 0⟩]

theorem valRightNil : FnSpec Tryd.prog f_val_Right [.sl 0 [] (some true)] [] (.bool (rightB [])) [] :=
  (valRight_spec [] ⟨by simp, by simp⟩).arg rfl fun i p q hp hq => by
    match i, hp, hq with
    | 0, hp, hq => cases hp; cases hq; exact tells_nil 0 6
    | _ + 1, hp, _ => simp at hp

def ctrRightN : Ctr := fun args objs K => ∃ v : Vl, (args = [encV v] ∨ (v = [] ∧ args = [.sl 0 [] (some true)])) ∧ Small v ∧ K (.bool (rightB v)) objs 0
theorem ctrRightN_ok : CtrOk Tryd.prog f_val_Right ctrRightN := by
  rintro args objs K ⟨v, rfl | ⟨rfl, rfl⟩, hs, hk⟩
  · exact ⟨_, _, _, .pure _ rfl (valRight_spec v hs), hk⟩
  · exact ⟨_, _, _, .pure _ rfl valRightNil, hk⟩

theorem obj_t1 : objVal [[98], [97]] [twoT2, oneT2] = objT2 ∧ objErr [[98], [97]] [twoT2, oneT2] = 0 ∧ objErr [[98], [98]] [oneT2, oneT2] = 4 ∧ fieldV objT2 [98] = twoT2 ∧ hasV objT2 [98] = true ∧ depthV objT2 = 2 ∧ rightB objT2 = true := by
  refine ⟨?_, ?_, ?_, ?_, ?_, ?_, ?_⟩ <;> decide +kernel

theorem alive_spec : FnSpec Tryd.prog f_loupelaw02_alive [] [] (.bool true) [] := by
  refine k_loupelaw02_alive.pureG (T := tabL Tryd.prog [(f_val_List, ctrValList), (f_val_Object, ctrValObject), (f_val_Field, ctrValField), (f_val_Same, ctrValSame), (f_val_Depth, ctrValDepth), (f_val_Right, ctrRightN)]) 0 hD (kOk_tabL (tabOk_cons ctrValList_ok (tabOk_cons ctrValObject_ok (tabOk_cons ctrValField_ok (tabOk_cons ctrValSame_ok (tabOk_cons ctrValDepth_ok (tabOk_cons ctrRightN_ok tabOk_nil))))))) hmix (by decide) fun Q hQ => ?_
  try simp only [F_all]
  obtain ⟨t1, t2, t3, t4, t5, t6, t7⟩ := obj_t1
  have e1 : ∀ x, listV [[⟨2, 0, [], [], false, 0⟩], [⟨2, 0, [], [], false, 0⟩]] = x → twoT2 = x := fun _ h => h
  have e0 : [(⟨2, 0, [], [], false, 0⟩ : Nd)] = oneT2 := rfl
  have e2 : listV [oneT2, oneT2] = twoT2 := rfl
  have hl : ((twoT2.length : Nat) : Int) = 3 := by decide
  have hl5 : ((objT2.length : Nat) : Int) = 5 := by decide
  have g1 : objT2[1]? = some ⟨2, 0, [97], [], false, 0⟩ := rfl
  have z1 : (0 ≤ (1 : Int)) = True := eq_true (by decide)
  have n1 : Int.toNat 1 = 1 := rfl
  have hr := rightB_rt t7
  simp (maxSteps := 400000) only [↓preZ, postZ, coreZ, ↓preU, postU, D_all, F_all, unR, outL, onePV, binS, ↓binS, boundR, ↓boundR, fieldOf, ↓fieldOf, boxR, allocR, newObj, zeroElem, buildSliceR, appendR, setAll, storeR, St.freeze, makeSliceR, minmaxR, makeFuncR, BEq.rfl, reduceIte, reduceCtorEq, Nat.reduceLT, Nat.reduceAdd, Nat.reduceSub, Nat.reduceMul, Nat.reduceBEq, Nat.reduceLeDiff, Int.reduceToNat, Int.reduceLE, hQ, c_loupelaw02_alive, ↓ctrValList, ↓ctrValObject, ↓ctrValField, ↓ctrValSame, ↓ctrValDepth, extractR, e0, e2, t1, t2, t3, t4, t5, t6, hl, hl5, zNl, zNs, g1, z1, n1, ↓ctrRightN]
  have sm : Small objT2 := ⟨by decide, by decide⟩
  refine ⟨by decide, by decide, by decide, by decide, by decide, by decide, by decide, hr, by decide, by decide, by decide, hr, by decide, fun _ => ⟨objT2, .inl rfl, sm, ?_⟩, fun h => h rfl⟩
  rw [t7]
  simp only [ifR]
  exact ⟨[], .inr rfl, ⟨by simp, by simp⟩, rfl⟩

def ctrAlive2 : Ctr := fun args objs K => match args with
  | [] => K (.bool true) objs 0
  | _ => False
theorem ctrAlive2_ok : CtrOk Tryd.prog f_loupelaw02_alive (ctrAlive2) := by
  intro args objs K h
  unfold ctrAlive2 at h
  split at h
  · skip
    have hk := h
    exact ⟨_, _, _, .pure _ rfl (alive_spec), hk⟩
  · exact h.elim
end Lp

/-! LpD3 -/

namespace Lp
open Go Go.Proofs

set_option maxHeartbeats 4000000
set_option maxRecDepth 20000

theorem partsV_spec (v : Vl) (hl : v.length ≤ 1099511627776) (ho : One v) : FnSpec Tryd.prog f_val_Parts [encV v] [] (encL (partsV v)) [] := by
  cases v with
  | nil => exact absurd rfl ho.ne
  | cons n r =>
    obtain ⟨hm, ps, h1, _, _⟩ := ho.parts
    have := parts_spec (n :: r) n r ps rfl hl hm h1
    rw [partsV, encL, (partsOf_eq h1).1, List.map_map]
    exact this

theorem namesV_spec (v : Vl) (hl : v.length ≤ 1099511627776) (ho : One v) : FnSpec Tryd.prog f_val_Names [encV v] [] (encT (namesV v)) [] := by
  cases v with
  | nil => exact absurd rfl ho.ne
  | cons n r =>
    obtain ⟨hm, ps, h1, _, _⟩ := ho.parts
    have := names_spec (n :: r) n r ps rfl hl hm h1
    rw [namesOf] at this
    rw [namesV, encT, (partsOf_eq h1).2]
    exact this

def ctrParts : Ctr := fun args objs K => match args with
  | [a0] => ofE encV a0 (HK.mk : HK fun v => (v.length ≤ 1099511627776) ∧ (One v) ∧ K (encL (partsV v)) objs 0)
  | _ => False
theorem ctrParts_ok : CtrOk Tryd.prog f_val_Parts (ctrParts) := by
  intro args objs K h
  unfold ctrParts at h
  split at h
  · rename_i a0
    obtain ⟨v, rfl, h1, h2, hk⟩ := h
    exact ⟨_, _, _, .pure _ rfl (partsV_spec v h1 h2), hk⟩
  · exact h.elim
def ctrNames : Ctr := fun args objs K => match args with
  | [a0] => ofE encV a0 (HK.mk : HK fun v => (v.length ≤ 1099511627776) ∧ (One v) ∧ K (encT (namesV v)) objs 0)
  | _ => False
theorem ctrNames_ok : CtrOk Tryd.prog f_val_Names (ctrNames) := by
  intro args objs K h
  unfold ctrNames at h
  split at h
  · rename_i a0
    obtain ⟨v, rfl, h1, h2, hk⟩ := h
    exact ⟨_, _, _, .pure _ rfl (namesV_spec v h1 h2), hk⟩
  · exact h.elim
end Lp

/-! LpRd -/

namespace Lp
open Go Go.Proofs

set_option maxHeartbeats 2000000
set_option maxRecDepth 20000

instance : Inhabited Nd := ⟨⟨0, 0, [], [], false, 0⟩⟩

/-- What any node that can be read is. -/
structure BigN (n : Nd) : Prop where
  kind : inR .i64 n.kind
  many : inR .i64 n.many
  name : n.name.length ≤ reachBytes
  s : n.s.length ≤ reachBytes
  e : inR .i64 n.e

theorem one_cell {t : TypeId} (hc : Tryd.prog.cellsOf t = 1) {cs : List Value} {off : Nat} {v : Value} (h : cs[off]? = some v) : (cs.drop off).take (Tryd.prog.cellsOf t) = [v] := by
  rw [hc]
  have hl := (List.getElem?_eq_some_iff.1 h).1
  rw [show (cs.drop off) = cs[off] :: cs.drop (off + 1) from List.drop_eq_getElem_cons hl]
  rw [List.getElem?_eq_getElem hl] at h
  cases h
  rw [List.take_succ_cons, List.take_zero]

theorem u_int : Tryd.prog.underlying t_int = some (.int .i64) := by kernel_rfl
theorem u_string : Tryd.prog.underlying t_string = some .string := by kernel_rfl
theorem u_bool : Tryd.prog.underlying t_bool = some .bool := by kernel_rfl
theorem u_val : Tryd.prog.underlying t_api_Val = some (.slice t_api_Node) := by kernel_rfl
theorem u_vals : Tryd.prog.underlying t_L_api_Val = some (.slice t_api_Val) := by kernel_rfl
theorem c_int : Tryd.prog.cellsOf t_int = 1 := by kernel_rfl
theorem c_string : Tryd.prog.cellsOf t_string = 1 := by kernel_rfl
theorem c_bool : Tryd.prog.cellsOf t_bool = 1 := by kernel_rfl

theorem u_node : ∃ fs : Array Field, Tryd.prog.underlying t_api_Node = some (.struct fs) ∧ fs.toList.map (fun f => (f.offset, f.type)) = [(0, t_int), (1, t_int), (2, t_string), (3, t_string), (4, t_bool), (5, t_int)] :=
  ⟨Tryd.prog.fieldsOf t_api_Node, by kernel_rfl, by kernel_rfl⟩

theorem rd_node : Rd Tryd.prog t_api_Node encN BigN := by
  intro H eh w fuel cs x h hw
  obtain ⟨fs, ht, hfs⟩ := u_node
  obtain ⟨hl, hp⟩ := struct_parts ht h hw
  rw [hfs] at hp
  have hc : Tryd.prog.cellsOf t_api_Node = 6 := by kernel_rfl
  rw [hc] at hl
  match cs, hl with
  | [v0, v1, v2, v3, v4, v5], _ =>
    obtain ⟨n0, y0, a0, b0⟩ := hp 0 0 t_int rfl
    obtain ⟨n1, y1, a1, b1⟩ := hp 1 1 t_int rfl
    obtain ⟨n2, y2, a2, b2⟩ := hp 2 2 t_string rfl
    obtain ⟨n3, y3, a3, b3⟩ := hp 3 3 t_string rfl
    obtain ⟨n4, y4, a4, b4⟩ := hp 4 4 t_bool rfl
    obtain ⟨n5, y5, a5, b5⟩ := hp 5 5 t_int rfl
    rw [one_cell c_int (v := v0) rfl] at a0
    rw [one_cell c_int (v := v1) rfl] at a1
    rw [one_cell c_string (v := v2) rfl] at a2
    rw [one_cell c_string (v := v3) rfl] at a3
    rw [one_cell c_bool (v := v4) rfl] at a4
    rw [one_cell c_int (v := v5) rfl] at a5
    obtain ⟨k, g0, r0⟩ := Rd.int u_int eh w n0 _ _ a0 b0
    obtain ⟨m, g1, r1⟩ := Rd.int u_int eh w n1 _ _ a1 b1
    obtain ⟨nm, g2, r2⟩ := Rd.str u_string eh w n2 _ _ a2 b2
    obtain ⟨s, g3, r3⟩ := Rd.str u_string eh w n3 _ _ a3 b3
    obtain ⟨g, _, r4⟩ := Rd.bool u_bool eh w n4 _ _ a4 b4
    obtain ⟨e, g5, r5⟩ := Rd.int u_int eh w n5 _ _ a5 b5
    refine ⟨⟨k, m, nm, s, g, e⟩, ⟨g0, g1, g2, g3, g5⟩, rfl, fun i p v h1 h2 => ?_⟩
    match i with
    | 0 => simp [encN, PV.cells] at h1 h2; subst h1; subst h2; exact r0.2 0 _ _ rfl rfl
    | 1 => simp [encN, PV.cells] at h1 h2; subst h1; subst h2; exact r1.2 0 _ _ rfl rfl
    | 2 => simp [encN, PV.cells] at h1 h2; subst h1; subst h2; exact r2.2 0 _ _ rfl rfl
    | 3 => simp [encN, PV.cells] at h1 h2; subst h1; subst h2; exact r3.2 0 _ _ rfl rfl
    | 4 => simp [encN, PV.cells] at h1 h2; subst h1; subst h2; exact r4.2 0 _ _ rfl rfl
    | 5 => simp [encN, PV.cells] at h1 h2; subst h1; subst h2; exact r5.2 0 _ _ rfl rfl
    | i + 6 => simp [encN, PV.cells] at h1

/-- What any value that can be read is. -/
structure Big (v : Vl) : Prop where
  len : v.length ≤ 1152921504606846976
  txt : ∀ n ∈ v, n.s.length ≤ 4611686018427387904 ∧ n.name.length ≤ 4611686018427387904
  nd : ∀ n ∈ v, BigN n

theorem rd_val : Rd Tryd.prog t_api_Val encV Big := by
  intro H eh w fuel cs x h hw
  obtain ⟨v, ⟨h1, h2⟩, h3⟩ := Rd.slice (sz := 6) u_val rd_node (by kernel_rfl) (by decide) (fun _ => rfl) eh w fuel cs x h hw
  have hb : Tryd.prog.bytesOf t_api_Node = 64 := by kernel_rfl
  rw [hb, reachBytes] at h1
  refine ⟨v, ⟨by omega, fun n hn => ?_, h2⟩, h3⟩
  have g := h2 n hn
  have g1 := g.name
  have g2 := g.s
  rw [reachBytes] at g1 g2
  exact ⟨by omega, by omega⟩

/-- What any keys that can be read are. -/
structure BigL (l : List Vl) : Prop where
  len : l.length ≤ 1152921504606846976
  all : ∀ v ∈ l, Big v

theorem rd_vals : Rd Tryd.prog t_L_api_Val encL BigL := by
  intro H eh w fuel cs x h hw
  obtain ⟨l, ⟨h1, h2⟩, h3⟩ := Rd.slice (sz := 1) u_vals rd_val (by kernel_rfl) (by decide) (fun _ => rfl) eh w fuel cs x h hw
  have hb : Tryd.prog.bytesOf t_api_Val = 24 := by kernel_rfl
  rw [hb, reachBytes] at h1
  exact ⟨l, ⟨by omega, h2⟩, h3⟩

/-- An argument that is a slice. -/
theorem rd_arg {t e : TypeId} {α : Type} {enc : α → PV} {good : α → Prop} (hu : Tryd.prog.underlying t = some (.slice e)) (hr : Rd Tryd.prog t enc good) (h1 : ∀ a, (enc a).cells = [enc a]) {H : Type} {eh : TypeId × Value → H} {w : World} {base : Nat} {v : Value} {d : DataW H} {p : List MemPlace}
    (hv : Value.okWide Tryd.prog w .any base t v) (h : DataW.Trod eh Tryd.prog w 0 (fun _ => true) true t v d p) (hw : ∀ n ∈ DataW.weights Tryd.prog t d, n ≤ reachBytes) : ∃ a : α, good a ∧ Rep w (fun _ => True) (enc a) v := by
  obtain ⟨ad, len, cap, rfl⟩ := Go.WideShapes.okWide_slice hu hv
  obtain ⟨fuel, h⟩ := h
  obtain ⟨a, g, r⟩ := hr eh w fuel _ _ h hw
  rw [h1 a] at r
  exact ⟨a, g, r.2 0 _ _ rfl rfl⟩

theorem repL_cons {R : PV → Value → Prop} {p : PV} {ps : List PV} {v : Value} {vs : List Value} (h : R p v) (hs : RepL R ps vs) : RepL R (p :: ps) (v :: vs) :=
  ⟨by simp [hs.1], fun i q u h1 h2 => by
    cases i with
    | zero => simp at h1 h2; subst h1; subst h2; exact h
    | succ i => exact hs.2 i q u (by simpa using h1) (by simpa using h2)⟩

theorem repL_nil {R : PV → Value → Prop} : RepL R [] [] := ⟨rfl, fun i q u h1 => by simp at h1⟩

end Lp

/-! LpMf -/

namespace Lp
open Go Go.Proofs

set_option maxHeartbeats 4000000
set_option maxRecDepth 20000
set_option linter.unusedSimpArgs false

theorem Big.small {v : Vl} (h : Big v) (hl : v.length ≤ 1000000) : Small v := ⟨hl, h.txt⟩

theorem partsV_facts {v : Vl} (hr : Rt v) : (partsV v).length ≤ v.length ∧ (namesV v).length ≤ v.length ∧ (partsV v).flatten.length ≤ v.length ∧ ∀ p ∈ partsV v, p.length ≤ v.length := by
  obtain ⟨n, r, rfl, _⟩ := nameOf_nil hr.name hr.one.ne
  obtain ⟨h1, h2, ps, h3, h4, h5, h6, h7⟩ := hr.parts
  obtain ⟨q1, q2⟩ := partsOf_eq h3
  have h8 := parts_len _ _ _ h3
  have h9 := parts_le _ _ _ h3
  have hfl : (ps.map clr).flatten.length = r.length := by
    rw [← h4, List.length_flatten, List.length_flatten, List.map_map]
    congr 1
    exact List.map_congr_left fun p _ => clr_length p
  refine ⟨?_, ?_, ?_, fun p hp => Nat.le_of_lt (partsV_rt hr hp).2⟩
  · simp only [partsV, q1, List.length_map, List.length_cons]; omega
  · simp only [namesV, q2]
    split
    · simp only [List.length_map, List.length_cons]; omega
    · simp
  · simp only [partsV, q1, hfl, List.length_cons]; omega

/-- Values that are right, together of few nodes. -/
theorem allB_facts {l : List Vl} {k : Nat} (h : allB l k = true) : l.length ≤ k ∧ l.flatten.length ≤ k ∧ (∀ v ∈ l, Rt v) ∧ (∀ v ∈ l, v.length ≤ k) ∧ (∀ v ∈ l, v ≠ []) := by
  simp only [allB, Bool.and_eq_true, decide_eq_true_eq, List.all_eq_true] at h
  obtain ⟨h1, h2⟩ := h
  have hN : ∀ q : List Vl, allN q = q.length + q.flatten.length := by
    intro q
    induction q with
    | nil => rfl
    | cons x q ih => simp only [allN, ih, List.length_cons, List.flatten_cons, List.length_append]; omega
  have h3 := hN l
  have hr : ∀ v ∈ l, Rt v := fun v hv => by
    have := h2 v hv
    simp only [fewB, Bool.and_eq_true] at this
    exact rightB_rt this.2
  refine ⟨by omega, by omega, hr, fun v hv => ?_, fun v hv => (hr v hv).one.ne⟩
  have := flatten_len_mem hv
  omega

theorem fewB_facts {v : Vl} {k : Nat} (h : fewB v k = true) : Rt v ∧ v.length ≤ k := by
  simp only [fewB, Bool.and_eq_true, decide_eq_true_eq] at h
  exact ⟨rightB_rt h.2, h.1.1⟩

theorem BigL.txt {l : List Vl} (h : BigL l) : ∀ v ∈ l, v.length ≤ 1152921504606846976 ∧ ∀ n ∈ v, n.s.length ≤ 4611686018427387904 ∧ n.name.length ≤ 4611686018427387904 := fun v hv => ⟨(h.all v hv).len, (h.all v hv).txt⟩

def ctrAll : Ctr := fun args objs K => match args with
  | [a0, .int .i64 k] => ofE encL a0 (HK.mk : HK fun l => (0 ≤ k ∧ k ≤ 1000000) ∧ (l.length ≤ 1152921504606846976) ∧ (∀ v ∈ l, v.length ≤ 1152921504606846976 ∧ ∀ n ∈ v, n.s.length ≤ 4611686018427387904 ∧ n.name.length ≤ 4611686018427387904) ∧ K (.bool (allB l k.toNat)) objs 0)
  | _ => False
theorem ctrAll_ok : CtrOk Tryd.prog f_louperef02_All (ctrAll) := by
  intro args objs K h
  unfold ctrAll at h
  split at h
  · rename_i a0 k
    obtain ⟨l, rfl, h1, h2, h3, hk⟩ := h
    exact ⟨_, _, _, .pure _ rfl ((by have := all_spec l k.toNat (by omega) h2 h3; rwa [Int.toNat_of_nonneg h1.1] at this)), hk⟩
  · exact h.elim

theorem objVal_len {names : List (List UInt8)} {l : List Vl} (h : names.length = l.length) : (objVal names l).length ≤ l.flatten.length + 1 := by
  unfold objVal
  split
  · have h1 := srtP_flat h
    have h2 : ∀ q : Prs, (q.map fun x => setN x.1 x.2).flatten.length = (q.map (·.2)).flatten.length := by
      intro q
      induction q with
      | nil => rfl
      | cons x q ih => simp only [List.map_cons, List.flatten_cons, List.length_append, setN_length, ih]
    simp only [mkO, List.length_cons, h2, h1]
    omega
  · simp

theorem listV_len (l : List Vl) : (listV l).length = l.flatten.length + 1 := rfl

theorem partsV_txt {v : Vl} (hr : Rt v) {q : Nd → Prop} (hq : ∀ n, q n → q { n with name := [] }) (hv : ∀ n ∈ v, q n) : ∀ p ∈ partsV v, ∀ n ∈ p, q n := by
  obtain ⟨n, r, rfl, _⟩ := nameOf_nil hr.name hr.one.ne
  obtain ⟨h1, h2, ps, h3, h4, _, _, _⟩ := hr.parts
  simp only [partsV, (partsOf_eq h3).1]
  intro p hp m hm
  obtain ⟨p', hp', rfl⟩ := List.mem_map.1 hp
  have hin : ∀ x ∈ p', q x := fun x hx => hv x (List.mem_cons_of_mem _ (by rw [← h4]; exact List.mem_flatten.2 ⟨p', hp', hx⟩))
  cases p' with
  | nil => cases hm
  | cons a t =>
    rcases List.mem_cons.1 hm with rfl | hm
    · exact hq a (hin a (by simp))
    · exact hin m (List.mem_cons_of_mem _ hm)

theorem namesV_list (l : List Vl) : namesV (listV l) = [] := rfl

theorem namesV_txt {v : Vl} (hr : Rt v) {k : Nat} (hv : ∀ n ∈ v, n.name.length ≤ k) : ∀ s ∈ namesV v, s.length ≤ k := by
  obtain ⟨n, r, rfl, _⟩ := nameOf_nil hr.name hr.one.ne
  obtain ⟨h1, h2, ps, h3, h4, _, h6, _⟩ := hr.parts
  simp only [namesV, (partsOf_eq h3).2]
  split
  · intro s hs
    obtain ⟨p, hp, rfl⟩ := List.mem_map.1 hs
    cases p with
    | nil => simp [nameOf]
    | cons a t => exact hv a (List.mem_cons_of_mem _ (by rw [← h4]; exact List.mem_flatten.2 ⟨_, hp, by simp⟩))
  · intro s hs; cases hs

end Lp

/-! LpTie -/

namespace Lp
open Go Go.Proofs Go.Shelf Go.RowKit Go.Lib Go.ChangeAt

set_option maxRecDepth 100000
set_option maxHeartbeats 2000000

def laidL : List (String × DataW Unit) := [("unicode/utf8.acceptRanges", Lib.acceptData), ("unicode/utf8.first", Lib.firstData)]

/-- The settled world, the two variables holding what is laid. -/
noncomputable def laidWorld (os : Os) : World :=
  let w0 := World.holding Tryd.prog os ⟨#[], #[], []⟩
  let put (h : Array Go.Obj) (g : Nat) (cs : Array Value) : Array Go.Obj := h.modify g fun
    | .cells _ t frozen => .cells cs t frozen
    | o => o
  let h1 := put w0.heap 0 (Lib.firstTab.map fun z => Value.int .u8 z).toArray
  let h2 := put h1 1 ((List.range 16).flatMap fun i => [Value.int .u8 (Lib.accLo i), Value.int .u8 (Lib.accHi i)]).toArray
  { w0 with heap := h2 }

theorem laid_met (os : Os) (args : Array Value) : laidMet Tryd.prog laidL ((laidWorld os).forCall (fun _ _ => 0) ⟨#[], args, []⟩).memory :=
  (LaidIn.of_run (l := laidL) [1, 0] 8 (by kernel_rfl) (by kernel_rfl) (by kernel_rfl) (by kernel_rfl)).met

theorem tabs_same {w W : World} (h : w.heap = W.heap) (hT : Lib.Utf8Tabs 0 1 W) : Lib.Utf8Tabs 0 1 w := by
  have e : ∀ b : Nat, w.heap[b]? = W.heap[b]? := fun b => by rw [h]
  refine ⟨fun c hc => ?_, fun i hi => ⟨?_, ?_⟩⟩
  · rw [cell_same (e 0)]; exact hT.1 c hc
  · rw [cell_same (e 1)]; exact (hT.2 i hi).1
  · rw [cell_same (e 1)]; exact (hT.2 i hi).2

theorem glob_laid {W : World} (h : laidMetH Tryd.prog laidL W) : glob.holds W.heap := by
  have hT : Lib.Utf8Tabs 0 1 W :=
    utf8Tabs_of_readsT (U8Types.of196 Tryd.lays196) ⟨by kernel_rfl, by kernel_rfl, by kernel_rfl, by kernel_rfl, by kernel_rfl, by kernel_rfl, by kernel_rfl⟩ (Lib.laidMet.reads h (.tail _ (.head _))) (Lib.laidMet.reads h (.head _))
  intro w hw
  exact tabs_same hw hT

theorem u_texts : Tryd.prog.underlying t_L_string = some (.slice t_string) := by kernel_rfl

/-- What any texts that can be read are. -/
structure BigT (l : List (List UInt8)) : Prop where
  len : l.length ≤ 1152921504606846976
  all : ∀ s ∈ l, s.length ≤ 4611686018427387904

theorem rd_texts : Rd Tryd.prog t_L_string encT BigT := by
  intro H eh w fuel cs x h hw
  obtain ⟨l, ⟨h1, h2⟩, h3⟩ := Rd.slice (sz := 1) u_texts (Rd.str u_string) (by kernel_rfl) (by decide) (fun _ => rfl) eh w fuel cs x h hw
  have hb : Tryd.prog.bytesOf t_string = 16 := by kernel_rfl
  rw [hb, reachBytes] at h1
  refine ⟨l, ⟨by omega, fun s hs => ?_⟩, h3⟩
  have := h2 s hs
  rw [reachBytes] at this
  omega

end Lp

/-! LpX2 -/

namespace Lp
open Go Go.Proofs

set_option maxHeartbeats 4000000
set_option maxRecDepth 20000
set_option linter.unusedSimpArgs false

theorem nodCells : ∀ x : Nd, ∀ c ∈ (encN x).cells, c.ref = false := fun x c h => by
  simp only [encN, PV.cells, List.mem_cons, List.not_mem_nil, or_false] at h
  rcases h with rfl | rfl | rfl | rfl | rfl | rfl <;> rfl

theorem ofRN : ∀ (K : Vl → Prop) l, ofR encN (l.map encN) (HK.mk : HK K) = K l := ofR_eq encN_inj

theorem rowNB (objs : List Obj) :
    (∀ (K : Vl → Prop) l, rowX encN 6 (encV l) objs (HK.mk : HK K) = K l) ∧ (∀ (K : Vl → Prop) s, rowX encN 6 (.sl s [] (some true)) objs (HK.mk : HK K) = K []) ∧
    (∀ (K : Vl → Prop) k ver, rowX encN 6 (.osl k ver) objs (HK.mk : HK K) = ∃ o, objs[k]? = some o ∧ o.live = true ∧ o.ver = ver ∧ o.sz = 6 ∧ ofR encN o.xs (HK.mk : HK K)) := by
  refine ⟨fun K l => ?_, fun _ _ => rfl, fun _ _ _ => rfl⟩
  have : rowX encN 6 (encV l) objs (HK.mk : HK K) = ((6 : Nat) = 6 ∧ ofR encN (l.map encN) (HK.mk : HK K)) := by cases l <;> rfl
  rw [this, ofRN]; simp

def ctrSameA : Ctr := fun args objs K => match args with
  | [x, y] => rowX encN 6 x objs (HK.mk : HK fun a => rowX encN 6 y objs (HK.mk : HK fun b => a.length ≤ 1000000 ∧ b.length ≤ 1000000 ∧ K (.bool (decide (a = b))) objs 1))
  | _ => False
theorem ctrSameA_ok : CtrOk Tryd.prog f_louperef02_Same ctrSameA := by
  intro args objs K h
  unfold ctrSameA at h
  split at h
  · obtain ⟨a, a', l1, t1, h⟩ := rowX_cases nodCells h
    obtain ⟨b, b', l2, t2, h1, h2, h3⟩ := rowX_cases nodCells h
    exact ⟨_, _, _, .lent _ [a', b'] ⟨l1, l2, trivial⟩ rfl ((same_spec a b h1 h2).arg rfl (tells_two t1 t2)), h3⟩
  · exact h.elim

/-- What is handed on, out of simp's sight. -/
structure HKT (K : KT) : Type where
def objK {K : KT} (b : Bool) (v : Vl) (objs : List Obj) (_h : HKT K) : Prop := match b with
  | true => K (.tup [.osl objs.length 0, .int .i64 0]) (objs ++ [nodO v 0]) 2
  | false => K (.tup [.sl 0 [] (some true), .int .i64 4]) objs 1
theorem objK_r (v : Vl) (objs : List Obj) (K : KT) : (objK true v objs (HKT.mk : HKT K) = K (.tup [.osl objs.length 0, .int .i64 0]) (objs ++ [nodO v 0]) 2) ∧ (objK false v objs (HKT.mk : HKT K) = K (.tup [.sl 0 [] (some true), .int .i64 4]) objs 1) := ⟨rfl, rfl⟩

def ctrValObjectA : Ctr := fun args objs K => match args with
  | [a, b] => rowX .str 1 a objs (HK.mk : HK fun names => rowX encV 1 b objs (HK.mk : HK fun l => names.length ≤ 1000000 ∧ l.flatten.length ≤ 1000000 ∧ (∀ v ∈ l, v ≠ []) ∧ (∀ s ∈ names, s.length ≤ 4611686018427387904) ∧ objK (namesOk names l.length) (objVal names l) objs (HKT.mk : HKT K)))
  | _ => False
theorem ctrValObjectA_ok : CtrOk Tryd.prog f_val_Object ctrValObjectA := by
  intro args objs K h
  unfold ctrValObjectA at h
  split at h
  · obtain ⟨names, a', l1, t1, h⟩ := rowX_cases strCells h
    obtain ⟨l, b', l2, t2, h1, h2, h3, h4, h5⟩ := rowX_cases valCells h
    cases hok : namesOk names l.length <;> rw [hok] at h5
    · exact ⟨_, _, _, .lent _ [a', b'] ⟨l1, l2, trivial⟩ rfl ((valObject_bad names l hok h1 h4).arg rfl (tells_two t1 t2)), h5⟩
    · exact ⟨_, _, _, .madeT 0 (.int .i64 0) _ [a', b'] ⟨l1, l2, trivial⟩ (nodO_atoms _ _) rfl ((valObject_made names l hok h1 h2 h3 h4).arg rfl (tells_two t1 t2)), h5⟩
  · exact h.elim

/-- Immutable rows, or owned ones. -/
def ctrVO : Ctr := fun args objs K => match args with
  | [.osl k v, b] => ctrValObjectA [.osl k v, b] objs K
  | _ => ctrValObject args objs K
theorem ctrVO_ok : CtrOk Tryd.prog f_val_Object ctrVO := by
  intro args objs K h
  unfold ctrVO at h
  split at h
  · exact ctrValObjectA_ok _ _ _ h
  · exact ctrValObject_ok _ _ _ h
theorem ctrVO_o (k v : Nat) (b : PV) (objs : List Obj) (K : KT) : ctrVO [.osl k v, b] objs K = ctrValObjectA [.osl k v, b] objs K := rfl
theorem ctrVO_i (names : List (List UInt8)) (l : List Vl) (objs : List Obj) (K : KT) : ctrVO [encT names, encL l] objs K = ctrValObject [encT names, encL l] objs K := rfl

def ctrRefObjectA : Ctr := fun args objs K => match args with
  | [a, b] => rowX .str 1 a objs (HK.mk : HK fun names => rowX encV 1 b objs (HK.mk : HK fun l => names.length ≤ 1000000 ∧ l.length ≤ 1000000 ∧ l.flatten.length ≤ 1000000 ∧ (∀ v ∈ l, v ≠ []) ∧ (∀ s ∈ names, s.length ≤ 4611686018427387904) ∧ objK (namesOk names l.length) (objVal names l) objs (HKT.mk : HKT K)))
  | _ => False
theorem ctrRefObjectA_ok : CtrOk Tryd.prog f_louperef02_Object ctrRefObjectA := by
  intro args objs K h
  unfold ctrRefObjectA at h
  split at h
  · obtain ⟨names, a', l1, t1, h⟩ := rowX_cases strCells h
    obtain ⟨l, b', l2, t2, h1, h1', h2, h3, h4, h5⟩ := rowX_cases valCells h
    cases hok : namesOk names l.length <;> rw [hok] at h5
    · exact ⟨_, _, _, .lent _ [a', b'] ⟨l1, l2, trivial⟩ rfl ((refObject_bad names l hok h1 h1' h2 h3 h4).arg rfl (tells_two t1 t2)), h5⟩
    · exact ⟨_, _, _, .madeT 0 (.int .i64 0) _ [a', b'] ⟨l1, l2, trivial⟩ (nodO_atoms _ _) rfl ((refObject_made names l hok h1 h1' h2 h3 h4).arg rfl (tells_two t1 t2)), h5⟩
  · exact h.elim
end Lp

/-! LpM4 -/

namespace Lp
open Go Go.Proofs

set_option maxHeartbeats 4000000
set_option maxRecDepth 20000
set_option linter.unusedSimpArgs false

theorem zip_rev {α β : Type} : ∀ {a : List α} {b : List β}, a.length = b.length → (a.reverse.zip b.reverse).Perm (a.zip b)
  | [], [], _ => .refl _
  | x :: a, y :: b, h => by
    have h' : a.length = b.length := by simpa using h
    rw [List.reverse_cons, List.reverse_cons, List.zip_append (by simp [h'])]
    exact (List.perm_append_comm).trans ((zip_rev h').cons (x, y))
  | [], y :: b, h => by simp at h
  | x :: a, [], h => by simp at h

theorem namesOk_rev (names : List (List UInt8)) (k : Nat) : namesOk names.reverse k = namesOk names k := by
  rw [Bool.eq_iff_iff, namesOk_iff, namesOk_iff, List.length_reverse]
  rw [(List.reverse_perm names).nodup_iff]
  simp

theorem namesOk_twice (nm : List UInt8) (names : List (List UInt8)) (k : Nat) : namesOk ((nm :: names).reverse ++ [nm]) k = false := by
  cases h : namesOk ((nm :: names).reverse ++ [nm]) k with
  | false => rfl
  | true =>
    have := (namesOk_iff.1 h).2.1
    rw [List.nodup_append] at this
    exact absurd rfl (this.2.2 nm (by simp) nm (by simp))

theorem valOrder_spec (names : List (List UInt8)) (l : List Vl) (hn : BigT names) (hb : BigL l) : FnSpec Tryd.prog f_loupelaw02_ValOrder [encT names, encL l] [] (.bool true) [] := by
  have t60 : Int.toNat 60 = 60 := rfl
  refine k_loupelaw02_ValOrder.pureG (T := tabL Tryd.prog [(f_loupelaw02_alive, ctrAlive2), (f_louperef02_All, ctrAll), (f_val_Object, ctrVO), (f_louperef02_Same, ctrSameA), (f_val_Parts, ctrParts)]) 0 hD (kOk_tabL (tabOk_cons ctrAlive2_ok (tabOk_cons ctrAll_ok (tabOk_cons ctrVO_ok (tabOk_cons ctrSameA_ok (tabOk_cons ctrParts_ok tabOk_nil)))))) hmix (by decide) fun Q hQ => ?_
  try simp only [F_all]
  rcases Nat.lt_or_ge 60 names.length with h1 | h1
  · have h1' : ((60 : Int) < (names.length : Int)) = True := eq_true (by omega)
    simp (maxSteps := 400000) only [↓preZ, postZ, coreZ, ↓preU, postU, D_all, F_all, unR, outL, onePV, binS, ↓binS, boundR, ↓boundR, fieldOf, ↓fieldOf, boxR, allocR, newObj, zeroElem, buildSliceR, appendR, setAll, storeR, St.freeze, makeSliceR, minmaxR, makeFuncR, BEq.rfl, reduceIte, reduceCtorEq, Nat.reduceLT, Nat.reduceAdd, Nat.reduceSub, Nat.reduceMul, Nat.reduceBEq, Nat.reduceLeDiff, Int.reduceToNat, Int.reduceLE, hQ, c_loupelaw02_ValOrder, h1', ↓ctrAlive2]
  have h1' : ((60 : Int) < (names.length : Int)) = False := eq_false (by omega)
  cases fa : allB l 60
  · simp (maxSteps := 400000) only [↓preZ, postZ, coreZ, ↓preU, postU, D_all, F_all, unR, outL, onePV, binS, ↓binS, boundR, ↓boundR, fieldOf, ↓fieldOf, boxR, allocR, newObj, zeroElem, buildSliceR, appendR, setAll, storeR, St.freeze, makeSliceR, minmaxR, makeFuncR, BEq.rfl, reduceIte, reduceCtorEq, Nat.reduceLT, Nat.reduceAdd, Nat.reduceSub, Nat.reduceMul, Nat.reduceBEq, Nat.reduceLeDiff, Int.reduceToNat, Int.reduceLE, hQ, c_loupelaw02_ValOrder, h1', ↓ctrAlive2, ↓ctrAll, t60, fa]
    exact ⟨hb.len, hb.txt⟩
  obtain ⟨a1, a2, a3, a4, a5⟩ := allB_facts fa
  by_cases hp : names.length = l.length
  rotate_left 1
  · have hp' : ((names.length : Int) = (l.length : Int)) = False := eq_false (by omega)
    have hok : namesOk names l.length = false := by simp [namesOk, hp]
    have hov : objVal names l = [] := by simp [objVal, hok]
    have hoe : objErr names l = 4 := by simp [objErr, hok]
    simp (maxSteps := 400000) only [↓preZ, postZ, coreZ, ↓preU, postU, D_all, F_all, unR, outL, onePV, binS, ↓binS, boundR, ↓boundR, fieldOf, ↓fieldOf, boxR, allocR, newObj, zeroElem, buildSliceR, appendR, setAll, storeR, St.freeze, makeSliceR, minmaxR, makeFuncR, BEq.rfl, reduceIte, reduceCtorEq, Nat.reduceLT, Nat.reduceAdd, Nat.reduceSub, Nat.reduceMul, Nat.reduceBEq, Nat.reduceLeDiff, Int.reduceToNat, Int.reduceLE, hQ, c_loupelaw02_ValOrder, h1', ↓ctrAlive2, ↓ctrAll, t60, fa, ↓ctrVO_i, ↓ctrValObject, extractR, hp', hov, hoe]
    exact ⟨hb.len, hb.txt, by omega, by omega, a5, hn.all, rfl⟩
  have hp' : ((names.length : Int) = (l.length : Int)) = True := eq_true (by omega)
  have hlen : (objVal names l).length ≤ 1000000 := by have := objVal_len hp; omega
  simp (maxSteps := 400000) only [↓preZ, postZ, coreZ, ↓preU, postU, D_all, F_all, unR, outL, onePV, binS, ↓binS, boundR, ↓boundR, fieldOf, ↓fieldOf, boxR, allocR, newObj, zeroElem, buildSliceR, appendR, setAll, storeR, St.freeze, makeSliceR, minmaxR, makeFuncR, BEq.rfl, reduceIte, reduceCtorEq, Nat.reduceLT, Nat.reduceAdd, Nat.reduceSub, Nat.reduceMul, Nat.reduceBEq, Nat.reduceLeDiff, Int.reduceToNat, Int.reduceLE, hQ, c_loupelaw02_ValOrder, h1', ↓ctrAlive2, ↓ctrAll, t60, fa, ↓ctrVO_i, ↓ctrValObject, extractR, hp']
  refine ⟨hb.len, hb.txt, by omega, by omega, a5, hn.all, ⟨by omega, by omega⟩, ?_⟩
  refine wpc_loop (fun m S => ∃ (v1 v2 : Nat) (i : Int), m ≤ names.length ∧ i = (m : Int) - 1 ∧ S = ⟨tmA 131 [(0, encT names), (1, encL l), (5, encV (objVal names l)), (6, .int .i64 (objErr names l)), (7, .osl 0 v1), (8, .osl 1 v2), (9, .int .i64 i)], [strO (names.drop m).reverse v1, valO (l.drop m).reverse v2]⟩) names.length ⟨1, 1, _, Nat.le_refl _, rfl, ?_⟩ ?_
  · simp only [normR, keepR, Nat.reduceAdd, lkR, Nat.reduceBEq, F_all, List.map_nil]
    rw [List.drop_length, hp, List.drop_length]; rfl
  rintro m S ⟨v1, v2, i, hm, hi, rfl⟩
  cases m with
  | succ m =>
    have hi' : i = (m : Int) := by omega
    subst hi'
    have zi : (0 ≤ (m : Int)) = True := eq_true (by omega)
    have hgi : names[m]? = some (names[m]'(by omega)) := List.getElem?_eq_getElem (by omega)
    have hgl : l[m]? = some (l[m]'(by omega)) := List.getElem?_eq_getElem (by omega)
    have e1 : (names.drop m).reverse = (names.drop (m + 1)).reverse ++ [names[m]'(by omega)] := by rw [List.drop_eq_getElem_cons (by omega : m < names.length), List.reverse_cons]
    have e2 : (l.drop m).reverse = (l.drop (m + 1)).reverse ++ [l[m]'(by omega)] := by rw [List.drop_eq_getElem_cons (by omega : m < l.length), List.reverse_cons]
    have k1 : (names.drop (m + 1)).reverse.length ≤ 60 := by simp; omega
    have k2 : (l.drop (m + 1)).reverse.length ≤ 60 := by simp; omega
    generalize names[m]'(by omega) = nm at hgi e1
    generalize l[m]'(by omega) = v at hgl e2
    generalize (names.drop (m + 1)).reverse = N at *
    generalize (l.drop (m + 1)).reverse = L at *
    unfold strO valO
    simp (maxSteps := 400000) only [↓preZ, postZ, coreZ, ↓preU, postU, D_all, F_all, unR, outL, onePV, binS, ↓binS, boundR, ↓boundR, fieldOf, ↓fieldOf, boxR, allocR, newObj, zeroElem, buildSliceR, appendR, setAll, storeR, St.freeze, makeSliceR, minmaxR, makeFuncR, BEq.rfl, reduceIte, reduceCtorEq, Nat.reduceLT, Nat.reduceAdd, Nat.reduceSub, Nat.reduceMul, Nat.reduceBEq, Nat.reduceLeDiff, Int.reduceToNat, Int.reduceLE, hQ, zi, hgi, hgl]
    refine ⟨by omega, by omega, by omega, by omega, ⟨by omega, by omega⟩, m, by omega, v1 + 1, v2 + 1, (m : Int) - 1, by omega, rfl, ?_⟩
    rw [e1, e2]
    simp [strO, valO]
  | zero =>
  have h0 : (0 ≤ i) = False := eq_false (by omega)
  rw [List.drop_zero, List.drop_zero]
  have hrl : names.reverse.length = names.length := List.length_reverse
  have hll : l.reverse.length = l.length := List.length_reverse
  have hrev : namesOk names.reverse l.reverse.length = namesOk names l.length := by rw [hll, namesOk_rev]
  have hperm := objVal_perm (names := names.reverse) (l := l.reverse) (names' := names) (l' := l) (by simp [hp]) hp (zip_rev hp)
  have hfl : l.reverse.flatten.length ≤ 60 := by rw [flat_perm (List.reverse_perm l)]; exact a2
  have hne : ∀ v ∈ l.reverse, v ≠ [] := fun v hv => a5 v (List.mem_reverse.1 hv)
  have hnx : ∀ s ∈ names.reverse, s.length ≤ 4611686018427387904 := fun s hs => hn.all s (List.mem_reverse.1 hs)
  have fin : ∀ (nm : List UInt8) (v : Vl), names[0]? = some nm → l[0]? = some v → namesOk (names.reverse ++ [nm]) (l.reverse.length + 1) = false ∧ (names.reverse ++ [nm]).length ≤ 1000000 ∧ (l.reverse ++ [v]).flatten.length ≤ 1000000 ∧ (∀ w ∈ l.reverse ++ [v], w ≠ []) ∧ ∀ s ∈ names.reverse ++ [nm], s.length ≤ 4611686018427387904 := by
    intro nm v hg hl
    have hm := List.mem_of_getElem? hg
    have hm' := List.mem_of_getElem? hl
    have hv := a4 v hm'
    refine ⟨?_, by simp; omega, by rw [List.flatten_append, List.length_append]; simp; simp at hfl; omega, fun w hw => ?_, fun s hs => ?_⟩
    · obtain ⟨t, ht⟩ : ∃ t, names = nm :: t := by
        cases names with
        | nil => simp at hg
        | cons a t => simp at hg; exact ⟨t, by rw [hg]⟩
      rw [ht]; exact namesOk_twice _ _ _
    · rcases List.mem_append.1 hw with hw | hw
      · exact hne w hw
      · simp only [List.mem_singleton] at hw
        subst hw; exact a5 _ hm'
    · rcases List.mem_append.1 hs with hs | hs
      · exact hnx s hs
      · simp only [List.mem_singleton] at hs
        subst hs; exact hn.all _ hm
  have e1 : ∀ nm : List UInt8, List.map PV.str names.reverse ++ [.str nm] = List.map PV.str (names.reverse ++ [nm]) := fun nm => by simp
  have e2 : ∀ v : Vl, List.map encV l.reverse ++ [encV v] = List.map encV (l.reverse ++ [v]) := fun v => by simp
  cases hok : namesOk names l.length
  · rw [hok] at hrev
    have hov : objVal names l = [] := by simp [objVal, hok]
    have hoe : objErr names l = 4 := by simp [objErr, hok]
    have hpos : 0 < names.length := by
      cases names with
      | nil => rw [← hp] at hok; cases hok
      | cons a t => simp
    have hn0 : ((names.length : Int) = 0) = False := eq_false (by omega)
    have hg0 := List.getElem?_eq_getElem hpos
    have hl0 : l[0]? = some (l[0]'(by omega)) := List.getElem?_eq_getElem (by omega)
    generalize names[0] = nm at hg0
    generalize l[0]'(by omega) = v at hl0
    obtain ⟨f1, f2, f3, f4, f5⟩ := fin nm v hg0 hl0
    unfold strO valO
    simp (maxSteps := 400000) only [↓preZ, postZ, coreZ, ↓preU, postU, D_all, F_all, unR, outL, onePV, binS, ↓binS, boundR, ↓boundR, fieldOf, ↓fieldOf, boxR, allocR, newObj, zeroElem, buildSliceR, appendR, setAll, storeR, St.freeze, makeSliceR, minmaxR, makeFuncR, BEq.rfl, reduceIte, reduceCtorEq, Nat.reduceLT, Nat.reduceAdd, Nat.reduceSub, Nat.reduceMul, Nat.reduceBEq, Nat.reduceLeDiff, Int.reduceToNat, Int.reduceLE, hQ, h0, ↓ctrVO_o, ↓ctrValObjectA, rowB, ofRB, hrev, objK_r, extractR]
    refine ⟨by omega, by omega, hne, hnx, ?_⟩
    refine wpc_weak _ (Weak.refl _ _) ?_
    simp (maxSteps := 400000) only [↓preZ, postZ, coreZ, ↓preU, postU, D_all, F_all, unR, outL, onePV, binS, ↓binS, boundR, ↓boundR, fieldOf, ↓fieldOf, boxR, allocR, newObj, zeroElem, buildSliceR, appendR, setAll, storeR, St.freeze, makeSliceR, minmaxR, makeFuncR, BEq.rfl, reduceIte, reduceCtorEq, Nat.reduceLT, Nat.reduceAdd, Nat.reduceSub, Nat.reduceMul, Nat.reduceBEq, Nat.reduceLeDiff, Int.reduceToNat, Int.reduceLE, hQ, hn0, hg0, hl0, e1, e2, ↓ctrVO_o, ↓ctrValObjectA, rowB, ofRB, f1, objK_r, extractR, ↓ctrAlive2, hoe, hov, ↓ctrSameA, rowNB]
    exact ⟨by omega, by omega, by omega, by omega, by omega, f3, f4, f5, fun h => absurd h (by decide)⟩
  · rw [hok] at hrev
    have hoe : objErr names l = 0 := by simp [objErr, hok]
    have g1 : ∀ (objs : List Obj) (v : Nat), frz 1 2 objs (.osl 0 v) = .osl 0 v ∧ frz 1 2 objs (.osl 1 v) = .osl 1 v := fun _ _ => ⟨rfl, rfl⟩
    have g2 : ∀ x y : Obj, frz 1 2 [x, y, nodO (objVal names.reverse l.reverse) 0] (.osl 2 0) = encV (objVal names l) := fun x y => by
      rw [hperm.1]
      simp only [frz, Nat.lt_irrefl, if_false, frzI, List.getElem?_cons_succ, List.getElem?_cons_zero, Nat.le_refl, decide_true, Bool.true_and, beq_self_eq_true, if_true, nodO]
      rw [map_frz_of encN fun _ => rfl]; rfl
    have g3 : ∀ (O : List Obj) (z : Obj), List.map (frzO 1 2 O) (List.take 2 [⟨t_string, 1, List.map PV.str names.reverse, true, v1⟩, ⟨t_api_Val, 1, List.map encV l.reverse, true, v2⟩, z]) = [⟨t_string, 1, List.map PV.str names.reverse, true, v1⟩, ⟨t_api_Val, 1, List.map encV l.reverse, true, v2⟩] := fun O z => by
      simp only [List.take_succ_cons, List.take_zero, List.map_cons (f := frzO _ _ _), List.map_nil, frzO_strs, frzO_vals]
    unfold strO valO
    simp (maxSteps := 400000) only [↓preZ, postZ, coreZ, ↓preU, postU, D_all, F_all, unR, outL, onePV, binS, ↓binS, boundR, ↓boundR, fieldOf, ↓fieldOf, boxR, allocR, newObj, zeroElem, buildSliceR, appendR, setAll, storeR, St.freeze, makeSliceR, minmaxR, makeFuncR, BEq.rfl, reduceIte, reduceCtorEq, Nat.reduceLT, Nat.reduceAdd, Nat.reduceSub, Nat.reduceMul, Nat.reduceBEq, Nat.reduceLeDiff, Int.reduceToNat, Int.reduceLE, hQ, h0, ↓ctrVO_o, ↓ctrValObjectA, rowB, ofRB, hrev, objK_r, extractR]
    refine ⟨by omega, by omega, hne, hnx, ?_⟩
    refine wpc_weak _ (Weak.freeze 1 2 (Nat.zero_le _) _) ?_
    rcases Nat.eq_zero_or_pos names.length with hz | hpos
    · have hn0 : ((names.length : Int) = 0) = True := eq_true (by omega)
      simp (maxSteps := 400000) only [↓preZ, postZ, coreZ, ↓preU, postU, D_all, F_all, unR, outL, onePV, binS, ↓binS, boundR, ↓boundR, fieldOf, ↓fieldOf, boxR, allocR, newObj, zeroElem, buildSliceR, appendR, setAll, storeR, St.freeze, makeSliceR, minmaxR, makeFuncR, BEq.rfl, reduceIte, reduceCtorEq, Nat.reduceLT, Nat.reduceAdd, Nat.reduceSub, Nat.reduceMul, Nat.reduceBEq, Nat.reduceLeDiff, Int.reduceToNat, Int.reduceLE, hQ, ↓g3, g1, g2, hn0, ↓ctrAlive2, hoe]
      have h1 : names = [] := List.length_eq_zero_iff.1 hz
      have h2 : l = [] := List.length_eq_zero_iff.1 (by omega)
      subst h1; subst h2; rfl
    have hn0 : ((names.length : Int) = 0) = False := eq_false (by omega)
    have hg0 := List.getElem?_eq_getElem hpos
    have hl0 : l[0]? = some (l[0]'(by omega)) := List.getElem?_eq_getElem (by omega)
    generalize names[0] = nm at hg0
    generalize l[0]'(by omega) = v at hl0
    obtain ⟨f1, f2, f3, f4, f5⟩ := fin nm v hg0 hl0
    simp (maxSteps := 400000) only [↓preZ, postZ, coreZ, ↓preU, postU, D_all, F_all, unR, outL, onePV, binS, ↓binS, boundR, ↓boundR, fieldOf, ↓fieldOf, boxR, allocR, newObj, zeroElem, buildSliceR, appendR, setAll, storeR, St.freeze, makeSliceR, minmaxR, makeFuncR, BEq.rfl, reduceIte, reduceCtorEq, Nat.reduceLT, Nat.reduceAdd, Nat.reduceSub, Nat.reduceMul, Nat.reduceBEq, Nat.reduceLeDiff, Int.reduceToNat, Int.reduceLE, hQ, ↓g3, g1, g2, hn0, hg0, hl0, e1, e2, ↓ctrVO_o, ↓ctrValObjectA, rowB, ofRB, f1, objK_r, extractR, ↓ctrAlive2, hoe, ↓ctrSameA, rowNB, ↓ctrParts]
    have hov : objVal names l = mkO (srtP (names.zip l)) := by simp [objVal, hok]
    have hso := srt_ok hok a3
    have hpl : (partsV (objVal names l)).length = l.length := by
      rw [hov, (parts_mkO hso.rt).1, List.length_map, srtP_length, List.length_zip]; omega
    exact ⟨by omega, by omega, by omega, by omega, by omega, f3, f4, f5, hlen, hlen, by omega, by rw [hov]; exact (rt_mkO hso).one, by rw [hpl]; exact (decide_eq_true rfl).symm⟩
end Lp
