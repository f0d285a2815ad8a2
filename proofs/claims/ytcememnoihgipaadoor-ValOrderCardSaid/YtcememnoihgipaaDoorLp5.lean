/-
  Part 5 of what the statement rests on: LpW14, LpW15, LpW16, LpW17, LpW18, LpW19, LpX, LpUse, LpRes, LpW20, LpW23, LpC2, LpC4, LpC5. No condition.
-/
import Derived.Test.YtcememnoihgipaaDoorLp4
import Derived.Deep.Slices
import Derived.ChangeShapes
import Derived.SizedLaws
import Derived.Deep.DeepHandedRow
import Derived.JoinedOf
import Derived.Below
import Derived.Carry
import Derived.ChangeOld
import Derived.RowKit
import Derived.OpenShut

set_option linter.all false

/-! LpW14 -/

namespace Lp
open Go Go.Proofs

set_option maxHeartbeats 4000000
set_option maxRecDepth 20000
set_option linter.unusedSimpArgs false

theorem u8c (c : UInt8) (n : Nat) (h : n < 256) : (c < UInt8.ofNat n ↔ c.toNat < n) ∧ (UInt8.ofNat n ≤ c ↔ n ≤ c.toNat) := by
  have e : (UInt8.ofNat n).toNat = n := by simp [UInt8.toNat_ofNat']; omega
  constructor
  · rw [UInt8.lt_iff_toNat_lt, e]
  · rw [UInt8.le_iff_toNat_le, e]

theorem contB_some {s : List UInt8} {i : Nat} {c : UInt8} (h : s[i]? = some c) : contB s i = (decide (128 ≤ c.toNat) && decide (c.toNat < 192)) := by
  have h1 : 128 ≤ c ↔ 128 ≤ c.toNat := (u8c c 128 (by omega)).2
  have h2 : c < 192 ↔ c.toNat < 192 := (u8c c 192 (by omega)).1
  simp only [contB, h]
  rw [decide_eq_decide.2 h1, decide_eq_decide.2 h2]

theorem cont_spec (s : List UInt8) (i : Int) (hi : 0 ≤ i) : FnSpec Tryd.prog f_louperef02_cont [.str s, .int .i64 i] [] (.bool (contB s i.toNat)) [] := by
  refine k_louperef02_cont.pure (T := tabL Tryd.prog []) 0 hD (kOk_tabL tabOk_nil) hmix (by decide) ?_
  try simp only [F_all]
  rcases Nat.lt_or_ge i.toNat s.length with h | h
  · have hg := List.getElem?_eq_getElem h
    generalize s[i.toNat] = c at hg
    simp (maxSteps := 400000) only [↓preZ, postZ, coreZ, ↓preU, postU, D_all, F_all, unR, outL, onePV, binS, ↓binS, boundR, ↓boundR, fieldOf, ↓fieldOf, boxR, allocR, newObj, zeroElem, buildSliceR, appendR, setAll, storeR, St.freeze, makeSliceR, minmaxR, makeFuncR, BEq.rfl, reduceIte, reduceCtorEq, Nat.reduceLT, Nat.reduceAdd, Nat.reduceSub, Nat.reduceMul, Nat.reduceBEq, Nat.reduceLeDiff, Int.reduceToNat, Int.reduceLE, c_louperef02_cont, hg, contB_some hg]
    refine ⟨fun _ => ⟨hi, fun h1 => ⟨hi, ?_⟩, fun h1 => ?_⟩, fun h2 => absurd (by omega) h2⟩
    · have : 128 ≤ c.toNat := by omega
      simp only [this, decide_true, Bool.true_and]
      exact decide_eq_decide.2 (by omega)
    · have : ¬ 128 ≤ c.toNat := by omega
      simp only [this, decide_false, Bool.false_and]
  · have hn : s[i.toNat]? = none := List.getElem?_eq_none h
    simp (maxSteps := 400000) only [↓preZ, postZ, coreZ, ↓preU, postU, D_all, F_all, unR, outL, onePV, binS, ↓binS, boundR, ↓boundR, fieldOf, ↓fieldOf, boxR, allocR, newObj, zeroElem, buildSliceR, appendR, setAll, storeR, St.freeze, makeSliceR, minmaxR, makeFuncR, BEq.rfl, reduceIte, reduceCtorEq, Nat.reduceLT, Nat.reduceAdd, Nat.reduceSub, Nat.reduceMul, Nat.reduceBEq, Nat.reduceLeDiff, Int.reduceToNat, Int.reduceLE, c_louperef02_cont]
    simp only [contB, hn]
    exact ⟨fun hh => absurd hh (by omega), fun _ => trivial⟩

def ctrCont : Ctr := fun args objs K => match args with
  | [.str s, .int .i64 i] => (0 ≤ i) ∧ K (.bool (contB s i.toNat)) objs 0
  | _ => False
theorem ctrCont_ok : CtrOk Tryd.prog f_louperef02_cont (ctrCont) := by
  intro args objs K h
  unfold ctrCont at h
  split at h
  · rename_i s i
    obtain ⟨h1, hk⟩ := h
    exact ⟨_, _, _, .pure _ rfl (cont_spec s i h1), hk⟩
  · exact h.elim

theorem contB_drop (s : List UInt8) (i k : Nat) : contB (s.drop i) k = contB s (i + k) := by
  simp only [contB, List.getElem?_drop]

theorem contB_get {s : List UInt8} {i : Nat} (h : contB s i = true) : ∃ d, s[i]? = some d := by
  unfold contB at h
  split at h
  · rename_i b hb; exact ⟨b, hb⟩
  · cases h

theorem rune_spec (s : List UInt8) (i : Nat) (hi : i < s.length) (hl : s.length ≤ 4611686018427387904) : FnSpec Tryd.prog f_louperef02_Rune [.str s, .int .i64 i] [] (.int .i64 (runeN (s.drop i) : Nat)) [] := by
  have hg := List.getElem?_eq_getElem hi
  have hd := List.drop_eq_getElem_cons hi
  generalize s[i] = c at hg hd
  have c0 : contB (s.drop (i + 1)) 0 = contB s (i + 1) := contB_drop s (i + 1) 0
  have c1 : contB (s.drop (i + 1)) 1 = contB s (i + 2) := contB_drop s (i + 1) 1
  have c2 : contB (s.drop (i + 1)) 2 = contB s (i + 3) := contB_drop s (i + 1) 2
  have n1 : ((i : Int) + 1).toNat = i + 1 := by omega
  have n2 : ((i : Int) + 2).toNat = i + 2 := by omega
  have n3 : ((i : Int) + 3).toNat = i + 3 := by omega
  have z0 : (0 ≤ (i : Int)) = True := eq_true (by omega)
  have z1 : (0 ≤ (i : Int) + 1) = True := eq_true (by omega)
  have z2 : (0 ≤ (i : Int) + 2) = True := eq_true (by omega)
  have z3 : (0 ≤ (i : Int) + 3) = True := eq_true (by omega)
  have i1 : (-9223372036854775808 ≤ (i : Int) + 1 ∧ (i : Int) + 1 ≤ 9223372036854775807) = True := eq_true ⟨by omega, by omega⟩
  have i2 : (-9223372036854775808 ≤ (i : Int) + 2 ∧ (i : Int) + 2 ≤ 9223372036854775807) = True := eq_true ⟨by omega, by omega⟩
  have i3 : (-9223372036854775808 ≤ (i : Int) + 3 ∧ (i : Int) + 3 ≤ 9223372036854775807) = True := eq_true ⟨by omega, by omega⟩
  suffices gen : ∀ Q : Exit → St → Prop, (∀ (l : List (Nat × PV)) (v : Nat), lkA l 4 = .int .i64 v → v = runeN (c :: s.drop (i + 1)) → Q .ret ⟨tmA 109 l, []⟩) →
      wpc Tryd.prog D (tabL Tryd.prog [(f_louperef02_cont, ctrCont)]) c_louperef02_Rune Q (startS [.str s, .int .i64 i] 109) by
    rw [hd]
    refine k_louperef02_Rune.pure (T := tabL Tryd.prog [(f_louperef02_cont, ctrCont)]) 0 hD (kOk_tabL (tabOk_cons ctrCont_ok tabOk_nil)) hmix (by decide) ?_
    try simp only [F_all]
    refine gen _ fun l v h1 h2 => ?_
    subst h2
    simp only [retR, outL, onePV, stR2, taR2, Nat.reduceLT, h1, List.map_cons, List.map_nil, frR]
  intro Q hQ
  have hc : c.toNat < 256 := c.toNat_lt
  have h6 : c.toNat < 128 ∨ (128 ≤ c.toNat ∧ c.toNat < 194) ∨ (194 ≤ c.toNat ∧ c.toNat < 224) ∨ (224 ≤ c.toNat ∧ c.toNat < 240) ∨ (240 ≤ c.toNat ∧ c.toNat < 245) ∨ 245 ≤ c.toNat := by omega
  rcases h6 with h | h | h | h | h | h
  · skip
    have f0 : (((c.toNat : Int) < 128) = True) := eq_true (by omega)
    have f1 : ((128 ≤ (c.toNat : Int)) = False) := eq_false (by omega)
    have f2 : ((c < 128) = True) := eq_true ((u8c c 128 (by omega)).1.2 (by omega))
    have f3 : ((128 ≤ c) = False) := eq_false fun hh => by have := (u8c c 128 (by omega)).2.1 hh; omega
    have f4 : (((c.toNat : Int) < 194) = True) := eq_true (by omega)
    have f5 : ((194 ≤ (c.toNat : Int)) = False) := eq_false (by omega)
    have f6 : ((c < 194) = True) := eq_true ((u8c c 194 (by omega)).1.2 (by omega))
    have f7 : ((194 ≤ c) = False) := eq_false fun hh => by have := (u8c c 194 (by omega)).2.1 hh; omega
    have f8 : (((c.toNat : Int) < 224) = True) := eq_true (by omega)
    have f9 : ((224 ≤ (c.toNat : Int)) = False) := eq_false (by omega)
    have f10 : ((c < 224) = True) := eq_true ((u8c c 224 (by omega)).1.2 (by omega))
    have f11 : ((224 ≤ c) = False) := eq_false fun hh => by have := (u8c c 224 (by omega)).2.1 hh; omega
    have f12 : (((c.toNat : Int) < 240) = True) := eq_true (by omega)
    have f13 : ((240 ≤ (c.toNat : Int)) = False) := eq_false (by omega)
    have f14 : ((c < 240) = True) := eq_true ((u8c c 240 (by omega)).1.2 (by omega))
    have f15 : ((240 ≤ c) = False) := eq_false fun hh => by have := (u8c c 240 (by omega)).2.1 hh; omega
    have f16 : (((c.toNat : Int) < 245) = True) := eq_true (by omega)
    have f17 : ((245 ≤ (c.toNat : Int)) = False) := eq_false (by omega)
    have f18 : ((c < 245) = True) := eq_true ((u8c c 245 (by omega)).1.2 (by omega))
    have f19 : ((245 ≤ c) = False) := eq_false fun hh => by have := (u8c c 245 (by omega)).2.1 hh; omega
    simp (maxSteps := 400000) only [↓preZ, postZ, coreZ, ↓preU, postU, D_all, F_all, unR, outL, onePV, binS, ↓binS, boundR, ↓boundR, fieldOf, ↓fieldOf, boxR, allocR, newObj, zeroElem, buildSliceR, appendR, setAll, storeR, St.freeze, makeSliceR, minmaxR, makeFuncR, BEq.rfl, reduceIte, reduceCtorEq, Nat.reduceLT, Nat.reduceAdd, Nat.reduceSub, Nat.reduceMul, Nat.reduceBEq, Nat.reduceLeDiff, Int.reduceToNat, Int.reduceLE, c_louperef02_Rune, hg, ↓ctrCont, n1, n2, n3, z0, z1, z2, z3, i1, i2, i3, f0, f1, f2, f3, f4, f5, f6, f7, f8, f9, f10, f11, f12, f13, f14, f15, f16, f17, f18, f19]
    exact hQ _ 1 rfl (by simp only [true_or, or_true, or_self, or_false, false_or, and_self, true_and, and_true, false_and, and_false, if_true, if_false, Bool.false_eq_true, c0, c1, c2, runeN, f0, f1, f2, f3, f4, f5, f6, f7, f8, f9, f10, f11, f12, f13, f14, f15, f16, f17, f18, f19])
  · skip
    have f0 : (((c.toNat : Int) < 128) = False) := eq_false (by omega)
    have f1 : ((128 ≤ (c.toNat : Int)) = True) := eq_true (by omega)
    have f2 : ((c < 128) = False) := eq_false fun hh => by have := (u8c c 128 (by omega)).1.1 hh; omega
    have f3 : ((128 ≤ c) = True) := eq_true ((u8c c 128 (by omega)).2.2 (by omega))
    have f4 : (((c.toNat : Int) < 194) = True) := eq_true (by omega)
    have f5 : ((194 ≤ (c.toNat : Int)) = False) := eq_false (by omega)
    have f6 : ((c < 194) = True) := eq_true ((u8c c 194 (by omega)).1.2 (by omega))
    have f7 : ((194 ≤ c) = False) := eq_false fun hh => by have := (u8c c 194 (by omega)).2.1 hh; omega
    have f8 : (((c.toNat : Int) < 224) = True) := eq_true (by omega)
    have f9 : ((224 ≤ (c.toNat : Int)) = False) := eq_false (by omega)
    have f10 : ((c < 224) = True) := eq_true ((u8c c 224 (by omega)).1.2 (by omega))
    have f11 : ((224 ≤ c) = False) := eq_false fun hh => by have := (u8c c 224 (by omega)).2.1 hh; omega
    have f12 : (((c.toNat : Int) < 240) = True) := eq_true (by omega)
    have f13 : ((240 ≤ (c.toNat : Int)) = False) := eq_false (by omega)
    have f14 : ((c < 240) = True) := eq_true ((u8c c 240 (by omega)).1.2 (by omega))
    have f15 : ((240 ≤ c) = False) := eq_false fun hh => by have := (u8c c 240 (by omega)).2.1 hh; omega
    have f16 : (((c.toNat : Int) < 245) = True) := eq_true (by omega)
    have f17 : ((245 ≤ (c.toNat : Int)) = False) := eq_false (by omega)
    have f18 : ((c < 245) = True) := eq_true ((u8c c 245 (by omega)).1.2 (by omega))
    have f19 : ((245 ≤ c) = False) := eq_false fun hh => by have := (u8c c 245 (by omega)).2.1 hh; omega
    simp (maxSteps := 400000) only [↓preZ, postZ, coreZ, ↓preU, postU, D_all, F_all, unR, outL, onePV, binS, ↓binS, boundR, ↓boundR, fieldOf, ↓fieldOf, boxR, allocR, newObj, zeroElem, buildSliceR, appendR, setAll, storeR, St.freeze, makeSliceR, minmaxR, makeFuncR, BEq.rfl, reduceIte, reduceCtorEq, Nat.reduceLT, Nat.reduceAdd, Nat.reduceSub, Nat.reduceMul, Nat.reduceBEq, Nat.reduceLeDiff, Int.reduceToNat, Int.reduceLE, c_louperef02_Rune, hg, ↓ctrCont, n1, n2, n3, z0, z1, z2, z3, i1, i2, i3, f0, f1, f2, f3, f4, f5, f6, f7, f8, f9, f10, f11, f12, f13, f14, f15, f16, f17, f18, f19]
    exact hQ _ 0 rfl (by simp only [true_or, or_true, or_self, or_false, false_or, and_self, true_and, and_true, false_and, and_false, if_true, if_false, Bool.false_eq_true, c0, c1, c2, runeN, f0, f1, f2, f3, f4, f5, f6, f7, f8, f9, f10, f11, f12, f13, f14, f15, f16, f17, f18, f19])
  · skip
    have f0 : (((c.toNat : Int) < 128) = False) := eq_false (by omega)
    have f1 : ((128 ≤ (c.toNat : Int)) = True) := eq_true (by omega)
    have f2 : ((c < 128) = False) := eq_false fun hh => by have := (u8c c 128 (by omega)).1.1 hh; omega
    have f3 : ((128 ≤ c) = True) := eq_true ((u8c c 128 (by omega)).2.2 (by omega))
    have f4 : (((c.toNat : Int) < 194) = False) := eq_false (by omega)
    have f5 : ((194 ≤ (c.toNat : Int)) = True) := eq_true (by omega)
    have f6 : ((c < 194) = False) := eq_false fun hh => by have := (u8c c 194 (by omega)).1.1 hh; omega
    have f7 : ((194 ≤ c) = True) := eq_true ((u8c c 194 (by omega)).2.2 (by omega))
    have f8 : (((c.toNat : Int) < 224) = True) := eq_true (by omega)
    have f9 : ((224 ≤ (c.toNat : Int)) = False) := eq_false (by omega)
    have f10 : ((c < 224) = True) := eq_true ((u8c c 224 (by omega)).1.2 (by omega))
    have f11 : ((224 ≤ c) = False) := eq_false fun hh => by have := (u8c c 224 (by omega)).2.1 hh; omega
    have f12 : (((c.toNat : Int) < 240) = True) := eq_true (by omega)
    have f13 : ((240 ≤ (c.toNat : Int)) = False) := eq_false (by omega)
    have f14 : ((c < 240) = True) := eq_true ((u8c c 240 (by omega)).1.2 (by omega))
    have f15 : ((240 ≤ c) = False) := eq_false fun hh => by have := (u8c c 240 (by omega)).2.1 hh; omega
    have f16 : (((c.toNat : Int) < 245) = True) := eq_true (by omega)
    have f17 : ((245 ≤ (c.toNat : Int)) = False) := eq_false (by omega)
    have f18 : ((c < 245) = True) := eq_true ((u8c c 245 (by omega)).1.2 (by omega))
    have f19 : ((245 ≤ c) = False) := eq_false fun hh => by have := (u8c c 245 (by omega)).2.1 hh; omega
    cases k1 : contB s (i + 1)
    · skip
      simp (maxSteps := 400000) only [↓preZ, postZ, coreZ, ↓preU, postU, D_all, F_all, unR, outL, onePV, binS, ↓binS, boundR, ↓boundR, fieldOf, ↓fieldOf, boxR, allocR, newObj, zeroElem, buildSliceR, appendR, setAll, storeR, St.freeze, makeSliceR, minmaxR, makeFuncR, BEq.rfl, reduceIte, reduceCtorEq, Nat.reduceLT, Nat.reduceAdd, Nat.reduceSub, Nat.reduceMul, Nat.reduceBEq, Nat.reduceLeDiff, Int.reduceToNat, Int.reduceLE, c_louperef02_Rune, hg, ↓ctrCont, n1, n2, n3, z0, z1, z2, z3, i1, i2, i3, f0, f1, f2, f3, f4, f5, f6, f7, f8, f9, f10, f11, f12, f13, f14, f15, f16, f17, f18, f19, k1]
      exact hQ _ 0 rfl (by simp only [true_or, or_true, or_self, or_false, false_or, and_self, true_and, and_true, false_and, and_false, if_true, if_false, Bool.false_eq_true, c0, c1, c2, runeN, f0, f1, f2, f3, f4, f5, f6, f7, f8, f9, f10, f11, f12, f13, f14, f15, f16, f17, f18, f19, k1])
    · skip
      simp (maxSteps := 400000) only [↓preZ, postZ, coreZ, ↓preU, postU, D_all, F_all, unR, outL, onePV, binS, ↓binS, boundR, ↓boundR, fieldOf, ↓fieldOf, boxR, allocR, newObj, zeroElem, buildSliceR, appendR, setAll, storeR, St.freeze, makeSliceR, minmaxR, makeFuncR, BEq.rfl, reduceIte, reduceCtorEq, Nat.reduceLT, Nat.reduceAdd, Nat.reduceSub, Nat.reduceMul, Nat.reduceBEq, Nat.reduceLeDiff, Int.reduceToNat, Int.reduceLE, c_louperef02_Rune, hg, ↓ctrCont, n1, n2, n3, z0, z1, z2, z3, i1, i2, i3, f0, f1, f2, f3, f4, f5, f6, f7, f8, f9, f10, f11, f12, f13, f14, f15, f16, f17, f18, f19, k1]
      exact hQ _ 2 rfl (by simp only [true_or, or_true, or_self, or_false, false_or, and_self, true_and, and_true, false_and, and_false, if_true, if_false, Bool.false_eq_true, c0, c1, c2, runeN, f0, f1, f2, f3, f4, f5, f6, f7, f8, f9, f10, f11, f12, f13, f14, f15, f16, f17, f18, f19, k1])
  · skip
    have f0 : (((c.toNat : Int) < 128) = False) := eq_false (by omega)
    have f1 : ((128 ≤ (c.toNat : Int)) = True) := eq_true (by omega)
    have f2 : ((c < 128) = False) := eq_false fun hh => by have := (u8c c 128 (by omega)).1.1 hh; omega
    have f3 : ((128 ≤ c) = True) := eq_true ((u8c c 128 (by omega)).2.2 (by omega))
    have f4 : (((c.toNat : Int) < 194) = False) := eq_false (by omega)
    have f5 : ((194 ≤ (c.toNat : Int)) = True) := eq_true (by omega)
    have f6 : ((c < 194) = False) := eq_false fun hh => by have := (u8c c 194 (by omega)).1.1 hh; omega
    have f7 : ((194 ≤ c) = True) := eq_true ((u8c c 194 (by omega)).2.2 (by omega))
    have f8 : (((c.toNat : Int) < 224) = False) := eq_false (by omega)
    have f9 : ((224 ≤ (c.toNat : Int)) = True) := eq_true (by omega)
    have f10 : ((c < 224) = False) := eq_false fun hh => by have := (u8c c 224 (by omega)).1.1 hh; omega
    have f11 : ((224 ≤ c) = True) := eq_true ((u8c c 224 (by omega)).2.2 (by omega))
    have f12 : (((c.toNat : Int) < 240) = True) := eq_true (by omega)
    have f13 : ((240 ≤ (c.toNat : Int)) = False) := eq_false (by omega)
    have f14 : ((c < 240) = True) := eq_true ((u8c c 240 (by omega)).1.2 (by omega))
    have f15 : ((240 ≤ c) = False) := eq_false fun hh => by have := (u8c c 240 (by omega)).2.1 hh; omega
    have f16 : (((c.toNat : Int) < 245) = True) := eq_true (by omega)
    have f17 : ((245 ≤ (c.toNat : Int)) = False) := eq_false (by omega)
    have f18 : ((c < 245) = True) := eq_true ((u8c c 245 (by omega)).1.2 (by omega))
    have f19 : ((245 ≤ c) = False) := eq_false fun hh => by have := (u8c c 245 (by omega)).2.1 hh; omega
    cases k1 : contB s (i + 1)
    · skip
      simp (maxSteps := 400000) only [↓preZ, postZ, coreZ, ↓preU, postU, D_all, F_all, unR, outL, onePV, binS, ↓binS, boundR, ↓boundR, fieldOf, ↓fieldOf, boxR, allocR, newObj, zeroElem, buildSliceR, appendR, setAll, storeR, St.freeze, makeSliceR, minmaxR, makeFuncR, BEq.rfl, reduceIte, reduceCtorEq, Nat.reduceLT, Nat.reduceAdd, Nat.reduceSub, Nat.reduceMul, Nat.reduceBEq, Nat.reduceLeDiff, Int.reduceToNat, Int.reduceLE, c_louperef02_Rune, hg, ↓ctrCont, n1, n2, n3, z0, z1, z2, z3, i1, i2, i3, f0, f1, f2, f3, f4, f5, f6, f7, f8, f9, f10, f11, f12, f13, f14, f15, f16, f17, f18, f19, k1]
      exact hQ _ 0 rfl (by simp only [true_or, or_true, or_self, or_false, false_or, and_self, true_and, and_true, false_and, and_false, if_true, if_false, Bool.false_eq_true, c0, c1, c2, runeN, f0, f1, f2, f3, f4, f5, f6, f7, f8, f9, f10, f11, f12, f13, f14, f15, f16, f17, f18, f19, k1])
    cases k2 : contB s (i + 2)
    · skip
      simp (maxSteps := 400000) only [↓preZ, postZ, coreZ, ↓preU, postU, D_all, F_all, unR, outL, onePV, binS, ↓binS, boundR, ↓boundR, fieldOf, ↓fieldOf, boxR, allocR, newObj, zeroElem, buildSliceR, appendR, setAll, storeR, St.freeze, makeSliceR, minmaxR, makeFuncR, BEq.rfl, reduceIte, reduceCtorEq, Nat.reduceLT, Nat.reduceAdd, Nat.reduceSub, Nat.reduceMul, Nat.reduceBEq, Nat.reduceLeDiff, Int.reduceToNat, Int.reduceLE, c_louperef02_Rune, hg, ↓ctrCont, n1, n2, n3, z0, z1, z2, z3, i1, i2, i3, f0, f1, f2, f3, f4, f5, f6, f7, f8, f9, f10, f11, f12, f13, f14, f15, f16, f17, f18, f19, k1, k2]
      exact hQ _ 0 rfl (by simp only [true_or, or_true, or_self, or_false, false_or, and_self, true_and, and_true, false_and, and_false, if_true, if_false, Bool.false_eq_true, c0, c1, c2, runeN, f0, f1, f2, f3, f4, f5, f6, f7, f8, f9, f10, f11, f12, f13, f14, f15, f16, f17, f18, f19, k1, k2])
    obtain ⟨d, hd1⟩ := contB_get k1
    have hhd : (List.drop (i + 1) s).headD 0 = d := by rw [List.headD_eq_head?_getD, List.head?_drop, hd1]; rfl
    by_cases hc224 : c.toNat = 224
    · have hc237 : c.toNat ≠ 237 := by omega
      have e0 : (((c.toNat : Int) = 224) = True) := eq_true (by omega)
      have e1 : ((c = 224) = True) := eq_true (UInt8.toNat_inj.1 (by simpa using hc224))
      have e2 : (((c.toNat : Int) = 237) = False) := eq_false (by omega)
      have e3 : ((c = 237) = False) := eq_false fun hh => hc237 (by rw [hh]; rfl)
      by_cases hdl : d.toNat < 160
      · skip
        have g0 : (((d.toNat : Int) < 160) = True) := eq_true (by omega)
        have g1 : ((160 ≤ (d.toNat : Int)) = False) := eq_false (by omega)
        have g2 : ((d < 160) = True) := eq_true ((u8c d 160 (by omega)).1.2 (by omega))
        have g3 : ((160 ≤ d) = False) := eq_false fun hh => by have := (u8c d 160 (by omega)).2.1 hh; omega
        simp (maxSteps := 400000) only [↓preZ, postZ, coreZ, ↓preU, postU, D_all, F_all, unR, outL, onePV, binS, ↓binS, boundR, ↓boundR, fieldOf, ↓fieldOf, boxR, allocR, newObj, zeroElem, buildSliceR, appendR, setAll, storeR, St.freeze, makeSliceR, minmaxR, makeFuncR, BEq.rfl, reduceIte, reduceCtorEq, Nat.reduceLT, Nat.reduceAdd, Nat.reduceSub, Nat.reduceMul, Nat.reduceBEq, Nat.reduceLeDiff, Int.reduceToNat, Int.reduceLE, c_louperef02_Rune, hg, ↓ctrCont, n1, n2, n3, z0, z1, z2, z3, i1, i2, i3, f0, f1, f2, f3, f4, f5, f6, f7, f8, f9, f10, f11, f12, f13, f14, f15, f16, f17, f18, f19, k1, k2, hd1, hhd, e0, e1, e2, e3, g0, g1, g2, g3]
        exact hQ _ 0 rfl (by simp only [true_or, or_true, or_self, or_false, false_or, and_self, true_and, and_true, false_and, and_false, if_true, if_false, Bool.false_eq_true, c0, c1, c2, runeN, f0, f1, f2, f3, f4, f5, f6, f7, f8, f9, f10, f11, f12, f13, f14, f15, f16, f17, f18, f19, k1, k2, hd1, hhd, e0, e1, e2, e3, g0, g1, g2, g3])
      · skip
        have g0 : (((d.toNat : Int) < 160) = False) := eq_false (by omega)
        have g1 : ((160 ≤ (d.toNat : Int)) = True) := eq_true (by omega)
        have g2 : ((d < 160) = False) := eq_false fun hh => by have := (u8c d 160 (by omega)).1.1 hh; omega
        have g3 : ((160 ≤ d) = True) := eq_true ((u8c d 160 (by omega)).2.2 (by omega))
        simp (maxSteps := 400000) only [↓preZ, postZ, coreZ, ↓preU, postU, D_all, F_all, unR, outL, onePV, binS, ↓binS, boundR, ↓boundR, fieldOf, ↓fieldOf, boxR, allocR, newObj, zeroElem, buildSliceR, appendR, setAll, storeR, St.freeze, makeSliceR, minmaxR, makeFuncR, BEq.rfl, reduceIte, reduceCtorEq, Nat.reduceLT, Nat.reduceAdd, Nat.reduceSub, Nat.reduceMul, Nat.reduceBEq, Nat.reduceLeDiff, Int.reduceToNat, Int.reduceLE, c_louperef02_Rune, hg, ↓ctrCont, n1, n2, n3, z0, z1, z2, z3, i1, i2, i3, f0, f1, f2, f3, f4, f5, f6, f7, f8, f9, f10, f11, f12, f13, f14, f15, f16, f17, f18, f19, k1, k2, hd1, hhd, e0, e1, e2, e3, g0, g1, g2, g3]
        exact hQ _ 3 rfl (by simp only [true_or, or_true, or_self, or_false, false_or, and_self, true_and, and_true, false_and, and_false, if_true, if_false, Bool.false_eq_true, c0, c1, c2, runeN, f0, f1, f2, f3, f4, f5, f6, f7, f8, f9, f10, f11, f12, f13, f14, f15, f16, f17, f18, f19, k1, k2, hd1, hhd, e0, e1, e2, e3, g0, g1, g2, g3])
    · by_cases hc237 : c.toNat = 237
      · skip
        have e0 : (((c.toNat : Int) = 224) = False) := eq_false (by omega)
        have e1 : ((c = 224) = False) := eq_false fun hh => hc224 (by rw [hh]; rfl)
        have e2 : (((c.toNat : Int) = 237) = True) := eq_true (by omega)
        have e3 : ((c = 237) = True) := eq_true (UInt8.toNat_inj.1 (by simpa using hc237))
        by_cases hdl : d.toNat < 160
        · skip
          have g0 : (((d.toNat : Int) < 160) = True) := eq_true (by omega)
          have g1 : ((160 ≤ (d.toNat : Int)) = False) := eq_false (by omega)
          have g2 : ((d < 160) = True) := eq_true ((u8c d 160 (by omega)).1.2 (by omega))
          have g3 : ((160 ≤ d) = False) := eq_false fun hh => by have := (u8c d 160 (by omega)).2.1 hh; omega
          simp (maxSteps := 400000) only [↓preZ, postZ, coreZ, ↓preU, postU, D_all, F_all, unR, outL, onePV, binS, ↓binS, boundR, ↓boundR, fieldOf, ↓fieldOf, boxR, allocR, newObj, zeroElem, buildSliceR, appendR, setAll, storeR, St.freeze, makeSliceR, minmaxR, makeFuncR, BEq.rfl, reduceIte, reduceCtorEq, Nat.reduceLT, Nat.reduceAdd, Nat.reduceSub, Nat.reduceMul, Nat.reduceBEq, Nat.reduceLeDiff, Int.reduceToNat, Int.reduceLE, c_louperef02_Rune, hg, ↓ctrCont, n1, n2, n3, z0, z1, z2, z3, i1, i2, i3, f0, f1, f2, f3, f4, f5, f6, f7, f8, f9, f10, f11, f12, f13, f14, f15, f16, f17, f18, f19, k1, k2, hd1, hhd, e0, e1, e2, e3, g0, g1, g2, g3]
          exact hQ _ 3 rfl (by simp only [true_or, or_true, or_self, or_false, false_or, and_self, true_and, and_true, false_and, and_false, if_true, if_false, Bool.false_eq_true, c0, c1, c2, runeN, f0, f1, f2, f3, f4, f5, f6, f7, f8, f9, f10, f11, f12, f13, f14, f15, f16, f17, f18, f19, k1, k2, hd1, hhd, e0, e1, e2, e3, g0, g1, g2, g3])
        · skip
          have g0 : (((d.toNat : Int) < 160) = False) := eq_false (by omega)
          have g1 : ((160 ≤ (d.toNat : Int)) = True) := eq_true (by omega)
          have g2 : ((d < 160) = False) := eq_false fun hh => by have := (u8c d 160 (by omega)).1.1 hh; omega
          have g3 : ((160 ≤ d) = True) := eq_true ((u8c d 160 (by omega)).2.2 (by omega))
          simp (maxSteps := 400000) only [↓preZ, postZ, coreZ, ↓preU, postU, D_all, F_all, unR, outL, onePV, binS, ↓binS, boundR, ↓boundR, fieldOf, ↓fieldOf, boxR, allocR, newObj, zeroElem, buildSliceR, appendR, setAll, storeR, St.freeze, makeSliceR, minmaxR, makeFuncR, BEq.rfl, reduceIte, reduceCtorEq, Nat.reduceLT, Nat.reduceAdd, Nat.reduceSub, Nat.reduceMul, Nat.reduceBEq, Nat.reduceLeDiff, Int.reduceToNat, Int.reduceLE, c_louperef02_Rune, hg, ↓ctrCont, n1, n2, n3, z0, z1, z2, z3, i1, i2, i3, f0, f1, f2, f3, f4, f5, f6, f7, f8, f9, f10, f11, f12, f13, f14, f15, f16, f17, f18, f19, k1, k2, hd1, hhd, e0, e1, e2, e3, g0, g1, g2, g3]
          exact hQ _ 0 rfl (by simp only [true_or, or_true, or_self, or_false, false_or, and_self, true_and, and_true, false_and, and_false, if_true, if_false, Bool.false_eq_true, c0, c1, c2, runeN, f0, f1, f2, f3, f4, f5, f6, f7, f8, f9, f10, f11, f12, f13, f14, f15, f16, f17, f18, f19, k1, k2, hd1, hhd, e0, e1, e2, e3, g0, g1, g2, g3])
      · skip
        have e0 : (((c.toNat : Int) = 224) = False) := eq_false (by omega)
        have e1 : ((c = 224) = False) := eq_false fun hh => hc224 (by rw [hh]; rfl)
        have e2 : (((c.toNat : Int) = 237) = False) := eq_false (by omega)
        have e3 : ((c = 237) = False) := eq_false fun hh => hc237 (by rw [hh]; rfl)
        simp (maxSteps := 400000) only [↓preZ, postZ, coreZ, ↓preU, postU, D_all, F_all, unR, outL, onePV, binS, ↓binS, boundR, ↓boundR, fieldOf, ↓fieldOf, boxR, allocR, newObj, zeroElem, buildSliceR, appendR, setAll, storeR, St.freeze, makeSliceR, minmaxR, makeFuncR, BEq.rfl, reduceIte, reduceCtorEq, Nat.reduceLT, Nat.reduceAdd, Nat.reduceSub, Nat.reduceMul, Nat.reduceBEq, Nat.reduceLeDiff, Int.reduceToNat, Int.reduceLE, c_louperef02_Rune, hg, ↓ctrCont, n1, n2, n3, z0, z1, z2, z3, i1, i2, i3, f0, f1, f2, f3, f4, f5, f6, f7, f8, f9, f10, f11, f12, f13, f14, f15, f16, f17, f18, f19, k1, k2, hd1, hhd, e0, e1, e2, e3]
        exact hQ _ 3 rfl (by simp only [true_or, or_true, or_self, or_false, false_or, and_self, true_and, and_true, false_and, and_false, if_true, if_false, Bool.false_eq_true, c0, c1, c2, runeN, f0, f1, f2, f3, f4, f5, f6, f7, f8, f9, f10, f11, f12, f13, f14, f15, f16, f17, f18, f19, k1, k2, hd1, hhd, e0, e1, e2, e3])
  · skip
    have f0 : (((c.toNat : Int) < 128) = False) := eq_false (by omega)
    have f1 : ((128 ≤ (c.toNat : Int)) = True) := eq_true (by omega)
    have f2 : ((c < 128) = False) := eq_false fun hh => by have := (u8c c 128 (by omega)).1.1 hh; omega
    have f3 : ((128 ≤ c) = True) := eq_true ((u8c c 128 (by omega)).2.2 (by omega))
    have f4 : (((c.toNat : Int) < 194) = False) := eq_false (by omega)
    have f5 : ((194 ≤ (c.toNat : Int)) = True) := eq_true (by omega)
    have f6 : ((c < 194) = False) := eq_false fun hh => by have := (u8c c 194 (by omega)).1.1 hh; omega
    have f7 : ((194 ≤ c) = True) := eq_true ((u8c c 194 (by omega)).2.2 (by omega))
    have f8 : (((c.toNat : Int) < 224) = False) := eq_false (by omega)
    have f9 : ((224 ≤ (c.toNat : Int)) = True) := eq_true (by omega)
    have f10 : ((c < 224) = False) := eq_false fun hh => by have := (u8c c 224 (by omega)).1.1 hh; omega
    have f11 : ((224 ≤ c) = True) := eq_true ((u8c c 224 (by omega)).2.2 (by omega))
    have f12 : (((c.toNat : Int) < 240) = False) := eq_false (by omega)
    have f13 : ((240 ≤ (c.toNat : Int)) = True) := eq_true (by omega)
    have f14 : ((c < 240) = False) := eq_false fun hh => by have := (u8c c 240 (by omega)).1.1 hh; omega
    have f15 : ((240 ≤ c) = True) := eq_true ((u8c c 240 (by omega)).2.2 (by omega))
    have f16 : (((c.toNat : Int) < 245) = True) := eq_true (by omega)
    have f17 : ((245 ≤ (c.toNat : Int)) = False) := eq_false (by omega)
    have f18 : ((c < 245) = True) := eq_true ((u8c c 245 (by omega)).1.2 (by omega))
    have f19 : ((245 ≤ c) = False) := eq_false fun hh => by have := (u8c c 245 (by omega)).2.1 hh; omega
    cases k1 : contB s (i + 1)
    · skip
      simp (maxSteps := 400000) only [↓preZ, postZ, coreZ, ↓preU, postU, D_all, F_all, unR, outL, onePV, binS, ↓binS, boundR, ↓boundR, fieldOf, ↓fieldOf, boxR, allocR, newObj, zeroElem, buildSliceR, appendR, setAll, storeR, St.freeze, makeSliceR, minmaxR, makeFuncR, BEq.rfl, reduceIte, reduceCtorEq, Nat.reduceLT, Nat.reduceAdd, Nat.reduceSub, Nat.reduceMul, Nat.reduceBEq, Nat.reduceLeDiff, Int.reduceToNat, Int.reduceLE, c_louperef02_Rune, hg, ↓ctrCont, n1, n2, n3, z0, z1, z2, z3, i1, i2, i3, f0, f1, f2, f3, f4, f5, f6, f7, f8, f9, f10, f11, f12, f13, f14, f15, f16, f17, f18, f19, k1]
      exact hQ _ 0 rfl (by simp only [true_or, or_true, or_self, or_false, false_or, and_self, true_and, and_true, false_and, and_false, if_true, if_false, Bool.false_eq_true, c0, c1, c2, runeN, f0, f1, f2, f3, f4, f5, f6, f7, f8, f9, f10, f11, f12, f13, f14, f15, f16, f17, f18, f19, k1])
    cases k2 : contB s (i + 2)
    · skip
      simp (maxSteps := 400000) only [↓preZ, postZ, coreZ, ↓preU, postU, D_all, F_all, unR, outL, onePV, binS, ↓binS, boundR, ↓boundR, fieldOf, ↓fieldOf, boxR, allocR, newObj, zeroElem, buildSliceR, appendR, setAll, storeR, St.freeze, makeSliceR, minmaxR, makeFuncR, BEq.rfl, reduceIte, reduceCtorEq, Nat.reduceLT, Nat.reduceAdd, Nat.reduceSub, Nat.reduceMul, Nat.reduceBEq, Nat.reduceLeDiff, Int.reduceToNat, Int.reduceLE, c_louperef02_Rune, hg, ↓ctrCont, n1, n2, n3, z0, z1, z2, z3, i1, i2, i3, f0, f1, f2, f3, f4, f5, f6, f7, f8, f9, f10, f11, f12, f13, f14, f15, f16, f17, f18, f19, k1, k2]
      exact hQ _ 0 rfl (by simp only [true_or, or_true, or_self, or_false, false_or, and_self, true_and, and_true, false_and, and_false, if_true, if_false, Bool.false_eq_true, c0, c1, c2, runeN, f0, f1, f2, f3, f4, f5, f6, f7, f8, f9, f10, f11, f12, f13, f14, f15, f16, f17, f18, f19, k1, k2])
    cases k3 : contB s (i + 3)
    · skip
      simp (maxSteps := 400000) only [↓preZ, postZ, coreZ, ↓preU, postU, D_all, F_all, unR, outL, onePV, binS, ↓binS, boundR, ↓boundR, fieldOf, ↓fieldOf, boxR, allocR, newObj, zeroElem, buildSliceR, appendR, setAll, storeR, St.freeze, makeSliceR, minmaxR, makeFuncR, BEq.rfl, reduceIte, reduceCtorEq, Nat.reduceLT, Nat.reduceAdd, Nat.reduceSub, Nat.reduceMul, Nat.reduceBEq, Nat.reduceLeDiff, Int.reduceToNat, Int.reduceLE, c_louperef02_Rune, hg, ↓ctrCont, n1, n2, n3, z0, z1, z2, z3, i1, i2, i3, f0, f1, f2, f3, f4, f5, f6, f7, f8, f9, f10, f11, f12, f13, f14, f15, f16, f17, f18, f19, k1, k2, k3]
      exact hQ _ 0 rfl (by simp only [true_or, or_true, or_self, or_false, false_or, and_self, true_and, and_true, false_and, and_false, if_true, if_false, Bool.false_eq_true, c0, c1, c2, runeN, f0, f1, f2, f3, f4, f5, f6, f7, f8, f9, f10, f11, f12, f13, f14, f15, f16, f17, f18, f19, k1, k2, k3])
    obtain ⟨d, hd1⟩ := contB_get k1
    have hhd : (List.drop (i + 1) s).headD 0 = d := by rw [List.headD_eq_head?_getD, List.head?_drop, hd1]; rfl
    by_cases hc240 : c.toNat = 240
    · have hc244 : c.toNat ≠ 244 := by omega
      have e0 : (((c.toNat : Int) = 240) = True) := eq_true (by omega)
      have e1 : ((c = 240) = True) := eq_true (UInt8.toNat_inj.1 (by simpa using hc240))
      have e2 : (((c.toNat : Int) = 244) = False) := eq_false (by omega)
      have e3 : ((c = 244) = False) := eq_false fun hh => hc244 (by rw [hh]; rfl)
      by_cases hdl : d.toNat < 144
      · skip
        have g0 : (((d.toNat : Int) < 144) = True) := eq_true (by omega)
        have g1 : ((144 ≤ (d.toNat : Int)) = False) := eq_false (by omega)
        have g2 : ((d < 144) = True) := eq_true ((u8c d 144 (by omega)).1.2 (by omega))
        have g3 : ((144 ≤ d) = False) := eq_false fun hh => by have := (u8c d 144 (by omega)).2.1 hh; omega
        simp (maxSteps := 400000) only [↓preZ, postZ, coreZ, ↓preU, postU, D_all, F_all, unR, outL, onePV, binS, ↓binS, boundR, ↓boundR, fieldOf, ↓fieldOf, boxR, allocR, newObj, zeroElem, buildSliceR, appendR, setAll, storeR, St.freeze, makeSliceR, minmaxR, makeFuncR, BEq.rfl, reduceIte, reduceCtorEq, Nat.reduceLT, Nat.reduceAdd, Nat.reduceSub, Nat.reduceMul, Nat.reduceBEq, Nat.reduceLeDiff, Int.reduceToNat, Int.reduceLE, c_louperef02_Rune, hg, ↓ctrCont, n1, n2, n3, z0, z1, z2, z3, i1, i2, i3, f0, f1, f2, f3, f4, f5, f6, f7, f8, f9, f10, f11, f12, f13, f14, f15, f16, f17, f18, f19, k1, k2, k3, hd1, hhd, e0, e1, e2, e3, g0, g1, g2, g3]
        exact hQ _ 0 rfl (by simp only [true_or, or_true, or_self, or_false, false_or, and_self, true_and, and_true, false_and, and_false, if_true, if_false, Bool.false_eq_true, c0, c1, c2, runeN, f0, f1, f2, f3, f4, f5, f6, f7, f8, f9, f10, f11, f12, f13, f14, f15, f16, f17, f18, f19, k1, k2, k3, hd1, hhd, e0, e1, e2, e3, g0, g1, g2, g3])
      · skip
        have g0 : (((d.toNat : Int) < 144) = False) := eq_false (by omega)
        have g1 : ((144 ≤ (d.toNat : Int)) = True) := eq_true (by omega)
        have g2 : ((d < 144) = False) := eq_false fun hh => by have := (u8c d 144 (by omega)).1.1 hh; omega
        have g3 : ((144 ≤ d) = True) := eq_true ((u8c d 144 (by omega)).2.2 (by omega))
        simp (maxSteps := 400000) only [↓preZ, postZ, coreZ, ↓preU, postU, D_all, F_all, unR, outL, onePV, binS, ↓binS, boundR, ↓boundR, fieldOf, ↓fieldOf, boxR, allocR, newObj, zeroElem, buildSliceR, appendR, setAll, storeR, St.freeze, makeSliceR, minmaxR, makeFuncR, BEq.rfl, reduceIte, reduceCtorEq, Nat.reduceLT, Nat.reduceAdd, Nat.reduceSub, Nat.reduceMul, Nat.reduceBEq, Nat.reduceLeDiff, Int.reduceToNat, Int.reduceLE, c_louperef02_Rune, hg, ↓ctrCont, n1, n2, n3, z0, z1, z2, z3, i1, i2, i3, f0, f1, f2, f3, f4, f5, f6, f7, f8, f9, f10, f11, f12, f13, f14, f15, f16, f17, f18, f19, k1, k2, k3, hd1, hhd, e0, e1, e2, e3, g0, g1, g2, g3]
        exact hQ _ 4 rfl (by simp only [true_or, or_true, or_self, or_false, false_or, and_self, true_and, and_true, false_and, and_false, if_true, if_false, Bool.false_eq_true, c0, c1, c2, runeN, f0, f1, f2, f3, f4, f5, f6, f7, f8, f9, f10, f11, f12, f13, f14, f15, f16, f17, f18, f19, k1, k2, k3, hd1, hhd, e0, e1, e2, e3, g0, g1, g2, g3])
    · by_cases hc244 : c.toNat = 244
      · skip
        have e0 : (((c.toNat : Int) = 240) = False) := eq_false (by omega)
        have e1 : ((c = 240) = False) := eq_false fun hh => hc240 (by rw [hh]; rfl)
        have e2 : (((c.toNat : Int) = 244) = True) := eq_true (by omega)
        have e3 : ((c = 244) = True) := eq_true (UInt8.toNat_inj.1 (by simpa using hc244))
        by_cases hdl : d.toNat < 144
        · skip
          have g0 : (((d.toNat : Int) < 144) = True) := eq_true (by omega)
          have g1 : ((144 ≤ (d.toNat : Int)) = False) := eq_false (by omega)
          have g2 : ((d < 144) = True) := eq_true ((u8c d 144 (by omega)).1.2 (by omega))
          have g3 : ((144 ≤ d) = False) := eq_false fun hh => by have := (u8c d 144 (by omega)).2.1 hh; omega
          simp (maxSteps := 400000) only [↓preZ, postZ, coreZ, ↓preU, postU, D_all, F_all, unR, outL, onePV, binS, ↓binS, boundR, ↓boundR, fieldOf, ↓fieldOf, boxR, allocR, newObj, zeroElem, buildSliceR, appendR, setAll, storeR, St.freeze, makeSliceR, minmaxR, makeFuncR, BEq.rfl, reduceIte, reduceCtorEq, Nat.reduceLT, Nat.reduceAdd, Nat.reduceSub, Nat.reduceMul, Nat.reduceBEq, Nat.reduceLeDiff, Int.reduceToNat, Int.reduceLE, c_louperef02_Rune, hg, ↓ctrCont, n1, n2, n3, z0, z1, z2, z3, i1, i2, i3, f0, f1, f2, f3, f4, f5, f6, f7, f8, f9, f10, f11, f12, f13, f14, f15, f16, f17, f18, f19, k1, k2, k3, hd1, hhd, e0, e1, e2, e3, g0, g1, g2, g3]
          exact hQ _ 4 rfl (by simp only [true_or, or_true, or_self, or_false, false_or, and_self, true_and, and_true, false_and, and_false, if_true, if_false, Bool.false_eq_true, c0, c1, c2, runeN, f0, f1, f2, f3, f4, f5, f6, f7, f8, f9, f10, f11, f12, f13, f14, f15, f16, f17, f18, f19, k1, k2, k3, hd1, hhd, e0, e1, e2, e3, g0, g1, g2, g3])
        · skip
          have g0 : (((d.toNat : Int) < 144) = False) := eq_false (by omega)
          have g1 : ((144 ≤ (d.toNat : Int)) = True) := eq_true (by omega)
          have g2 : ((d < 144) = False) := eq_false fun hh => by have := (u8c d 144 (by omega)).1.1 hh; omega
          have g3 : ((144 ≤ d) = True) := eq_true ((u8c d 144 (by omega)).2.2 (by omega))
          simp (maxSteps := 400000) only [↓preZ, postZ, coreZ, ↓preU, postU, D_all, F_all, unR, outL, onePV, binS, ↓binS, boundR, ↓boundR, fieldOf, ↓fieldOf, boxR, allocR, newObj, zeroElem, buildSliceR, appendR, setAll, storeR, St.freeze, makeSliceR, minmaxR, makeFuncR, BEq.rfl, reduceIte, reduceCtorEq, Nat.reduceLT, Nat.reduceAdd, Nat.reduceSub, Nat.reduceMul, Nat.reduceBEq, Nat.reduceLeDiff, Int.reduceToNat, Int.reduceLE, c_louperef02_Rune, hg, ↓ctrCont, n1, n2, n3, z0, z1, z2, z3, i1, i2, i3, f0, f1, f2, f3, f4, f5, f6, f7, f8, f9, f10, f11, f12, f13, f14, f15, f16, f17, f18, f19, k1, k2, k3, hd1, hhd, e0, e1, e2, e3, g0, g1, g2, g3]
          exact hQ _ 0 rfl (by simp only [true_or, or_true, or_self, or_false, false_or, and_self, true_and, and_true, false_and, and_false, if_true, if_false, Bool.false_eq_true, c0, c1, c2, runeN, f0, f1, f2, f3, f4, f5, f6, f7, f8, f9, f10, f11, f12, f13, f14, f15, f16, f17, f18, f19, k1, k2, k3, hd1, hhd, e0, e1, e2, e3, g0, g1, g2, g3])
      · skip
        have e0 : (((c.toNat : Int) = 240) = False) := eq_false (by omega)
        have e1 : ((c = 240) = False) := eq_false fun hh => hc240 (by rw [hh]; rfl)
        have e2 : (((c.toNat : Int) = 244) = False) := eq_false (by omega)
        have e3 : ((c = 244) = False) := eq_false fun hh => hc244 (by rw [hh]; rfl)
        simp (maxSteps := 400000) only [↓preZ, postZ, coreZ, ↓preU, postU, D_all, F_all, unR, outL, onePV, binS, ↓binS, boundR, ↓boundR, fieldOf, ↓fieldOf, boxR, allocR, newObj, zeroElem, buildSliceR, appendR, setAll, storeR, St.freeze, makeSliceR, minmaxR, makeFuncR, BEq.rfl, reduceIte, reduceCtorEq, Nat.reduceLT, Nat.reduceAdd, Nat.reduceSub, Nat.reduceMul, Nat.reduceBEq, Nat.reduceLeDiff, Int.reduceToNat, Int.reduceLE, c_louperef02_Rune, hg, ↓ctrCont, n1, n2, n3, z0, z1, z2, z3, i1, i2, i3, f0, f1, f2, f3, f4, f5, f6, f7, f8, f9, f10, f11, f12, f13, f14, f15, f16, f17, f18, f19, k1, k2, k3, hd1, hhd, e0, e1, e2, e3]
        exact hQ _ 4 rfl (by simp only [true_or, or_true, or_self, or_false, false_or, and_self, true_and, and_true, false_and, and_false, if_true, if_false, Bool.false_eq_true, c0, c1, c2, runeN, f0, f1, f2, f3, f4, f5, f6, f7, f8, f9, f10, f11, f12, f13, f14, f15, f16, f17, f18, f19, k1, k2, k3, hd1, hhd, e0, e1, e2, e3])
  · skip
    have f0 : (((c.toNat : Int) < 128) = False) := eq_false (by omega)
    have f1 : ((128 ≤ (c.toNat : Int)) = True) := eq_true (by omega)
    have f2 : ((c < 128) = False) := eq_false fun hh => by have := (u8c c 128 (by omega)).1.1 hh; omega
    have f3 : ((128 ≤ c) = True) := eq_true ((u8c c 128 (by omega)).2.2 (by omega))
    have f4 : (((c.toNat : Int) < 194) = False) := eq_false (by omega)
    have f5 : ((194 ≤ (c.toNat : Int)) = True) := eq_true (by omega)
    have f6 : ((c < 194) = False) := eq_false fun hh => by have := (u8c c 194 (by omega)).1.1 hh; omega
    have f7 : ((194 ≤ c) = True) := eq_true ((u8c c 194 (by omega)).2.2 (by omega))
    have f8 : (((c.toNat : Int) < 224) = False) := eq_false (by omega)
    have f9 : ((224 ≤ (c.toNat : Int)) = True) := eq_true (by omega)
    have f10 : ((c < 224) = False) := eq_false fun hh => by have := (u8c c 224 (by omega)).1.1 hh; omega
    have f11 : ((224 ≤ c) = True) := eq_true ((u8c c 224 (by omega)).2.2 (by omega))
    have f12 : (((c.toNat : Int) < 240) = False) := eq_false (by omega)
    have f13 : ((240 ≤ (c.toNat : Int)) = True) := eq_true (by omega)
    have f14 : ((c < 240) = False) := eq_false fun hh => by have := (u8c c 240 (by omega)).1.1 hh; omega
    have f15 : ((240 ≤ c) = True) := eq_true ((u8c c 240 (by omega)).2.2 (by omega))
    have f16 : (((c.toNat : Int) < 245) = False) := eq_false (by omega)
    have f17 : ((245 ≤ (c.toNat : Int)) = True) := eq_true (by omega)
    have f18 : ((c < 245) = False) := eq_false fun hh => by have := (u8c c 245 (by omega)).1.1 hh; omega
    have f19 : ((245 ≤ c) = True) := eq_true ((u8c c 245 (by omega)).2.2 (by omega))
    simp (maxSteps := 400000) only [↓preZ, postZ, coreZ, ↓preU, postU, D_all, F_all, unR, outL, onePV, binS, ↓binS, boundR, ↓boundR, fieldOf, ↓fieldOf, boxR, allocR, newObj, zeroElem, buildSliceR, appendR, setAll, storeR, St.freeze, makeSliceR, minmaxR, makeFuncR, BEq.rfl, reduceIte, reduceCtorEq, Nat.reduceLT, Nat.reduceAdd, Nat.reduceSub, Nat.reduceMul, Nat.reduceBEq, Nat.reduceLeDiff, Int.reduceToNat, Int.reduceLE, c_louperef02_Rune, hg, ↓ctrCont, n1, n2, n3, z0, z1, z2, z3, i1, i2, i3, f0, f1, f2, f3, f4, f5, f6, f7, f8, f9, f10, f11, f12, f13, f14, f15, f16, f17, f18, f19]
    exact hQ _ 0 rfl (by simp only [true_or, or_true, or_self, or_false, false_or, and_self, true_and, and_true, false_and, and_false, if_true, if_false, Bool.false_eq_true, c0, c1, c2, runeN, f0, f1, f2, f3, f4, f5, f6, f7, f8, f9, f10, f11, f12, f13, f14, f15, f16, f17, f18, f19])

theorem rune_spec' (s : List UInt8) (i : Int) (h0 : 0 ≤ i) (hi : i.toNat < s.length) (hl : s.length ≤ 4611686018427387904) : FnSpec Tryd.prog f_louperef02_Rune [.str s, .int .i64 i] [] (.int .i64 (runeN (s.drop i.toNat) : Nat)) [] := by
  have e : i = (i.toNat : Int) := by omega
  rw [e]
  exact rune_spec s i.toNat hi hl

def ctrRune : Ctr := fun args objs K => match args with
  | [.str s, .int .i64 i] => (0 ≤ i) ∧ (i.toNat < s.length) ∧ (s.length ≤ 4611686018427387904) ∧ K (.int .i64 (runeN (s.drop i.toNat) : Nat)) objs 0
  | _ => False
theorem ctrRune_ok : CtrOk Tryd.prog f_louperef02_Rune (ctrRune) := by
  intro args objs K h
  unfold ctrRune at h
  split at h
  · rename_i s i
    obtain ⟨h1, h2, h3, hk⟩ := h
    exact ⟨_, _, _, .pure _ rfl (rune_spec' s i h1 h2 h3), hk⟩
  · exact h.elim
end Lp

/-! LpW15 -/

namespace Lp
open Go Go.Proofs

set_option maxHeartbeats 4000000
set_option maxRecDepth 20000
set_option linter.unusedSimpArgs false

theorem runeN_le (s : List UInt8) : runeN s ≤ s.length := by
  cases s with
  | nil => simp [runeN]
  | cons c t =>
    have h0 : ∀ i, contB t i = true → i < t.length := by
      intro i h
      obtain ⟨d, hd⟩ := contB_get h
      exact (List.getElem?_eq_some_iff.1 hd).1
    simp only [runeN, List.length_cons]
    split
    · omega
    · split
      · rename_i h; have := h0 0 h.2.2; omega
      · split
        · rename_i h; have := h0 1 h.2.2.2; split <;> omega
        · split
          · rename_i h; have := h0 2 h.2.2.2.2; split <;> omega
          · omega

theorem utf_spec (s : List UInt8) (hl : s.length ≤ 4611686018427387904) : FnSpec Tryd.prog f_louperef02_Utf [.str s] [] (.bool (utf s)) [] := by
  refine k_louperef02_Utf.pureG (T := tabL Tryd.prog [(f_louperef02_Rune, ctrRune)]) 0 hD (kOk_tabL (tabOk_cons ctrRune_ok tabOk_nil)) hmix (by decide) fun Q hQ => ?_
  try simp only [F_all]
  simp (maxSteps := 400000) only [↓preZ, postZ, coreZ, ↓preU, postU, D_all, F_all, unR, outL, onePV, binS, ↓binS, boundR, ↓boundR, fieldOf, ↓fieldOf, boxR, allocR, newObj, zeroElem, buildSliceR, appendR, setAll, storeR, St.freeze, makeSliceR, minmaxR, makeFuncR, BEq.rfl, reduceIte, reduceCtorEq, Nat.reduceLT, Nat.reduceAdd, Nat.reduceSub, Nat.reduceMul, Nat.reduceBEq, Nat.reduceLeDiff, Int.reduceToNat, Int.reduceLE, hQ, c_louperef02_Utf]
  refine wpc_loop (fun m S => ∃ i : Nat, i + m = s.length ∧ utfF m (s.drop i) = utf s ∧ S = ⟨tmA 17 [(0, .str s), (3, .int .i64 i)], []⟩) s.length ⟨0, by omega, rfl, ?_⟩ ?_
  · simp only [normR, keepR, Nat.reduceAdd, lkR, Nat.reduceBEq, F_all, List.map_nil]
    rfl
  rintro m S ⟨i, him, hu, rfl⟩
  simp (maxSteps := 400000) only [↓preZ, postZ, coreZ, ↓preU, postU, D_all, F_all, unR, outL, onePV, binS, ↓binS, boundR, ↓boundR, fieldOf, ↓fieldOf, boxR, allocR, newObj, zeroElem, buildSliceR, appendR, setAll, storeR, St.freeze, makeSliceR, minmaxR, makeFuncR, BEq.rfl, reduceIte, reduceCtorEq, Nat.reduceLT, Nat.reduceAdd, Nat.reduceSub, Nat.reduceMul, Nat.reduceBEq, Nat.reduceLeDiff, Int.reduceToNat, Int.reduceLE, hQ, ↓ctrRune]
  have hle := runeN_le (s.drop i)
  simp only [List.length_drop] at hle
  refine ⟨fun h => ⟨by omega, by omega, hl, fun h0 => ?_, fun h0 => ⟨⟨by omega, by omega⟩, m - runeN (s.drop i), by omega, i + runeN (s.drop i), by omega, ?_, by simp⟩⟩, fun h => ?_⟩
  · obtain ⟨m, rfl⟩ : ∃ k, m = k + 1 := ⟨m - 1, by omega⟩
    have hne : (s.drop i).isEmpty = false := by
      rw [List.isEmpty_eq_false_iff]
      intro he
      have := congrArg List.length he
      simp at this; omega
    rw [← hu, utfF, hne]
    have : runeN (s.drop i) = 0 := by omega
    simp [this]
  · obtain ⟨m, rfl⟩ : ∃ k, m = k + 1 := ⟨m - 1, by omega⟩
    have hne : (s.drop i).isEmpty = false := by
      rw [List.isEmpty_eq_false_iff]
      intro he
      have := congrArg List.length he
      simp at this; omega
    rw [← hu]
    conv => rhs; rw [utfF, hne]
    have h1 : (runeN (s.drop i) != 0) = true := by simp; omega
    rw [h1, Bool.false_or, Bool.true_and, List.drop_drop]
    refine utfF_more _ _ _ ?_ ?_
    · simp; omega
    · simp; omega
  · rw [← hu]
    have hn : s.drop i = [] := List.drop_eq_nil_of_le (by omega)
    rw [hn]
    cases m <;> rfl

def ctrUtf : Ctr := fun args objs K => match args with
  | [.str s] => (s.length ≤ 4611686018427387904) ∧ K (.bool (utf s)) objs 0
  | _ => False
theorem ctrUtf_ok : CtrOk Tryd.prog f_louperef02_Utf (ctrUtf) := by
  intro args objs K h
  unfold ctrUtf at h
  split at h
  · rename_i s
    obtain ⟨h1, hk⟩ := h
    exact ⟨_, _, _, .pure _ rfl (utf_spec s h1), hk⟩
  · exact h.elim

theorem figures_spec (s : List UInt8) (hl : s.length ≤ 4611686018427387904) : FnSpec Tryd.prog f_louperef01_figures [.str s] [] (.bool (figs s)) [] := by
  refine k_louperef01_figures.pureG (T := tabL Tryd.prog []) 0 hD (kOk_tabL tabOk_nil) hmix (by decide) fun Q hQ => ?_
  try simp only [F_all]
  simp (maxSteps := 400000) only [↓preZ, postZ, coreZ, ↓preU, postU, D_all, F_all, unR, outL, onePV, binS, ↓binS, boundR, ↓boundR, fieldOf, ↓fieldOf, boxR, allocR, newObj, zeroElem, buildSliceR, appendR, setAll, storeR, St.freeze, makeSliceR, minmaxR, makeFuncR, BEq.rfl, reduceIte, reduceCtorEq, Nat.reduceLT, Nat.reduceAdd, Nat.reduceSub, Nat.reduceMul, Nat.reduceBEq, Nat.reduceLeDiff, Int.reduceToNat, Int.reduceLE, hQ, c_louperef01_figures]
  refine wpc_loop (fun m S => ∃ i : Nat, i + m = s.length ∧ figs (s.drop i) = figs s ∧ S = ⟨tmA 20 [(0, .str s), (3, .int .i64 i)], []⟩) s.length ⟨0, by omega, rfl, ?_⟩ ?_
  · simp only [normR, keepR, Nat.reduceAdd, lkR, Nat.reduceBEq, F_all, List.map_nil]
    rfl
  rintro m S ⟨i, him, hu, rfl⟩
  rcases Nat.lt_or_ge i s.length with h | h
  · have hg := List.getElem?_eq_getElem h
    have hd := List.drop_eq_getElem_cons h
    generalize s[i] = c at hg hd
    simp (maxSteps := 400000) only [↓preZ, postZ, coreZ, ↓preU, postU, D_all, F_all, unR, outL, onePV, binS, ↓binS, boundR, ↓boundR, fieldOf, ↓fieldOf, boxR, allocR, newObj, zeroElem, buildSliceR, appendR, setAll, storeR, St.freeze, makeSliceR, minmaxR, makeFuncR, BEq.rfl, reduceIte, reduceCtorEq, Nat.reduceLT, Nat.reduceAdd, Nat.reduceSub, Nat.reduceMul, Nat.reduceBEq, Nat.reduceLeDiff, Int.reduceToNat, Int.reduceLE, hQ, hg]
    have hf : figs (c :: s.drop (i + 1)) = (decide (48 ≤ c) && decide (c ≤ 57) && figs (s.drop (i + 1))) := by simp [figs]
    rw [hd, hf] at hu
    refine ⟨fun _ => ⟨by omega, fun h1 => ?_, fun h1 => ⟨by omega, fun h2 => ?_, fun h2 => ⟨⟨by omega, by omega⟩, m - 1, by omega, i + 1, by omega, ?_, by simp⟩⟩⟩, fun h1 => absurd (by omega) h1⟩
    · have : ¬ (48 ≤ c) := fun h => by have := (u8c c 48 (by omega)).2.1 h; omega
      rw [← hu]; simp [this]
    · have : ¬ (c ≤ 57) := fun h => by have : c.toNat ≤ (57 : UInt8).toNat := UInt8.le_iff_toNat_le.1 h; have h57 : (57 : UInt8).toNat = 57 := rfl; omega
      rw [← hu]; simp [this]
    · have h3 : 48 ≤ c := (u8c c 48 (by omega)).2.2 (by omega)
      have h4 : c ≤ 57 := UInt8.le_iff_toNat_le.2 (by have h57 : (57 : UInt8).toNat = 57 := rfl; omega)
      rw [← hu]; simp [h3, h4]
  · simp (maxSteps := 400000) only [↓preZ, postZ, coreZ, ↓preU, postU, D_all, F_all, unR, outL, onePV, binS, ↓binS, boundR, ↓boundR, fieldOf, ↓fieldOf, boxR, allocR, newObj, zeroElem, buildSliceR, appendR, setAll, storeR, St.freeze, makeSliceR, minmaxR, makeFuncR, BEq.rfl, reduceIte, reduceCtorEq, Nat.reduceLT, Nat.reduceAdd, Nat.reduceSub, Nat.reduceMul, Nat.reduceBEq, Nat.reduceLeDiff, Int.reduceToNat, Int.reduceLE, hQ]
    refine ⟨fun h1 => absurd h1 (by omega), fun _ => ?_⟩
    rw [← hu, List.drop_eq_nil_of_le h]; rfl

def ctrFigs : Ctr := fun args objs K => match args with
  | [.str s] => (s.length ≤ 4611686018427387904) ∧ K (.bool (figs s)) objs 0
  | _ => False
theorem ctrFigs_ok : CtrOk Tryd.prog f_louperef01_figures (ctrFigs) := by
  intro args objs K h
  unfold ctrFigs at h
  split at h
  · rename_i s
    obtain ⟨h1, hk⟩ := h
    exact ⟨_, _, _, .pure _ rfl (figures_spec s h1), hk⟩
  · exact h.elim

theorem numB_iff (n : Nd) : numB n = true ↔ n.many = 0 ∧ figs n.s = true ∧ n.s.length ≤ 100 ∧ -1000 ≤ n.e ∧ n.e ≤ 1000 ∧ n.s.length + n.e ≤ 1000 ∧
    (if n.s = [] then n.neg = false ∧ n.e = 0 else n.s.head? ≠ some 48 ∧ n.s.getLast? ≠ some 48) := by
  simp only [numB, Bool.and_eq_true, decide_eq_true_eq, beq_iff_eq, and_assoc]
  split <;> simp

theorem bfalse {b : Bool} (h : b = true → False) : b = false := by cases b <;> simp_all

theorem numRight_spec (n : Nd) (hl : n.s.length ≤ 4611686018427387904) (hk : n.kind = 3) (hn : n.name = []) : FnSpec Tryd.prog f_louperef01_Right [encN n] [] (.bool (numB n)) [] := by
  refine k_louperef01_Right.pureG (T := tabL Tryd.prog [(f_louperef01_figures, ctrFigs)]) 0 hD (kOk_tabL (tabOk_cons ctrFigs_ok tabOk_nil)) hmix (by decide) fun Q hQ => ?_
  try simp only [F_all]
  simp (maxSteps := 400000) only [↓preZ, postZ, coreZ, ↓preU, postU, D_all, F_all, unR, outL, onePV, binS, ↓binS, boundR, ↓boundR, fieldOf, ↓fieldOf, boxR, allocR, newObj, zeroElem, buildSliceR, appendR, setAll, storeR, St.freeze, makeSliceR, minmaxR, makeFuncR, BEq.rfl, reduceIte, reduceCtorEq, Nat.reduceLT, Nat.reduceAdd, Nat.reduceSub, Nat.reduceMul, Nat.reduceBEq, Nat.reduceLeDiff, Int.reduceToNat, Int.reduceLE, hQ, c_louperef01_Right]
  refine wpc_weak _ (Weak.freeze 1 0 (Nat.le_refl _) _) ?_
  cases hf : figs n.s
  · simp (maxSteps := 400000) only [↓preZ, postZ, coreZ, ↓preU, postU, D_all, F_all, unR, outL, onePV, binS, ↓binS, boundR, ↓boundR, fieldOf, ↓fieldOf, boxR, allocR, newObj, zeroElem, buildSliceR, appendR, setAll, storeR, St.freeze, makeSliceR, minmaxR, makeFuncR, BEq.rfl, reduceIte, reduceCtorEq, Nat.reduceLT, Nat.reduceAdd, Nat.reduceSub, Nat.reduceMul, Nat.reduceBEq, Nat.reduceLeDiff, Int.reduceToNat, Int.reduceLE, hQ, frzC0, ↓ctrFigs, hk, hn, hf]
    have : numB n = false := bfalse fun h => by have := ((numB_iff n).1 h).2.1; rw [hf] at this; cases this
    exact ⟨fun _ => ⟨hl, this⟩, fun _ => this⟩
  by_cases hs : n.s = []
  · simp (maxSteps := 400000) only [↓preZ, postZ, coreZ, ↓preU, postU, D_all, F_all, unR, outL, onePV, binS, ↓binS, boundR, ↓boundR, fieldOf, ↓fieldOf, boxR, allocR, newObj, zeroElem, buildSliceR, appendR, setAll, storeR, St.freeze, makeSliceR, minmaxR, makeFuncR, BEq.rfl, reduceIte, reduceCtorEq, Nat.reduceLT, Nat.reduceAdd, Nat.reduceSub, Nat.reduceMul, Nat.reduceBEq, Nat.reduceLeDiff, Int.reduceToNat, Int.reduceLE, hQ, frzC0, ↓ctrFigs, hk, hn, hs]
    have hf0 : figs [] = true := rfl
    have key := numB_iff n
    rw [if_pos hs, hs] at key
    have hlz : (([] : List UInt8).length : Int) = 0 := rfl
    simp only [hf0, ifR, hlz, Int.zero_add, List.length_nil]
    refine ⟨fun h0 => ⟨fun h => absurd h (by omega), fun _ => ⟨fun h => bfalse fun hb => ?_, fun h1 => ⟨fun h => bfalse fun hb => ?_, fun h2 => ⟨⟨by omega, by omega⟩, fun h => bfalse fun hb => ?_, fun h3 => ?_⟩⟩⟩⟩, fun h0 => bfalse fun hb => ?_⟩
    · have := key.1 hb; omega
    · have := key.1 hb; omega
    · have := key.1 hb; omega
    · refine ⟨fun hng => bfalse fun hb => ?_, fun hng => ?_⟩
      · have := (key.1 hb).2.2.2.2.2.2.1; rw [hng] at this; cases this
      · by_cases hz : n.e = 0
        · rw [decide_eq_true hz, key]
          exact ⟨h0, hf0, by simp, by omega, by omega, by simp; omega, hng, hz⟩
        · rw [decide_eq_false hz]
          exact bfalse fun hb => hz (key.1 hb).2.2.2.2.2.2.2
    · have := key.1 hb; omega
  · obtain ⟨c, t, hct⟩ : ∃ c t, n.s = c :: t := by
      cases h : n.s with
      | nil => exact absurd h hs
      | cons c t => exact ⟨c, t, rfl⟩
    have hlen : 0 < n.s.length := by rw [hct]; simp
    have g0 : n.s[0]? = some c := by rw [hct]; rfl
    have g1 : n.s[n.s.length - 1]? = some (n.s[n.s.length - 1]'(by omega)) := List.getElem?_eq_getElem (by omega)
    have t1 : ((n.s.length : Int) - 1).toNat = n.s.length - 1 := by omega
    have hl1 : n.s.getLast? = some (n.s[n.s.length - 1]'(by omega)) := by rw [List.getLast?_eq_getElem?, g1]
    have hh1 : n.s.head? = some c := by rw [hct]; rfl
    generalize n.s[n.s.length - 1]'(by omega) = d at g1 hl1
    have i1 : (-9223372036854775808 ≤ (n.s.length : Int) - 1 ∧ (n.s.length : Int) - 1 ≤ 9223372036854775807) = True := eq_true ⟨by omega, by omega⟩
    have z1 : (0 ≤ (n.s.length : Int) - 1) = True := eq_true (by omega)
    simp (maxSteps := 400000) only [↓preZ, postZ, coreZ, ↓preU, postU, D_all, F_all, unR, outL, onePV, binS, ↓binS, boundR, ↓boundR, fieldOf, ↓fieldOf, boxR, allocR, newObj, zeroElem, buildSliceR, appendR, setAll, storeR, St.freeze, makeSliceR, minmaxR, makeFuncR, BEq.rfl, reduceIte, reduceCtorEq, Nat.reduceLT, Nat.reduceAdd, Nat.reduceSub, Nat.reduceMul, Nat.reduceBEq, Nat.reduceLeDiff, Int.reduceToNat, Int.reduceLE, hQ, frzC0, ↓ctrFigs, hk, hn, hs, hf, g0, t1, g1, i1, z1]
    have key := numB_iff n
    rw [if_neg hs, hh1, hl1] at key
    have e48 : ∀ x : UInt8, x = 48 ↔ x.toNat = 48 := fun x => ⟨fun h => by rw [h]; rfl, fun h => UInt8.toNat_inj.1 (by simpa using h)⟩
    refine ⟨fun h0 => ⟨hl, fun h => bfalse fun hb => ?_, fun h1 => ⟨fun h => bfalse fun hb => ?_, fun h2 => ⟨fun h => bfalse fun hb => ?_, fun h3 => ⟨⟨by omega, by omega⟩, fun h => bfalse fun hb => ?_, fun h4 => ⟨fun h => bfalse fun hb => ?_, fun h5 => ?_⟩⟩⟩⟩⟩, fun h0 => bfalse fun hb => ?_⟩
    · have := key.1 hb; omega
    · have := key.1 hb; omega
    · have := key.1 hb; omega
    · have := key.1 hb; omega
    · refine (key.1 hb).2.2.2.2.2.2.1 ?_
      rw [(e48 c).2 (by omega)]
    · by_cases hz : d.toNat = 48
      · have hz' : (d.toNat : Int) = 48 := by omega
        rw [decide_eq_true hz']
        refine bfalse fun hb => (key.1 hb).2.2.2.2.2.2.2 ?_
        rw [(e48 d).2 hz]
      · have hz' : ¬ (d.toNat : Int) = 48 := by omega
        rw [decide_eq_false hz', Bool.not_false, key]
        refine ⟨h0, hf, by omega, by omega, by omega, by omega, fun h => ?_, fun h => ?_⟩
        · have := (e48 c).1 (by simpa using h); omega
        · exact hz ((e48 d).1 (by simpa using h))
    · exact h0 (key.1 hb).1

def ctrNumRight : Ctr := fun args objs K => match args with
  | [a0] => ofE encN a0 (HK.mk : HK fun n => (n.s.length ≤ 4611686018427387904) ∧ (n.kind = 3) ∧ (n.name = []) ∧ K (.bool (numB n)) objs 0)
  | _ => False
theorem ctrNumRight_ok : CtrOk Tryd.prog f_louperef01_Right (ctrNumRight) := by
  intro args objs K h
  unfold ctrNumRight at h
  split at h
  · rename_i a0
    obtain ⟨n, rfl, h1, h2, h3, hk⟩ := h
    exact ⟨_, _, _, .pure _ rfl (numRight_spec n h1 h2 h3), hk⟩
  · exact h.elim
end Lp

/-! LpW16 -/

namespace Lp
open Go Go.Proofs

set_option maxHeartbeats 4000000
set_option maxRecDepth 20000
set_option linter.unusedSimpArgs false

/-- The place behind, or -1. -/
def nextI (v : Vl) (i : Nat) : Int := match nxt v.length (v.drop i) 1 with
  | some c => (i + c : Nat)
  | none => -1

theorem nextI_none {v : Vl} {i : Nat} (h : (nxt v.length (v.drop i) 1).map (fun c => i + c) = none) : nextI v i = -1 := by
  unfold nextI
  cases hx : nxt v.length (v.drop i) 1 with
  | none => rfl
  | some c => rw [hx] at h; simp at h
theorem nextI_some {v : Vl} {i j : Nat} (h : (nxt v.length (v.drop i) 1).map (fun c => i + c) = some j) : nextI v i = j := by
  unfold nextI
  cases hx : nxt v.length (v.drop i) 1 with
  | none => rw [hx] at h; simp at h
  | some c => rw [hx] at h; simp only [Option.map_some, Option.some.injEq] at h; rw [← h]

theorem nxt_zero (L : Nat) (v : Vl) : nxt L v 0 = some 0 := by cases v <;> rfl

theorem next_spec (v : Vl) (i : Nat) (hi : i ≤ v.length) (hl : v.length ≤ 1000000) : FnSpec Tryd.prog f_louperef02_Next [encV v, .int .i64 i] [] (.int .i64 (nextI v i)) [] := by
  refine k_louperef02_Next.pureG (T := tabL Tryd.prog []) 0 hD (kOk_tabL tabOk_nil) hmix (by decide) fun Q hQ => ?_
  try simp only [F_all]
  simp (maxSteps := 400000) only [↓preZ, postZ, coreZ, ↓preU, postU, D_all, F_all, unR, outL, onePV, binS, ↓binS, boundR, ↓boundR, fieldOf, ↓fieldOf, boxR, allocR, newObj, zeroElem, buildSliceR, appendR, setAll, storeR, St.freeze, makeSliceR, minmaxR, makeFuncR, BEq.rfl, reduceIte, reduceCtorEq, Nat.reduceLT, Nat.reduceAdd, Nat.reduceSub, Nat.reduceMul, Nat.reduceBEq, Nat.reduceLeDiff, Int.reduceToNat, Int.reduceLE, hQ, c_louperef02_Next]
  refine wpc_loop (fun m S => ∃ j k : Nat, j + m = v.length ∧ k ≤ 1 + j * 1000000 ∧ (nxt v.length (v.drop i) 1).map (fun c => i + c) = (nxt v.length (v.drop j) k).map (fun c => j + c) ∧
    S = ⟨tmA 41 [(0, encV v), (1, .int .i64 j), (5, .int .i64 k)], []⟩) (v.length - i) ⟨i, 1, by omega, by omega, rfl, ?_⟩ ?_
  · simp only [normR, keepR, Nat.reduceAdd, lkR, Nat.reduceBEq, F_all, List.map_nil]
    rfl
  rintro m S ⟨j, k, hjm, hk, hn, rfl⟩
  rcases Nat.lt_or_ge j v.length with h | h
  · have hg := List.getElem?_eq_getElem h
    have hd := List.drop_eq_getElem_cons h
    generalize v[j] = n at hg hd
    simp (maxSteps := 400000) only [↓preZ, postZ, coreZ, ↓preU, postU, D_all, F_all, unR, outL, onePV, binS, ↓binS, boundR, ↓boundR, fieldOf, ↓fieldOf, boxR, allocR, newObj, zeroElem, buildSliceR, appendR, setAll, storeR, St.freeze, makeSliceR, minmaxR, makeFuncR, BEq.rfl, reduceIte, reduceCtorEq, Nat.reduceLT, Nat.reduceAdd, Nat.reduceSub, Nat.reduceMul, Nat.reduceBEq, Nat.reduceLeDiff, Int.reduceToNat, Int.reduceLE, hQ, hg]
    refine ⟨fun hk0 => ⟨fun h' => absurd h' (by omega), fun _ => ⟨by omega, fun hm => ?_, fun hm => ⟨by omega, fun hm2 => ?_, fun hm2 => ?_⟩⟩⟩, fun hk0 => ?_⟩
    · obtain ⟨k, rfl⟩ : ∃ q, k = q + 1 := ⟨k - 1, by omega⟩
      rw [hd, nxt, if_pos (.inl hm)] at hn
      rw [nextI_none hn]
    · obtain ⟨k, rfl⟩ : ∃ q, k = q + 1 := ⟨k - 1, by omega⟩
      rw [hd, nxt, if_pos (.inr hm2)] at hn
      rw [nextI_none hn]
    · obtain ⟨k, rfl⟩ : ∃ q, k = q + 1 := ⟨k - 1, by omega⟩
      rw [hd, nxt, if_neg (by omega)] at hn
      have hk2 : (((k + 1 : Nat) : Int) - 1 + n.many) = ((k + n.many.toNat : Nat) : Int) := by omega
      refine ⟨⟨by omega, by omega⟩, by omega, ⟨by omega, by omega⟩, ⟨by omega, by omega⟩, m - 1, by omega, j + 1, k + n.many.toNat, by omega, by omega, ?_, ?_⟩
      · rw [hn]
        cases nxt v.length (v.drop (j + 1)) (k + n.many.toNat) with
        | none => rfl
        | some c => simp; omega
      · rw [hk2]; rfl
    · have hk1 : k = 0 := by omega
      subst hk1
      rw [nxt_zero] at hn
      rw [nextI_some (j := j) (by simpa using hn)]
  · simp (maxSteps := 400000) only [↓preZ, postZ, coreZ, ↓preU, postU, D_all, F_all, unR, outL, onePV, binS, ↓binS, boundR, ↓boundR, fieldOf, ↓fieldOf, boxR, allocR, newObj, zeroElem, buildSliceR, appendR, setAll, storeR, St.freeze, makeSliceR, minmaxR, makeFuncR, BEq.rfl, reduceIte, reduceCtorEq, Nat.reduceLT, Nat.reduceAdd, Nat.reduceSub, Nat.reduceMul, Nat.reduceBEq, Nat.reduceLeDiff, Int.reduceToNat, Int.reduceLE, hQ]
    refine ⟨fun hk0 => ⟨fun _ => ?_, fun h' => absurd (by omega) h'⟩, fun hk0 => ?_⟩
    · obtain ⟨k, rfl⟩ : ∃ q, k = q + 1 := ⟨k - 1, by omega⟩
      rw [List.drop_eq_nil_of_le h] at hn
      simp only [nxt, Option.map_none] at hn
      rw [nextI_none hn]
    · have hk1 : k = 0 := by omega
      subst hk1
      rw [nxt_zero] at hn
      rw [nextI_some (j := j) (by simpa using hn)]

theorem next_spec' (v : Vl) (i : Int) (h0 : 0 ≤ i) (hi : i.toNat ≤ v.length) (hl : v.length ≤ 1000000) : FnSpec Tryd.prog f_louperef02_Next [encV v, .int .i64 i] [] (.int .i64 (nextI v i.toNat)) [] := by
  have e : i = (i.toNat : Int) := by omega
  rw [e]
  exact next_spec v i.toNat hi hl

def ctrNext : Ctr := fun args objs K => match args with
  | [a0, .int .i64 i] => ofE encV a0 (HK.mk : HK fun v => (0 ≤ i) ∧ (i.toNat ≤ v.length) ∧ (v.length ≤ 1000000) ∧ K (.int .i64 (nextI v i.toNat)) objs 0)
  | _ => False
theorem ctrNext_ok : CtrOk Tryd.prog f_louperef02_Next (ctrNext) := by
  intro args objs K h
  unfold ctrNext at h
  split at h
  · rename_i a0 i
    obtain ⟨v, rfl, h1, h2, h3, hk⟩ := h
    exact ⟨_, _, _, .pure _ rfl (next_spec' v i h1 h2 h3), hk⟩
  · exact h.elim
end Lp

/-! LpW17 -/

namespace Lp
open Go Go.Proofs

set_option maxHeartbeats 4000000
set_option maxRecDepth 20000
set_option linter.unusedSimpArgs false

theorem plain_spec (n : Nd) (hl : n.s.length ≤ 4611686018427387904) : FnSpec Tryd.prog f_louperef02_plain [encN n] [] (.bool (plainB n)) [] := by
  refine k_louperef02_plain.pureG (T := tabL Tryd.prog [(f_louperef02_Utf, ctrUtf), (f_louperef01_Right, ctrNumRight)]) 0 hD (kOk_tabL (tabOk_cons ctrUtf_ok (tabOk_cons ctrNumRight_ok tabOk_nil))) hmix (by decide) fun Q hQ => ?_
  try simp only [F_all]
  have h8 : n.kind = 0 ∨ n.kind = 1 ∨ n.kind = 2 ∨ n.kind = 3 ∨ n.kind = 4 ∨ n.kind = 5 ∨ n.kind = 6 ∨ (n.kind ≠ 0 ∧ n.kind ≠ 1 ∧ n.kind ≠ 2 ∧ n.kind ≠ 3 ∧ n.kind ≠ 4 ∧ n.kind ≠ 5 ∧ n.kind ≠ 6) := by omega
  rcases h8 with hk | hk | hk | hk | hk | hk | hk | ⟨k0, k1, k2, k3, k4, k5, k6⟩
  · simp (maxSteps := 400000) only [↓preZ, postZ, coreZ, ↓preU, postU, D_all, F_all, unR, outL, onePV, binS, ↓binS, boundR, ↓boundR, fieldOf, ↓fieldOf, boxR, allocR, newObj, zeroElem, buildSliceR, appendR, setAll, storeR, St.freeze, makeSliceR, minmaxR, makeFuncR, BEq.rfl, reduceIte, reduceCtorEq, Nat.reduceLT, Nat.reduceAdd, Nat.reduceSub, Nat.reduceMul, Nat.reduceBEq, Nat.reduceLeDiff, Int.reduceToNat, Int.reduceLE, hQ, c_louperef02_plain, ↓ctrUtf, ↓ctrNumRight, hk, Int.reduceEq]
    rw [Bool.eq_iff_iff]
    simp [plainB, hk, and_assoc]
  · simp (maxSteps := 400000) only [↓preZ, postZ, coreZ, ↓preU, postU, D_all, F_all, unR, outL, onePV, binS, ↓binS, boundR, ↓boundR, fieldOf, ↓fieldOf, boxR, allocR, newObj, zeroElem, buildSliceR, appendR, setAll, storeR, St.freeze, makeSliceR, minmaxR, makeFuncR, BEq.rfl, reduceIte, reduceCtorEq, Nat.reduceLT, Nat.reduceAdd, Nat.reduceSub, Nat.reduceMul, Nat.reduceBEq, Nat.reduceLeDiff, Int.reduceToNat, Int.reduceLE, hQ, c_louperef02_plain, ↓ctrUtf, ↓ctrNumRight, hk, Int.reduceEq]
    rw [Bool.eq_iff_iff]
    simp [plainB, hk, and_assoc]
  · simp (maxSteps := 400000) only [↓preZ, postZ, coreZ, ↓preU, postU, D_all, F_all, unR, outL, onePV, binS, ↓binS, boundR, ↓boundR, fieldOf, ↓fieldOf, boxR, allocR, newObj, zeroElem, buildSliceR, appendR, setAll, storeR, St.freeze, makeSliceR, minmaxR, makeFuncR, BEq.rfl, reduceIte, reduceCtorEq, Nat.reduceLT, Nat.reduceAdd, Nat.reduceSub, Nat.reduceMul, Nat.reduceBEq, Nat.reduceLeDiff, Int.reduceToNat, Int.reduceLE, hQ, c_louperef02_plain, ↓ctrUtf, ↓ctrNumRight, hk, Int.reduceEq]
    rw [Bool.eq_iff_iff]
    simp [plainB, hk, and_assoc]
  · simp (maxSteps := 400000) only [↓preZ, postZ, coreZ, ↓preU, postU, D_all, F_all, unR, outL, onePV, binS, ↓binS, boundR, ↓boundR, fieldOf, ↓fieldOf, boxR, allocR, newObj, zeroElem, buildSliceR, appendR, setAll, storeR, St.freeze, makeSliceR, minmaxR, makeFuncR, BEq.rfl, reduceIte, reduceCtorEq, Nat.reduceLT, Nat.reduceAdd, Nat.reduceSub, Nat.reduceMul, Nat.reduceBEq, Nat.reduceLeDiff, Int.reduceToNat, Int.reduceLE, hQ, c_louperef02_plain, ↓ctrUtf, ↓ctrNumRight, hk, Int.reduceEq]
    refine ⟨hl, ?_⟩
    simp [plainB, hk, numB]
  · simp (maxSteps := 400000) only [↓preZ, postZ, coreZ, ↓preU, postU, D_all, F_all, unR, outL, onePV, binS, ↓binS, boundR, ↓boundR, fieldOf, ↓fieldOf, boxR, allocR, newObj, zeroElem, buildSliceR, appendR, setAll, storeR, St.freeze, makeSliceR, minmaxR, makeFuncR, BEq.rfl, reduceIte, reduceCtorEq, Nat.reduceLT, Nat.reduceAdd, Nat.reduceSub, Nat.reduceMul, Nat.reduceBEq, Nat.reduceLeDiff, Int.reduceToNat, Int.reduceLE, hQ, c_louperef02_plain, ↓ctrUtf, ↓ctrNumRight, hk, Int.reduceEq]
    refine ⟨hl, ?_⟩
    cases hu : utf n.s
    · simp [ifP, plainB, hk, hu]
    · simp only [ifR]
      rw [Bool.eq_iff_iff]
      simp [plainB, hk, hu, and_assoc]
  · simp (maxSteps := 400000) only [↓preZ, postZ, coreZ, ↓preU, postU, D_all, F_all, unR, outL, onePV, binS, ↓binS, boundR, ↓boundR, fieldOf, ↓fieldOf, boxR, allocR, newObj, zeroElem, buildSliceR, appendR, setAll, storeR, St.freeze, makeSliceR, minmaxR, makeFuncR, BEq.rfl, reduceIte, reduceCtorEq, Nat.reduceLT, Nat.reduceAdd, Nat.reduceSub, Nat.reduceMul, Nat.reduceBEq, Nat.reduceLeDiff, Int.reduceToNat, Int.reduceLE, hQ, c_louperef02_plain, ↓ctrUtf, ↓ctrNumRight, hk, Int.reduceEq]
    refine ⟨fun hm => ?_, fun hm => ?_⟩
    · rw [Bool.eq_iff_iff]
      simp [plainB, hk, hm, and_assoc]
    · simp [plainB, hk, hm]
  · simp (maxSteps := 400000) only [↓preZ, postZ, coreZ, ↓preU, postU, D_all, F_all, unR, outL, onePV, binS, ↓binS, boundR, ↓boundR, fieldOf, ↓fieldOf, boxR, allocR, newObj, zeroElem, buildSliceR, appendR, setAll, storeR, St.freeze, makeSliceR, minmaxR, makeFuncR, BEq.rfl, reduceIte, reduceCtorEq, Nat.reduceLT, Nat.reduceAdd, Nat.reduceSub, Nat.reduceMul, Nat.reduceBEq, Nat.reduceLeDiff, Int.reduceToNat, Int.reduceLE, hQ, c_louperef02_plain, ↓ctrUtf, ↓ctrNumRight, hk, Int.reduceEq]
    refine ⟨fun hm => ?_, fun hm => ?_⟩
    · rw [Bool.eq_iff_iff]
      simp [plainB, hk, hm, and_assoc]
    · simp [plainB, hk, hm]
  · simp (maxSteps := 400000) only [↓preZ, postZ, coreZ, ↓preU, postU, D_all, F_all, unR, outL, onePV, binS, ↓binS, boundR, ↓boundR, fieldOf, ↓fieldOf, boxR, allocR, newObj, zeroElem, buildSliceR, appendR, setAll, storeR, St.freeze, makeSliceR, minmaxR, makeFuncR, BEq.rfl, reduceIte, reduceCtorEq, Nat.reduceLT, Nat.reduceAdd, Nat.reduceSub, Nat.reduceMul, Nat.reduceBEq, Nat.reduceLeDiff, Int.reduceToNat, Int.reduceLE, hQ, c_louperef02_plain, ↓ctrUtf, ↓ctrNumRight, k0, k1, k2, k3, k4, k5, k6]
    simp [plainB, k0, k1, k2, k3, k4, k5, k6]

def ctrPlain : Ctr := fun args objs K => match args with
  | [a0] => ofE encN a0 (HK.mk : HK fun n => (n.s.length ≤ 4611686018427387904) ∧ K (.bool (plainB n)) objs 0)
  | _ => False
theorem ctrPlain_ok : CtrOk Tryd.prog f_louperef02_plain (ctrPlain) := by
  intro args objs K h
  unfold ctrPlain at h
  split at h
  · rename_i a0
    obtain ⟨n, rfl, h1, hk⟩ := h
    exact ⟨_, _, _, .pure _ rfl (plain_spec n h1), hk⟩
  · exact h.elim
end Lp

/-! LpW18 -/

namespace Lp
open Go Go.Proofs

set_option maxHeartbeats 4000000
set_option maxRecDepth 20000
set_option linter.unusedSimpArgs false

def nextOk (kind : Int) (name : List UInt8) : List Vl → Bool
  | [] => true
  | q :: _ => kind != 6 || Op.bytesLess name (nameOf q)

theorem ifF {X Y : Prop} (h : Y) : ifP false X Y := ⟨fun h => (by cases h), fun _ => h⟩
theorem ifT {X Y : Prop} (h : X) : ifP true X Y := ⟨fun _ => h, fun h => (by cases h)⟩

/-- The nodes a value may have, by size. -/
structure Small (v : Vl) : Prop where
  len : v.length ≤ 1000000
  txt : ∀ n ∈ v, n.s.length ≤ 4611686018427387904 ∧ n.name.length ≤ 4611686018427387904

theorem nxt_split (L : Nat) : ∀ (v : Vl) (j k c : Nat), nxt L v (j + k) = some c → ∃ c1 c2, nxt L v j = some c1 ∧ nxt L (v.drop c1) k = some c2 ∧ c = c1 + c2
  | v, 0, k, c, h => ⟨0, c, nxt_zero L v, by simpa using h, by simp⟩
  | [], j + 1, k, c, h => by
    rw [show j + 1 + k = (j + k) + 1 by omega] at h
    simp [nxt] at h
  | n :: v, j + 1, k, c, h => by
    rw [show j + 1 + k = (j + k) + 1 by omega, nxt] at h
    split at h
    · cases h
    · rename_i hn
      cases hs : nxt L v (j + k + n.many.toNat) with
      | none => rw [hs] at h; simp at h
      | some c' =>
        rw [hs] at h
        simp only [Option.map_some, Option.some.injEq] at h
        rw [show j + k + n.many.toNat = (j + n.many.toNat) + k by omega] at hs
        obtain ⟨c1, c2, h1, h2, rfl⟩ := nxt_split L v _ k c' hs
        refine ⟨c1 + 1, c2, ?_, by simpa using h2, by omega⟩
        rw [nxt, if_neg hn, h1]; rfl

theorem nextI_of {v : Vl} {i c : Nat} (h : nxt v.length (v.drop i) 1 = some c) : nextI v i = (i + c : Nat) := by
  simp only [nextI, h]

/-- Rising, from a part on. -/
theorem rising_spec (v : Vl) (at' : Nat) (n : Nd) (c : Nat) (hs : Small v) (hat : v[at']? = some n) (hm : 0 ≤ n.many) (hc : nxt v.length (v.drop (at' + 1)) n.many.toNat = some c) (ps : List Vl) (hps : parts n.many.toNat (v.drop (at' + 1)) = some ps) :
    FnSpec Tryd.prog f_louperef02_rising [encV v, .int .i64 at'] [] (.bool (risB n.kind ps)) [] := by
  obtain ⟨hl, htx⟩ := hs
  have hatl := (List.getElem?_eq_some_iff.1 hat).1
  have hpl := parts_len _ _ _ hps
  have hple := parts_le _ _ _ hps
  simp only [List.length_drop] at hple
  refine k_louperef02_rising.pureG (T := tabL Tryd.prog [(f_louperef02_Utf, ctrUtf), (f_louperef02_Next, ctrNext)]) 0 hD (kOk_tabL (tabOk_cons ctrUtf_ok (tabOk_cons ctrNext_ok tabOk_nil))) hmix (by decide) fun Q hQ => ?_
  try simp only [F_all]
  simp (maxSteps := 400000) only [↓preZ, postZ, coreZ, ↓preU, postU, D_all, F_all, unR, outL, onePV, binS, ↓binS, boundR, ↓boundR, fieldOf, ↓fieldOf, boxR, allocR, newObj, zeroElem, buildSliceR, appendR, setAll, storeR, St.freeze, makeSliceR, minmaxR, makeFuncR, BEq.rfl, reduceIte, reduceCtorEq, Nat.reduceLT, Nat.reduceAdd, Nat.reduceSub, Nat.reduceMul, Nat.reduceBEq, Nat.reduceLeDiff, Int.reduceToNat, Int.reduceLE, hQ, c_louperef02_rising]
  refine ⟨⟨by omega, by omega⟩, ?_⟩
  refine wpc_loop (fun m S => ∃ (i c' : Nat) (rest : List Vl), m = rest.length ∧ rest.length ≤ ps.length ∧ parts rest.length (v.drop i) = some rest ∧ nxt v.length (v.drop i) rest.length = some c' ∧ risB n.kind rest = risB n.kind ps ∧
    S = ⟨tmA 75 [(0, encV v), (1, .int .i64 at'), (5, .int .i64 i), (6, .int .i64 ((ps.length : Int) - rest.length))], []⟩) ps.length ⟨at' + 1, c, ps, rfl, Nat.le_refl _, by rw [hpl]; exact hps, by rw [hpl]; exact hc, rfl, ?_⟩ ?_
  · simp only [normR, keepR, Nat.reduceAdd, lkR, Nat.reduceBEq, F_all, List.map_nil]
    simp
  rintro m S ⟨i, c', rest, rfl, hrl, hrp, hrn, hrb, rfl⟩
  have hmn : n.many = (ps.length : Int) := by omega
  have z0 : (0 ≤ (at' : Int)) = True := eq_true (by omega)
  have zi : (0 ≤ (i : Int)) = True := eq_true (by omega)
  cases rest with
  | nil =>
    simp (maxSteps := 400000) only [↓preZ, postZ, coreZ, ↓preU, postU, D_all, F_all, unR, outL, onePV, binS, ↓binS, boundR, ↓boundR, fieldOf, ↓fieldOf, boxR, allocR, newObj, zeroElem, buildSliceR, appendR, setAll, storeR, St.freeze, makeSliceR, minmaxR, makeFuncR, BEq.rfl, reduceIte, reduceCtorEq, Nat.reduceLT, Nat.reduceAdd, Nat.reduceSub, Nat.reduceMul, Nat.reduceBEq, Nat.reduceLeDiff, Int.reduceToNat, Int.reduceLE, hQ, hat, hmn, z0]
    refine ⟨fun h => absurd h (by simp), fun _ => ?_⟩
    rw [← hrb]; rfl
  | cons p qs =>
    obtain ⟨pc, qs', h1, h2, h3⟩ := parts_step (k := qs.length) hrp
    simp only [List.cons.injEq] at h2
    obtain ⟨rfl, rfl⟩ := h2
    have hpc := skip_le _ _ _ h1
    simp only [List.length_drop] at hpc
    have hil : i < v.length := by omega
    have hgi := List.getElem?_eq_getElem hil
    have hdi := List.drop_eq_getElem_cons hil
    have htx1 := htx _ (List.getElem_mem hil)
    generalize v[i] = pn at hgi hdi htx1
    have hname : nameOf (List.take pc (v.drop i)) = pn.name := by
      obtain ⟨q, hq⟩ : ∃ q, pc = q + 1 := ⟨pc - 1, by omega⟩
      rw [hdi, hq]; rfl
    obtain ⟨c1, c2, e1, e2, e3⟩ := nxt_split v.length (v.drop i) 1 qs.length c' (by rw [Nat.add_comm]; exact hrn)
    have hcc : c1 = pc := by
      have := nxt_skip _ _ _ _ e1
      rw [h1] at this
      exact (Option.some.inj this).symm
    subst hcc
    have hnx := nextI_of e1
    simp only [List.length_cons] at hrl
    have ht1 : ((i + c1 : Nat) : Int).toNat = i + c1 := by omega
    have h3' : parts qs.length (v.drop (i + c1)) = some qs := by rw [← List.drop_drop]; exact h3
    have e2' : nxt v.length (v.drop (i + c1)) qs.length = some c2 := by rw [← List.drop_drop]; exact e2
    have hun : ∀ x : Bool, nextOk n.kind pn.name qs = x → risB n.kind (List.take c1 (v.drop i) :: qs) = ((n.kind != 5 || pn.name == []) && utf pn.name && x && risB n.kind qs) := by
      intro x hx
      rw [← hx]
      cases qs <;> simp only [risB, nextOk, hname]
    have hltT : ((ps.length : Int) - ((qs.length + 1 : Nat) : Int) < (ps.length : Int)) = True := eq_true (by omega)
    cases hu : utf pn.name
    · have hfin : risB n.kind ps = false := by rw [← hrb, hun _ rfl, hu]; simp
      simp (maxSteps := 400000) only [↓preZ, postZ, coreZ, ↓preU, postU, D_all, F_all, unR, outL, onePV, binS, ↓binS, boundR, ↓boundR, fieldOf, ↓fieldOf, boxR, allocR, newObj, zeroElem, buildSliceR, appendR, setAll, storeR, St.freeze, makeSliceR, minmaxR, makeFuncR, BEq.rfl, reduceIte, reduceCtorEq, Nat.reduceLT, Nat.reduceAdd, Nat.reduceSub, Nat.reduceMul, Nat.reduceBEq, Nat.reduceLeDiff, Int.reduceToNat, Int.reduceLE, hQ, hat, hmn, z0, zi, hgi, ↓ctrUtf, ↓ctrNext, hnx, hu, hltT, hfin]
      exact ⟨fun _ _ => htx1.2, fun _ => htx1.2⟩
    by_cases h5 : n.kind = 5 ∧ pn.name ≠ []
    · have hfin : risB n.kind ps = false := by rw [← hrb, hun _ rfl]; simp [h5.1, h5.2]
      simp (maxSteps := 400000) only [↓preZ, postZ, coreZ, ↓preU, postU, D_all, F_all, unR, outL, onePV, binS, ↓binS, boundR, ↓boundR, fieldOf, ↓fieldOf, boxR, allocR, newObj, zeroElem, buildSliceR, appendR, setAll, storeR, St.freeze, makeSliceR, minmaxR, makeFuncR, BEq.rfl, reduceIte, reduceCtorEq, Nat.reduceLT, Nat.reduceAdd, Nat.reduceSub, Nat.reduceMul, Nat.reduceBEq, Nat.reduceLeDiff, Int.reduceToNat, Int.reduceLE, hQ, hat, hmn, z0, zi, hgi, ↓ctrUtf, ↓ctrNext, hnx, hu, hltT, h5.1, h5.2]
      rw [← h5.1]; exact hfin
    have hc5 : (n.kind != 5 || pn.name == []) = true := by
      by_cases hk : n.kind = 5
      · have : pn.name = [] := Decidable.of_not_not fun h => h5 ⟨hk, h⟩
        simp [this]
      · simp [hk]
    rw [hc5, hu] at hun
    have good : n.kind = 5 → pn.name = [] := fun hk => Decidable.of_not_not fun h => h5 ⟨hk, h⟩
    have hlt1 : (-9223372036854775808 ≤ (ps.length : Int) - ((qs.length + 1 : Nat) : Int) + 1 ∧ (ps.length : Int) - ((qs.length + 1 : Nat) : Int) + 1 ≤ 9223372036854775807) = True := eq_true ⟨by omega, by omega⟩
    have hiv : i ≤ v.length := by omega
    have e : (ps.length : Int) - ((qs.length + 1 : Nat) : Int) + 1 = (ps.length : Int) - qs.length := by omega
    have l1 : qs.length < qs.length + 1 := Nat.lt_succ_self _
    have l2 : qs.length ≤ ps.length := by omega
    have zc : (0 ≤ ((i + c1 : Nat) : Int)) = True := eq_true (by omega)
    -- what goes on when the part is good
    have step : nextOk n.kind pn.name qs = true → ∃ m', m' < qs.length + 1 ∧ ∃ (i_1 c' : Nat) (rest : List Vl), m' = rest.length ∧ rest.length ≤ ps.length ∧ parts rest.length (v.drop i_1) = some rest ∧ nxt v.length (v.drop i_1) rest.length = some c' ∧ risB n.kind rest = risB n.kind ps ∧
        (⟨tmA 75 [(0, encV v), (1, .int .i64 at'), (5, .int .i64 (i + c1 : Nat)), (6, .int .i64 ((ps.length : Int) - ((qs.length + 1 : Nat) : Int) + 1))], []⟩ : St) = ⟨tmA 75 [(0, encV v), (1, .int .i64 at'), (5, .int .i64 i_1), (6, .int .i64 ((ps.length : Int) - rest.length))], []⟩ := by
      intro hx
      refine ⟨qs.length, l1, i + c1, c2, qs, rfl, l2, h3', e2', ?_, ?_⟩
      · rw [← hrb, hun true hx]; simp
      · rw [e]
    have stop : nextOk n.kind pn.name qs = false → risB n.kind ps = false := fun hx => by rw [← hrb, hun false hx]; simp
    by_cases h6 : n.kind = 6
    · have h5' : ¬ n.kind = 5 := by omega
      rcases Nat.eq_zero_or_pos qs.length with hq0 | hqp
      · have hq : qs = [] := List.length_eq_zero_iff.1 hq0
        have hlast : ((ps.length : Int) - ((qs.length + 1 : Nat) : Int) + 1 < (ps.length : Int)) = False := eq_false (by omega)
        have hst := step (by rw [hq]; rfl)
        simp (maxSteps := 400000) only [↓preZ, postZ, coreZ, ↓preU, postU, D_all, F_all, unR, outL, onePV, binS, ↓binS, boundR, ↓boundR, fieldOf, ↓fieldOf, boxR, allocR, newObj, zeroElem, buildSliceR, appendR, setAll, storeR, St.freeze, makeSliceR, minmaxR, makeFuncR, BEq.rfl, reduceIte, reduceCtorEq, Nat.reduceLT, Nat.reduceAdd, Nat.reduceSub, Nat.reduceMul, Nat.reduceBEq, Nat.reduceLeDiff, Int.reduceToNat, Int.reduceLE, hQ, hat, hmn, z0, zi, hgi, ↓ctrUtf, ↓ctrNext, hnx, hu, hltT, h6, Int.reduceEq, hlt1, hlast]
        simp only [h6] at hst
        exact ⟨htx1.2, hiv, hl, hst⟩
      · obtain ⟨q, r, hqr⟩ : ∃ q r, qs = q :: r := by
          cases qs with
          | nil => simp at hqp
          | cons q r => exact ⟨q, r, rfl⟩
        have hmore : ((ps.length : Int) - ((qs.length + 1 : Nat) : Int) + 1 < (ps.length : Int)) = True := eq_true (by omega)
        have g0 := h3'
        rw [hqr] at g0
        obtain ⟨pc2, qs2, g1, g2, g3⟩ := parts_step (k := r.length) g0
        simp only [List.cons.injEq] at g2
        have hpc2 := skip_le _ _ _ g1
        simp only [List.length_drop] at hpc2
        have hil2 : i + c1 < v.length := by omega
        have hgi2 := List.getElem?_eq_getElem hil2
        have hdi2 := List.drop_eq_getElem_cons hil2
        generalize v[i + c1] = qn at hgi2 hdi2
        have hname2 : nameOf q = qn.name := by
          obtain ⟨w, hw⟩ : ∃ w, pc2 = w + 1 := ⟨pc2 - 1, by omega⟩
          rw [g2.1, hdi2, hw]; rfl
        have hno : nextOk n.kind pn.name qs = Op.bytesLess pn.name qn.name := by
          rw [hqr, nextOk, hname2]; simp [h6]
        clear g0 g1 g2 g3 hqr hname2 hdi2 hdi
        cases hbl : Op.bytesLess pn.name qn.name
        · have hfin := stop (by rw [hno, hbl])
          simp (maxSteps := 400000) only [↓preZ, postZ, coreZ, ↓preU, postU, D_all, F_all, unR, outL, onePV, binS, ↓binS, boundR, ↓boundR, fieldOf, ↓fieldOf, boxR, allocR, newObj, zeroElem, buildSliceR, appendR, setAll, storeR, St.freeze, makeSliceR, minmaxR, makeFuncR, BEq.rfl, reduceIte, reduceCtorEq, Nat.reduceLT, Nat.reduceAdd, Nat.reduceSub, Nat.reduceMul, Nat.reduceBEq, Nat.reduceLeDiff, Int.reduceToNat, Int.reduceLE, hQ, hat, hmn, z0, zi, hgi, ↓ctrUtf, ↓ctrNext, hnx, hu, hltT, h6, Int.reduceEq, hlt1, hmore, zc, ht1, hgi2, hbl]
          rw [h6] at hfin
          exact ⟨htx1.2, hiv, hl, hfin⟩
        · have hst := step (by rw [hno, hbl])
          simp (maxSteps := 400000) only [↓preZ, postZ, coreZ, ↓preU, postU, D_all, F_all, unR, outL, onePV, binS, ↓binS, boundR, ↓boundR, fieldOf, ↓fieldOf, boxR, allocR, newObj, zeroElem, buildSliceR, appendR, setAll, storeR, St.freeze, makeSliceR, minmaxR, makeFuncR, BEq.rfl, reduceIte, reduceCtorEq, Nat.reduceLT, Nat.reduceAdd, Nat.reduceSub, Nat.reduceMul, Nat.reduceBEq, Nat.reduceLeDiff, Int.reduceToNat, Int.reduceLE, hQ, hat, hmn, z0, zi, hgi, ↓ctrUtf, ↓ctrNext, hnx, hu, hltT, h6, Int.reduceEq, hlt1, hmore, zc, ht1, hgi2, hbl]
          simp only [h6] at hst
          exact ⟨htx1.2, hiv, hl, hst⟩
    · have hst := step (by cases qs <;> simp [nextOk, h6])
      simp (maxSteps := 400000) only [↓preZ, postZ, coreZ, ↓preU, postU, D_all, F_all, unR, outL, onePV, binS, ↓binS, boundR, ↓boundR, fieldOf, ↓fieldOf, boxR, allocR, newObj, zeroElem, buildSliceR, appendR, setAll, storeR, St.freeze, makeSliceR, minmaxR, makeFuncR, BEq.rfl, reduceIte, reduceCtorEq, Nat.reduceLT, Nat.reduceAdd, Nat.reduceSub, Nat.reduceMul, Nat.reduceBEq, Nat.reduceLeDiff, Int.reduceToNat, Int.reduceLE, hQ, hat, hmn, z0, zi, hgi, ↓ctrUtf, ↓ctrNext, hnx, hu, hltT, h6, hlt1]
      exact ⟨fun h5' => ⟨fun _ => ⟨htx1.2, hiv, hl, hst⟩, fun hne => absurd (good h5') hne⟩, fun _ => ⟨htx1.2, hiv, hl, hst⟩⟩
end Lp

/-! LpW19 -/

namespace Lp
open Go Go.Proofs

set_option maxHeartbeats 4000000
set_option maxRecDepth 20000
set_option linter.unusedSimpArgs false

theorem nxt_at (L : Nat) : ∀ (v : Vl) (k c i : Nat), nxt L v k = some c → i < c → ∃ k' c', nxt L (v.drop i) (k' + 1) = some c'
  | v, 0, c, i, h, hi => by rw [nxt_zero] at h; cases h; omega
  | [], k + 1, c, i, h, hi => by simp [nxt] at h
  | n :: v, k + 1, c, 0, h, hi => ⟨k, c, by simpa using h⟩
  | n :: v, k + 1, c, i + 1, h, hi => by
    rw [nxt] at h
    split at h
    · cases h
    · cases hs : nxt L v (k + n.many.toNat) with
      | none => rw [hs] at h; simp at h
      | some c' =>
        rw [hs] at h
        simp only [Option.map_some, Option.some.injEq] at h
        simpa using nxt_at L v _ c' i hs (by omega)

/-- What is asked of the names of a node's parts. -/
def goodAt (v : Vl) (i : Nat) : Bool := match v.drop i with
  | n :: r => (match parts n.many.toNat r with | some ps => risB n.kind ps | none => false)
  | [] => true

theorem goodB_drop {v : Vl} {i : Nat} {n : Nd} (hi : v[i]? = some n) : goodB (v.drop i) = (plainB n && goodAt v i && goodB (v.drop (i + 1))) := by
  have hl := (List.getElem?_eq_some_iff.1 hi).1
  have hd := List.drop_eq_getElem_cons hl
  rw [List.getElem?_eq_getElem hl] at hi
  cases hi
  simp only [goodAt, hd, goodB]
  rfl

theorem riseAt_spec (v : Vl) (i : Int) (h0 : 0 ≤ i) (hi : i.toNat < v.length) (hs : Small v) (hn : nxt v.length v 1 = some v.length) :
    FnSpec Tryd.prog f_louperef02_rising [encV v, .int .i64 i] [] (.bool (goodAt v i.toNat)) [] := by
  obtain ⟨i, rfl⟩ : ∃ k : Nat, i = k := ⟨i.toNat, by omega⟩
  simp only [Int.toNat_natCast] at hi ⊢
  have hg := List.getElem?_eq_getElem hi
  have hd := List.drop_eq_getElem_cons hi
  generalize v[i] = n at hg hd
  obtain ⟨k', c', h'⟩ := nxt_at v.length v 1 _ i hn hi
  rw [Nat.add_comm] at h'
  obtain ⟨c1, _, h1, _, _⟩ := nxt_split v.length _ 1 k' c' h'
  rw [hd, nxt] at h1
  split at h1
  · cases h1
  · rename_i hm
    cases hx : nxt v.length (v.drop (i + 1)) (0 + n.many.toNat) with
    | none => rw [hx] at h1; simp at h1
    | some c =>
      rw [Nat.zero_add] at hx
      obtain ⟨ps, hp, _, _⟩ := parts_of_skip _ _ _ (nxt_skip _ _ _ _ hx)
      have := rising_spec v i n c hs hg (by omega) hx ps hp
      simp only [goodAt, hd, hp]
      exact this

def ctrRising : Ctr := fun args objs K => match args with
  | [a0, .int .i64 i] => ofE encV a0 (HK.mk : HK fun v => (0 ≤ i) ∧ (i.toNat < v.length) ∧ (Small v) ∧ (nxt v.length v 1 = some v.length) ∧ K (.bool (goodAt v i.toNat)) objs 0)
  | _ => False
theorem ctrRising_ok : CtrOk Tryd.prog f_louperef02_rising (ctrRising) := by
  intro args objs K h
  unfold ctrRising at h
  split at h
  · rename_i a0 i
    obtain ⟨v, rfl, h1, h2, h3, h4, hk⟩ := h
    exact ⟨_, _, _, .pure _ rfl (riseAt_spec v i h1 h2 h3 h4), hk⟩
  · exact h.elim

theorem right_spec (v : Vl) (hs : Small v) : FnSpec Tryd.prog f_louperef02_Right [encV v] [] (.bool (rightB v)) [] := by
  have hl := hs.len
  refine k_louperef02_Right.pureG (T := tabL Tryd.prog [(f_louperef02_Next, ctrNext), (f_louperef02_plain, ctrPlain), (f_louperef02_rising, ctrRising)]) 0 hD (kOk_tabL (tabOk_cons ctrNext_ok (tabOk_cons ctrPlain_ok (tabOk_cons ctrRising_ok tabOk_nil)))) hmix (by decide) fun Q hQ => ?_
  try simp only [F_all]
  rcases Nat.eq_zero_or_pos v.length with hv | hv
  · have hr : rightB v = false := by
      have : v = [] := List.length_eq_zero_iff.1 hv
      rw [this]; rfl
    have hv' : ((v.length : Int) = 0) = True := eq_true (by omega)
    simp (maxSteps := 400000) only [↓preZ, postZ, coreZ, ↓preU, postU, D_all, F_all, unR, outL, onePV, binS, ↓binS, boundR, ↓boundR, fieldOf, ↓fieldOf, boxR, allocR, newObj, zeroElem, buildSliceR, appendR, setAll, storeR, St.freeze, makeSliceR, minmaxR, makeFuncR, BEq.rfl, reduceIte, reduceCtorEq, Nat.reduceLT, Nat.reduceAdd, Nat.reduceSub, Nat.reduceMul, Nat.reduceBEq, Nat.reduceLeDiff, Int.reduceToNat, Int.reduceLE, hQ, c_louperef02_Right, hr, hv']
  have hv' : ((v.length : Int) = 0) = False := eq_false (by omega)
  obtain ⟨n0, r0, hvr⟩ : ∃ n r, v = n :: r := by
    cases v with
    | nil => simp at hv
    | cons n r => exact ⟨n, r, rfl⟩
  have hg0 : v[0]? = some n0 := by rw [hvr]; rfl
  have hnm : nameOf v = n0.name := by rw [hvr]; rfl
  have hne : v.isEmpty = false := by rw [hvr]; rfl
  by_cases hname : n0.name = []
  rotate_left 1
  · have hr : rightB v = false := by simp [rightB, hnm, hname]
    simp (maxSteps := 400000) only [↓preZ, postZ, coreZ, ↓preU, postU, D_all, F_all, unR, outL, onePV, binS, ↓binS, boundR, ↓boundR, fieldOf, ↓fieldOf, boxR, allocR, newObj, zeroElem, buildSliceR, appendR, setAll, storeR, St.freeze, makeSliceR, minmaxR, makeFuncR, BEq.rfl, reduceIte, reduceCtorEq, Nat.reduceLT, Nat.reduceAdd, Nat.reduceSub, Nat.reduceMul, Nat.reduceBEq, Nat.reduceLeDiff, Int.reduceToNat, Int.reduceLE, hQ, c_louperef02_Right, hr, hv', hg0, hname]
  have hz : Int.toNat 0 = 0 := rfl
  by_cases hnx : nextI v 0 = (v.length : Int)
  rotate_left 1
  · have hr : rightB v = false := by
      have : nxt v.length v 1 ≠ some v.length := fun h => hnx (by rw [nextI_of (i := 0) (by simpa using h)]; simp)
      simp [rightB, this]
    simp (maxSteps := 400000) only [↓preZ, postZ, coreZ, ↓preU, postU, D_all, F_all, unR, outL, onePV, binS, ↓binS, boundR, ↓boundR, fieldOf, ↓fieldOf, boxR, allocR, newObj, zeroElem, buildSliceR, appendR, setAll, storeR, St.freeze, makeSliceR, minmaxR, makeFuncR, BEq.rfl, reduceIte, reduceCtorEq, Nat.reduceLT, Nat.reduceAdd, Nat.reduceSub, Nat.reduceMul, Nat.reduceBEq, Nat.reduceLeDiff, Int.reduceToNat, Int.reduceLE, hQ, c_louperef02_Right, hr, hv', hg0, hname, ↓ctrNext, hnx]
    exact ⟨by omega, hl⟩
  have hn : nxt v.length v 1 = some v.length := by
    unfold nextI at hnx
    rw [List.drop_zero] at hnx
    cases hx : nxt v.length v 1 with
    | none => rw [hx] at hnx; simp only at hnx; omega
    | some c => rw [hx] at hnx; simp only at hnx; congr 1; omega
  have hr : rightB v = goodB v := by simp [rightB, hnm, hname, hn, hne]
  simp (maxSteps := 400000) only [↓preZ, postZ, coreZ, ↓preU, postU, D_all, F_all, unR, outL, onePV, binS, ↓binS, boundR, ↓boundR, fieldOf, ↓fieldOf, boxR, allocR, newObj, zeroElem, buildSliceR, appendR, setAll, storeR, St.freeze, makeSliceR, minmaxR, makeFuncR, BEq.rfl, reduceIte, reduceCtorEq, Nat.reduceLT, Nat.reduceAdd, Nat.reduceSub, Nat.reduceMul, Nat.reduceBEq, Nat.reduceLeDiff, Int.reduceToNat, Int.reduceLE, hQ, c_louperef02_Right, hv', hg0, hname, ↓ctrNext, hnx]
  refine ⟨by omega, hl, ?_⟩
  refine wpc_loop (fun m S => ∃ i : Nat, i + m = v.length ∧ goodB (v.drop i) = goodB v ∧ S = ⟨tmA 39 [(0, encV v), (3, .int .i64 i)], []⟩) v.length ⟨0, by omega, rfl, ?_⟩ ?_
  · simp only [normR, keepR, Nat.reduceAdd, lkR, Nat.reduceBEq, F_all, List.map_nil]
    rfl
  rintro m S ⟨i, him, hgd, rfl⟩
  rcases Nat.lt_or_ge i v.length with h | h
  · have hg := List.getElem?_eq_getElem h
    have htx := hs.txt _ (List.getElem_mem h)
    generalize v[i] = n at hg htx
    have hd := goodB_drop hg
    rw [hgd] at hd
    have zi : (0 ≤ (i : Int)) = True := eq_true (by omega)
    have hlt : ((i : Int) < (v.length : Int)) = True := eq_true (by omega)
    cases hp : plainB n
    · have hr2 : rightB v = false := by rw [hr, hd, hp]; rfl
      simp (maxSteps := 400000) only [↓preZ, postZ, coreZ, ↓preU, postU, D_all, F_all, unR, outL, onePV, binS, ↓binS, boundR, ↓boundR, fieldOf, ↓fieldOf, boxR, allocR, newObj, zeroElem, buildSliceR, appendR, setAll, storeR, St.freeze, makeSliceR, minmaxR, makeFuncR, BEq.rfl, reduceIte, reduceCtorEq, Nat.reduceLT, Nat.reduceAdd, Nat.reduceSub, Nat.reduceMul, Nat.reduceBEq, Nat.reduceLeDiff, Int.reduceToNat, Int.reduceLE, hQ, hg, ↓ctrPlain, ↓ctrRising, hp, zi, hlt, hr2]
      exact htx.1
    cases hq : goodAt v i
    · have hr2 : rightB v = false := by rw [hr, hd, hp, hq]; rfl
      simp (maxSteps := 400000) only [↓preZ, postZ, coreZ, ↓preU, postU, D_all, F_all, unR, outL, onePV, binS, ↓binS, boundR, ↓boundR, fieldOf, ↓fieldOf, boxR, allocR, newObj, zeroElem, buildSliceR, appendR, setAll, storeR, St.freeze, makeSliceR, minmaxR, makeFuncR, BEq.rfl, reduceIte, reduceCtorEq, Nat.reduceLT, Nat.reduceAdd, Nat.reduceSub, Nat.reduceMul, Nat.reduceBEq, Nat.reduceLeDiff, Int.reduceToNat, Int.reduceLE, hQ, hg, ↓ctrPlain, ↓ctrRising, hp, hq, zi, hlt, hr2]
      exact ⟨htx.1, h, hs, hn⟩
    · simp (maxSteps := 400000) only [↓preZ, postZ, coreZ, ↓preU, postU, D_all, F_all, unR, outL, onePV, binS, ↓binS, boundR, ↓boundR, fieldOf, ↓fieldOf, boxR, allocR, newObj, zeroElem, buildSliceR, appendR, setAll, storeR, St.freeze, makeSliceR, minmaxR, makeFuncR, BEq.rfl, reduceIte, reduceCtorEq, Nat.reduceLT, Nat.reduceAdd, Nat.reduceSub, Nat.reduceMul, Nat.reduceBEq, Nat.reduceLeDiff, Int.reduceToNat, Int.reduceLE, hQ, hg, ↓ctrPlain, ↓ctrRising, hp, hq, zi, hlt]
      refine ⟨htx.1, h, hs, hn, ⟨by omega, by omega⟩, m - 1, by omega, i + 1, by omega, ?_, by simp⟩
      rw [hd, hp, hq]; simp
  · have hlt : ((i : Int) < (v.length : Int)) = False := eq_false (by omega)
    simp (maxSteps := 400000) only [↓preZ, postZ, coreZ, ↓preU, postU, D_all, F_all, unR, outL, onePV, binS, ↓binS, boundR, ↓boundR, fieldOf, ↓fieldOf, boxR, allocR, newObj, zeroElem, buildSliceR, appendR, setAll, storeR, St.freeze, makeSliceR, minmaxR, makeFuncR, BEq.rfl, reduceIte, reduceCtorEq, Nat.reduceLT, Nat.reduceAdd, Nat.reduceSub, Nat.reduceMul, Nat.reduceBEq, Nat.reduceLeDiff, Int.reduceToNat, Int.reduceLE, hQ, hlt]
    rw [hr, ← hgd, List.drop_eq_nil_of_le h]; rfl

def ctrRight : Ctr := fun args objs K => match args with
  | [a0] => ofE encV a0 (HK.mk : HK fun v => (Small v) ∧ K (.bool (rightB v)) objs 0)
  | _ => False
theorem ctrRight_ok : CtrOk Tryd.prog f_louperef02_Right (ctrRight) := by
  intro args objs K h
  unfold ctrRight at h
  split at h
  · rename_i a0
    obtain ⟨v, rfl, h1, hk⟩ := h
    exact ⟨_, _, _, .pure _ rfl (right_spec v h1), hk⟩
  · exact h.elim

def shortN (n : Nd) : Bool := decide (n.s.length ≤ 200) && decide (n.name.length ≤ 200)

theorem few_spec (v : Vl) (k : Nat) (hk : k ≤ 1000000) (hs : v.length ≤ 4611686018427387904) (htx : ∀ n ∈ v, n.s.length ≤ 4611686018427387904 ∧ n.name.length ≤ 4611686018427387904) : FnSpec Tryd.prog f_louperef02_Few [encV v, .int .i64 k] [] (.bool (fewB v k)) [] := by
  refine k_louperef02_Few.pureG (T := tabL Tryd.prog [(f_louperef02_Right, ctrRight)]) 0 hD (kOk_tabL (tabOk_cons ctrRight_ok tabOk_nil)) hmix (by decide) fun Q hQ => ?_
  try simp only [F_all]
  rcases Nat.lt_or_ge k v.length with hlen | hlen
  · have hr : fewB v k = false := by
      have : decide (v.length ≤ k) = false := by simp; omega
      simp [fewB, this]
    have hlt : ((k : Int) < (v.length : Int)) = True := eq_true (by omega)
    simp (maxSteps := 400000) only [↓preZ, postZ, coreZ, ↓preU, postU, D_all, F_all, unR, outL, onePV, binS, ↓binS, boundR, ↓boundR, fieldOf, ↓fieldOf, boxR, allocR, newObj, zeroElem, buildSliceR, appendR, setAll, storeR, St.freeze, makeSliceR, minmaxR, makeFuncR, BEq.rfl, reduceIte, reduceCtorEq, Nat.reduceLT, Nat.reduceAdd, Nat.reduceSub, Nat.reduceMul, Nat.reduceBEq, Nat.reduceLeDiff, Int.reduceToNat, Int.reduceLE, hQ, c_louperef02_Few, hr, hlt]
  have hlt : ((k : Int) < (v.length : Int)) = False := eq_false (by omega)
  have hr : fewB v k = (v.all shortN && rightB v) := by
    have : decide (v.length ≤ k) = true := by simpa using hlen
    simp only [fewB, this, Bool.true_and]
    rfl
  have hsm : Small v := ⟨by omega, htx⟩
  simp (maxSteps := 400000) only [↓preZ, postZ, coreZ, ↓preU, postU, D_all, F_all, unR, outL, onePV, binS, ↓binS, boundR, ↓boundR, fieldOf, ↓fieldOf, boxR, allocR, newObj, zeroElem, buildSliceR, appendR, setAll, storeR, St.freeze, makeSliceR, minmaxR, makeFuncR, BEq.rfl, reduceIte, reduceCtorEq, Nat.reduceLT, Nat.reduceAdd, Nat.reduceSub, Nat.reduceMul, Nat.reduceBEq, Nat.reduceLeDiff, Int.reduceToNat, Int.reduceLE, hQ, c_louperef02_Few, hlt]
  refine wpc_loop (fun m S => ∃ i : Nat, i + m = v.length ∧ (v.drop i).all shortN = v.all shortN ∧ S = ⟨tmA 34 [(0, encV v), (5, .int .i64 i)], []⟩) v.length ⟨0, by omega, rfl, ?_⟩ ?_
  · simp only [normR, keepR, Nat.reduceAdd, lkR, Nat.reduceBEq, F_all, List.map_nil]
    rfl
  rintro m S ⟨i, him, hal, rfl⟩
  rcases Nat.lt_or_ge i v.length with h | h
  · have hg := List.getElem?_eq_getElem h
    have hd := List.drop_eq_getElem_cons h
    generalize v[i] = n at hg hd
    have zi : (0 ≤ (i : Int)) = True := eq_true (by omega)
    have hlt : ((i : Int) < (v.length : Int)) = True := eq_true (by omega)
    rw [hd, List.all_cons] at hal
    by_cases h1 : n.s.length ≤ 200
    rotate_left 1
    · have e1 : ((200 : Int) < (n.s.length : Int)) = True := eq_true (by omega)
      have hr2 : fewB v k = false := by rw [hr, ← hal]; simp [shortN, h1]
      simp (maxSteps := 400000) only [↓preZ, postZ, coreZ, ↓preU, postU, D_all, F_all, unR, outL, onePV, binS, ↓binS, boundR, ↓boundR, fieldOf, ↓fieldOf, boxR, allocR, newObj, zeroElem, buildSliceR, appendR, setAll, storeR, St.freeze, makeSliceR, minmaxR, makeFuncR, BEq.rfl, reduceIte, reduceCtorEq, Nat.reduceLT, Nat.reduceAdd, Nat.reduceSub, Nat.reduceMul, Nat.reduceBEq, Nat.reduceLeDiff, Int.reduceToNat, Int.reduceLE, hQ, hg, zi, hlt, e1, hr2]
    have e1 : ((200 : Int) < (n.s.length : Int)) = False := eq_false (by omega)
    by_cases h2 : n.name.length ≤ 200
    rotate_left 1
    · have e2 : ((200 : Int) < (n.name.length : Int)) = True := eq_true (by omega)
      have hr2 : fewB v k = false := by rw [hr, ← hal]; simp [shortN, h2]
      simp (maxSteps := 400000) only [↓preZ, postZ, coreZ, ↓preU, postU, D_all, F_all, unR, outL, onePV, binS, ↓binS, boundR, ↓boundR, fieldOf, ↓fieldOf, boxR, allocR, newObj, zeroElem, buildSliceR, appendR, setAll, storeR, St.freeze, makeSliceR, minmaxR, makeFuncR, BEq.rfl, reduceIte, reduceCtorEq, Nat.reduceLT, Nat.reduceAdd, Nat.reduceSub, Nat.reduceMul, Nat.reduceBEq, Nat.reduceLeDiff, Int.reduceToNat, Int.reduceLE, hQ, hg, zi, hlt, e1, e2, hr2]
    have e2 : ((200 : Int) < (n.name.length : Int)) = False := eq_false (by omega)
    simp (maxSteps := 400000) only [↓preZ, postZ, coreZ, ↓preU, postU, D_all, F_all, unR, outL, onePV, binS, ↓binS, boundR, ↓boundR, fieldOf, ↓fieldOf, boxR, allocR, newObj, zeroElem, buildSliceR, appendR, setAll, storeR, St.freeze, makeSliceR, minmaxR, makeFuncR, BEq.rfl, reduceIte, reduceCtorEq, Nat.reduceLT, Nat.reduceAdd, Nat.reduceSub, Nat.reduceMul, Nat.reduceBEq, Nat.reduceLeDiff, Int.reduceToNat, Int.reduceLE, hQ, hg, zi, hlt, e1, e2]
    refine ⟨⟨by omega, by omega⟩, m - 1, by omega, i + 1, by omega, ?_, by simp⟩
    rw [← hal]; simp [shortN, h1, h2]
  · have hlt : ((i : Int) < (v.length : Int)) = False := eq_false (by omega)
    have hr2 : fewB v k = rightB v := by
      rw [hr, ← hal, List.drop_eq_nil_of_le h]; rfl
    simp (maxSteps := 400000) only [↓preZ, postZ, coreZ, ↓preU, postU, D_all, F_all, unR, outL, onePV, binS, ↓binS, boundR, ↓boundR, fieldOf, ↓fieldOf, boxR, allocR, newObj, zeroElem, buildSliceR, appendR, setAll, storeR, St.freeze, makeSliceR, minmaxR, makeFuncR, BEq.rfl, reduceIte, reduceCtorEq, Nat.reduceLT, Nat.reduceAdd, Nat.reduceSub, Nat.reduceMul, Nat.reduceBEq, Nat.reduceLeDiff, Int.reduceToNat, Int.reduceLE, hQ, hlt, ↓ctrRight, hr2]
    exact hsm

theorem few_spec' (v : Vl) (k : Int) (hk : 0 ≤ k ∧ k ≤ 1000000) (hs : v.length ≤ 4611686018427387904) (htx : ∀ n ∈ v, n.s.length ≤ 4611686018427387904 ∧ n.name.length ≤ 4611686018427387904) : FnSpec Tryd.prog f_louperef02_Few [encV v, .int .i64 k] [] (.bool (fewB v k.toNat)) [] := by
  have e : k = (k.toNat : Int) := by omega
  rw [e]
  exact few_spec v k.toNat (by omega) hs htx

def ctrFew : Ctr := fun args objs K => match args with
  | [a0, .int .i64 k] => ofE encV a0 (HK.mk : HK fun v => (0 ≤ k ∧ k ≤ 1000000) ∧ (v.length ≤ 4611686018427387904) ∧ (∀ n ∈ v, n.s.length ≤ 4611686018427387904 ∧ n.name.length ≤ 4611686018427387904) ∧ K (.bool (fewB v k.toNat)) objs 0)
  | _ => False
theorem ctrFew_ok : CtrOk Tryd.prog f_louperef02_Few (ctrFew) := by
  intro args objs K h
  unfold ctrFew at h
  split at h
  · rename_i a0 k
    obtain ⟨v, rfl, h1, h2, h3, hk⟩ := h
    exact ⟨_, _, _, .pure _ rfl (few_spec' v k h1 h2 h3), hk⟩
  · exact h.elim

theorem allN_cons (x : Vl) (l : List Vl) : allN (x :: l) = x.length + 1 + allN l := rfl

theorem allN_len : ∀ l : List Vl, l.length ≤ allN l
  | [] => Nat.le_refl _
  | x :: l => by have := allN_len l; simp only [List.length_cons, allN]; omega

theorem all_spec (l : List Vl) (k : Nat) (hk : k ≤ 1000000) (hs : l.length ≤ 1152921504606846976) (htx : ∀ v ∈ l, v.length ≤ 1152921504606846976 ∧ ∀ n ∈ v, n.s.length ≤ 4611686018427387904 ∧ n.name.length ≤ 4611686018427387904) : FnSpec Tryd.prog f_louperef02_All [encL l, .int .i64 k] [] (.bool (allB l k)) [] := by
  refine k_louperef02_All.pureG (T := tabL Tryd.prog [(f_louperef02_Few, ctrFew)]) 0 hD (kOk_tabL (tabOk_cons ctrFew_ok tabOk_nil)) hmix (by decide) fun Q hQ => ?_
  try simp only [F_all]
  simp (maxSteps := 400000) only [↓preZ, postZ, coreZ, ↓preU, postU, D_all, F_all, unR, outL, onePV, binS, ↓binS, boundR, ↓boundR, fieldOf, ↓fieldOf, boxR, allocR, newObj, zeroElem, buildSliceR, appendR, setAll, storeR, St.freeze, makeSliceR, minmaxR, makeFuncR, BEq.rfl, reduceIte, reduceCtorEq, Nat.reduceLT, Nat.reduceAdd, Nat.reduceSub, Nat.reduceMul, Nat.reduceBEq, Nat.reduceLeDiff, Int.reduceToNat, Int.reduceLE, hQ, c_louperef02_All]
  refine wpc_loop (fun m S => ∃ (i s : Nat), i + m = l.length ∧ s + ((l.drop i).map List.length).sum = l.length + (l.map List.length).sum ∧ (i = 0 ∨ s ≤ k) ∧ s ≤ l.length + k ∧ (l.take i).all (fewB · k) = true ∧
    S = ⟨tmA 37 [(0, encL l), (1, .int .i64 k), (5, .int .i64 s), (6, .int .i64 i)], []⟩) l.length ⟨0, l.length, by omega, rfl, .inl rfl, by omega, by simp, ?_⟩ ?_
  · simp only [normR, keepR, Nat.reduceAdd, lkR, Nat.reduceBEq, F_all, List.map_nil]
    rfl
  rintro m S ⟨i, s, him, hsum, hsk, hsk2, hal, rfl⟩
  have hallN : ∀ q : List Vl, allN q = q.length + (q.map List.length).sum := by
    intro q
    induction q with
    | nil => rfl
    | cons x q ih => simp only [allN, ih, List.length_cons, List.map_cons, List.sum_cons]; omega
  have hN : allN l = s + ((l.drop i).map List.length).sum := by rw [hallN]; omega
  rcases Nat.lt_or_ge i l.length with h | h
  · have hg := List.getElem?_eq_getElem h
    have hd := List.drop_eq_getElem_cons h
    have hx := htx _ (List.getElem_mem h)
    have htk : l.take (i + 1) = l.take i ++ [l[i]] := by rw [List.take_add_one, hg]; rfl
    have hmem : l[i] ∈ l := List.getElem_mem h
    generalize l[i] = x at hg hd hx htk hmem
    have zi : (0 ≤ (i : Int)) = True := eq_true (by omega)
    have hlt : ((i : Int) < (l.length : Int)) = True := eq_true (by omega)
    rw [hd, List.map_cons, List.sum_cons] at hsum hN
    by_cases h1 : s + x.length ≤ k
    rotate_left 1
    · have e1 : ((k : Int) < (s : Int) + (x.length : Int)) = True := eq_true (by omega)
      have hr2 : allB l k = false := by
        have : decide (allN l ≤ k) = false := by simp; omega
        simp [allB, this]
      simp (maxSteps := 400000) only [↓preZ, postZ, coreZ, ↓preU, postU, D_all, F_all, unR, outL, onePV, binS, ↓binS, boundR, ↓boundR, fieldOf, ↓fieldOf, boxR, allocR, newObj, zeroElem, buildSliceR, appendR, setAll, storeR, St.freeze, makeSliceR, minmaxR, makeFuncR, BEq.rfl, reduceIte, reduceCtorEq, Nat.reduceLT, Nat.reduceAdd, Nat.reduceSub, Nat.reduceMul, Nat.reduceBEq, Nat.reduceLeDiff, Int.reduceToNat, Int.reduceLE, hQ, hg, zi, hlt, e1, hr2]
      exact ⟨by omega, by omega⟩
    have e1 : ((k : Int) < (s : Int) + (x.length : Int)) = False := eq_false (by omega)
    cases hf : fewB x k
    · have hr2 : allB l k = false := by
        have : l.all (fewB · k) = false := by
          rw [List.all_eq_false]
          exact ⟨x, hmem, by simp [hf]⟩
        simp [allB, this]
      simp (maxSteps := 400000) only [↓preZ, postZ, coreZ, ↓preU, postU, D_all, F_all, unR, outL, onePV, binS, ↓binS, boundR, ↓boundR, fieldOf, ↓fieldOf, boxR, allocR, newObj, zeroElem, buildSliceR, appendR, setAll, storeR, St.freeze, makeSliceR, minmaxR, makeFuncR, BEq.rfl, reduceIte, reduceCtorEq, Nat.reduceLT, Nat.reduceAdd, Nat.reduceSub, Nat.reduceMul, Nat.reduceBEq, Nat.reduceLeDiff, Int.reduceToNat, Int.reduceLE, hQ, hg, zi, hlt, e1, hr2, ↓ctrFew, hf]
      exact ⟨⟨by omega, by omega⟩, ⟨by omega, by omega⟩, by omega, hx.2⟩
    · simp (maxSteps := 400000) only [↓preZ, postZ, coreZ, ↓preU, postU, D_all, F_all, unR, outL, onePV, binS, ↓binS, boundR, ↓boundR, fieldOf, ↓fieldOf, boxR, allocR, newObj, zeroElem, buildSliceR, appendR, setAll, storeR, St.freeze, makeSliceR, minmaxR, makeFuncR, BEq.rfl, reduceIte, reduceCtorEq, Nat.reduceLT, Nat.reduceAdd, Nat.reduceSub, Nat.reduceMul, Nat.reduceBEq, Nat.reduceLeDiff, Int.reduceToNat, Int.reduceLE, hQ, hg, zi, hlt, e1, ↓ctrFew, hf]
      refine ⟨⟨by omega, by omega⟩, ⟨by omega, by omega⟩, by omega, hx.2, ⟨by omega, by omega⟩, m - 1, by omega, i + 1, s + x.length, by omega, by omega, .inr h1, by omega, ?_, by simp⟩
      rw [htk, List.all_append, hal]; simp [hf]
  · have hlt : ((i : Int) < (l.length : Int)) = False := eq_false (by omega)
    simp (maxSteps := 400000) only [↓preZ, postZ, coreZ, ↓preU, postU, D_all, F_all, unR, outL, onePV, binS, ↓binS, boundR, ↓boundR, fieldOf, ↓fieldOf, boxR, allocR, newObj, zeroElem, buildSliceR, appendR, setAll, storeR, St.freeze, makeSliceR, minmaxR, makeFuncR, BEq.rfl, reduceIte, reduceCtorEq, Nat.reduceLT, Nat.reduceAdd, Nat.reduceSub, Nat.reduceMul, Nat.reduceBEq, Nat.reduceLeDiff, Int.reduceToNat, Int.reduceLE, hQ, hlt]
    rw [List.drop_eq_nil_of_le h] at hN
    simp only [List.map_nil, List.sum_nil, Nat.add_zero] at hN
    rw [List.take_of_length_le h] at hal
    have : allB l k = decide (allN l ≤ k) := by simp [allB, hal]
    rw [this, hN]
    exact decide_eq_decide.2 (by omega)

end Lp

/-! LpX -/

namespace Lp
open Go

/-- Cells of a type that can be read are values of this kind. -/
def Rd (P : Program) (t : TypeId) {α : Type} (enc : α → PV) (good : α → Prop) : Prop :=
  ∀ {H : Type} (eh : TypeId × Value → H) (w : World) (fuel : Nat) (cs : List Value) (x : DataW H × List MemPlace), DataW.trod eh P w 0 (fun _ => true) true fuel t cs = some x →
    (∀ n ∈ DataW.weights P t x.1, n ≤ reachBytes) → ∃ a : α, good a ∧ RepL (Rep w (fun _ => True)) (enc a).cells cs

variable {P : Program}

theorem repL_one {R : PV → Value → Prop} {p : PV} {v : Value} (h : R p v) : RepL R [p] [v] :=
  ⟨rfl, fun i q u h1 h2 => by
    cases i with
    | zero => simp at h1 h2; subst h1; subst h2; exact h
    | succ i => simp at h1⟩

theorem Rd.int {t : TypeId} {k : IntKind} (ht : P.underlying t = some (.int k)) : Rd P t (.int k) (inR k) := by
  intro H eh w fuel cs x h _
  obtain ⟨n, rfl, rfl, hw⟩ := DataW.trod_int ht h
  refine ⟨n, ?_, repL_one (.int k n)⟩
  simp only [Lit.wf, Bool.and_eq_true, decide_eq_true_eq] at hw
  cases k <;> simp only [IntKind.min, IntKind.max, IntKind.signed, IntKind.bits, inR] at hw ⊢ <;> first | exact ⟨by simpa using hw.1, by simpa using hw.2⟩ | (simp at hw; omega)

theorem Rd.bool {t : TypeId} (ht : P.underlying t = some .bool) : Rd P t PV.bool (fun _ => True) := by
  intro H eh w fuel cs x h _
  obtain ⟨b, rfl, rfl⟩ := DataW.trod_bool ht h
  exact ⟨b, trivial, repL_one (.bool b)⟩

theorem Rd.str {t : TypeId} (ht : P.underlying t = some .string) : Rd P t PV.str (fun s => s.length ≤ reachBytes) := by
  intro H eh w fuel cs x h hw
  obtain ⟨s, rfl, rfl, _⟩ := DataW.trod_string ht h
  refine ⟨s.data.toList, hw _ ?_, repL_one (rep_str w _ s)⟩
  rw [DataW.weights]; simp

theorem Rd.slice {t e : TypeId} {α : Type} [Inhabited α] {enc : α → PV} {good : α → Prop} {sz : Nat} (ht : P.underlying t = some (.slice e)) (he : Rd P e enc good) (hsz : P.cellsOf e = sz) (hpos : sz ≠ 0) (hc : ∀ a, (enc a).cells.length = sz) :
    Rd P t (fun l : List α => .sl sz (l.map enc) none) (fun l => l.length * P.bytesOf e ≤ reachBytes ∧ ∀ a ∈ l, good a) := by
  intro H eh w fuel cs x h hw
  rcases Go.Deep.open_slice ht h with ⟨rfl, rfl⟩ | ⟨a, len, cap, m, n, D, Pl, rfl, hb, hl, hm, hmm, rfl, hx⟩
  · exact ⟨[], by simp, repL_one (.slnil _ _ (by simp))⟩
  · simp only [if_true] at hmm
    subst hmm
    have hwt : ∀ i, i < len → ∀ n ∈ DataW.weights P e (D i), n ≤ reachBytes := by
      intro i hi n hn
      refine hw n ?_
      rw [DataW.weights, ht]
      simp only [List.mem_cons, List.mem_append]
      right; left
      have key : ∀ (l : List (DataW H)) d, d ∈ l → n ∈ DataW.weights P e d → n ∈ DataW.weightsAll P e l := by
        intro l
        induction l with
        | nil => intro d hd; cases hd
        | cons y ys ih =>
          intro d hd hn
          rw [DataW.weightsAll, List.mem_append]
          rcases List.mem_cons.1 hd with rfl | hd
          · exact .inl hn
          · exact .inr (ih d hd hn)
      exact key _ (D i) (List.mem_map.2 ⟨i, List.mem_range.2 hi, rfl⟩) hn
    have hlen : (len : Nat) * P.bytesOf e ≤ reachBytes := by
      have := hw ((((List.range len).map D).length + ((List.range (m - len)).map fun j => D (len + j)).length) * P.bytesOf e) (by rw [DataW.weights, ht]; exact List.mem_cons_self)
      simp only [List.length_map, List.length_range] at this
      exact Nat.le_trans (Nat.mul_le_mul_right _ (by omega)) this
    obtain ⟨f, hf⟩ : ∃ f : Nat → α × List Value, ∀ i, i < len → good (f i).1 ∧ w.cells? 0 (a.add (i * P.cellsOf e)) (P.cellsOf e) = some (f i).2 ∧ RepL (Rep w (fun _ => True)) (enc (f i).1).cells (f i).2 := by
      have hex : ∀ i, i < len → ∃ y : α × List Value, good y.1 ∧ w.cells? 0 (a.add (i * P.cellsOf e)) (P.cellsOf e) = some y.2 ∧ RepL (Rep w (fun _ => True)) (enc y.1).cells y.2 := by
        intro i hi
        obtain ⟨cs', h1, h2⟩ := hx i (by omega)
        obtain ⟨y, g1, g2⟩ := he eh w n cs' _ h2 (hwt i hi)
        exact ⟨(y, cs'), g1, h1, g2⟩
      exact Go.Deep.choose_lt hex
    rcases Nat.eq_zero_or_pos len with h0 | h0
    · subst h0
      exact ⟨[], by simp, repL_one (.slz _ _ (by simp) a m hm)⟩
    have hspot : a.spot = none := by
      obtain ⟨_, h2, h3⟩ := hf 0 h0
      obtain ⟨_, g1, g2⟩ := World.cells?_some h2
      have := g2 0 (by omega)
      rw [List.getElem?_eq_getElem (by omega)] at this
      have := World.cell?_spot this
      simpa [Addr.add] using this
    obtain ⟨b, off, spot⟩ := a
    simp only at hspot
    subst hspot
    have hcells : ∀ i, i < len → ∀ j, j < sz → w.cell? ⟨b, off + i * sz + j, none⟩ = (f i).2[j]? := by
      intro i hi j hj
      obtain ⟨_, h2, _⟩ := hf i hi
      obtain ⟨_, _, g2⟩ := World.cells?_some h2
      have := g2 j (by omega)
      rw [hsz, add_lit, add_lit] at this
      exact this
    have hget : ∀ (i : Nat) (x : PV), (((List.range len).map fun i => (f i).1).map enc)[i]? = some x → i < len ∧ x = enc (f i).1 := by
      intro i x hx
      have hi : i < len := by
        have := (List.getElem?_eq_some_iff.1 hx).1
        simpa using this
      rw [List.getElem?_map, List.getElem?_map, List.getElem?_range hi] at hx
      simp only [Option.map_some, Option.some.injEq] at hx
      exact ⟨hi, hx.symm⟩
    have hL : (((List.range len).map fun i => (f i).1).map enc).length = len := by simp
    refine ⟨(List.range len).map fun i => (f i).1, ⟨by simpa using hlen, fun y hy => ?_⟩, repL_one ?_⟩
    · obtain ⟨i, hi, rfl⟩ := List.mem_map.1 hy
      exact (hf i (List.mem_range.1 hi)).1
    · have : Rep w (fun _ => True) (.sl sz (((List.range len).map fun i => (f i).1).map enc) none) (.slice (some ⟨b, off, none⟩) (((List.range len).map fun i => (f i).1).map enc).length m) := by
        refine .sl sz _ none (by simp) b off m (fun i j => (f i).2.getD j undef) (fun _ => ⟨trivial, ?_⟩) (by rw [hL]; exact hl) hm (fun i x hx => ?_) (fun i x j p hx hp => ?_) (fun i x j p hx hp => ?_)
        · have := hcells 0 h0 0 (by omega)
          obtain ⟨_, h2, _⟩ := hf 0 h0
          obtain ⟨_, g1, _⟩ := World.cells?_some h2
          rw [List.getElem?_eq_getElem (by omega)] at this
          unfold World.cell? at this
          simp only at this
          cases hb' : w.heap[b]? with
          | none => rw [hb'] at this; simp at this
          | some o => exact (Array.getElem?_eq_some_iff.1 hb').1
        · obtain ⟨_, rfl⟩ := hget i x hx
          exact hc _
        · obtain ⟨hi, rfl⟩ := hget i x hx
          have hj : j < sz := by rw [← hc (f i).1]; exact (List.getElem?_eq_some_iff.1 hp).1
          rw [hcells i hi j hj]
          obtain ⟨_, h2, _⟩ := hf i hi
          obtain ⟨_, g1, _⟩ := World.cells?_some h2
          rw [List.getD_eq_getElem?_getD, List.getElem?_eq_getElem (by omega)]
          rfl
        · obtain ⟨hi, rfl⟩ := hget i x hx
          have hj : j < sz := by rw [← hc (f i).1]; exact (List.getElem?_eq_some_iff.1 hp).1
          obtain ⟨_, h2, h3⟩ := hf i hi
          obtain ⟨_, g1, _⟩ := World.cells?_some h2
          exact h3.2 j p _ hp (by rw [List.getD_eq_getElem?_getD, List.getElem?_eq_getElem (by omega)]; rfl)
      rw [hL] at this
      exact this


theorem weightsEach_mem {H : Type} {n : Nat} : ∀ (ts : List TypeId) (ds : List (DataW H)) (i : Nat) (t : TypeId) (d : DataW H), ts[i]? = some t → ds[i]? = some d → n ∈ DataW.weights P t d → n ∈ DataW.weightsEach P ts ds
  | [], _, i, t, d, h, _, _ => by simp at h
  | _ :: _, [], i, t, d, _, h, _ => by simp at h
  | t' :: ts, d' :: ds, i, t, d, h1, h2, hn => by
    rw [DataW.weightsEach, List.mem_append]
    cases i with
    | zero => simp at h1 h2; subst h1; subst h2; exact .inl hn
    | succ i => exact .inr (weightsEach_mem ts ds i t d (by simpa using h1) (by simpa using h2) hn)

/-- A struct's fields, read. -/
theorem struct_parts {H : Type} {eh : TypeId × Value → H} {w : World} {fuel : Nat} {t : TypeId} {fs : Array Field} {cs : List Value} {x : DataW H × List MemPlace} (ht : P.underlying t = some (.struct fs))
    (h : DataW.trod eh P w 0 (fun _ => true) true fuel t cs = some x) (hw : ∀ n ∈ DataW.weights P t x.1, n ≤ reachBytes) :
    cs.length = P.cellsOf t ∧ ∀ (i off : Nat) (e : TypeId), (fs.toList.map fun f => (f.offset, f.type))[i]? = some (off, e) → ∃ n y, DataW.trod eh P w 0 (fun _ => true) true n e ((cs.drop off).take (P.cellsOf e)) = some y ∧ (∀ m ∈ DataW.weights P e y.1, m ≤ reachBytes) := by
  obtain ⟨xs, n, _, rfl, hl, hlen, hf⟩ := DataW.trod_struct ht h
  refine ⟨hl, fun i off e he => ?_⟩
  rw [List.getElem?_map] at he
  cases hfi : fs.toList[i]? with
  | none => rw [hfi] at he; simp at he
  | some f =>
    rw [hfi] at he
    simp only [Option.map_some, Option.some.injEq, Prod.mk.injEq] at he
    obtain ⟨rfl, rfl⟩ := he
    have hfi' : fs[i]? = some f := by simpa using hfi
    have hi : i < xs.length := by rw [hlen]; exact (Array.getElem?_eq_some_iff.1 hfi').1
    have h1 := hf i f hfi'
    rw [List.getElem?_eq_getElem hi] at h1
    refine ⟨n, xs[i], h1, fun m hm => hw m ?_⟩
    rw [DataW.weights, ht]
    exact weightsEach_mem _ _ i f.type xs[i].1 (by rw [List.getElem?_map, hfi]; rfl) (by rw [List.getElem?_map, List.getElem?_eq_getElem hi]; rfl) hm

/-! ### A law -/

/-- Rows of arguments stay as they read. -/
theorem trodAll_stays {H : Type} {eh : TypeId × Value → H} (hl : laidOutB P = true) {W W' : World} (hb : ∀ b, b < W.heap.size → W'.heap[b]? = W.heap[b]?) :
    ∀ (ts : List TypeId) (vs : List Value) (ds : List (DataW H)) (ps : List MemPlace), (∀ t ∈ ts, P.readableRec t = true ∧ t < P.types.size) → DataW.TrodAll eh P W 0 (fun _ => true) true ts vs ds ps →
      DataW.TrodAll eh P W' 0 (fun b => decide (b < W.heap.size)) true ts vs ds ps
  | [], [], [], ps, _, h => h
  | t :: ts, v :: vs, d :: ds, ps, hr, ⟨p, q, h1, h2, h3⟩ => by
    have hlt : ∀ x ∈ p, x.block < W.heap.size := by obtain ⟨m, hm⟩ := h1; exact DataW.trod_lt m _ _ _ hm
    refine ⟨p, q, Go.WideElems.Trod_stays hl (hr t (by simp)).1 (hr t (by simp)).2 h1 (fun x hx => ?_) (fun x hx => by simpa using hlt x hx), trodAll_stays hl hb ts vs ds q (fun t ht => hr t (by simp [ht])) h2, h3⟩
    cases x with
    | cell b o => exact World.cell?_of_block (w := W) (hb b (hlt _ hx))
    | map b => exact hb b (hlt _ hx)
  | [], _ :: _, _, _, _, h => h.elim
  | [], [], _ :: _, _, _, h => h.elim
  | _ :: _, [], _, _, _, h => h.elim
  | _ :: _, _ :: _, [], _, _, h => h.elim

/-- Arguments that can be read are pure values of which a contract holds: what a call does. -/
theorem law_core {C : Checked} {H : Type} {enc : TypeId × Value → H} {f : FuncId} {fn : Func} {s : ChangeSpec} {tb : TypeId}
    (hlaid : laidOutB C.prog = true) (hr : ∀ t ∈ fn.params.toList, C.prog.readableRec t = true ∧ t < C.prog.types.size)
    (hres : fn.resultTypes.toList = [tb]) (hsz : fn.resultTypes.size = 1) (hb : C.prog.underlying tb = some .bool)
    (hvars : s.vars = []) (hpl : s.plain.varTypes C.prog = []) (hs : ∀ ds : List (DataW H), ds.length = fn.params.toList.length → s.fn H ds = { results := [.lit (.bool true)], args := ds })
    (hread : ∀ (W : World) (base : Nat) (args : List Value) (ds : List (DataW H)) (ps : List MemPlace), (∀ (j : Nat) t v, fn.params[j]? = some t → args[j]? = some v → Value.okWide C.prog W .any base t v) → DataW.TrodAll enc C.prog W 0 (fun _ => true) true fn.params.toList args ds ps → (∀ n ∈ DataW.weightsEach C.prog fn.params.toList ds, n ≤ reachBytes) →
      ∃ pvs, RepL (Rep W (fun _ => True)) pvs args ∧ FnSpec C.prog f pvs [] (.bool true) [])
    {W : World} {base : Nat} {args : Array Value} {ds gs : List (DataW H)} {before : List MemPlace} (hg : glob.holds W.heap)
    (hval : ∀ (j : Nat) t v, fn.params[j]? = some t → args[j]? = some v → Value.okWide C.prog W .any base t v) (hW : DataW.Whole enc C.prog fn.params.toList s.vars false W args.toList ds gs before)
    (hsize : (DataW.weightsEach C.prog (fn.params.toList ++ s.plain.varTypes C.prog) (ds ++ gs)).all (· ≤ reachBytes) = true) :
    Calls C.prog f args W fun e W' => ∃ v, e = .returned v ∧ s.post enc C.prog fn false true false false W args v W' := by
  have hW' := hW
  obtain ⟨p, q, hA, hV, rfl, hfz, hnd⟩ := hW
  rw [hvars] at hV
  obtain ⟨rfl, rfl⟩ := Go.ChangeShapes.trodVars_none hV
  have hlen : ds.length = fn.params.toList.length := by
    have : ∀ (ts : List TypeId) (vs : List Value) (ds : List (DataW H)) (ps : List MemPlace), DataW.TrodAll enc C.prog W 0 (fun _ => true) true ts vs ds ps → ds.length = ts.length := by
      intro ts
      induction ts with
      | nil => intro vs ds ps h; cases vs <;> cases ds <;> simp [DataW.TrodAll] at h ⊢
      | cons t ts ih =>
        intro vs ds ps h
        cases vs <;> cases ds <;> simp [DataW.TrodAll] at h ⊢
        obtain ⟨_, _, _, h2, _⟩ := h
        exact ih _ _ _ h2
    exact this _ _ _ _ hA
  rw [hpl, List.append_nil, List.append_nil, List.all_eq_true] at hsize
  obtain ⟨pvs, hrep, hspec⟩ := hread W base args.toList ds p (fun j t v h1 h2 => hval j t v h1 (by simpa using h2)) hA (fun n hn => by simpa using hsize n hn)
  have hargs : RepL (RepT W (okL (fun _ => True) [] (fun _ => none)) [] (fun _ => none)) pvs args.toList :=
    ⟨hrep.1, fun i p v a b => .of_rep ((hrep.2 i p v a b).anyOk fun _ _ _ => ⟨trivial, notLive_nil _ _⟩)⟩
  have hc := hspec.2 W (fun _ => none) args.toList (fun _ => True) ⟨hg, fun _ _ => trivial⟩ (nilObjs _ _ _ _) hargs
  refine Calls.mono hc fun e W' ⟨v, blk', he, _, hv, hheap, hsize', hsm⟩ => ?_
  subst he
  have hv' := hv.bool
  subst hv'
  have hkeep : ∀ b, b < W.heap.size → W'.heap[b]? = W.heap[b]? := fun b hb => hheap b hb (notLive_nil _ _)
  refine ⟨_, rfl, ds, [], p ++ [], [], p, [], hW', ?_, ?_, ?_, ?_, fun h => by cases h⟩
  · rw [List.append_nil, hs ds hlen, hres, hsz]
    exact Go.ChangeShapes.trodAll_mk1 (Go.RowKit.shut_bool hb true)
  · rw [List.append_nil, hs ds hlen]
    exact trodAll_stays hlaid hkeep _ _ _ _ hr hA
  · rw [hvars, List.append_nil, hs ds hlen]; rfl
  · refine ⟨hsm.1, hsm.2, fun i hi => ?_⟩
    rw [hkeep i hi]
    split <;> simp_all

/-- Then the law holds. -/
theorem law_lifted {C : Checked} {os : Os} {H : Type} {enc : TypeId × Value → H} {f : FuncId} {fn : Func} {s : ChangeSpec} {tb : TypeId}
    (own : ownKnob C.prog.godebug = none) (started : os.Started) (noInit : C.prog.inits.idxOf? f = none) (hfn : C.prog.funcs[f]? = some fn)
    (witness : ∃ (w : World) (tape : Tape) (i : Input), w.os = os ∧ (w.forCall tape i).Shaped C.prog ∧ i.vars = [] ∧ Input.okWide C.prog (w.forCall tape i) .any w.heap.size f i ∧
      s.pre6 enc C.prog fn [] false (w.forCall tape i).memory i.args ∧ ({} : Assume).holds C.prog (lone (Frame.enter C.prog f i.args .normal) [] (w.forCall tape i)))
    (hlaid : laidOutB C.prog = true) (hr : ∀ t ∈ fn.params.toList, C.prog.readableRec t = true ∧ t < C.prog.types.size)
    (hres : fn.resultTypes.toList = [tb]) (hsz : fn.resultTypes.size = 1) (hb : C.prog.underlying tb = some .bool)
    (hvars : s.vars = []) (hpl : s.plain.varTypes C.prog = []) (hs : ∀ ds : List (DataW H), ds.length = fn.params.toList.length → s.fn H ds = { results := [.lit (.bool true)], args := ds })
    (hread : ∀ (W : World) (base : Nat) (args : List Value) (ds : List (DataW H)) (ps : List MemPlace), (∀ (j : Nat) t v, fn.params[j]? = some t → args[j]? = some v → Value.okWide C.prog W .any base t v) → DataW.TrodAll enc C.prog W 0 (fun _ => true) true fn.params.toList args ds ps → (∀ n ∈ DataW.weightsEach C.prog fn.params.toList ds, n ≤ reachBytes) →
      ∃ pvs, RepL (Rep W (fun _ => True)) pvs args ∧ FnSpec C.prog f pvs [] (.bool true) [])
    (hg : ∀ W : World, glob.holds W.heap) :
    ReturnsInHanded {} C os f .any (s.pre6 enc C.prog fn [] false) (s.post enc C.prog fn false true false false) := by
  refine returnsInHanded_of_change_sized (C := C) own started noInit hfn witness ?_
  intro W base args ds gs before hval hW _ hsize _
  exact law_core hlaid hr hres hsz hb hvars hpl hs hread (hg W) hval hW hsize

/-- The same where variables are known. -/
theorem law_lifted2 {C : Checked} {os : Os} {H : Type} {enc : TypeId × Value → H} {f : FuncId} {fn : Func} {s : ChangeSpec} {tb : TypeId} {dom : List PathCond} {laid : List (String × DataW Unit)}
    (own : ownKnob C.prog.godebug = none) (started : os.Started) (noInit : C.prog.inits.idxOf? f = none) (hfn : C.prog.funcs[f]? = some fn)
    (witness : ∃ (w : World) (tape : Tape) (i : Input), w.os = os ∧ (w.forCall tape i).Shaped C.prog ∧ i.vars = [] ∧ Input.okWide C.prog (w.forCall tape i) .any w.heap.size f i ∧
      (OpenSpec.ofChange s).preRow enc C.prog fn dom false laid (w.forCall tape i).memory i.args ∧ ({} : Assume).holds C.prog (lone (Frame.enter C.prog f i.args .normal) [] (w.forCall tape i)))
    (hlaid : laidOutB C.prog = true) (hr : ∀ t ∈ fn.params.toList, C.prog.readableRec t = true ∧ t < C.prog.types.size)
    (hres : fn.resultTypes.toList = [tb]) (hsz : fn.resultTypes.size = 1) (hb : C.prog.underlying tb = some .bool)
    (hvars : s.vars = []) (hpl : s.plain.varTypes C.prog = []) (hs : ∀ ds : List (DataW H), ds.length = fn.params.toList.length → s.fn H ds = { results := [.lit (.bool true)], args := ds })
    (hread : ∀ (W : World) (base : Nat) (args : List Value) (ds : List (DataW H)) (ps : List MemPlace), (∀ (j : Nat) t v, fn.params[j]? = some t → args[j]? = some v → Value.okWide C.prog W .any base t v) → DataW.TrodAll enc C.prog W 0 (fun _ => true) true fn.params.toList args ds ps → (∀ n ∈ DataW.weightsEach C.prog fn.params.toList ds, n ≤ reachBytes) →
      ∃ pvs, RepL (Rep W (fun _ => True)) pvs args ∧ FnSpec C.prog f pvs [] (.bool true) [])
    (hg : ∀ W : World, laidMetH C.prog laid W → glob.holds W.heap) :
    ReturnsInHanded {} C os f .any ((OpenSpec.ofChange s).preRow enc C.prog fn dom false laid) (s.post enc C.prog fn false true false false) := by
  refine returnsInHanded_of_row (C := C) (s := OpenSpec.ofChange s) (F := fun _ _ => default) own started noInit hfn witness ?_
  intro W base args ds gs before hval hW _ _ hsize hL _ _
  exact law_core hlaid hr hres hsz hb hvars hpl hs hread (hg W hL) hval hW hsize

end Lp

/-! LpUse -/

namespace Lp
open Go
variable {P : Program} {D : TypeId → TInfo} {T : Know}

/-- What a function knows that is handed n objects of its caller. -/
def Know.use (T : Know) (n : Nat) : Know := { T with nx := n, top := false }

def Euse (n : Nat) : Env := fun _ _ V => ∀ w0, V w0 → w0.nx ≤ n

theorem KOk.use {n : Nat} (h : TabOk P T.fn) (hy : T.Y = fun _ _ _ => False) (hg : ∀ g cap ys, T.gives g cap ys → Gives P g cap ys) : KOk P none (Euse n) (T.use n) :=
  ⟨h, fun _ _ _ _ _ _ _ _ _ _ _ _ _ _ h => by
    have h' : T.Y _ _ _ := h
    rw [hy] at h'
    exact h'.elim, fun _ _ _ hE w0 hw => hE w0 hw, (fun h => by cases h), hg⟩

/-- A function ends: its one result, and the objects it leaves. -/
def retU (t : Nat) (r : PV) (objs' : List Obj) (e : Exit) (S : St) : Prop :=
  (e = .normal ∨ e = .ret) ∧ S.tmps.getD t .dead = r ∧ S.objs = objs'

theorem FnUse.of_body {f : FuncId} {fn : Func} {c : Code} {C : LC} {args : List PV} {r : PV} {objs objs' : List Obj} {t n : Nat} (hD : ∀ t, TOk P t (D t)) (hT : KOk P none (Euse objs.length) T) (hm : P.follows .mixedOrders = true)
    (hf : P.funcs[f]? = some fn) (hname : (fn.name == "runtime.NumGoroutine") = false) (hb : fn.body = some c) (hn : fn.ntmps = n) (hr : fn.results = #[.tmp t]) (hC : strip C = comp c) (hlen : objs'.length = objs.length)
    (h : wpc P D T C (retU t r objs') ⟨(startS args n).tmps, objs⟩) : FnUse P f args objs r objs' := by
  refine ⟨⟨fn, hf, hname, by rw [hb]; rfl⟩, hlen, fun base prot w0 tmps blk a w vs R hargs => ?_⟩
  have hpw : PW P none (Euse objs.length) c (retU t r objs') ⟨(startS args n).tmps, objs⟩ := wpc_sound hD hm C _ _ _ c _ _ hT hC h
  have hpp : ∀ b, prot b → b < w.heap.size ∧ notLive objs blk b := fun b hb => ⟨Nat.lt_of_lt_of_le (R.pr b hb) R.gr, fun k o h1 h2 h3 => R.objs.np k o b h1 h2 h3 hb⟩
  have hz : ∀ x ∈ tmps.zip a.tmps.toList, RepT w (okL base objs blk) objs blk x.1 x.2 := by
    intro x hx
    obtain ⟨i, hi, rfl⟩ := List.mem_iff_getElem.1 hx
    have hi' : i < tmps.length ∧ i < a.tmps.toList.length := by
      rw [List.length_zip] at hi
      omega
    rw [List.getElem_zip]
    have := R.tm i tmps[i] (List.getElem?_eq_getElem hi'.1)
    have e : a.tmps.getD i undef = a.tmps.toList[i] := by
      rw [Array.getD_eq_getD_getElem?, Array.getElem?_eq_getElem (by simpa using hi'.2)]; simp
    rw [e] at this
    exact this
  have R2 : Rel base (fun b => b < w.heap.size ∧ notLive objs blk b) ⟨w.heap, tmps.zip a.tmps.toList ++ w0.xs, objs.length, w⟩ ⟨(startS args n).tmps, objs⟩ blk { tmps := (⟨vs⟩ : Array Value) ++ Array.replicate (n - (⟨vs⟩ : Array Value).size) undef, defers := [] } w := by
    have hl := hargs.1
    have hext : ∀ x ∈ tmps.zip a.tmps.toList ++ w0.xs, RepT w (okL base objs blk) objs blk x.1 x.2 := fun x hx => by
      rcases List.mem_append.1 hx with hx | hx
      · exact hz x hx
      · exact R.ext x hx
    refine ⟨.nil _ _, ?_, fun t p hp => ?_, ⟨R.objs.ob, R.objs.dis, fun k o g h1 h2 h3 hp => hp.2 k o h1 h2 h3⟩, fun b hb => hb.1, fun _ _ => rfl, Nat.le_refl _, fun b hn => ?_, hext, fun x hx => repT_lt (hext x hx), .refl w, ⟨R.globOk, fun b hb => hpp b (R.gl.2 b hb)⟩⟩
    · simp [startS, hl]
    · simp only [startS] at hp
      rw [List.getElem?_append] at hp
      split at hp
      · rename_i ht
        obtain ⟨v, hv⟩ : ∃ v, vs[t]? = some v := ⟨vs[t]'(by omega), List.getElem?_eq_getElem (by omega)⟩
        have hg : ((⟨vs⟩ : Array Value) ++ Array.replicate (n - (⟨vs⟩ : Array Value).size) undef).getD t undef = v := by
          rw [Array.getD_eq_getD_getElem?, Array.getElem?_append, if_pos (by simpa using (by omega : t < vs.length))]
          simp [hv]
        rw [hg]
        exact hargs.2 t p v hp hv
      · rw [List.getElem?_replicate] at hp
        split at hp
        · cases hp; exact .dead _
        · cases hp
    · rcases Nat.lt_or_ge b w.heap.size with h1 | h1
      · refine R.pb b fun hp => hn (hpp b hp)
      · exact R.bs b (Nat.le_trans R.gr h1)
  have hw := hpw base _ (fun x => (⟨w.heap, tmps.zip a.tmps.toList ++ w0.xs, objs.length, w⟩ : Wz) = x) (by rintro z rfl; exact Nat.le_refl _) _ _ _ ⟨_, rfl, R2⟩
  rw [← callsIn_wide (n := 0)]
  refine callsIn_of_wp_marks hf hb trivial ?_
  rw [hn]
  refine wpIn_mono hw ?_
  rintro e a' w' ⟨S', blk', ⟨he, ho, hobj⟩, _, rfl, R'⟩
  have key : ∀ w', Rel base (fun b => b < w.heap.size ∧ notLive objs blk b) ⟨w.heap, tmps.zip a.tmps.toList ++ w0.xs, objs.length, w⟩ S' blk' { a' with defers := [] } w' →
      ∃ v, (results fn a'.tmps).run P w' = .ok v w' ∧ (∃ v' blk', Ending.returned v = .returned v' ∧ Rel base prot w0 ⟨tmps, objs'⟩ blk' a w' ∧ RepT w' (okL base objs' blk') objs' blk' r v') := by
    intro w' R'
    have hx := R'.ev (.tmp t)
    change RepT w' _ _ blk' (S'.tmps.getD t .dead) (a'.tmps.getD t undef) at hx
    rw [ho, hobj] at hx
    refine ⟨_, results_tmp hr _ _ _, _, blk', rfl, ?_, hx⟩
    have hpr : ∀ b, b < w.heap.size ∧ notLive objs blk b → w'.heap[b]? = w.heap[b]? := fun b hb => R'.fr b hb
    obtain ⟨Ds, e1, e2, e3⟩ := R.nodef
    have ob := R'.objs
    have ex := R'.ext
    rw [hobj] at ob ex
    refine ⟨⟨Ds, e1, e2, fun b hb => ?_⟩, R.tsz, fun t p hp => ?_, ⟨ob.ob, ob.dis, fun k o g h1 h2 h3 hp => ob.np k o g h1 h2 h3 (hpp g hp)⟩, R.pr, fun b hb => ?_, Nat.le_trans R.gr R'.gr, R.pb, fun x hx => ex x (List.mem_append_right _ hx), R.exn, R.sm.trans R'.sm, R.gl⟩
    · obtain ⟨h1, h2, h3⟩ := e3 b hb
      have hpb : b < w.heap.size ∧ notLive objs blk b := ⟨(Array.getElem?_eq_some_iff.1 h1).1, h2.2⟩
      exact ⟨by rw [hpr b hpb]; exact h1, ⟨h2.1, fun k o g1 g2 g3 => ob.np k o b g1 g2 g3 hpb⟩, h3⟩
    · refine ex (p, a.tmps.getD t undef) (List.mem_append_left _ ?_)
      have hlt : t < tmps.length := (List.getElem?_eq_some_iff.1 hp).1
      have htz : t < a.tmps.size := by rw [R.tsz]; exact hlt
      refine List.mem_iff_getElem.2 ⟨t, by rw [List.length_zip, Array.length_toList]; exact Nat.lt_min.2 ⟨hlt, htz⟩, ?_⟩
      rw [List.getElem_zip]
      have e : a.tmps.getD t undef = a.tmps.toList[t]'(by simpa using htz) := by
        rw [Array.getD_eq_getD_getElem?, Array.getElem?_eq_getElem htz]; simp
      rw [e, (List.getElem?_eq_some_iff.1 hp).2]
    · rw [hpr b (hpp b hb)]; exact R.fr b hb
  rcases he with rfl | rfl <;> exact leaves_of _ _ R' key

theorem FnOk.use {f : FuncId} {n t : Nat} {C : LC} {args : List PV} {r : PV} {objs objs' : List Obj} (h : FnOk P f n [.tmp t] C) (hD : ∀ t, TOk P t (D t)) (hT : TabOk P T.fn) (hy : T.Y = fun _ _ _ => False)
    (hg : ∀ g cap ys, T.gives g cap ys → Gives P g cap ys) (hm : P.follows .mixedOrders = true) (hlen : objs'.length = objs.length)
    (hw : wpc P D (T.use objs.length) C (retU t r objs') ⟨(startS args n).tmps, objs⟩) : FnUse P f args objs r objs' := by
  obtain ⟨fn, c, h1, h2, h3, h4, h5, h6⟩ := h
  exact FnUse.of_body hD (.use hT hy hg) hm h1 h2 h3 h4 h5 h6 hlen hw

end Lp

/-! LpRes -/

namespace Lp
open Go
variable {P : Program} {D : TypeId → TInfo} {T : Know}

/-- Whatever is like p is like q. -/
def Tells (p q : PV) : Prop := ∀ (w : World) (ok : Nat → Prop) (v : Value), Rep w ok p v → Rep w ok q v

theorem Tells.refl (p : PV) : Tells p p := fun _ _ _ h => h

theorem tells_nil (sz sz' : Nat) : Tells (.sl sz [] (some true)) (.sl sz' [] none) := by
  intro w ok v h
  cases h with
  | slnil _ _ _ => exact .slnil sz' none (by decide)
  | slz _ _ hq => exact absurd rfl hq
  | sl _ _ _ hq => exact absurd rfl hq

theorem Tells.agg {ps qs : List PV} (hl : ps.length = qs.length) (h : ∀ (i : Nat) (p q : PV), ps[i]? = some p → qs[i]? = some q → Tells p q) : Tells (.agg ps) (.agg qs) := by
  intro w ok v hr
  cases hr with
  | agg _ vs hl' hh =>
    refine .agg _ _ (by omega) fun i q u hq hu => ?_
    have hi : i < ps.length := by rw [hl]; exact (List.getElem?_eq_some_iff.1 hq).1
    exact h i _ q (List.getElem?_eq_getElem hi) hq w ok u (hh i _ u (List.getElem?_eq_getElem hi) hu)

theorem Tells.tup {ps qs : List PV} (hl : ps.length = qs.length) (h : ∀ (i : Nat) (p q : PV), ps[i]? = some p → qs[i]? = some q → Tells p q) : Tells (.tup ps) (.tup qs) := by
  intro w ok v hr
  cases hr with
  | tup _ vs hl' hh =>
    refine .tup _ _ (by omega) fun i q u hq hu => ?_
    have hi : i < ps.length := by rw [hl]; exact (List.getElem?_eq_some_iff.1 hq).1
    exact h i _ q (List.getElem?_eq_getElem hi) hq w ok u (hh i _ u (List.getElem?_eq_getElem hi) hu)

theorem tells2 {f : List PV → PV} (hf : f = PV.agg ∨ f = PV.tup) {a b c d : PV} (h1 : Tells a c) (h2 : Tells b d) : Tells (f [a, b]) (f [c, d]) := by
  have key : ∀ (i : Nat) (p q : PV), [a, b][i]? = some p → [c, d][i]? = some q → Tells p q := by
    intro i p q hp hq
    match i with
    | 0 => cases hp; cases hq; exact h1
    | 1 => cases hp; cases hq; exact h2
    | _ + 2 => simp at hp
  rcases hf with rfl | rfl
  · exact .agg rfl key
  · exact .tup rfl key

theorem FnSpec.res {f : FuncId} {args : List PV} {objs : List Obj} {r r' : PV} (h : FnSpec P f args objs r []) (ht : Tells r r') : FnSpec P f args objs r' [] := by
  refine ⟨h.1, fun w blk vs base hb R ha => (h.2 w blk vs base hb R ha).mono ?_⟩
  rintro e w' ⟨v, blk', h1, h2, h3, h4⟩
  exact ⟨v, blk', h1, h2, .of_rep (ht _ _ _ (repT_nil h3)), h4⟩

theorem FnSpec.arg {f : FuncId} {args args' : List PV} {r : PV} {objs' : List Obj} (h : FnSpec P f args [] r objs') (hl : args'.length = args.length) (ht : ∀ (i : Nat) (p q : PV), args'[i]? = some p → args[i]? = some q → Tells p q) : FnSpec P f args' [] r objs' := by
  refine ⟨h.1, fun w blk vs base hb R ha => h.2 w blk vs base hb R ⟨by rw [← hl]; exact ha.1, fun i q v hq hv => ?_⟩⟩
  have hi : i < args'.length := by rw [hl]; exact (List.getElem?_eq_some_iff.1 hq).1
  exact .of_rep (ht i _ q (List.getElem?_eq_getElem hi) hq _ _ _ (repT_nil (ha.2 i _ v (List.getElem?_eq_getElem hi) hv)))

/-- A slice, the first argument, is nil, or not. -/
theorem FnSpec.nil0 {f : FuncId} {sz : Nat} {xs : List PV} {rest : List PV} {r : PV} {objs' : List Obj} (h1 : FnSpec P f (.sl sz xs (some false) :: rest) [] r objs') (h2 : xs = [] → FnSpec P f (.sl sz [] (some true) :: rest) [] r objs') :
    FnSpec P f (.sl sz xs none :: rest) [] r objs' := by
  refine ⟨h1.1, fun w blk vs base hb R ha => ?_⟩
  obtain ⟨hl, hh⟩ := ha
  match vs, hl with
  | v :: vs, hl =>
    have hr := repT_nil (hh 0 _ v rfl rfl)
    have fin : ∀ p, Rep w (okL base [] blk) p v → RepL (RepT w (okL base [] blk) [] blk) (p :: rest) (v :: vs) := by
      intro p hp
      refine ⟨by simpa using hl, fun i q u hq hu => ?_⟩
      match i with
      | 0 => cases hq; cases hu; exact .of_rep hp
      | i + 1 => exact hh (i + 1) q u hq hu
    cases hr with
    | slnil _ _ hq => exact (h2 rfl).2 w blk _ base hb R (fin _ (.slnil sz (some true) (by decide)))
    | slz _ _ hq a cap hc => exact h1.2 w blk _ base hb R (fin _ (.slz sz (some false) (by decide) a cap hc))
    | sl _ _ _ hq b off cap us hok hlen hcap hsz hcell hrep => exact h1.2 w blk _ base hb R (fin _ (.sl sz xs (some false) (by decide) b off cap us hok hlen hcap hsz hcell hrep))

/-- As FnOk.pureG, for results of which the first lies in a variable. -/
theorem FnOk.pureC {f : FuncId} {n t : Nat} {ty : TypeId} {C : LC} {args : List PV} {r : PV} (h : FnOk P f n [.cell t ty] C) (d : Nat) (hD : ∀ t, TOk P t (D t)) (hT : KOk P none Etop T) (hm : P.follows .mixedOrders = true) (ht : t < n)
    (hw : ∀ Q : Exit → St → Prop, (∀ l ob, Q .ret ⟨tmA n l, ob⟩ = loadR (D ty) (lkA l t) ob fun p _ _ => r = frzT d 0 ob p) → wpc P D T C Q (startS args n)) : FnSpec P f args [] r [] := by
  refine h.pure d hD hT hm (by simp) (hw _ fun l ob => ?_)
  simp only [retR, outL, taR2.2.1 n l t ht, List.map_cons, List.map_nil, onePV]

theorem FnOk.pureC2 {f : FuncId} {n t u : Nat} {ty : TypeId} {C : LC} {args : List PV} {r : PV} (h : FnOk P f n [.cell t ty, .tmp u] C) (d : Nat) (hD : ∀ t, TOk P t (D t)) (hT : KOk P none Etop T) (hm : P.follows .mixedOrders = true) (ht : t < n) (hu : u < n)
    (hw : ∀ Q : Exit → St → Prop, (∀ l ob, Q .ret ⟨tmA n l, ob⟩ = loadR (D ty) (lkA l t) ob fun p _ _ => r = .tup [frzT d 0 ob p, frzT d 0 ob (lkA l u)]) → wpc P D T C Q (startS args n)) : FnSpec P f args [] r [] := by
  refine h.pure d hD hT hm (by simp) (hw _ fun l ob => ?_)
  simp only [retR, outL, taR2.2.1 n l t ht, taR2.2.1 n l u hu, List.map_cons, List.map_nil, onePV]

theorem FnOk.pureC3 {f : FuncId} {n t u x : Nat} {ty : TypeId} {C : LC} {args : List PV} {r : PV} (h : FnOk P f n [.cell t ty, .tmp u, .tmp x] C) (d : Nat) (hD : ∀ t, TOk P t (D t)) (hT : KOk P none Etop T) (hm : P.follows .mixedOrders = true) (ht : t < n) (hu : u < n) (hx : x < n)
    (hw : ∀ Q : Exit → St → Prop, (∀ l ob, Q .ret ⟨tmA n l, ob⟩ = loadR (D ty) (lkA l t) ob fun p _ _ => r = .tup [frzT d 0 ob p, frzT d 0 ob (lkA l u), frzT d 0 ob (lkA l x)]) → wpc P D T C Q (startS args n)) : FnSpec P f args [] r [] := by
  refine h.pure d hD hT hm (by simp) (hw _ fun l ob => ?_)
  simp only [retR, outL, taR2.2.1 n l t ht, taR2.2.1 n l u hu, taR2.2.1 n l x hx, List.map_cons, List.map_nil, onePV]

/-- How a function ends that hands back a slice of its own, out of simp's sight. -/
structure EndM (d t : Nat) (o' : Obj) (S : St) : Prop where
  h : retM d t o' .ret S

theorem endM {d t n : Nat} {o' : Obj} {l : List (Nat × PV)} {ob : List Obj} {k ver : Nat} {o : Obj} (h1 : (tmA n l).getD t .dead = .osl k ver) (h2 : ob[k]? = some o) (h3 : o.live = true) (h4 : o.ver = ver) (h5 : { frzO d (k + 1) ob o with ver := 0 } = o') (h6 : NoRefs [o']) : EndM d t o' ⟨tmA n l, ob⟩ :=
  ⟨.inr rfl, _, k, ver, o, Weak.refl _ _, h1, h2, h3, h4, h5, h6⟩

theorem FnOk.madeG {f : FuncId} {n t : Nat} {C : LC} {args : List PV} {o' : Obj} (h : FnOk P f n [.tmp t] C) (d : Nat) (hD : ∀ t, TOk P t (D t)) (hT : KOk P none Etop T) (hm : P.follows .mixedOrders = true)
    (hw : ∀ Q : Exit → St → Prop, (∀ l ob, Q .ret ⟨tmA n l, ob⟩ = EndM d t o' ⟨tmA n l, ob⟩) → wpc P D T C Q (startS args n)) : FnSpec P f args [] (.osl 0 0) [o'] :=
  h.made d hD hT hm (hw _ fun l ob => propext ⟨fun h => ⟨h⟩, fun h => h.h⟩)

/-- As EndM, with numbers, truths, texts behind, out of results that may lie in variables. -/
structure EndN (D : TypeId → TInfo) (d : Nat) (rs : List ResultVar) (qs : List PV) (o' : Obj) (S : St) : Prop where
  h : retN D d rs qs o' .ret S

theorem endN {d n k : Nat} {rs : List ResultVar} {qs : List PV} {o' : Obj} {l : List (Nat × PV)} {ob : List Obj} {o : Obj} (h1 : ob[k]? = some o) (h2 : o.live = true) (h3 : outL D ⟨tmA n l, ob⟩ rs (fun ps => ps = .osl k o.ver :: qs)) (h4 : outO1 d k ⟨tmA n l, ob⟩ o = o') (h5 : NoRefs [o']) (h6 : qs.all PV.atom = true) : EndN D d rs qs o' ⟨tmA n l, ob⟩ :=
  ⟨.inr rfl, _, k, o, Weak.refl _ _, h3, h1, h2, h4, h5, h6⟩

theorem FnOk.madeNG {f : FuncId} {n : Nat} {rs : List ResultVar} {C : LC} {args : List PV} {qs : List PV} {o' : Obj} (h : FnOk P f n rs C) (d : Nat) (hD : ∀ t, TOk P t (D t)) (hT : KOk P none Etop T) (hm : P.follows .mixedOrders = true) (hl : rs.length ≤ 3)
    (hw : ∀ Q : Exit → St → Prop, (∀ l ob, Q .ret ⟨tmA n l, ob⟩ = EndN D d rs qs o' ⟨tmA n l, ob⟩) → wpc P D T C Q (startS args n)) : FnSpec P f args [] (onePV (.osl 0 0 :: qs)) [o'] :=
  h.madeN d hD hT hm hl (hw _ fun l ob => propext ⟨fun h => ⟨h⟩, fun h => h.h⟩)

theorem froze_rep {base prot : Nat → Prop} {w' : World} {blk' : Nat → Option Nat} {o : Obj} {v : Value} (h2 : ObjsRel base prot [o] blk' w') (h3 : RepS w' (okL base [o] blk') [o] blk' (.osl 0 0) v) (hb : ∀ b, ¬ prot b → base b) (hl : o.live = true) (hv : o.ver = 0) (hn : NoRefs [o]) :
    Rep w' (okL base [] blk') (.sl o.sz o.xs none) v := by
  obtain ⟨_, o1, g1, _, g3⟩ := h3
  cases g1
  obtain ⟨hM, hh⟩ := g3 hl hv
  have ho := h2.ob 0 o rfl hl
  unfold Hdr at hh
  unfold ObjRep at ho
  cases hg : blk' 0 with
  | none => rw [hg] at hh; rw [hh.1, hh.2]; exact .slnil _ _ (by decide)
  | some g =>
    rw [hg] at hh ho
    obtain ⟨cap, c, rfl, x1, x2, x3, x4⟩ := hh
    obtain ⟨c', y1, y2, y3⟩ := ho
    rw [hobj_ne hM] at y1
    rw [x1] at y1; cases y1
    have hgb : base g := hb g (h2.np 0 o g rfl hl hg)
    refine .sl o.sz o.xs none (by decide) g 0 cap (fun i j => (c[i * o.sz + j]?).getD undef) (fun _ => ⟨⟨hgb, notLive_nil _ _⟩, (Array.getElem?_eq_some_iff.1 x1).1⟩) x2 x3 (fun i x hx => (y3 i x hx).1) ?_ ?_
    · intro i x j p hx hp
      obtain ⟨u, u1, _⟩ := (y3 i x hx).2 j p hp
      simp [World.cell?, x1, u1]
    · intro i x j p hx hp
      obtain ⟨u, u1, u2⟩ := (y3 i x hx).2 j p hp
      rw [u1, Option.getD_some]
      exact (u2.rep (hn o (by simp) x (List.mem_of_getElem? hx) p (List.mem_of_getElem? hp))).anyOk fun b _ hb => ⟨hb.1, notLive_nil _ _⟩

theorem new_base {base : Nat → Prop} {w : World} {blk : Nat → Option Nat} (hb : glob.holds w.heap ∧ ∀ b, w.heap.size ≤ b → base b) (b : Nat) (h : ¬ (b < w.heap.size ∧ notLive [] blk b)) : base b :=
  hb.2 b (Nat.not_lt.1 fun q => h ⟨q, notLive_nil _ _⟩)

/-- An owned slice that is handed back, as what it holds. -/
theorem FnSpec.froze {f : FuncId} {args : List PV} {o : Obj} (h : FnSpec P f args [] (.osl 0 0) [o]) (hl : o.live = true) (hv : o.ver = 0) (hn : NoRefs [o]) : FnSpec P f args [] (.sl o.sz o.xs none) [] := by
  refine ⟨h.1, fun w blk vs base hb R ha => (h.2 w blk vs base hb R ha).mono ?_⟩
  rintro e w' ⟨v, blk', h1, h2, h3, h4⟩
  exact ⟨v, blk', h1, nilObjs _ _ _ _, .of_rep (froze_rep h2 h3 (new_base hb) hl hv hn), h4⟩

theorem FnSpec.froze2 {f : FuncId} {args : List PV} {o : Obj} {q : PV} (h : FnSpec P f args [] (.tup [.osl 0 0, q]) [o]) (hq : q.flat1 = true) (hl : o.live = true) (hv : o.ver = 0) (hn : NoRefs [o]) : FnSpec P f args [] (.tup [.sl o.sz o.xs none, q]) [] := by
  refine ⟨h.1, fun w blk vs base hb R ha => (h.2 w blk vs base hb R ha).mono ?_⟩
  rintro e w' ⟨v, blk', h1, h2, ⟨us, rfl, h3, h5⟩, h4⟩
  refine ⟨_, blk', h1, nilObjs _ _ _ _, ⟨us, rfl, h3, fun i p u hp hu => ?_⟩, h4⟩
  match i with
  | 0 => cases hp; exact .of_rep (froze_rep h2 (h5 0 _ u rfl hu) (new_base hb) hl hv hn)
  | 1 => cases hp; exact .of_rep (rep_flat1 hq ((h5 1 _ u rfl hu).rep (flat1_ref hq)))
  | i + 2 => simp at hp

theorem FnOk.useG {f : FuncId} {n t : Nat} {C : LC} {args : List PV} {r : PV} {objs objs' : List Obj} (h : FnOk P f n [.tmp t] C) (hD : ∀ t, TOk P t (D t)) (hT : TabOk P T.fn) (hy : T.Y = fun _ _ _ => False)
    (hg : ∀ g cap ys, T.gives g cap ys → Gives P g cap ys) (hm : P.follows .mixedOrders = true) (hlen : objs'.length = objs.length) (ht : t < n)
    (hw : ∀ Q : Exit → St → Prop, (∀ l ob, Q .ret ⟨tmA n l, ob⟩ = (lkA l t = r ∧ ob = objs')) → wpc P D (T.use objs.length) C Q ⟨(startS args n).tmps, objs⟩) : FnUse P f args objs r objs' := by
  refine h.use hD hT hy hg hm hlen (hw _ fun l ob => ?_)
  simp only [retU, taR2.2.1 n l t ht]
  simp

/-- A table of contracts, as what a function knows that is handed n objects of its caller. -/
theorem knU (l : List (FuncId × Ctr)) (n : Nat) : (((tabL P l).use n).noY = (tabL P l).use n) ∧ (((tabL P l).use n).fn = tabF l) ∧ (((tabL P l).use n).nx = n) := ⟨rfl, rfl, rfl⟩

@[congr] theorem convO_congr {s t : TypeId} {x x' : PV} {objs objs' : List Obj} {K : KT} (h : x = x') (ho : objs = objs') : convO D s t x objs K = convO D s t x' objs' K := by rw [h, ho]
@[congr] theorem nilCheckR_congr' {x x' : PV} {objs objs' : List Obj} {K : KT} (h : x = x') (ho : objs = objs') : nilCheckR x objs K = nilCheckR x' objs' K := by rw [h, ho]

end Lp

/-! LpW20 -/

namespace Lp
open Go Go.Proofs

set_option maxHeartbeats 4000000
set_option maxRecDepth 20000
set_option linter.unusedSimpArgs false

theorem nodeZ : PV.ofV (.agg ⟨[.int .i64 0, .int .i64 0, .string ⟨⟨[]⟩⟩, .string ⟨⟨[]⟩⟩, .bool false, .int .i64 0]⟩) = encN ⟨0, 0, [], [], false, 0⟩ := rfl
theorem nodeW (a : Nd) (k m : Int) (x y : List UInt8) (g : Bool) (e : Int) : (encN a).putCells 0 [.int .i64 k, .int .i64 m, .str x, .str y, .bool g, .int .i64 e] = encN ⟨k, m, x, y, g, e⟩ := rfl
theorem rowA2 (n : Nd) (r : Vl) : (∀ y, y ∈ encN n :: r.map encN → y.cells.length = 6 ∧ y.cells.all PV.storable = true) = True := by
  have := rowA (enc := encN) (sz := 6) (fun _ => rfl) (fun _ => rfl) (n :: r)
  rwa [List.map_cons] at this

theorem own_spec (v : Vl) (i j : Nat) (hij : i < j) (hj : j ≤ v.length) (hl : v.length ≤ 1000000) : FnSpec Tryd.prog f_louperef02_own [encV v, .int .i64 i, .int .i64 j] [] (encV (clr ((v.take j).drop i))) [] := by
  obtain ⟨n, r, hnr⟩ : ∃ n r, (v.take j).drop i = n :: r := by
    cases h : (v.take j).drop i with
    | nil => have := congrArg List.length h; simp at this; omega
    | cons n r => exact ⟨n, r, rfl⟩
  have hlen : ((v.take j).drop i).length ≤ 1000000 := by simp; omega
  rw [hnr] at hlen ⊢
  simp only [List.length_cons] at hlen
  have zi : (0 ≤ (i : Int)) = True := eq_true (by omega)
  have c1 : ((i : Int) ≤ (j : Int)) = True := eq_true (by omega)
  have c2 : ((j : Int) ≤ (v.length : Int)) = True := eq_true (by omega)
  refine k_louperef02_own.pureG (T := tabL Tryd.prog []) 1 hD (kOk_tabL tabOk_nil) hmix (by decide) fun Q hQ => ?_
  try simp only [F_all]
  simp (maxSteps := 400000) only [↓preZ, postZ, coreZ, ↓preU, postU, D_all, F_all, unR, outL, onePV, binS, ↓binS, boundR, ↓boundR, fieldOf, ↓fieldOf, boxR, allocR, newObj, zeroElem, buildSliceR, appendR, setAll, storeR, St.freeze, makeSliceR, minmaxR, makeFuncR, BEq.rfl, reduceIte, reduceCtorEq, Nat.reduceLT, Nat.reduceAdd, Nat.reduceSub, Nat.reduceMul, Nat.reduceBEq, Nat.reduceLeDiff, Int.reduceToNat, Int.reduceLE, hQ, c_louperef02_own, zi, c1, c2, hnr, nodeZ, nodeW, rowA2, List.set_cons_zero]
  exact ⟨by omega, by omega, by omega, by omega, ((frzRow hV inN).1 _ _ (clr (n :: r)) 2 _).symm⟩

theorem own_spec' (v : Vl) (i j : Int) (h : 0 ≤ i ∧ i < j ∧ j ≤ v.length) (hl : v.length ≤ 1000000) : FnSpec Tryd.prog f_louperef02_own [encV v, .int .i64 i, .int .i64 j] [] (encV (clr ((v.take j.toNat).drop i.toNat))) [] := by
  have e1 : i = (i.toNat : Int) := by omega
  have e2 : j = (j.toNat : Int) := by omega
  have := own_spec v i.toNat j.toNat (by omega) (by omega) hl
  rw [← e1, ← e2] at this
  exact this

def ctrOwn : Ctr := fun args objs K => match args with
  | [a0, .int .i64 i, .int .i64 j] => ofE encV a0 (HK.mk : HK fun v => (0 ≤ i ∧ i < j ∧ j ≤ v.length) ∧ (v.length ≤ 1000000) ∧ K (encV (clr ((v.take j.toNat).drop i.toNat))) objs 0)
  | _ => False
theorem ctrOwn_ok : CtrOk Tryd.prog f_louperef02_own (ctrOwn) := by
  intro args objs K h
  unfold ctrOwn at h
  split at h
  · rename_i a0 i j
    obtain ⟨v, rfl, h1, h2, hk⟩ := h
    exact ⟨_, _, _, .pure _ rfl (own_spec' v i j h1 h2), hk⟩
  · exact h.elim

theorem skip_nxt (L : Nat) : ∀ (v : Vl) (k c : Nat), skip v k = some c → c ≤ L → nxt L v k = some c
  | v, 0, c, h, _ => by cases v <;> simpa [nxt, skip] using h
  | [], k + 1, c, h, _ => by simp [skip] at h
  | n :: v, k + 1, c, h, hc => by
    obtain ⟨hm, c', rfl, h'⟩ := skip_step h
    have := skip_le _ _ _ h'
    rw [nxt, if_neg (by omega), skip_nxt L v _ c' h' (by omega)]; rfl

/-- Rows of values, and of texts, owned. -/
def valO (l : List Vl) (ver : Nat) : Obj := ⟨t_api_Val, 1, l.map encV, true, ver⟩
def strO (l : List (List UInt8)) (ver : Nat) : Obj := ⟨t_string, 1, l.map .str, true, ver⟩
theorem frzO_vals (d n : Nat) (O : List Obj) (t : TypeId) (sz : Nat) (l : List Vl) (ver : Nat) : frzO d n O ⟨t, sz, l.map encV, true, ver⟩ = ⟨t, sz, l.map encV, true, ver⟩ := by
  have : (l.map encV).map (PV.mapCells (frz d n O)) = l.map encV := by
    rw [List.map_map]
    exact List.map_congr_left fun x _ => rfl
  simp only [frzO, this]
theorem frzO_strs (d n : Nat) (O : List Obj) (t : TypeId) (sz : Nat) (l : List (List UInt8)) (ver : Nat) : frzO d n O ⟨t, sz, l.map .str, true, ver⟩ = ⟨t, sz, l.map .str, true, ver⟩ := by
  have : (l.map PV.str).map (PV.mapCells (frz d n O)) = l.map PV.str := by
    rw [List.map_map]
    exact List.map_congr_left fun x _ => rfl
  simp only [frzO, this]
theorem valO_refs (l : List Vl) (ver : Nat) : NoRefs [valO l ver] := by
  intro o ho x hx c hc
  simp only [List.mem_singleton] at ho; subst ho
  obtain ⟨y, _, rfl⟩ := List.mem_map.1 hx
  simp only [encV, PV.cells, List.mem_singleton] at hc
  subst hc; rfl
theorem strO_refs (l : List (List UInt8)) (ver : Nat) : NoRefs [strO l ver] := by
  intro o ho x hx c hc
  simp only [List.mem_singleton] at ho; subst ho
  obtain ⟨y, _, rfl⟩ := List.mem_map.1 hx
  simp only [PV.cells, List.mem_singleton] at hc
  subst hc; rfl

theorem refParts_made (v : Vl) (ho : One v) (hl : v.length ≤ 1000000) : FnSpec Tryd.prog f_louperef02_Parts [encV v] [] (.osl 0 0) [valO (partsV v) 0] := by
  obtain ⟨n, r, hv⟩ : ∃ n r, v = n :: r := by
    cases v with
    | nil => exact absurd rfl ho.ne
    | cons n r => exact ⟨n, r, rfl⟩
  have ho' := ho
  rw [hv] at ho'
  obtain ⟨hm, ps, hp, hfl, hps⟩ := ho'.parts
  have hpl := parts_len _ _ _ hp
  have hg0 : v[0]? = some n := by rw [hv]; rfl
  have hr : partsV v = ps.map clr := by rw [hv, partsV]; exact (partsOf_eq hp).1
  have hmn : n.many = (ps.length : Int) := by omega
  have hd1 : v.drop 1 = r := by rw [hv]; rfl
  have hple := parts_le _ _ _ hp
  have hrl : r.length + 1 = v.length := by rw [hv]; rfl
  rw [hr]
  refine k_louperef02_Parts.madeG (T := tabL Tryd.prog [(f_louperef02_Next, ctrNext), (f_louperef02_own, ctrOwn)]) 1 hD (kOk_tabL (tabOk_cons ctrNext_ok (tabOk_cons ctrOwn_ok tabOk_nil))) hmix fun Q hQ => ?_
  try simp only [F_all]
  simp (maxSteps := 400000) only [↓preZ, postZ, coreZ, ↓preU, postU, D_all, F_all, unR, outL, onePV, binS, ↓binS, boundR, ↓boundR, fieldOf, ↓fieldOf, boxR, allocR, newObj, zeroElem, buildSliceR, appendR, setAll, storeR, St.freeze, makeSliceR, minmaxR, makeFuncR, BEq.rfl, reduceIte, reduceCtorEq, Nat.reduceLT, Nat.reduceAdd, Nat.reduceSub, Nat.reduceMul, Nat.reduceBEq, Nat.reduceLeDiff, Int.reduceToNat, Int.reduceLE, hQ, c_louperef02_Parts]
  refine wpc_loop (fun m S => ∃ (i ver : Nat) (done : List Vl) (rest : List Vl), m = rest.length ∧ done.length + rest.length = ps.length ∧ done ++ rest.map clr = ps.map clr ∧ parts rest.length (v.drop i) = some rest ∧
    S = ⟨tmA 28 [(0, encV v), (3, .osl 0 ver), (4, .int .i64 i), (5, .int .i64 done.length)], [⟨t_api_Val, 1, done.map encV, true, ver⟩]⟩) ps.length ⟨1, 1, [], ps, rfl, by simp, rfl, by rw [hd1, hpl]; exact hp, ?_⟩ ?_
  · simp only [normR, keepR, Nat.reduceAdd, lkR, Nat.reduceBEq, F_all, List.map_nil]
    rfl
  rintro m S ⟨i, ver, done, rest, rfl, hdl, hdr, hrp, rfl⟩
  cases rest with
  | nil =>
    simp only [List.length_nil, Nat.add_zero] at hdl
    have hlt : ((done.length : Int) < (ps.length : Int)) = False := eq_false (by omega)
    simp only [List.map_nil, List.append_nil] at hdr
    simp (maxSteps := 400000) only [↓preZ, postZ, coreZ, ↓preU, postU, D_all, F_all, unR, outL, onePV, binS, ↓binS, boundR, ↓boundR, fieldOf, ↓fieldOf, boxR, allocR, newObj, zeroElem, buildSliceR, appendR, setAll, storeR, St.freeze, makeSliceR, minmaxR, makeFuncR, BEq.rfl, reduceIte, reduceCtorEq, Nat.reduceLT, Nat.reduceAdd, Nat.reduceSub, Nat.reduceMul, Nat.reduceBEq, Nat.reduceLeDiff, Int.reduceToNat, Int.reduceLE, hQ, hg0, hmn, hlt]
    rw [hdr]
    exact endM (k := 0) (ver := ver) rfl rfl rfl rfl (congrArg (fun o : Obj => { o with ver := 0 }) (frzO_vals 1 1 _ t_api_Val 1 (ps.map clr) ver)) (valO_refs _ 0)
  | cons p qs =>
    obtain ⟨c, qs', h1, h2, h3⟩ := parts_step (k := qs.length) hrp
    simp only [List.cons.injEq] at h2
    obtain ⟨hp1, rfl⟩ := h2
    simp only [List.length_cons] at hdl
    have hlt : ((done.length : Int) < (ps.length : Int)) = True := eq_true (by omega)
    have hc := skip_le _ _ _ h1
    simp only [List.length_drop] at hc
    have hnx : nextI v i = (i + c : Nat) := nextI_of (skip_nxt _ _ _ _ h1 (by omega))
    have zi : (0 ≤ (i : Int)) = True := eq_true (by omega)
    simp (maxSteps := 400000) only [↓preZ, postZ, coreZ, ↓preU, postU, D_all, F_all, unR, outL, onePV, binS, ↓binS, boundR, ↓boundR, fieldOf, ↓fieldOf, boxR, allocR, newObj, zeroElem, buildSliceR, appendR, setAll, storeR, St.freeze, makeSliceR, minmaxR, makeFuncR, BEq.rfl, reduceIte, reduceCtorEq, Nat.reduceLT, Nat.reduceAdd, Nat.reduceSub, Nat.reduceMul, Nat.reduceBEq, Nat.reduceLeDiff, Int.reduceToNat, Int.reduceLE, hQ, hg0, hmn, hlt, ↓ctrNext, ↓ctrOwn, hnx, zi]
    have hpe : List.drop i (List.take (i + c) v) = p := by
      rw [List.drop_take, hp1, show i + c - i = c by omega]
    have happ : List.map encV done ++ [encV (clr p)] = List.map encV (done ++ [clr p]) := by simp
    rw [hpe, happ]
    refine ⟨by omega, hl, ⟨by omega, by omega⟩, hl, by omega, by omega, ⟨by omega, by omega⟩, qs.length, by omega, i + c, ver + 1, done ++ [clr p], qs, rfl, ?_, ?_, ?_, ?_⟩
    · simp only [List.length_append, List.length_cons, List.length_nil]; omega
    · rw [← hdr]; simp
    · rw [← List.drop_drop]; exact h3
    · simp only [List.length_append, List.length_cons, List.length_nil, Nat.zero_add, Int.natCast_add, Int.cast_ofNat_Int, Int.natCast_one]

theorem refParts_spec (v : Vl) (ho : One v) (hl : v.length ≤ 1000000) : FnSpec Tryd.prog f_louperef02_Parts [encV v] [] (encL (partsV v)) [] :=
  (refParts_made v ho hl).froze rfl rfl (valO_refs _ 0)

def ctrRefParts : Ctr := fun args objs K => match args with
  | [a0] => ofE encV a0 (HK.mk : HK fun v => (One v) ∧ (v.length ≤ 1000000) ∧ K (encL (partsV v)) objs 0)
  | _ => False
theorem ctrRefParts_ok : CtrOk Tryd.prog f_louperef02_Parts (ctrRefParts) := by
  intro args objs K h
  unfold ctrRefParts at h
  split at h
  · rename_i a0
    obtain ⟨v, rfl, h1, h2, hk⟩ := h
    exact ⟨_, _, _, .pure _ rfl (refParts_spec v h1 h2), hk⟩
  · exact h.elim

theorem refNamesOf_made (v : Vl) (ho : One v) (hl : v.length ≤ 1000000) : FnSpec Tryd.prog f_louperef02_Names [encV v] [] (.osl 0 0) [strO (namesV v) 0] := by
  obtain ⟨n, r, hv⟩ : ∃ n r, v = n :: r := by
    cases v with
    | nil => exact absurd rfl ho.ne
    | cons n r => exact ⟨n, r, rfl⟩
  have ho' := ho
  rw [hv] at ho'
  obtain ⟨hm, ps, hp, hfl, hps⟩ := ho'.parts
  have hpl := parts_len _ _ _ hp
  have hg0 : v[0]? = some n := by rw [hv]; rfl
  have hr : namesV v = if n.kind = 6 then ps.map nameOf else [] := by rw [hv, namesV, (partsOf_eq hp).2]
  have hmn : n.many = (ps.length : Int) := by omega
  have hd1 : v.drop 1 = r := by rw [hv]; rfl
  have hple := parts_le _ _ _ hp
  have hrl : r.length + 1 = v.length := by rw [hv]; rfl
  refine k_louperef02_Names.madeG (T := tabL Tryd.prog [(f_louperef02_Next, ctrNext)]) 1 hD (kOk_tabL (tabOk_cons ctrNext_ok tabOk_nil)) hmix fun Q hQ => ?_
  try simp only [F_all]
  simp (maxSteps := 400000) only [↓preZ, postZ, coreZ, ↓preU, postU, D_all, F_all, unR, outL, onePV, binS, ↓binS, boundR, ↓boundR, fieldOf, ↓fieldOf, boxR, allocR, newObj, zeroElem, buildSliceR, appendR, setAll, storeR, St.freeze, makeSliceR, minmaxR, makeFuncR, BEq.rfl, reduceIte, reduceCtorEq, Nat.reduceLT, Nat.reduceAdd, Nat.reduceSub, Nat.reduceMul, Nat.reduceBEq, Nat.reduceLeDiff, Int.reduceToNat, Int.reduceLE, hQ, c_louperef02_Names]
  refine wpc_loop (fun m S => ∃ (i ver : Nat) (done : List (List UInt8)) (rest : List Vl), m = rest.length ∧ (done = [] ∨ n.kind = 6) ∧ done.length + rest.length = ps.length ∧ done ++ rest.map nameOf = ps.map nameOf ∧ parts rest.length (v.drop i) = some rest ∧
    S = ⟨tmA 34 [(0, encV v), (3, .osl 0 ver), (4, .int .i64 i), (5, .int .i64 done.length)], [⟨t_string, 1, done.map .str, true, ver⟩]⟩) ps.length ⟨1, 1, [], ps, rfl, .inl rfl, by simp, rfl, by rw [hd1, hpl]; exact hp, ?_⟩ ?_
  · simp only [normR, keepR, Nat.reduceAdd, lkR, Nat.reduceBEq, F_all, List.map_nil]
    rfl
  rintro m S ⟨i, ver, done, rest, rfl, hdn, hdl, hdr, hrp, rfl⟩
  cases rest with
  | nil =>
    simp only [List.length_nil, Nat.add_zero] at hdl
    have hlt : ((done.length : Int) < (ps.length : Int)) = False := eq_false (by omega)
    simp only [List.map_nil, List.append_nil] at hdr
    simp (maxSteps := 400000) only [↓preZ, postZ, coreZ, ↓preU, postU, D_all, F_all, unR, outL, onePV, binS, ↓binS, boundR, ↓boundR, fieldOf, ↓fieldOf, boxR, allocR, newObj, zeroElem, buildSliceR, appendR, setAll, storeR, St.freeze, makeSliceR, minmaxR, makeFuncR, BEq.rfl, reduceIte, reduceCtorEq, Nat.reduceLT, Nat.reduceAdd, Nat.reduceSub, Nat.reduceMul, Nat.reduceBEq, Nat.reduceLeDiff, Int.reduceToNat, Int.reduceLE, hQ, hg0, hmn, hlt]
    have hd : done = namesV v := by
      rw [hr]
      split
      · exact hdr
      · rename_i h6
        exact hdn.resolve_right h6
    rw [hd]
    exact endM (k := 0) (ver := ver) rfl rfl rfl rfl (congrArg (fun o : Obj => { o with ver := 0 }) (frzO_strs 1 1 _ t_string 1 (namesV v) ver)) (strO_refs _ 0)
  | cons p qs =>
    obtain ⟨c, qs', h1, h2, h3⟩ := parts_step (k := qs.length) hrp
    simp only [List.cons.injEq] at h2
    obtain ⟨hp1, rfl⟩ := h2
    simp only [List.length_cons] at hdl
    have hlt : ((done.length : Int) < (ps.length : Int)) = True := eq_true (by omega)
    have hc := skip_le _ _ _ h1
    simp only [List.length_drop] at hc
    have hnx : nextI v i = (i + c : Nat) := nextI_of (skip_nxt _ _ _ _ h1 (by omega))
    have zi : (0 ≤ (i : Int)) = True := eq_true (by omega)
    have hil : i < v.length := by omega
    have hgi := List.getElem?_eq_getElem hil
    have hdi := List.drop_eq_getElem_cons hil
    generalize v[i] = pn at hgi hdi
    have hname : nameOf p = pn.name := by
      obtain ⟨w, hw⟩ : ∃ w, c = w + 1 := ⟨c - 1, by omega⟩
      rw [hp1, hdi, hw]; rfl
    by_cases h6 : n.kind = 6
    rotate_left 1
    · simp (maxSteps := 400000) only [↓preZ, postZ, coreZ, ↓preU, postU, D_all, F_all, unR, outL, onePV, binS, ↓binS, boundR, ↓boundR, fieldOf, ↓fieldOf, boxR, allocR, newObj, zeroElem, buildSliceR, appendR, setAll, storeR, St.freeze, makeSliceR, minmaxR, makeFuncR, BEq.rfl, reduceIte, reduceCtorEq, Nat.reduceLT, Nat.reduceAdd, Nat.reduceSub, Nat.reduceMul, Nat.reduceBEq, Nat.reduceLeDiff, Int.reduceToNat, Int.reduceLE, hQ, hg0, hmn, hlt, h6]
      have hd : done = namesV v := by rw [hr, if_neg h6, hdn.resolve_right h6]
      rw [hd]
      exact endM (k := 0) (ver := ver) rfl rfl rfl rfl (congrArg (fun o : Obj => { o with ver := 0 }) (frzO_strs 1 1 _ t_string 1 (namesV v) ver)) (strO_refs _ 0)
    simp (maxSteps := 400000) only [↓preZ, postZ, coreZ, ↓preU, postU, D_all, F_all, unR, outL, onePV, binS, ↓binS, boundR, ↓boundR, fieldOf, ↓fieldOf, boxR, allocR, newObj, zeroElem, buildSliceR, appendR, setAll, storeR, St.freeze, makeSliceR, minmaxR, makeFuncR, BEq.rfl, reduceIte, reduceCtorEq, Nat.reduceLT, Nat.reduceAdd, Nat.reduceSub, Nat.reduceMul, Nat.reduceBEq, Nat.reduceLeDiff, Int.reduceToNat, Int.reduceLE, hQ, hg0, hmn, hlt, h6, ↓ctrNext, hnx, zi, hgi]
    have happ : List.map PV.str done ++ [PV.str pn.name] = List.map PV.str (done ++ [pn.name]) := by simp
    rw [happ]
    refine ⟨by omega, by omega, by omega, hl, ⟨by omega, by omega⟩, qs.length, by omega, i + c, ver + 1, done ++ [pn.name], qs, rfl, ?_, ?_, ?_, ?_⟩
    · simp only [List.length_append, List.length_cons, List.length_nil]; omega
    · rw [← hdr, List.map_cons, hname]; simp
    · rw [← List.drop_drop]; exact h3
    · simp only [List.length_append, List.length_cons, List.length_nil, Nat.zero_add, Int.natCast_add, Int.cast_ofNat_Int, Int.natCast_one]

theorem refNamesOf_spec (v : Vl) (ho : One v) (hl : v.length ≤ 1000000) : FnSpec Tryd.prog f_louperef02_Names [encV v] [] (encT (namesV v)) [] :=
  (refNamesOf_made v ho hl).froze rfl rfl (strO_refs _ 0)

def ctrRefNamesOf : Ctr := fun args objs K => match args with
  | [a0] => ofE encV a0 (HK.mk : HK fun v => (One v) ∧ (v.length ≤ 1000000) ∧ K (encT (namesV v)) objs 0)
  | _ => False
theorem ctrRefNamesOf_ok : CtrOk Tryd.prog f_louperef02_Names (ctrRefNamesOf) := by
  intro args objs K h
  unfold ctrRefNamesOf at h
  split at h
  · rename_i a0
    obtain ⟨v, rfl, h1, h2, hk⟩ := h
    exact ⟨_, _, _, .pure _ rfl (refNamesOf_spec v h1 h2), hk⟩
  · exact h.elim
end Lp

/-! LpW23 -/

namespace Lp
open Go Go.Proofs

set_option maxHeartbeats 4000000
set_option maxRecDepth 20000
set_option linter.unusedSimpArgs false

theorem same_spec (a b : Vl) (ha : a.length ≤ 1000000) (hb : b.length ≤ 1000000) : FnSpec Tryd.prog f_louperef02_Same [encV a, encV b] [] (.bool (decide (a = b))) [] := by
  refine k_louperef02_Same.pureG (T := tabL Tryd.prog []) 0 hD (kOk_tabL tabOk_nil) hmix (by decide) fun Q hQ => ?_
  try simp only [F_all]
  by_cases hl : a.length = b.length
  rotate_left 1
  · have hl' : ((a.length : Int) = (b.length : Int)) = False := eq_false (by omega)
    have hr : decide (a = b) = false := decide_eq_false fun h => hl (by rw [h])
    simp (maxSteps := 400000) only [↓preZ, postZ, coreZ, ↓preU, postU, D_all, F_all, unR, outL, onePV, binS, ↓binS, boundR, ↓boundR, fieldOf, ↓fieldOf, boxR, allocR, newObj, zeroElem, buildSliceR, appendR, setAll, storeR, St.freeze, makeSliceR, minmaxR, makeFuncR, BEq.rfl, reduceIte, reduceCtorEq, Nat.reduceLT, Nat.reduceAdd, Nat.reduceSub, Nat.reduceMul, Nat.reduceBEq, Nat.reduceLeDiff, Int.reduceToNat, Int.reduceLE, hQ, c_louperef02_Same, hl', hr]
  have hl' : ((a.length : Int) = (b.length : Int)) = True := eq_true (by omega)
  simp (maxSteps := 400000) only [↓preZ, postZ, coreZ, ↓preU, postU, D_all, F_all, unR, outL, onePV, binS, ↓binS, boundR, ↓boundR, fieldOf, ↓fieldOf, boxR, allocR, newObj, zeroElem, buildSliceR, appendR, setAll, storeR, St.freeze, makeSliceR, minmaxR, makeFuncR, BEq.rfl, reduceIte, reduceCtorEq, Nat.reduceLT, Nat.reduceAdd, Nat.reduceSub, Nat.reduceMul, Nat.reduceBEq, Nat.reduceLeDiff, Int.reduceToNat, Int.reduceLE, hQ, c_louperef02_Same, hl']
  refine wpc_loop (fun m S => ∃ i : Nat, i + m = a.length ∧ (∀ j, j < i → a[j]? = b[j]?) ∧ S = ⟨tmA 26 [(0, encV a), (1, encV b), (5, .int .i64 i)], []⟩) a.length ⟨0, by omega, fun j h => absurd h (by omega), ?_⟩ ?_
  · simp only [normR, keepR, Nat.reduceAdd, lkR, Nat.reduceBEq, F_all, List.map_nil]
    rfl
  rintro m S ⟨i, him, hj, rfl⟩
  have zi : (0 ≤ (i : Int)) = True := eq_true (by omega)
  rcases Nat.lt_or_ge i a.length with h | h
  rotate_left 1
  · have hlt : ((i : Int) < (a.length : Int)) = False := eq_false (by omega)
    have hab : a = b := List.ext_getElem? fun j => by
      by_cases hji : j < i
      · exact hj j hji
      · rw [List.getElem?_eq_none (by omega), List.getElem?_eq_none (by omega)]
    have hr : decide (a = b) = true := decide_eq_true hab
    simp (maxSteps := 400000) only [↓preZ, postZ, coreZ, ↓preU, postU, D_all, F_all, unR, outL, onePV, binS, ↓binS, boundR, ↓boundR, fieldOf, ↓fieldOf, boxR, allocR, newObj, zeroElem, buildSliceR, appendR, setAll, storeR, St.freeze, makeSliceR, minmaxR, makeFuncR, BEq.rfl, reduceIte, reduceCtorEq, Nat.reduceLT, Nat.reduceAdd, Nat.reduceSub, Nat.reduceMul, Nat.reduceBEq, Nat.reduceLeDiff, Int.reduceToNat, Int.reduceLE, hQ, hlt, hr]
  have hlt : ((i : Int) < (a.length : Int)) = True := eq_true (by omega)
  have ga := List.getElem?_eq_getElem h
  have gb : b[i]? = some (b[i]'(by omega)) := List.getElem?_eq_getElem (by omega)
  generalize a[i] = x at ga
  generalize b[i]'(by omega) = y at gb
  by_cases hxy : x = y
  · have hxy' : (x = y) = True := eq_true hxy
    simp (maxSteps := 400000) only [↓preZ, postZ, coreZ, ↓preU, postU, D_all, F_all, unR, outL, onePV, binS, ↓binS, boundR, ↓boundR, fieldOf, ↓fieldOf, boxR, allocR, newObj, zeroElem, buildSliceR, appendR, setAll, storeR, St.freeze, makeSliceR, minmaxR, makeFuncR, BEq.rfl, reduceIte, reduceCtorEq, Nat.reduceLT, Nat.reduceAdd, Nat.reduceSub, Nat.reduceMul, Nat.reduceBEq, Nat.reduceLeDiff, Int.reduceToNat, Int.reduceLE, hQ, hlt, zi, ga, gb, hxy']
    refine ⟨⟨by omega, by omega⟩, m - 1, by omega, i + 1, by omega, ?_, by simp⟩
    intro j hji
    by_cases hjj : j = i
    · subst hjj; rw [ga, gb, hxy]
    · exact hj j (by omega)
  · have hxy' : (x = y) = False := eq_false hxy
    have hr : decide (a = b) = false := decide_eq_false fun h => hxy (by rw [h, gb] at ga; exact (Option.some.inj ga).symm)
    simp (maxSteps := 400000) only [↓preZ, postZ, coreZ, ↓preU, postU, D_all, F_all, unR, outL, onePV, binS, ↓binS, boundR, ↓boundR, fieldOf, ↓fieldOf, boxR, allocR, newObj, zeroElem, buildSliceR, appendR, setAll, storeR, St.freeze, makeSliceR, minmaxR, makeFuncR, BEq.rfl, reduceIte, reduceCtorEq, Nat.reduceLT, Nat.reduceAdd, Nat.reduceSub, Nat.reduceMul, Nat.reduceBEq, Nat.reduceLeDiff, Int.reduceToNat, Int.reduceLE, hQ, hlt, zi, ga, gb, hxy', hr]

def ctrSame : Ctr := fun args objs K => match args with
  | [a0, a1] => ofE encV a0 (HK.mk : HK fun a => ofE encV a1 (HK.mk : HK fun b => (a.length ≤ 1000000) ∧ (b.length ≤ 1000000) ∧ K (.bool (decide (a = b))) objs 0))
  | _ => False
theorem ctrSame_ok : CtrOk Tryd.prog f_louperef02_Same (ctrSame) := by
  intro args objs K h
  unfold ctrSame at h
  split at h
  · rename_i a0 a1
    obtain ⟨a, rfl, b, rfl, h1, h2, hk⟩ := h
    exact ⟨_, _, _, .pure _ rfl (same_spec a b h1 h2), hk⟩
  · exact h.elim
end Lp

/-! LpC2 -/

namespace Lp
open Go Go.Proofs
end Lp

/-! LpC4 -/

namespace Lp
open Go Go.Proofs
def c_louperef02_Object : LC :=
  (.seq (.reg [⟨some 4, .assign (.const (.slice none 0 0)), none, false⟩,
   ⟨some 5, .assign (.const (.int .i64 0)), none, false⟩])
  (.seq (.seq (.reg [⟨some 11, .move (.tmp 0), none, false⟩,
   ⟨some 12, .call ⟨.builtin .len, ⟨[(.tmp 11)]⟩, ⟨[t_L_string]⟩⟩, none, false⟩,
   ⟨some 13, .move (.tmp 1), none, false⟩,
   ⟨some 14, .call ⟨.builtin .len, ⟨[(.tmp 13)]⟩, ⟨[t_L_api_Val]⟩⟩, none, false⟩,
   ⟨some 15, .binOp .neq t_int (.tmp 12) (.tmp 14) t_int, none, false⟩])
  (.cond (.tmp 15)
   (.seq (.reg [⟨some 4, .assign (.const (.slice none 0 0)), none, false⟩,
    ⟨some 5, .assign (.const (.int .i64 4)), none, false⟩])
   .ret)
   .skip))
  (.seq (.reg [⟨some 16, .buildSlice t_L_string 0 ⟨[]⟩, none, true⟩,
   ⟨some 6, .assign (.tmp 16), none, false⟩])
  (.seq (.reg [⟨some 17, .buildSlice t_L_api_Val 0 ⟨[]⟩, none, true⟩,
   ⟨some 7, .assign (.tmp 17), none, false⟩])
  (.seq (.reg [⟨some 18, .move (.tmp 0), none, false⟩,
   ⟨some 19, .call ⟨.builtin .len, ⟨[(.tmp 18)]⟩, ⟨[t_L_string]⟩⟩, none, false⟩,
   ⟨some 20, .makeSlice t_L_bool (.tmp 19) (.tmp 19), none, false⟩,
   ⟨some 8, .assign (.tmp 20), none, false⟩])
  (.seq (.block 0 (.loop [true, true, false, false, false, false, true, true, true, false, false, false, false, false, false, false, false, false, false, false, false, false, false, false, false, false, false, false, false, false, false, false, false, false, false, false, false, false, false, false, false, false, false, false, false, false, false, false, false, false, false, false, false, false, false, false, false, false, false, false, false, false, false, false, false, false, false, false, false, false, false, false, false, false, false, false, false, false, false, false, false, false, false, false, false, false, false, false, false, false, false, false, false, false, false, false, false] none
   (.seq (.seq (.reg [⟨some 21, .move (.tmp 6), none, false⟩,
     ⟨some 22, .call ⟨.builtin .len, ⟨[(.tmp 21)]⟩, ⟨[t_L_string]⟩⟩, none, false⟩,
     ⟨some 23, .move (.tmp 0), none, false⟩,
     ⟨some 24, .call ⟨.builtin .len, ⟨[(.tmp 23)]⟩, ⟨[t_L_string]⟩⟩, none, false⟩,
     ⟨some 25, .binOp .lss t_int (.tmp 22) (.tmp 24) t_int, none, false⟩])
    (.cond (.tmp 25)
     .skip
     (.exit 0)))
    (.block 1 (.seq (.reg [⟨some 9, .assign (.const (.int .i64 (-1))), none, false⟩])
     (.seq (.seq (.reg [⟨some 10, .assign (.const (.int .i64 0)), none, false⟩])
     (.block 2 (.loop [true, true, false, false, false, false, true, true, true, true, true, false, false, false, false, false, false, false, false, false, false, false, false, false, false, false, false, false, false, false, false, false, false, false, false, false, false, false, false, false, false, false, false, false, false, false, false, false, false, false, false, false, false, false, false, false, false, false, false, false, false, false, false, false, false, false, false, false, false, false, false, false, false, false, false, false, false, false, false, false, false, false, false, false, false, false, false, false, false, false, false, false, false, false, false, false, false] none
      (.seq (.seq (.reg [⟨some 26, .move (.tmp 10), none, false⟩,
        ⟨some 27, .move (.tmp 0), none, false⟩,
        ⟨some 28, .call ⟨.builtin .len, ⟨[(.tmp 27)]⟩, ⟨[t_L_string]⟩⟩, none, false⟩,
        ⟨some 29, .binOp .lss t_int (.tmp 26) (.tmp 28) t_int, none, false⟩])
       (.cond (.tmp 29)
        .skip
        (.exit 2)))
       (.seq (.block 3 (.seq (.draw [⟨some 32, .move (.tmp 8), none, false⟩,
         ⟨some 33, .move (.tmp 10), none, false⟩,
         ⟨some 34, .indexAddr t_L_bool (.tmp 32) (.tmp 33), none, false⟩,
         ⟨some 35, .load t_bool (.tmp 34), none, false⟩,
         ⟨some 36, .unOp .not t_bool (.tmp 35), none, false⟩,
         ⟨some 37, .move (.tmp 36), none, false⟩,
         ⟨some 38, .move (.tmp 9), some (some 37, true), false⟩,
         ⟨some 39, .binOp .lss t_int (.tmp 38) (.const (.int .i64 0)) t_int, some (some 37, true), false⟩,
         ⟨some 40, .move (.tmp 39), some (some 37, true), false⟩,
         ⟨some 41, .move (.tmp 0), some (some 40, false), false⟩,
         ⟨some 42, .move (.tmp 10), some (some 40, false), false⟩,
         ⟨some 43, .indexAddr t_L_string (.tmp 41) (.tmp 42), some (some 40, false), false⟩,
         ⟨some 44, .load t_string (.tmp 43), some (some 40, false), false⟩,
         ⟨some 45, .move (.tmp 0), some (some 40, false), false⟩,
         ⟨some 46, .move (.tmp 9), some (some 40, false), false⟩,
         ⟨some 47, .indexAddr t_L_string (.tmp 45) (.tmp 46), some (some 40, false), false⟩,
         ⟨some 48, .load t_string (.tmp 47), some (some 40, false), false⟩,
         ⟨some 49, .binOp .lss t_string (.tmp 44) (.tmp 48) t_string, some (some 40, false), false⟩,
         ⟨some 50, .pick (.tmp 40) (.const (.bool true)) (.tmp 49), some (some 37, true), false⟩,
         ⟨some 51, .pick (.tmp 37) (.tmp 50) (.const (.bool false)), none, false⟩]
        [0, 1, 0, 0, 0, 0, 0, 0, 0, 0, 512, 0, 0, 7680, 15872, 7680, 7680, 0, 0, 0])
        (.cond (.tmp 51)
         (.reg [⟨some 52, .move (.tmp 10), none, false⟩,
          ⟨some 9, .assign (.tmp 52), none, false⟩])
         .skip)))
       (.reg [⟨some 30, .move (.tmp 10), none, false⟩,
        ⟨some 31, .binOp .add t_int (.tmp 30) (.const (.int .i64 1)) t_int, none, false⟩,
        ⟨some 10, .assign (.tmp 31), none, false⟩]))))))
     (.seq (.seq (.draw [⟨some 53, .move (.tmp 0), none, false⟩,
      ⟨some 54, .move (.tmp 9), none, false⟩,
      ⟨some 55, .indexAddr t_L_string (.tmp 53) (.tmp 54), none, false⟩,
      ⟨some 56, .load t_string (.tmp 55), none, false⟩,
      ⟨some 57, .call ⟨.value (.func f_louperef02_Utf), ⟨[(.tmp 56)]⟩, ⟨[t_string]⟩⟩, none, false⟩,
      ⟨some 58, .unOp .not t_bool (.tmp 57), none, false⟩,
      ⟨some 59, .move (.tmp 58), none, false⟩,
      ⟨some 60, .move (.tmp 6), some (some 59, false), false⟩,
      ⟨some 61, .call ⟨.builtin .len, ⟨[(.tmp 60)]⟩, ⟨[t_L_string]⟩⟩, some (some 59, false), false⟩,
      ⟨some 62, .binOp .gtr t_int (.tmp 61) (.const (.int .i64 0)) t_int, some (some 59, false), false⟩,
      ⟨some 63, .move (.tmp 62), some (some 59, false), false⟩,
      ⟨some 64, .move (.tmp 6), some (some 63, true), false⟩,
      ⟨some 65, .move (.tmp 6), some (some 63, true), false⟩,
      ⟨some 66, .call ⟨.builtin .len, ⟨[(.tmp 65)]⟩, ⟨[t_L_string]⟩⟩, some (some 63, true), false⟩,
      ⟨some 67, .binOp .sub t_int (.tmp 66) (.const (.int .i64 1)) t_int, some (some 63, true), false⟩,
      ⟨some 68, .indexAddr t_L_string (.tmp 64) (.tmp 67), some (some 63, true), false⟩,
      ⟨some 69, .load t_string (.tmp 68), some (some 63, true), false⟩,
      ⟨some 70, .move (.tmp 0), some (some 63, true), false⟩,
      ⟨some 71, .move (.tmp 9), some (some 63, true), false⟩,
      ⟨some 72, .indexAddr t_L_string (.tmp 70) (.tmp 71), some (some 63, true), false⟩,
      ⟨some 73, .load t_string (.tmp 72), some (some 63, true), false⟩,
      ⟨some 74, .binOp .eql t_string (.tmp 69) (.tmp 73) t_string, some (some 63, true), false⟩,
      ⟨some 75, .pick (.tmp 63) (.tmp 74) (.const (.bool false)), some (some 59, false), false⟩,
      ⟨some 76, .pick (.tmp 59) (.const (.bool true)) (.tmp 75), none, false⟩]
     [0, 1, 0, 0, 0, 0, 0, 0, 0, 0, 0, 0, 2048, 2048, 2048, 0, 0, 129024, 260096, 129024, 129024, 0, 0, 0])
     (.cond (.tmp 76)
      (.seq (.reg [⟨some 4, .assign (.const (.slice none 0 0)), none, false⟩,
       ⟨some 5, .assign (.const (.int .i64 4)), none, false⟩])
      .ret)
      .skip))
     (.seq (.reg [⟨some 77, .move (.tmp 8), none, false⟩,
      ⟨some 78, .move (.tmp 9), none, false⟩,
      ⟨some 79, .indexAddr t_L_bool (.tmp 77) (.tmp 78), none, false⟩,
      ⟨none, .store t_bool (.tmp 79) (.const (.bool true)), none, false⟩])
     (.seq (.reg [⟨some 80, .move (.tmp 6), none, false⟩,
      ⟨some 81, .move (.tmp 0), none, false⟩,
      ⟨some 82, .move (.tmp 9), none, false⟩,
      ⟨some 83, .indexAddr t_L_string (.tmp 81) (.tmp 82), none, false⟩,
      ⟨some 84, .load t_string (.tmp 83), none, false⟩,
      ⟨some 85, .buildSlice t_L_string 1 ⟨[(0, (.tmp 84))]⟩, none, false⟩,
      ⟨some 86, .call ⟨.builtin .append, ⟨[(.tmp 80), (.tmp 85)]⟩, ⟨[t_L_string, t_L_string]⟩⟩, none, false⟩,
      ⟨some 6, .assign (.tmp 86), none, false⟩])
     (.reg [⟨some 87, .move (.tmp 7), none, false⟩,
      ⟨some 88, .move (.tmp 1), none, false⟩,
      ⟨some 89, .move (.tmp 9), none, false⟩,
      ⟨some 90, .indexAddr t_L_api_Val (.tmp 88) (.tmp 89), none, false⟩,
      ⟨some 91, .load t_api_Val (.tmp 90), none, false⟩,
      ⟨some 92, .buildSlice t_L_api_Val 1 ⟨[(0, (.tmp 91))]⟩, none, false⟩,
      ⟨some 93, .call ⟨.builtin .append, ⟨[(.tmp 87), (.tmp 92)]⟩, ⟨[t_L_api_Val, t_L_api_Val]⟩⟩, none, false⟩,
      ⟨some 7, .assign (.tmp 93), none, false⟩]))))))))))
  (.seq (.weak (.reg [⟨some 94, .move (.tmp 6), none, false⟩,
   ⟨some 95, .move (.tmp 7), none, false⟩,
   ⟨some 96, .call ⟨.value (.func f_louperef02_named), ⟨[(.tmp 94), (.tmp 95)]⟩, ⟨[t_L_string, t_L_api_Val]⟩⟩, none, false⟩,
   ⟨some 4, .assign (.tmp 96), none, false⟩,
   ⟨some 5, .assign (.const (.int .i64 0)), none, false⟩]))
  .ret)))))))
theorem k_louperef02_Object : FnOk Tryd.prog f_louperef02_Object 97 [.tmp 4, .tmp 5] c_louperef02_Object := ⟨_, _, Tryd.func10, by kernel_rfl, rfl, Tryd.ntmps10, rfl, by kernel_rfl⟩

def c_louperef02_List : LC :=
  (.seq (.reg [⟨some 2, .assign (.const (.slice none 0 0)), none, false⟩])
  (.seq (.reg [⟨some 5, .move (.tmp 0), none, false⟩,
   ⟨some 6, .call ⟨.builtin .len, ⟨[(.tmp 5)]⟩, ⟨[t_L_api_Val]⟩⟩, none, false⟩,
   ⟨some 7, .build t_api_Node ⟨[(0, (.const (.int .i64 5))), (1, (.tmp 6))]⟩, none, false⟩,
   ⟨some 8, .buildSlice t_api_Val 1 ⟨[(0, (.tmp 7))]⟩, none, true⟩,
   ⟨some 3, .assign (.tmp 8), none, false⟩])
  (.seq (.seq (.reg [⟨some 4, .assign (.const (.int .i64 0)), none, false⟩])
  (.block 0 (.loop [true, false, false, true, true, false, false, false, false, false, false, false, false, false, false, false, false, false, false, false, false, false] none
   (.seq (.seq (.reg [⟨some 9, .move (.tmp 4), none, false⟩,
     ⟨some 10, .move (.tmp 0), none, false⟩,
     ⟨some 11, .call ⟨.builtin .len, ⟨[(.tmp 10)]⟩, ⟨[t_L_api_Val]⟩⟩, none, false⟩,
     ⟨some 12, .binOp .lss t_int (.tmp 9) (.tmp 11) t_int, none, false⟩])
    (.cond (.tmp 12)
     .skip
     (.exit 0)))
    (.seq (.block 1 (.reg [⟨some 15, .move (.tmp 3), none, false⟩,
      ⟨some 16, .move (.tmp 0), none, false⟩,
      ⟨some 17, .move (.tmp 4), none, false⟩,
      ⟨some 18, .indexAddr t_L_api_Val (.tmp 16) (.tmp 17), none, false⟩,
      ⟨some 19, .load t_api_Val (.tmp 18), none, false⟩,
      ⟨some 20, .call ⟨.builtin .append, ⟨[(.tmp 15), (.tmp 19)]⟩, ⟨[t_api_Val, t_api_Val]⟩⟩, none, false⟩,
      ⟨some 3, .assign (.tmp 20), none, false⟩]))
    (.reg [⟨some 13, .move (.tmp 4), none, false⟩,
     ⟨some 14, .binOp .add t_int (.tmp 13) (.const (.int .i64 1)) t_int, none, false⟩,
     ⟨some 4, .assign (.tmp 14), none, false⟩]))))))
  (.seq (.reg [⟨some 21, .move (.tmp 3), none, false⟩,
   ⟨some 2, .assign (.tmp 21), none, false⟩])
  .ret))))
theorem k_louperef02_List : FnOk Tryd.prog f_louperef02_List 22 [.tmp 2] c_louperef02_List := ⟨_, _, Tryd.func13, by kernel_rfl, rfl, Tryd.ntmps13, rfl, by kernel_rfl⟩

def c_louperef02_named : LC :=
  (.seq (.reg [⟨some 4, .assign (.const (.slice none 0 0)), none, false⟩])
  (.seq (.reg [⟨some 9, .move (.tmp 1), none, false⟩,
   ⟨some 10, .call ⟨.builtin .len, ⟨[(.tmp 9)]⟩, ⟨[t_L_api_Val]⟩⟩, none, false⟩,
   ⟨some 11, .build t_api_Node ⟨[(0, (.const (.int .i64 6))), (1, (.tmp 10))]⟩, none, false⟩,
   ⟨some 12, .buildSlice t_api_Val 1 ⟨[(0, (.tmp 11))]⟩, none, true⟩,
   ⟨some 5, .assign (.tmp 12), none, false⟩])
  (.seq (.seq (.reg [⟨some 6, .assign (.const (.int .i64 0)), none, false⟩])
  (.block 0 (.loop [true, true, false, false, false, true, true, false, false, false, false, false, false, false, false, false, false, false, false, false, false, false, false, false, false, false, false, false, false, false, false, false, false, false, false, false, false, false, false, false, false] (some (1, 1))
   (.seq (.seq (.reg [⟨some 13, .move (.tmp 6), none, false⟩,
     ⟨some 14, .move (.tmp 1), none, false⟩,
     ⟨some 15, .call ⟨.builtin .len, ⟨[(.tmp 14)]⟩, ⟨[t_L_api_Val]⟩⟩, none, false⟩,
     ⟨some 16, .binOp .lss t_int (.tmp 13) (.tmp 15) t_int, none, false⟩])
    (.cond (.tmp 16)
     .skip
     (.exit 0)))
    (.seq (.block 1 (.seq (.reg [⟨some 19, .move (.tmp 5), none, false⟩,
      ⟨some 20, .call ⟨.builtin .len, ⟨[(.tmp 19)]⟩, ⟨[t_api_Val]⟩⟩, none, false⟩,
      ⟨some 7, .assign (.tmp 20), none, false⟩])
     (.seq (.reg [⟨some 21, .move (.tmp 5), none, false⟩,
      ⟨some 22, .move (.tmp 1), none, false⟩,
      ⟨some 23, .move (.tmp 6), none, false⟩,
      ⟨some 24, .indexAddr t_L_api_Val (.tmp 22) (.tmp 23), none, false⟩,
      ⟨some 25, .load t_api_Val (.tmp 24), none, false⟩,
      ⟨some 26, .call ⟨.builtin .append, ⟨[(.tmp 21), (.tmp 25)]⟩, ⟨[t_api_Val, t_api_Val]⟩⟩, none, false⟩,
      ⟨some 5, .assign (.tmp 26), none, false⟩])
     (.seq (.reg [⟨some 27, .move (.tmp 5), none, false⟩,
      ⟨some 28, .move (.tmp 7), none, false⟩,
      ⟨some 29, .indexAddr t_api_Val (.tmp 27) (.tmp 28), none, false⟩,
      ⟨some 30, .load t_api_Node (.tmp 29), none, false⟩,
      ⟨some 8, .alloc t_api_Node, none, false⟩,
      ⟨none, .store t_api_Node (.tmp 8) (.tmp 30), none, false⟩])
     (.seq (.reg [⟨some 31, .move (.tmp 0), none, false⟩,
      ⟨some 32, .move (.tmp 6), none, false⟩,
      ⟨some 33, .indexAddr t_L_string (.tmp 31) (.tmp 32), none, false⟩,
      ⟨some 34, .load t_string (.tmp 33), none, false⟩,
      ⟨some 35, .fieldAddr t_api_Node (.tmp 8) 2, none, false⟩,
      ⟨none, .store t_string (.tmp 35) (.tmp 34), none, false⟩])
     (.reg [⟨some 36, .move (.tmp 5), none, false⟩,
      ⟨some 37, .move (.tmp 7), none, false⟩,
      ⟨some 38, .load t_api_Node (.tmp 8), none, false⟩,
      ⟨some 39, .indexAddr t_api_Val (.tmp 36) (.tmp 37), none, false⟩,
      ⟨none, .store t_api_Node (.tmp 39) (.tmp 38), none, false⟩]))))))
    (.reg [⟨some 17, .move (.tmp 6), none, false⟩,
     ⟨some 18, .binOp .add t_int (.tmp 17) (.const (.int .i64 1)) t_int, none, false⟩,
     ⟨some 6, .assign (.tmp 18), none, false⟩]))))))
  (.seq (.reg [⟨some 40, .move (.tmp 5), none, false⟩,
   ⟨some 4, .assign (.tmp 40), none, false⟩])
  .ret))))
theorem k_louperef02_named : FnOk Tryd.prog f_louperef02_named 41 [.tmp 4] c_louperef02_named := ⟨_, _, Tryd.func32, by kernel_rfl, rfl, Tryd.ntmps32, rfl, by kernel_rfl⟩

end Lp

/-! LpC5 -/

namespace Lp
open Go Go.Proofs
def c_louperef02_Lists : LC :=
  (.seq (.reg [⟨some 4, .assign (.const (.bool false)), none, false⟩])
  (.seq (.seq (.reg [⟨some 6, .move (.tmp 0), none, false⟩,
   ⟨some 7, .call ⟨.builtin .len, ⟨[(.tmp 6)]⟩, ⟨[t_L_api_Val]⟩⟩, none, false⟩,
   ⟨some 8, .move (.tmp 1), none, false⟩,
   ⟨some 9, .call ⟨.builtin .len, ⟨[(.tmp 8)]⟩, ⟨[t_L_api_Val]⟩⟩, none, false⟩,
   ⟨some 10, .binOp .neq t_int (.tmp 7) (.tmp 9) t_int, none, false⟩])
  (.cond (.tmp 10)
   (.seq (.reg [⟨some 4, .assign (.const (.bool false)), none, false⟩])
   .ret)
   .skip))
  (.seq (.seq (.reg [⟨some 5, .assign (.const (.int .i64 0)), none, false⟩])
  (.block 0 (.loop [true, true, false, false, false, true, false, false, false, false, false, false, false, false, false, false, false, false, false, false, false, false, false, false, false, false, false] none
   (.seq (.seq (.reg [⟨some 11, .move (.tmp 5), none, false⟩,
     ⟨some 12, .move (.tmp 0), none, false⟩,
     ⟨some 13, .call ⟨.builtin .len, ⟨[(.tmp 12)]⟩, ⟨[t_L_api_Val]⟩⟩, none, false⟩,
     ⟨some 14, .binOp .lss t_int (.tmp 11) (.tmp 13) t_int, none, false⟩])
    (.cond (.tmp 14)
     .skip
     (.exit 0)))
    (.seq (.block 1 (.seq (.draw [⟨some 17, .move (.tmp 0), none, false⟩,
      ⟨some 18, .move (.tmp 5), none, false⟩,
      ⟨some 19, .indexAddr t_L_api_Val (.tmp 17) (.tmp 18), none, false⟩,
      ⟨some 20, .load t_api_Val (.tmp 19), none, false⟩,
      ⟨some 21, .move (.tmp 1), none, false⟩,
      ⟨some 22, .move (.tmp 5), none, false⟩,
      ⟨some 23, .indexAddr t_L_api_Val (.tmp 21) (.tmp 22), none, false⟩,
      ⟨some 24, .load t_api_Val (.tmp 23), none, false⟩,
      ⟨some 25, .call ⟨.value (.func f_louperef02_Same), ⟨[(.tmp 20), (.tmp 24)]⟩, ⟨[t_api_Val, t_api_Val]⟩⟩, none, false⟩,
      ⟨some 26, .unOp .not t_bool (.tmp 25), none, false⟩]
     [0, 1, 0, 0, 15, 31, 15, 15, 0, 0])
     (.cond (.tmp 26)
      (.seq (.reg [⟨some 4, .assign (.const (.bool false)), none, false⟩])
      .ret)
      .skip)))
    (.reg [⟨some 15, .move (.tmp 5), none, false⟩,
     ⟨some 16, .binOp .add t_int (.tmp 15) (.const (.int .i64 1)) t_int, none, false⟩,
     ⟨some 5, .assign (.tmp 16), none, false⟩]))))))
  (.seq (.reg [⟨some 4, .assign (.const (.bool true)), none, false⟩])
  .ret))))
theorem k_louperef02_Lists : FnOk Tryd.prog f_louperef02_Lists 27 [.tmp 4] c_louperef02_Lists := ⟨_, _, Tryd.func20, by kernel_rfl, rfl, Tryd.ntmps20, rfl, by kernel_rfl⟩

def c_louperef02_Texts : LC :=
  (.seq (.reg [⟨some 4, .assign (.const (.bool false)), none, false⟩])
  (.seq (.seq (.reg [⟨some 6, .move (.tmp 0), none, false⟩,
   ⟨some 7, .call ⟨.builtin .len, ⟨[(.tmp 6)]⟩, ⟨[t_L_string]⟩⟩, none, false⟩,
   ⟨some 8, .move (.tmp 1), none, false⟩,
   ⟨some 9, .call ⟨.builtin .len, ⟨[(.tmp 8)]⟩, ⟨[t_L_string]⟩⟩, none, false⟩,
   ⟨some 10, .binOp .neq t_int (.tmp 7) (.tmp 9) t_int, none, false⟩])
  (.cond (.tmp 10)
   (.seq (.reg [⟨some 4, .assign (.const (.bool false)), none, false⟩])
   .ret)
   .skip))
  (.seq (.seq (.reg [⟨some 5, .assign (.const (.int .i64 0)), none, false⟩])
  (.block 0 (.loop [true, true, false, false, false, true, false, false, false, false, false, false, false, false, false, false, false, false, false, false, false, false, false, false, false, false] none
   (.seq (.seq (.reg [⟨some 11, .move (.tmp 5), none, false⟩,
     ⟨some 12, .move (.tmp 0), none, false⟩,
     ⟨some 13, .call ⟨.builtin .len, ⟨[(.tmp 12)]⟩, ⟨[t_L_string]⟩⟩, none, false⟩,
     ⟨some 14, .binOp .lss t_int (.tmp 11) (.tmp 13) t_int, none, false⟩])
    (.cond (.tmp 14)
     .skip
     (.exit 0)))
    (.seq (.block 1 (.seq (.draw [⟨some 17, .move (.tmp 0), none, false⟩,
      ⟨some 18, .move (.tmp 5), none, false⟩,
      ⟨some 19, .indexAddr t_L_string (.tmp 17) (.tmp 18), none, false⟩,
      ⟨some 20, .load t_string (.tmp 19), none, false⟩,
      ⟨some 21, .move (.tmp 1), none, false⟩,
      ⟨some 22, .move (.tmp 5), none, false⟩,
      ⟨some 23, .indexAddr t_L_string (.tmp 21) (.tmp 22), none, false⟩,
      ⟨some 24, .load t_string (.tmp 23), none, false⟩,
      ⟨some 25, .binOp .neq t_string (.tmp 20) (.tmp 24) t_string, none, false⟩]
     [0, 1, 0, 0, 15, 31, 15, 15, 0])
     (.cond (.tmp 25)
      (.seq (.reg [⟨some 4, .assign (.const (.bool false)), none, false⟩])
      .ret)
      .skip)))
    (.reg [⟨some 15, .move (.tmp 5), none, false⟩,
     ⟨some 16, .binOp .add t_int (.tmp 15) (.const (.int .i64 1)) t_int, none, false⟩,
     ⟨some 5, .assign (.tmp 16), none, false⟩]))))))
  (.seq (.reg [⟨some 4, .assign (.const (.bool true)), none, false⟩])
  .ret))))
theorem k_louperef02_Texts : FnOk Tryd.prog f_louperef02_Texts 26 [.tmp 4] c_louperef02_Texts := ⟨_, _, Tryd.func22, by kernel_rfl, rfl, Tryd.ntmps22, rfl, by kernel_rfl⟩

def c_louperef02_Depth : LC :=
  (.seq (.reg [⟨some 2, .assign (.const (.int .i64 0)), none, false⟩])
  (.seq (.seq (.reg [⟨some 6, .move (.tmp 0), none, false⟩,
   ⟨some 7, .indexAddr t_api_Val (.tmp 6) (.const (.int .i64 0)), none, false⟩,
   ⟨some 8, .fieldAddr t_api_Node (.tmp 7) 0, none, false⟩,
   ⟨some 9, .load t_int (.tmp 8), none, false⟩,
   ⟨some 10, .binOp .neq t_int (.tmp 9) (.const (.int .i64 5)) t_int, none, false⟩,
   ⟨some 11, .move (.tmp 10), none, false⟩,
   ⟨some 12, .move (.tmp 0), some (some 11, true), false⟩,
   ⟨some 13, .indexAddr t_api_Val (.tmp 12) (.const (.int .i64 0)), some (some 11, true), false⟩,
   ⟨some 14, .fieldAddr t_api_Node (.tmp 13) 0, some (some 11, true), false⟩,
   ⟨some 15, .load t_int (.tmp 14), some (some 11, true), false⟩,
   ⟨some 16, .binOp .neq t_int (.tmp 15) (.const (.int .i64 6)) t_int, some (some 11, true), false⟩,
   ⟨some 17, .pick (.tmp 11) (.tmp 16) (.const (.bool false)), none, false⟩])
  (.cond (.tmp 17)
   (.seq (.reg [⟨some 2, .assign (.const (.int .i64 0)), none, false⟩])
   .ret)
   .skip))
  (.seq (.reg [⟨some 18, .move (.tmp 0), none, false⟩,
   ⟨some 19, .call ⟨.value (.func f_louperef02_Parts), ⟨[(.tmp 18)]⟩, ⟨[t_api_Val]⟩⟩, none, false⟩,
   ⟨some 3, .assign (.tmp 19), none, false⟩])
  (.seq (.reg [⟨some 4, .assign (.const (.int .i64 0)), none, false⟩])
  (.seq (.seq (.reg [⟨some 5, .assign (.const (.int .i64 0)), none, false⟩])
  (.block 0 (.loop [false, false, false, true, true, true, false, false, false, false, false, false, false, false, false, false, false, false, false, false, false, false, false, false, false, false, false, false, false, false, false, false, false, false, false] none
   (.seq (.seq (.reg [⟨some 20, .move (.tmp 5), none, false⟩,
     ⟨some 21, .move (.tmp 3), none, false⟩,
     ⟨some 22, .call ⟨.builtin .len, ⟨[(.tmp 21)]⟩, ⟨[t_L_api_Val]⟩⟩, none, false⟩,
     ⟨some 23, .binOp .lss t_int (.tmp 20) (.tmp 22) t_int, none, false⟩])
    (.cond (.tmp 23)
     .skip
     (.exit 0)))
    (.seq (.block 1 (.reg [⟨some 26, .move (.tmp 4), none, false⟩,
      ⟨some 27, .move (.tmp 3), none, false⟩,
      ⟨some 28, .move (.tmp 5), none, false⟩,
      ⟨some 29, .indexAddr t_L_api_Val (.tmp 27) (.tmp 28), none, false⟩,
      ⟨some 30, .load t_api_Val (.tmp 29), none, false⟩,
      ⟨some 31, .call ⟨.value (.func f_louperef02_Depth), ⟨[(.tmp 30)]⟩, ⟨[t_api_Val]⟩⟩, none, false⟩,
      ⟨some 32, .call ⟨.builtin .max, ⟨[(.tmp 26), (.tmp 31)]⟩, ⟨[t_int, t_int]⟩⟩, none, false⟩,
      ⟨some 4, .assign (.tmp 32), none, false⟩]))
    (.reg [⟨some 24, .move (.tmp 5), none, false⟩,
     ⟨some 25, .binOp .add t_int (.tmp 24) (.const (.int .i64 1)) t_int, none, false⟩,
     ⟨some 5, .assign (.tmp 25), none, false⟩]))))))
  (.seq (.reg [⟨some 33, .move (.tmp 4), none, false⟩,
   ⟨some 34, .binOp .add t_int (.tmp 33) (.const (.int .i64 1)) t_int, none, false⟩,
   ⟨some 2, .assign (.tmp 34), none, false⟩])
  .ret))))))
theorem k_louperef02_Depth : FnOk Tryd.prog f_louperef02_Depth 35 [.tmp 2] c_louperef02_Depth := ⟨_, _, Tryd.func19, by kernel_rfl, rfl, Tryd.ntmps19, rfl, by kernel_rfl⟩

def c_val_Same : LC :=
  (.seq (.reg [⟨some 4, .assign (.const (.bool false)), none, false⟩])
  (.seq (.reg [⟨some 5, .move (.tmp 0), none, false⟩,
   ⟨some 6, .move (.tmp 1), none, false⟩,
   ⟨some 7, .call ⟨.value (.func f_slices_Equal_api_Val_api_Node_), ⟨[(.tmp 5), (.tmp 6)]⟩, ⟨[t_api_Val, t_api_Val]⟩⟩, none, false⟩,
   ⟨some 4, .assign (.tmp 7), none, false⟩])
  .ret))
theorem k_val_Same : FnOk Tryd.prog f_val_Same 8 [.tmp 4] c_val_Same := ⟨_, _, Tryd.func17, by kernel_rfl, rfl, Tryd.ntmps17, rfl, by kernel_rfl⟩

def c_slices_Equal_api_Val_api_Node_ : LC :=
  (.seq (.reg [⟨some 4, .assign (.const (.bool false)), none, false⟩])
  (.seq (.seq (.reg [⟨some 6, .move (.tmp 0), none, false⟩,
   ⟨some 7, .call ⟨.builtin .len, ⟨[(.tmp 6)]⟩, ⟨[t_api_Val]⟩⟩, none, false⟩,
   ⟨some 8, .move (.tmp 1), none, false⟩,
   ⟨some 9, .call ⟨.builtin .len, ⟨[(.tmp 8)]⟩, ⟨[t_api_Val]⟩⟩, none, false⟩,
   ⟨some 10, .binOp .neq t_int (.tmp 7) (.tmp 9) t_int, none, false⟩])
  (.cond (.tmp 10)
   (.seq (.reg [⟨some 4, .assign (.const (.bool false)), none, false⟩])
   .ret)
   .skip))
  (.seq (.seq (.reg [⟨some 11, .move (.tmp 0), none, false⟩,
   ⟨some 12, .call ⟨.builtin .len, ⟨[(.tmp 11)]⟩, ⟨[t_api_Val]⟩⟩, none, false⟩,
   ⟨some 13, .move (.const (.int .i64 0)), none, false⟩])
  (.block 0 (.loop [true, true, false, false, false, false, false, false, false, false, false, false, true, true, false, false, false, false, false, false, false, false, false, false, false, false] none
   (.seq (.reg [⟨some 14, .binOp .lss t_int (.tmp 13) (.tmp 12) t_int, none, false⟩])
    (.seq (.cond (.tmp 14)
     .skip
     (.exit 0))
    (.seq (.block 1 (.seq (.reg [⟨some 15, .move (.tmp 13), none, false⟩,
      ⟨some 5, .assign (.tmp 15), none, false⟩])
     (.seq (.draw [⟨some 16, .move (.tmp 0), none, false⟩,
      ⟨some 17, .move (.tmp 5), none, false⟩,
      ⟨some 18, .indexAddr t_api_Val (.tmp 16) (.tmp 17), none, false⟩,
      ⟨some 19, .load t_api_Node (.tmp 18), none, false⟩,
      ⟨some 20, .move (.tmp 1), none, false⟩,
      ⟨some 21, .move (.tmp 5), none, false⟩,
      ⟨some 22, .indexAddr t_api_Val (.tmp 20) (.tmp 21), none, false⟩,
      ⟨some 23, .load t_api_Node (.tmp 22), none, false⟩,
      ⟨some 24, .binOp .neq t_api_Node (.tmp 19) (.tmp 23) t_api_Node, none, false⟩]
     [0, 1, 0, 0, 15, 31, 15, 15, 0])
     (.cond (.tmp 24)
      (.seq (.reg [⟨some 4, .assign (.const (.bool false)), none, false⟩])
      .ret)
      .skip))))
    (.reg [⟨some 25, .binOp .add t_int (.tmp 13) (.const (.int .i64 1)) t_int, none, false⟩,
     ⟨some 13, .move (.tmp 25), none, false⟩])))))))
  (.seq (.reg [⟨some 4, .assign (.const (.bool true)), none, false⟩])
  .ret))))
theorem k_slices_Equal_api_Val_api_Node_ : FnOk Tryd.prog f_slices_Equal_api_Val_api_Node_ 26 [.tmp 4] c_slices_Equal_api_Val_api_Node_ := ⟨_, _, Tryd.func41, by kernel_rfl, rfl, Tryd.ntmps41, rfl, by kernel_rfl⟩

def c_val_Depth : LC :=
  (.seq (.reg [⟨some 2, .assign (.const (.int .i64 0)), none, false⟩])
  (.seq (.seq (.reg [⟨some 6, .move (.tmp 0), none, false⟩,
   ⟨some 7, .indexAddr t_api_Val (.tmp 6) (.const (.int .i64 0)), none, false⟩,
   ⟨some 8, .fieldAddr t_api_Node (.tmp 7) 0, none, false⟩,
   ⟨some 9, .load t_int (.tmp 8), none, false⟩,
   ⟨some 10, .binOp .neq t_int (.tmp 9) (.const (.int .i64 5)) t_int, none, false⟩,
   ⟨some 11, .move (.tmp 10), none, false⟩,
   ⟨some 12, .move (.tmp 0), some (some 11, true), false⟩,
   ⟨some 13, .indexAddr t_api_Val (.tmp 12) (.const (.int .i64 0)), some (some 11, true), false⟩,
   ⟨some 14, .fieldAddr t_api_Node (.tmp 13) 0, some (some 11, true), false⟩,
   ⟨some 15, .load t_int (.tmp 14), some (some 11, true), false⟩,
   ⟨some 16, .binOp .neq t_int (.tmp 15) (.const (.int .i64 6)) t_int, some (some 11, true), false⟩,
   ⟨some 17, .pick (.tmp 11) (.tmp 16) (.const (.bool false)), none, false⟩])
  (.cond (.tmp 17)
   (.seq (.reg [⟨some 2, .assign (.const (.int .i64 0)), none, false⟩])
   .ret)
   .skip))
  (.seq (.reg [⟨some 3, .alloc t_int, none, false⟩,
   ⟨none, .store t_int (.tmp 3) (.const (.int .i64 0)), none, false⟩])
  (.seq (.seq (.reg [⟨some 18, .move (.tmp 0), none, false⟩,
   ⟨some 19, .call ⟨.value (.func f_val_each), ⟨[(.tmp 18)]⟩, ⟨[t_api_Val]⟩⟩, none, false⟩])
  (.block 0 (.rf (.tmp 19) [20, 21] none
    (.reg [⟨some 5, .assign (.tmp 21), none, false⟩])
    (.block 1 (.draw [⟨some 22, .load t_int (.tmp 3), none, false⟩,
      ⟨some 23, .move (.tmp 5), none, false⟩,
      ⟨some 24, .call ⟨.value (.func f_val_Depth), ⟨[(.tmp 23)]⟩, ⟨[t_api_Val]⟩⟩, none, false⟩,
      ⟨some 25, .call ⟨.builtin .max, ⟨[(.tmp 22), (.tmp 24)]⟩, ⟨[t_int, t_int]⟩⟩, none, false⟩,
      ⟨none, .store t_int (.tmp 3) (.tmp 25), none, false⟩]
     [0, 1, 1, 0, 0])))))
  (.seq (.reg [⟨some 26, .load t_int (.tmp 3), none, false⟩,
   ⟨some 27, .binOp .add t_int (.tmp 26) (.const (.int .i64 1)) t_int, none, false⟩,
   ⟨some 2, .assign (.tmp 27), none, false⟩])
  .ret)))))
theorem k_val_Depth : FnOk Tryd.prog f_val_Depth 28 [.tmp 2] c_val_Depth := ⟨_, _, Tryd.func18, by kernel_rfl, rfl, Tryd.ntmps18, rfl, by kernel_rfl⟩

def c_val_isPlain : LC :=
  (.seq (.reg [⟨some 1, .box t_api_Node (.tmp 0), none, false⟩,
   ⟨some 2, .assign (.const (.bool false)), none, false⟩])
  (.seq (.reg [⟨some 3, .fieldAddr t_api_Node (.tmp 1) 2, none, false⟩,
   ⟨none, .store t_string (.tmp 3) (.const (.string ⟨⟨[]⟩⟩)), none, false⟩])
  (.seq (.seq (.weak (.reg [⟨some 4, .fieldAddr t_api_Node (.tmp 1) 0, none, false⟩,
   ⟨some 5, .load t_int (.tmp 4), none, false⟩]))
  (.block 0 (.seq (.seq (.reg [⟨some 7, .binOp .eql t_int (.tmp 5) (.const (.int .i64 0)) t_int, none, false⟩,
    ⟨some 6, .assign (.tmp 7), none, false⟩])
   (.cond (.tmp 6)
    .skip
    (.seq (.reg [⟨some 8, .binOp .eql t_int (.tmp 5) (.const (.int .i64 1)) t_int, none, false⟩,
     ⟨some 6, .assign (.tmp 8), none, false⟩])
    (.cond (.tmp 6)
     .skip
     (.reg [⟨some 9, .binOp .eql t_int (.tmp 5) (.const (.int .i64 2)) t_int, none, false⟩,
      ⟨some 6, .assign (.tmp 9), none, false⟩])))))
   (.cond (.tmp 6)
    (.seq (.reg [⟨some 10, .load t_api_Node (.tmp 1), none, false⟩,
     ⟨some 11, .fieldAddr t_api_Node (.tmp 1) 0, none, false⟩,
     ⟨some 12, .load t_int (.tmp 11), none, false⟩,
     ⟨some 13, .build t_api_Node ⟨[(0, (.tmp 12))]⟩, none, false⟩,
     ⟨some 14, .binOp .eql t_api_Node (.tmp 10) (.tmp 13) t_api_Node, none, false⟩,
     ⟨some 2, .assign (.tmp 14), none, false⟩])
    .ret)
    (.seq (.reg [⟨some 16, .binOp .eql t_int (.tmp 5) (.const (.int .i64 3)) t_int, none, false⟩,
     ⟨some 15, .assign (.tmp 16), none, false⟩])
    (.cond (.tmp 15)
     (.seq (.reg [⟨some 17, .load t_api_Node (.tmp 1), none, false⟩,
      ⟨some 18, .call ⟨.value (.func f_num_Right), ⟨[(.tmp 17)]⟩, ⟨[t_api_Node]⟩⟩, none, false⟩,
      ⟨some 2, .assign (.tmp 18), none, false⟩])
     .ret)
     (.seq (.reg [⟨some 20, .binOp .eql t_int (.tmp 5) (.const (.int .i64 4)) t_int, none, false⟩,
      ⟨some 19, .assign (.tmp 20), none, false⟩])
     (.cond (.tmp 19)
      (.seq (.reg [⟨some 21, .fieldAddr t_api_Node (.tmp 1) 3, none, false⟩,
       ⟨some 22, .load t_string (.tmp 21), none, false⟩,
       ⟨some 23, .call ⟨.value (.func f_unicode_utf8_ValidString), ⟨[(.tmp 22)]⟩, ⟨[t_string]⟩⟩, none, false⟩,
       ⟨some 24, .move (.tmp 23), none, false⟩,
       ⟨some 25, .load t_api_Node (.tmp 1), some (some 24, true), false⟩,
       ⟨some 26, .fieldAddr t_api_Node (.tmp 1) 0, some (some 24, true), false⟩,
       ⟨some 27, .load t_int (.tmp 26), some (some 24, true), false⟩,
       ⟨some 28, .fieldAddr t_api_Node (.tmp 1) 3, some (some 24, true), false⟩,
       ⟨some 29, .load t_string (.tmp 28), some (some 24, true), false⟩,
       ⟨some 30, .build t_api_Node ⟨[(0, (.tmp 27)), (3, (.tmp 29))]⟩, some (some 24, true), false⟩,
       ⟨some 31, .binOp .eql t_api_Node (.tmp 25) (.tmp 30) t_api_Node, some (some 24, true), false⟩,
       ⟨some 32, .pick (.tmp 24) (.tmp 31) (.const (.bool false)), none, false⟩,
       ⟨some 2, .assign (.tmp 32), none, false⟩])
      .ret)
      (.seq (.seq (.reg [⟨some 34, .binOp .eql t_int (.tmp 5) (.const (.int .i64 5)) t_int, none, false⟩,
       ⟨some 33, .assign (.tmp 34), none, false⟩])
      (.cond (.tmp 33)
       .skip
       (.reg [⟨some 35, .binOp .eql t_int (.tmp 5) (.const (.int .i64 6)) t_int, none, false⟩,
        ⟨some 33, .assign (.tmp 35), none, false⟩])))
      (.cond (.tmp 33)
       (.seq (.reg [⟨some 36, .fieldAddr t_api_Node (.tmp 1) 1, none, false⟩,
        ⟨some 37, .load t_int (.tmp 36), none, false⟩,
        ⟨some 38, .binOp .geq t_int (.tmp 37) (.const (.int .i64 0)) t_int, none, false⟩,
        ⟨some 39, .move (.tmp 38), none, false⟩,
        ⟨some 40, .load t_api_Node (.tmp 1), some (some 39, true), false⟩,
        ⟨some 41, .fieldAddr t_api_Node (.tmp 1) 0, some (some 39, true), false⟩,
        ⟨some 42, .load t_int (.tmp 41), some (some 39, true), false⟩,
        ⟨some 43, .fieldAddr t_api_Node (.tmp 1) 1, some (some 39, true), false⟩,
        ⟨some 44, .load t_int (.tmp 43), some (some 39, true), false⟩,
        ⟨some 45, .build t_api_Node ⟨[(0, (.tmp 42)), (1, (.tmp 44))]⟩, some (some 39, true), false⟩,
        ⟨some 46, .binOp .eql t_api_Node (.tmp 40) (.tmp 45) t_api_Node, some (some 39, true), false⟩,
        ⟨some 47, .pick (.tmp 39) (.tmp 46) (.const (.bool false)), none, false⟩,
        ⟨some 2, .assign (.tmp 47), none, false⟩])
       .ret)
       .skip))))))))))
  (.seq (.reg [⟨some 2, .assign (.const (.bool false)), none, false⟩])
  .ret))))
theorem k_val_isPlain : FnOk Tryd.prog f_val_isPlain 48 [.tmp 2] c_val_isPlain := ⟨_, _, Tryd.func38, by kernel_rfl, rfl, Tryd.ntmps38, rfl, by kernel_rfl⟩

def c_num_Right : LC :=
  (.seq (.reg [⟨some 1, .box t_api_Node (.tmp 0), none, false⟩,
   ⟨some 2, .assign (.const (.bool false)), none, false⟩])
  (.seq (.seq (.weak (.reg [⟨some 3, .fieldAddr t_api_Node (.tmp 1) 0, none, false⟩,
   ⟨some 4, .load t_int (.tmp 3), none, false⟩,
   ⟨some 5, .binOp .neq t_int (.tmp 4) (.const (.int .i64 3)) t_int, none, false⟩,
   ⟨some 6, .move (.tmp 5), none, false⟩,
   ⟨some 7, .fieldAddr t_api_Node (.tmp 1) 1, some (some 6, false), false⟩,
   ⟨some 8, .load t_int (.tmp 7), some (some 6, false), false⟩,
   ⟨some 9, .binOp .neq t_int (.tmp 8) (.const (.int .i64 0)) t_int, some (some 6, false), false⟩,
   ⟨some 10, .pick (.tmp 6) (.const (.bool true)) (.tmp 9), none, false⟩,
   ⟨some 11, .move (.tmp 10), none, false⟩,
   ⟨some 12, .fieldAddr t_api_Node (.tmp 1) 2, some (some 11, false), false⟩,
   ⟨some 13, .load t_string (.tmp 12), some (some 11, false), false⟩,
   ⟨some 14, .binOp .neq t_string (.tmp 13) (.const (.string ⟨⟨[]⟩⟩)) t_string, some (some 11, false), false⟩,
   ⟨some 15, .pick (.tmp 11) (.const (.bool true)) (.tmp 14), none, false⟩,
   ⟨some 16, .move (.tmp 15), none, false⟩,
   ⟨some 17, .fieldAddr t_api_Node (.tmp 1) 3, some (some 16, false), false⟩,
   ⟨some 18, .load t_string (.tmp 17), some (some 16, false), false⟩,
   ⟨some 19, .call ⟨.builtin .len, ⟨[(.tmp 18)]⟩, ⟨[t_string]⟩⟩, some (some 16, false), false⟩,
   ⟨some 20, .binOp .gtr t_int (.tmp 19) (.const (.int .i64 100)) t_int, some (some 16, false), false⟩,
   ⟨some 21, .pick (.tmp 16) (.const (.bool true)) (.tmp 20), none, false⟩,
   ⟨some 22, .move (.tmp 21), none, false⟩,
   ⟨some 23, .fieldAddr t_api_Node (.tmp 1) 3, some (some 22, false), false⟩,
   ⟨some 24, .load t_string (.tmp 23), some (some 22, false), false⟩,
   ⟨some 25, .call ⟨.builtin .len, ⟨[(.tmp 24)]⟩, ⟨[t_string]⟩⟩, some (some 22, false), false⟩,
   ⟨some 26, .fieldAddr t_api_Node (.tmp 1) 5, some (some 22, false), false⟩,
   ⟨some 27, .load t_int (.tmp 26), some (some 22, false), false⟩,
   ⟨some 28, .call ⟨.value (.func f_num_isPower), ⟨[(.tmp 25), (.tmp 27)]⟩, ⟨[t_int, t_int]⟩⟩, some (some 22, false), false⟩,
   ⟨some 29, .unOp .not t_bool (.tmp 28), some (some 22, false), false⟩,
   ⟨some 30, .pick (.tmp 22) (.const (.bool true)) (.tmp 29), none, false⟩,
   ⟨some 31, .move (.tmp 30), none, false⟩,
   ⟨some 32, .fieldAddr t_api_Node (.tmp 1) 3, some (some 31, false), false⟩,
   ⟨some 33, .load t_string (.tmp 32), some (some 31, false), false⟩,
   ⟨some 34, .call ⟨.value (.func f_num_isFigures), ⟨[(.tmp 33)]⟩, ⟨[t_string]⟩⟩, some (some 31, false), false⟩,
   ⟨some 35, .unOp .not t_bool (.tmp 34), some (some 31, false), false⟩,
   ⟨some 36, .pick (.tmp 31) (.const (.bool true)) (.tmp 35), none, false⟩]))
  (.cond (.tmp 36)
   (.seq (.reg [⟨some 2, .assign (.const (.bool false)), none, false⟩])
   .ret)
   .skip))
  (.seq (.seq (.reg [⟨some 37, .fieldAddr t_api_Node (.tmp 1) 3, none, false⟩,
   ⟨some 38, .load t_string (.tmp 37), none, false⟩,
   ⟨some 39, .binOp .eql t_string (.tmp 38) (.const (.string ⟨⟨[]⟩⟩)) t_string, none, false⟩])
  (.cond (.tmp 39)
   (.seq (.reg [⟨some 40, .fieldAddr t_api_Node (.tmp 1) 4, none, false⟩,
    ⟨some 41, .load t_bool (.tmp 40), none, false⟩,
    ⟨some 42, .unOp .not t_bool (.tmp 41), none, false⟩,
    ⟨some 43, .move (.tmp 42), none, false⟩,
    ⟨some 44, .fieldAddr t_api_Node (.tmp 1) 5, some (some 43, true), false⟩,
    ⟨some 45, .load t_int (.tmp 44), some (some 43, true), false⟩,
    ⟨some 46, .binOp .eql t_int (.tmp 45) (.const (.int .i64 0)) t_int, some (some 43, true), false⟩,
    ⟨some 47, .pick (.tmp 43) (.tmp 46) (.const (.bool false)), none, false⟩,
    ⟨some 2, .assign (.tmp 47), none, false⟩])
   .ret)
   .skip))
  (.seq (.draw [⟨some 48, .fieldAddr t_api_Node (.tmp 1) 3, none, false⟩,
   ⟨some 49, .load t_string (.tmp 48), none, false⟩,
   ⟨some 50, .call ⟨.value (.func f_strings_Trim), ⟨[(.tmp 49), (.const (.string ⟨⟨[48]⟩⟩))]⟩, ⟨[t_string, t_string]⟩⟩, none, false⟩,
   ⟨some 51, .fieldAddr t_api_Node (.tmp 1) 3, none, false⟩,
   ⟨some 52, .load t_string (.tmp 51), none, false⟩,
   ⟨some 53, .binOp .eql t_string (.tmp 50) (.tmp 52) t_string, none, false⟩,
   ⟨some 2, .assign (.tmp 53), none, false⟩]
  [0, 0, 0, 7, 7, 0, 0])
  .ret))))
theorem k_num_Right : FnOk Tryd.prog f_num_Right 54 [.tmp 2] c_num_Right := ⟨_, _, Tryd.func53, by kernel_rfl, rfl, Tryd.ntmps53, rfl, by kernel_rfl⟩

def c_num_isPower : LC :=
  (.seq (.reg [⟨some 4, .assign (.const (.bool false)), none, false⟩])
  (.seq (.reg [⟨some 5, .move (.tmp 1), none, false⟩,
   ⟨some 6, .binOp .geq t_int (.tmp 5) (.const (.int .i64 (-1000))) t_int, none, false⟩,
   ⟨some 7, .move (.tmp 6), none, false⟩,
   ⟨some 8, .move (.tmp 1), some (some 7, true), false⟩,
   ⟨some 9, .binOp .leq t_int (.tmp 8) (.const (.int .i64 1000)) t_int, some (some 7, true), false⟩,
   ⟨some 10, .pick (.tmp 7) (.tmp 9) (.const (.bool false)), none, false⟩,
   ⟨some 11, .move (.tmp 10), none, false⟩,
   ⟨some 12, .move (.tmp 0), some (some 11, true), false⟩,
   ⟨some 13, .move (.tmp 1), some (some 11, true), false⟩,
   ⟨some 14, .binOp .add t_int (.tmp 12) (.tmp 13) t_int, some (some 11, true), false⟩,
   ⟨some 15, .binOp .leq t_int (.tmp 14) (.const (.int .i64 1000)) t_int, some (some 11, true), false⟩,
   ⟨some 16, .pick (.tmp 11) (.tmp 15) (.const (.bool false)), none, false⟩,
   ⟨some 4, .assign (.tmp 16), none, false⟩])
  .ret))
theorem k_num_isPower : FnOk Tryd.prog f_num_isPower 17 [.tmp 4] c_num_isPower := ⟨_, _, Tryd.func60, by kernel_rfl, rfl, Tryd.ntmps60, rfl, by kernel_rfl⟩

def c_num_isFigures : LC :=
  (.seq (.reg [⟨some 2, .assign (.const (.bool false)), none, false⟩])
  (.seq (.reg [⟨some 3, .move (.tmp 0), none, false⟩,
   ⟨some 4, .call ⟨.value (.func f_strings_TrimFunc), ⟨[(.tmp 3), (.func f_num_isFigure)]⟩, ⟨[t_string, t_func_int32__bool]⟩⟩, none, false⟩,
   ⟨some 5, .binOp .eql t_string (.tmp 4) (.const (.string ⟨⟨[]⟩⟩)) t_string, none, false⟩,
   ⟨some 2, .assign (.tmp 5), none, false⟩])
  .ret))
theorem k_num_isFigures : FnOk Tryd.prog f_num_isFigures 6 [.tmp 2] c_num_isFigures := ⟨_, _, Tryd.func61, by kernel_rfl, rfl, Tryd.ntmps61, rfl, by kernel_rfl⟩

def c_num_isFigure : LC :=
  (.seq (.reg [⟨some 2, .assign (.const (.bool false)), none, false⟩])
  (.seq (.reg [⟨some 3, .move (.tmp 0), none, false⟩,
   ⟨some 4, .binOp .geq t_int32 (.tmp 3) (.const (.int .i32 48)) t_int32, none, false⟩,
   ⟨some 5, .move (.tmp 4), none, false⟩,
   ⟨some 6, .move (.tmp 0), some (some 5, true), false⟩,
   ⟨some 7, .binOp .leq t_int32 (.tmp 6) (.const (.int .i32 57)) t_int32, some (some 5, true), false⟩,
   ⟨some 8, .pick (.tmp 5) (.tmp 7) (.const (.bool false)), none, false⟩,
   ⟨some 2, .assign (.tmp 8), none, false⟩])
  .ret))
theorem k_num_isFigure : FnOk Tryd.prog f_num_isFigure 9 [.tmp 2] c_num_isFigure := ⟨_, _, Tryd.func75, by kernel_rfl, rfl, Tryd.ntmps75, rfl, by kernel_rfl⟩

def c_val_Right : LC :=
  (.seq (.reg [⟨some 2, .assign (.const (.bool false)), none, false⟩])
  (.seq (.reg [⟨some 8, .build t_val_open ⟨[(0, (.const (.int .i64 5))), (1, (.const (.int .i64 1)))]⟩, none, false⟩,
   ⟨some 9, .buildSlice t_L_val_open 1 ⟨[(0, (.tmp 8))]⟩, none, true⟩,
   ⟨some 3, .assign (.tmp 9), none, false⟩])
  (.seq (.seq (.reg [⟨some 10, .move (.tmp 0), none, false⟩,
   ⟨some 11, .call ⟨.builtin .len, ⟨[(.tmp 10)]⟩, ⟨[t_api_Val]⟩⟩, none, false⟩,
   ⟨some 12, .move (.const (.int .i64 0)), none, false⟩])
  (.block 0 (.loop [true, false, false, true, false, false, false, false, false, false, true, true, true, false, false, false, false, false, false, false, false, false, false, false, false, false, false, false, false, false, false, false, false, false, false, false, false, false, false, false, false, false, false, false, false, false, false, false, false, false, false, false, false, false, false, false, false, false, false, false, false, false, false, false, false, false, false, false, false, false, false, false, false, false, false, false, false, false, false, false, false, false, false, false, false, false, false, false, false, false, false, false, false, false, false, false, false, false, false, false, false, false, false, false, false, false, false, false, false, false, false, false, false, false, false, false, false, false, false, false, false, false, false] (some (1, 1))
   (.seq (.reg [⟨some 13, .binOp .lss t_int (.tmp 12) (.tmp 11) t_int, none, false⟩])
    (.seq (.cond (.tmp 13)
     .skip
     (.exit 0))
    (.seq (.block 1 (.seq (.reg [⟨some 14, .indexAddr t_api_Val (.tmp 10) (.tmp 12), none, false⟩,
      ⟨some 15, .load t_api_Node (.tmp 14), none, false⟩,
      ⟨some 5, .alloc t_api_Node, none, false⟩,
      ⟨none, .store t_api_Node (.tmp 5) (.tmp 15), none, false⟩])
     (.seq (.block 2 (.loop [true, false, false, true, false, true, false, false, false, false, true, true, true, false, false, false, false, false, false, false, false, false, false, false, false, false, false, false, false, false, false, false, false, false, false, false, false, false, false, false, false, false, false, false, false, false, false, false, false, false, false, false, false, false, false, false, false, false, false, false, false, false, false, false, false, false, false, false, false, false, false, false, false, false, false, false, false, false, false, false, false, false, false, false, false, false, false, false, false, false, false, false, false, false, false, false, false, false, false, false, false, false, false, false, false, false, false, false, false, false, false, false, false, false, false, false, false, false, false, false, false, false, false] none
      (.seq (.seq (.reg [⟨some 16, .move (.tmp 3), none, false⟩,
        ⟨some 17, .call ⟨.builtin .len, ⟨[(.tmp 16)]⟩, ⟨[t_L_val_open]⟩⟩, none, false⟩,
        ⟨some 18, .binOp .gtr t_int (.tmp 17) (.const (.int .i64 0)) t_int, none, false⟩,
        ⟨some 19, .move (.tmp 18), none, false⟩,
        ⟨some 20, .move (.tmp 3), some (some 19, true), false⟩,
        ⟨some 21, .move (.tmp 3), some (some 19, true), false⟩,
        ⟨some 22, .call ⟨.builtin .len, ⟨[(.tmp 21)]⟩, ⟨[t_L_val_open]⟩⟩, some (some 19, true), false⟩,
        ⟨some 23, .binOp .sub t_int (.tmp 22) (.const (.int .i64 1)) t_int, some (some 19, true), false⟩,
        ⟨some 24, .indexAddr t_L_val_open (.tmp 20) (.tmp 23), some (some 19, true), false⟩,
        ⟨some 25, .fieldAddr t_val_open (.tmp 24) 1, some (some 19, true), false⟩,
        ⟨some 26, .load t_int (.tmp 25), some (some 19, true), false⟩,
        ⟨some 27, .binOp .eql t_int (.tmp 26) (.const (.int .i64 0)) t_int, some (some 19, true), false⟩,
        ⟨some 28, .pick (.tmp 19) (.tmp 27) (.const (.bool false)), none, false⟩])
       (.cond (.tmp 28)
        .skip
        (.exit 2)))
       (.block 3 (.reg [⟨some 29, .move (.tmp 3), none, false⟩,
         ⟨some 30, .move (.tmp 3), none, false⟩,
         ⟨some 31, .call ⟨.builtin .len, ⟨[(.tmp 30)]⟩, ⟨[t_L_val_open]⟩⟩, none, false⟩,
         ⟨some 32, .binOp .sub t_int (.tmp 31) (.const (.int .i64 1)) t_int, none, false⟩,
         ⟨some 33, .slice t_L_val_open (.tmp 29) none (some (.tmp 32)) none, none, false⟩,
         ⟨some 3, .assign (.tmp 33), none, false⟩])))))
     (.seq (.seq (.reg [⟨some 34, .move (.tmp 3), none, false⟩,
      ⟨some 35, .call ⟨.builtin .len, ⟨[(.tmp 34)]⟩, ⟨[t_L_val_open]⟩⟩, none, false⟩,
      ⟨some 36, .binOp .eql t_int (.tmp 35) (.const (.int .i64 0)) t_int, none, false⟩,
      ⟨some 37, .move (.tmp 36), none, false⟩,
      ⟨some 38, .load t_api_Node (.tmp 5), some (some 37, false), false⟩,
      ⟨some 39, .call ⟨.value (.func f_val_isPlain), ⟨[(.tmp 38)]⟩, ⟨[t_api_Node]⟩⟩, some (some 37, false), false⟩,
      ⟨some 40, .unOp .not t_bool (.tmp 39), some (some 37, false), false⟩,
      ⟨some 41, .pick (.tmp 37) (.const (.bool true)) (.tmp 40), none, false⟩,
      ⟨some 42, .move (.tmp 41), none, false⟩,
      ⟨some 43, .fieldAddr t_api_Node (.tmp 5) 1, some (some 42, false), false⟩,
      ⟨some 44, .load t_int (.tmp 43), some (some 42, false), false⟩,
      ⟨some 45, .move (.tmp 0), some (some 42, false), false⟩,
      ⟨some 46, .call ⟨.builtin .len, ⟨[(.tmp 45)]⟩, ⟨[t_api_Val]⟩⟩, some (some 42, false), false⟩,
      ⟨some 47, .binOp .gtr t_int (.tmp 44) (.tmp 46) t_int, some (some 42, false), false⟩,
      ⟨some 48, .pick (.tmp 42) (.const (.bool true)) (.tmp 47), none, false⟩])
     (.cond (.tmp 48)
      (.seq (.reg [⟨some 2, .assign (.const (.bool false)), none, false⟩])
      .ret)
      .skip))
     (.seq (.reg [⟨some 49, .move (.tmp 3), none, false⟩,
      ⟨some 50, .move (.tmp 3), none, false⟩,
      ⟨some 51, .call ⟨.builtin .len, ⟨[(.tmp 50)]⟩, ⟨[t_L_val_open]⟩⟩, none, false⟩,
      ⟨some 52, .binOp .sub t_int (.tmp 51) (.const (.int .i64 1)) t_int, none, false⟩,
      ⟨some 53, .indexAddr t_L_val_open (.tmp 49) (.tmp 52), none, false⟩,
      ⟨some 6, .assign (.tmp 53), none, false⟩])
     (.seq (.reg [⟨some 54, .move (.tmp 6), none, false⟩,
      ⟨some 55, .nilCheck (.tmp 54), none, false⟩,
      ⟨some 56, .fieldAddr t_val_open (.tmp 55) 0, none, false⟩,
      ⟨some 57, .load t_int (.tmp 56), none, false⟩,
      ⟨some 58, .binOp .eql t_int (.tmp 57) (.const (.int .i64 6)) t_int, none, false⟩,
      ⟨some 7, .assign (.tmp 58), none, false⟩])
     (.seq (.block 4 (.seq (.reg [⟨some 60, .move (.tmp 7), none, false⟩,
       ⟨some 61, .unOp .not t_bool (.tmp 60), none, false⟩,
       ⟨some 62, .move (.tmp 61), none, false⟩,
       ⟨some 63, .fieldAddr t_api_Node (.tmp 5) 2, some (some 62, true), false⟩,
       ⟨some 64, .load t_string (.tmp 63), some (some 62, true), false⟩,
       ⟨some 65, .binOp .neq t_string (.tmp 64) (.const (.string ⟨⟨[]⟩⟩)) t_string, some (some 62, true), false⟩,
       ⟨some 66, .pick (.tmp 62) (.tmp 65) (.const (.bool false)), none, false⟩,
       ⟨some 59, .assign (.tmp 66), none, false⟩])
      (.cond (.tmp 59)
       (.seq (.reg [⟨some 2, .assign (.const (.bool false)), none, false⟩])
       .ret)
       (.seq (.draw [⟨some 68, .move (.tmp 7), none, false⟩,
        ⟨some 69, .move (.tmp 68), none, false⟩,
        ⟨some 70, .fieldAddr t_api_Node (.tmp 5) 2, some (some 69, true), false⟩,
        ⟨some 71, .load t_string (.tmp 70), some (some 69, true), false⟩,
        ⟨some 72, .call ⟨.value (.func f_unicode_utf8_ValidString), ⟨[(.tmp 71)]⟩, ⟨[t_string]⟩⟩, some (some 69, true), false⟩,
        ⟨some 73, .unOp .not t_bool (.tmp 72), some (some 69, true), false⟩,
        ⟨some 74, .move (.tmp 73), some (some 69, true), false⟩,
        ⟨some 75, .move (.tmp 6), some (some 74, false), false⟩,
        ⟨some 76, .nilCheck (.tmp 75), some (some 74, false), false⟩,
        ⟨some 77, .fieldAddr t_val_open (.tmp 76) 2, some (some 74, false), false⟩,
        ⟨some 78, .load t_bool (.tmp 77), some (some 74, false), false⟩,
        ⟨some 79, .unOp .not t_bool (.tmp 78), some (some 74, false), false⟩,
        ⟨some 80, .move (.tmp 79), some (some 74, false), false⟩,
        ⟨some 81, .fieldAddr t_api_Node (.tmp 5) 2, some (some 80, true), false⟩,
        ⟨some 82, .load t_string (.tmp 81), some (some 80, true), false⟩,
        ⟨some 83, .move (.tmp 6), some (some 80, true), false⟩,
        ⟨some 84, .nilCheck (.tmp 83), some (some 80, true), false⟩,
        ⟨some 85, .fieldAddr t_val_open (.tmp 84) 3, some (some 80, true), false⟩,
        ⟨some 86, .load t_string (.tmp 85), some (some 80, true), false⟩,
        ⟨some 87, .binOp .leq t_string (.tmp 82) (.tmp 86) t_string, some (some 80, true), false⟩,
        ⟨some 88, .pick (.tmp 80) (.tmp 87) (.const (.bool false)), some (some 74, false), false⟩,
        ⟨some 89, .pick (.tmp 74) (.const (.bool true)) (.tmp 88), some (some 69, true), false⟩,
        ⟨some 90, .pick (.tmp 69) (.tmp 89) (.const (.bool false)), none, false⟩,
        ⟨some 67, .assign (.tmp 90), none, false⟩]
       [0, 0, 0, 0, 0, 0, 0, 0, 0, 0, 0, 0, 0, 0, 0, 24576, 24576, 24576, 24576, 0, 0, 0, 0, 0])
       (.cond (.tmp 67)
        (.seq (.reg [⟨some 2, .assign (.const (.bool false)), none, false⟩])
        .ret)
        .skip)))))
     (.seq (.reg [⟨some 91, .move (.tmp 6), none, false⟩,
      ⟨some 92, .nilCheck (.tmp 91), none, false⟩,
      ⟨some 93, .fieldAddr t_val_open (.tmp 92) 1, none, false⟩,
      ⟨some 94, .load t_int (.tmp 93), none, false⟩,
      ⟨some 95, .binOp .sub t_int (.tmp 94) (.const (.int .i64 1)) t_int, none, false⟩,
      ⟨some 96, .nilCheck (.tmp 91), none, false⟩,
      ⟨some 97, .fieldAddr t_val_open (.tmp 96) 1, none, false⟩,
      ⟨none, .store t_int (.tmp 97) (.tmp 95), none, false⟩])
     (.seq (.draw [⟨some 98, .move (.tmp 6), none, false⟩,
      ⟨some 99, .move (.tmp 6), none, false⟩,
      ⟨some 100, .fieldAddr t_api_Node (.tmp 5) 2, none, false⟩,
      ⟨some 101, .load t_string (.tmp 100), none, false⟩,
      ⟨some 102, .nilCheck (.tmp 98), none, false⟩,
      ⟨some 103, .fieldAddr t_val_open (.tmp 102) 2, none, false⟩,
      ⟨none, .store t_bool (.tmp 103) (.const (.bool false)), none, false⟩,
      ⟨some 104, .nilCheck (.tmp 99), none, false⟩,
      ⟨some 105, .fieldAddr t_val_open (.tmp 104) 3, none, false⟩,
      ⟨none, .store t_string (.tmp 105) (.tmp 101), none, false⟩]
     [0, 1, 3, 3, 14, 14, 14, 0, 0, 0])
     (.reg [⟨some 106, .move (.tmp 3), none, false⟩,
      ⟨some 107, .fieldAddr t_api_Node (.tmp 5) 0, none, false⟩,
      ⟨some 108, .load t_int (.tmp 107), none, false⟩,
      ⟨some 109, .fieldAddr t_api_Node (.tmp 5) 1, none, false⟩,
      ⟨some 110, .load t_int (.tmp 109), none, false⟩,
      ⟨some 111, .build t_val_open ⟨[(0, (.tmp 108)), (1, (.tmp 110)), (2, (.const (.bool true)))]⟩, none, false⟩,
      ⟨some 112, .buildSlice t_L_val_open 1 ⟨[(0, (.tmp 111))]⟩, none, false⟩,
      ⟨some 113, .call ⟨.builtin .append, ⟨[(.tmp 106), (.tmp 112)]⟩, ⟨[t_L_val_open, t_L_val_open]⟩⟩, none, false⟩,
      ⟨some 3, .assign (.tmp 113), none, false⟩]))))))))))
    (.reg [⟨some 114, .binOp .add t_int (.tmp 12) (.const (.int .i64 1)) t_int, none, false⟩,
     ⟨some 12, .move (.tmp 114), none, false⟩])))))))
  (.seq (.weak (.reg [⟨some 115, .move (.tmp 0), none, false⟩,
   ⟨some 116, .call ⟨.builtin .len, ⟨[(.tmp 115)]⟩, ⟨[t_api_Val]⟩⟩, none, false⟩,
   ⟨some 117, .binOp .gtr t_int (.tmp 116) (.const (.int .i64 0)) t_int, none, false⟩,
   ⟨some 118, .move (.tmp 117), none, false⟩,
   ⟨some 119, .move (.tmp 3), some (some 118, true), false⟩,
   ⟨some 120, .call ⟨.value (.func f_slices_ContainsFunc_L_val_open_val_open_), ⟨[(.tmp 119), (.func f_val_Right_1)]⟩, ⟨[t_L_val_open, t_func_val_open__bool]⟩⟩, some (some 118, true), false⟩,
   ⟨some 121, .unOp .not t_bool (.tmp 120), some (some 118, true), false⟩,
   ⟨some 122, .pick (.tmp 118) (.tmp 121) (.const (.bool false)), none, false⟩,
   ⟨some 2, .assign (.tmp 122), none, false⟩]))
  .ret))))
theorem k_val_Right : FnOk Tryd.prog f_val_Right 123 [.tmp 2] c_val_Right := ⟨_, _, Tryd.func16, by kernel_rfl, rfl, Tryd.ntmps16, rfl, by kernel_rfl⟩

def c_val_Right_1 : LC :=
  (.seq (.reg [⟨some 1, .box t_val_open (.tmp 0), none, false⟩,
   ⟨some 2, .assign (.const (.bool false)), none, false⟩])
  (.seq (.reg [⟨some 3, .fieldAddr t_val_open (.tmp 1) 1, none, false⟩,
   ⟨some 4, .load t_int (.tmp 3), none, false⟩,
   ⟨some 5, .binOp .gtr t_int (.tmp 4) (.const (.int .i64 0)) t_int, none, false⟩,
   ⟨some 2, .assign (.tmp 5), none, false⟩])
  .ret))
theorem k_val_Right_1 : FnOk Tryd.prog f_val_Right_1 6 [.tmp 2] c_val_Right_1 := ⟨_, _, Tryd.func40, by kernel_rfl, rfl, Tryd.ntmps40, rfl, by kernel_rfl⟩

def c_slices_ContainsFunc_L_val_open_val_open_ : LC :=
  (.seq (.reg [⟨some 4, .assign (.const (.bool false)), none, false⟩])
  (.seq (.reg [⟨some 5, .move (.tmp 0), none, false⟩,
   ⟨some 6, .move (.tmp 1), none, false⟩,
   ⟨some 7, .call ⟨.value (.func f_slices_IndexFunc_L_val_open_val_open_), ⟨[(.tmp 5), (.tmp 6)]⟩, ⟨[t_L_val_open, t_func_val_open__bool]⟩⟩, none, false⟩,
   ⟨some 8, .binOp .geq t_int (.tmp 7) (.const (.int .i64 0)) t_int, none, false⟩,
   ⟨some 4, .assign (.tmp 8), none, false⟩])
  .ret))
theorem k_slices_ContainsFunc_L_val_open_val_open_ : FnOk Tryd.prog f_slices_ContainsFunc_L_val_open_val_open_ 9 [.tmp 4] c_slices_ContainsFunc_L_val_open_val_open_ := ⟨_, _, Tryd.func39, by kernel_rfl, rfl, Tryd.ntmps39, rfl, by kernel_rfl⟩

def c_slices_IndexFunc_L_val_open_val_open_ : LC :=
  (.seq (.reg [⟨some 4, .assign (.const (.int .i64 0)), none, false⟩])
  (.seq (.seq (.reg [⟨some 6, .move (.tmp 0), none, false⟩,
   ⟨some 7, .call ⟨.builtin .len, ⟨[(.tmp 6)]⟩, ⟨[t_L_val_open]⟩⟩, none, false⟩,
   ⟨some 8, .move (.const (.int .i64 0)), none, false⟩])
  (.block 0 (.loop [true, true, false, false, false, false, false, true, true, false, false, false, false, false, false, false, false, false, false] none
   (.seq (.reg [⟨some 9, .binOp .lss t_int (.tmp 8) (.tmp 7) t_int, none, false⟩])
    (.seq (.cond (.tmp 9)
     .skip
     (.exit 0))
    (.seq (.block 1 (.seq (.reg [⟨some 10, .move (.tmp 8), none, false⟩,
      ⟨some 5, .assign (.tmp 10), none, false⟩])
     (.seq (.reg [⟨some 11, .move (.tmp 1), none, false⟩,
      ⟨some 12, .move (.tmp 0), none, false⟩,
      ⟨some 13, .move (.tmp 5), none, false⟩,
      ⟨some 14, .indexAddr t_L_val_open (.tmp 12) (.tmp 13), none, false⟩,
      ⟨some 15, .load t_val_open (.tmp 14), none, false⟩,
      ⟨some 16, .call ⟨.value (.tmp 11), ⟨[(.tmp 15)]⟩, ⟨[t_val_open]⟩⟩, none, false⟩])
     (.cond (.tmp 16)
      (.seq (.reg [⟨some 17, .move (.tmp 5), none, false⟩,
       ⟨some 4, .assign (.tmp 17), none, false⟩])
      .ret)
      .skip))))
    (.reg [⟨some 18, .binOp .add t_int (.tmp 8) (.const (.int .i64 1)) t_int, none, false⟩,
     ⟨some 8, .move (.tmp 18), none, false⟩])))))))
  (.seq (.reg [⟨some 4, .assign (.const (.int .i64 (-1))), none, false⟩])
  .ret)))
theorem k_slices_IndexFunc_L_val_open_val_open_ : FnOk Tryd.prog f_slices_IndexFunc_L_val_open_val_open_ 19 [.tmp 4] c_slices_IndexFunc_L_val_open_val_open_ := ⟨_, _, Tryd.func54, by kernel_rfl, rfl, Tryd.ntmps54, rfl, by kernel_rfl⟩

def c_val_List : LC :=
  (.seq (.reg [⟨some 2, .assign (.const (.slice none 0 0)), none, false⟩])
  (.seq (.reg [⟨some 3, .move (.tmp 0), none, false⟩,
   ⟨some 4, .call ⟨.builtin .len, ⟨[(.tmp 3)]⟩, ⟨[t_L_api_Val]⟩⟩, none, false⟩,
   ⟨some 5, .build t_api_Node ⟨[(0, (.const (.int .i64 5))), (1, (.tmp 4))]⟩, none, false⟩,
   ⟨some 6, .buildSlice t_api_Val 1 ⟨[(0, (.tmp 5))]⟩, none, true⟩,
   ⟨some 7, .move (.tmp 0), none, false⟩,
   ⟨some 8, .call ⟨.value (.func f_slices_Concat_api_Val_api_Node_), ⟨[(.tmp 7)]⟩, ⟨[t_L_api_Val]⟩⟩, none, false⟩,
   ⟨some 9, .call ⟨.builtin .append, ⟨[(.tmp 6), (.tmp 8)]⟩, ⟨[t_api_Val, t_api_Val]⟩⟩, none, false⟩,
   ⟨some 2, .assign (.tmp 9), none, false⟩])
  .ret))
theorem k_val_List : FnOk Tryd.prog f_val_List 10 [.tmp 2] c_val_List := ⟨_, _, Tryd.func12, by kernel_rfl, rfl, Tryd.ntmps12, rfl, by kernel_rfl⟩

def c_slices_Concat_api_Val_api_Node_ : LC :=
  (.seq (.reg [⟨some 2, .assign (.const (.slice none 0 0)), none, false⟩])
  (.seq (.reg [⟨some 3, .assign (.const (.int .i64 0)), none, false⟩])
  (.seq (.seq (.reg [⟨some 9, .move (.tmp 0), none, false⟩,
   ⟨some 10, .call ⟨.builtin .len, ⟨[(.tmp 9)]⟩, ⟨[t_L_api_Val]⟩⟩, none, false⟩,
   ⟨some 11, .move (.const (.int .i64 0)), none, false⟩])
  (.block 0 (.loop [true, false, false, true, false, false, false, false, false, true, true, true, false, false, false, false, false, false, false, false, false, false, false, false, false, false, false, false, false, false, false, false, false, false, false, false] none
   (.seq (.reg [⟨some 12, .binOp .lss t_int (.tmp 11) (.tmp 10) t_int, none, false⟩])
    (.seq (.cond (.tmp 12)
     .skip
     (.exit 0))
    (.seq (.block 1 (.seq (.reg [⟨some 13, .indexAddr t_L_api_Val (.tmp 9) (.tmp 11), none, false⟩,
      ⟨some 14, .load t_api_Val (.tmp 13), none, false⟩,
      ⟨some 5, .assign (.tmp 14), none, false⟩])
     (.seq (.reg [⟨some 15, .move (.tmp 3), none, false⟩,
      ⟨some 16, .move (.tmp 5), none, false⟩,
      ⟨some 17, .call ⟨.builtin .len, ⟨[(.tmp 16)]⟩, ⟨[t_api_Val]⟩⟩, none, false⟩,
      ⟨some 18, .binOp .add t_int (.tmp 15) (.tmp 17) t_int, none, false⟩,
      ⟨some 3, .assign (.tmp 18), none, false⟩])
     (.seq (.reg [⟨some 19, .move (.tmp 3), none, false⟩,
      ⟨some 20, .binOp .lss t_int (.tmp 19) (.const (.int .i64 0)) t_int, none, false⟩])
     (.cond (.tmp 20)
      (.reg [⟨some 21, .makeInterface t_string (.const (.string ⟨⟨[108, 101, 110, 32, 111, 117, 116, 32, 111, 102, 32, 114, 97, 110, 103, 101]⟩⟩)), none, false⟩,
       ⟨none, .panic (.tmp 21), none, false⟩])
      .skip)))))
    (.reg [⟨some 22, .binOp .add t_int (.tmp 11) (.const (.int .i64 1)) t_int, none, false⟩,
     ⟨some 11, .move (.tmp 22), none, false⟩])))))))
  (.seq (.reg [⟨some 23, .move (.tmp 3), none, false⟩,
   ⟨some 24, .call ⟨.value (.func f_slices_Grow_api_Val_api_Node_), ⟨[(.const (.slice none 0 0)), (.tmp 23)]⟩, ⟨[t_api_Val, t_int]⟩⟩, none, false⟩,
   ⟨some 6, .assign (.tmp 24), none, false⟩])
  (.seq (.seq (.reg [⟨some 25, .move (.tmp 0), none, false⟩,
   ⟨some 26, .call ⟨.builtin .len, ⟨[(.tmp 25)]⟩, ⟨[t_L_api_Val]⟩⟩, none, false⟩,
   ⟨some 27, .move (.const (.int .i64 0)), none, false⟩])
  (.block 2 (.loop [false, false, false, false, false, false, true, false, false, false, false, false, false, false, false, false, false, false, false, false, false, false, false, false, false, true, true, true, false, false, false, false, false, false, false, false] none
   (.seq (.reg [⟨some 28, .binOp .lss t_int (.tmp 27) (.tmp 26) t_int, none, false⟩])
    (.seq (.cond (.tmp 28)
     .skip
     (.exit 2))
    (.seq (.block 3 (.seq (.reg [⟨some 29, .indexAddr t_L_api_Val (.tmp 25) (.tmp 27), none, false⟩,
      ⟨some 30, .load t_api_Val (.tmp 29), none, false⟩,
      ⟨some 8, .assign (.tmp 30), none, false⟩])
     (.reg [⟨some 31, .move (.tmp 6), none, false⟩,
      ⟨some 32, .move (.tmp 8), none, false⟩,
      ⟨some 33, .call ⟨.builtin .append, ⟨[(.tmp 31), (.tmp 32)]⟩, ⟨[t_api_Val, t_api_Val]⟩⟩, none, false⟩,
      ⟨some 6, .assign (.tmp 33), none, false⟩])))
    (.reg [⟨some 34, .binOp .add t_int (.tmp 27) (.const (.int .i64 1)) t_int, none, false⟩,
     ⟨some 27, .move (.tmp 34), none, false⟩])))))))
  (.seq (.reg [⟨some 35, .move (.tmp 6), none, false⟩,
   ⟨some 2, .assign (.tmp 35), none, false⟩])
  .ret))))))
theorem k_slices_Concat_api_Val_api_Node_ : FnOk Tryd.prog f_slices_Concat_api_Val_api_Node_ 36 [.tmp 2] c_slices_Concat_api_Val_api_Node_ := ⟨_, _, Tryd.func33, by kernel_rfl, rfl, Tryd.ntmps33, rfl, by kernel_rfl⟩

def c_val_laid : LC :=
  (.seq (.reg [⟨some 4, .assign (.const (.slice none 0 0)), none, false⟩])
  (.seq (.reg [⟨some 9, .move (.tmp 1), none, false⟩,
   ⟨some 10, .call ⟨.builtin .len, ⟨[(.tmp 9)]⟩, ⟨[t_L_api_Val]⟩⟩, none, false⟩,
   ⟨some 11, .build t_api_Node ⟨[(0, (.const (.int .i64 6))), (1, (.tmp 10))]⟩, none, false⟩,
   ⟨some 12, .buildSlice t_api_Val 1 ⟨[(0, (.tmp 11))]⟩, none, true⟩,
   ⟨some 5, .assign (.tmp 12), none, false⟩])
  (.seq (.seq (.reg [⟨some 13, .move (.tmp 1), none, false⟩,
   ⟨some 14, .call ⟨.builtin .len, ⟨[(.tmp 13)]⟩, ⟨[t_L_api_Val]⟩⟩, none, false⟩,
   ⟨some 15, .move (.const (.int .i64 0)), none, false⟩])
  (.block 0 (.loop [true, false, false, false, false, true, false, false, false, false, false, false, false, true, true, true, false, false, false, false, false, false, false, false, false, false, false, false, false, false, false, false, false, false, false] none
   (.seq (.reg [⟨some 16, .binOp .lss t_int (.tmp 15) (.tmp 14) t_int, none, false⟩])
    (.seq (.cond (.tmp 16)
     .skip
     (.exit 0))
    (.seq (.block 1 (.seq (.reg [⟨some 17, .move (.tmp 15), none, false⟩,
      ⟨some 18, .indexAddr t_L_api_Val (.tmp 13) (.tmp 15), none, false⟩,
      ⟨some 19, .load t_api_Val (.tmp 18), none, false⟩,
      ⟨some 6, .assign (.tmp 17), none, false⟩,
      ⟨some 7, .assign (.tmp 19), none, false⟩])
     (.seq (.reg [⟨some 20, .move (.tmp 5), none, false⟩,
      ⟨some 21, .call ⟨.builtin .len, ⟨[(.tmp 20)]⟩, ⟨[t_api_Val]⟩⟩, none, false⟩,
      ⟨some 8, .assign (.tmp 21), none, false⟩])
     (.seq (.reg [⟨some 22, .move (.tmp 5), none, false⟩,
      ⟨some 23, .move (.tmp 7), none, false⟩,
      ⟨some 24, .call ⟨.builtin .append, ⟨[(.tmp 22), (.tmp 23)]⟩, ⟨[t_api_Val, t_api_Val]⟩⟩, none, false⟩,
      ⟨some 5, .assign (.tmp 24), none, false⟩])
     (.reg [⟨some 25, .move (.tmp 5), none, false⟩,
      ⟨some 26, .move (.tmp 8), none, false⟩,
      ⟨some 27, .move (.tmp 0), none, false⟩,
      ⟨some 28, .move (.tmp 6), none, false⟩,
      ⟨some 29, .indexAddr t_L_string (.tmp 27) (.tmp 28), none, false⟩,
      ⟨some 30, .load t_string (.tmp 29), none, false⟩,
      ⟨some 31, .indexAddr t_api_Val (.tmp 25) (.tmp 26), none, false⟩,
      ⟨some 32, .fieldAddr t_api_Node (.tmp 31) 2, none, false⟩,
      ⟨none, .store t_string (.tmp 32) (.tmp 30), none, false⟩])))))
    (.reg [⟨some 33, .binOp .add t_int (.tmp 15) (.const (.int .i64 1)) t_int, none, false⟩,
     ⟨some 15, .move (.tmp 33), none, false⟩])))))))
  (.seq (.reg [⟨some 34, .move (.tmp 5), none, false⟩,
   ⟨some 4, .assign (.tmp 34), none, false⟩])
  .ret))))
theorem k_val_laid : FnOk Tryd.prog f_val_laid 35 [.tmp 4] c_val_laid := ⟨_, _, Tryd.func30, by kernel_rfl, rfl, Tryd.ntmps30, rfl, by kernel_rfl⟩

def c_val_Object : LC :=
  (.seq (.reg [⟨some 4, .assign (.const (.slice none 0 0)), none, false⟩,
   ⟨some 5, .assign (.const (.int .i64 0)), none, false⟩])
  (.seq (.seq (.reg [⟨some 15, .move (.tmp 0), none, false⟩,
   ⟨some 16, .call ⟨.builtin .len, ⟨[(.tmp 15)]⟩, ⟨[t_L_string]⟩⟩, none, false⟩,
   ⟨some 17, .move (.tmp 1), none, false⟩,
   ⟨some 18, .call ⟨.builtin .len, ⟨[(.tmp 17)]⟩, ⟨[t_L_api_Val]⟩⟩, none, false⟩,
   ⟨some 19, .binOp .neq t_int (.tmp 16) (.tmp 18) t_int, none, false⟩])
  (.cond (.tmp 19)
   (.seq (.reg [⟨some 4, .assign (.const (.slice none 0 0)), none, false⟩,
    ⟨some 5, .assign (.const (.int .i64 4)), none, false⟩])
   .ret)
   .skip))
  (.seq (.reg [⟨some 20, .makeMap t_map_string_api_Val none, none, false⟩,
   ⟨some 6, .assign (.tmp 20), none, false⟩])
  (.seq (.seq (.reg [⟨some 21, .move (.tmp 0), none, false⟩,
   ⟨some 22, .call ⟨.builtin .len, ⟨[(.tmp 21)]⟩, ⟨[t_L_string]⟩⟩, none, false⟩,
   ⟨some 23, .move (.const (.int .i64 0)), none, false⟩])
  (.block 0 (.loop [true, true, false, false, false, false, true, false, false, false, false, false, false, false, false, false, false, false, false, false, false, true, true, true, false, false, false, false, false, false, false, false, false, false, false, false, false, false, false, false, false, false, false, false, false, false, false, false, false, false, false, false, false, false, false, false, false, false, false, false, false, false, false, false, false, false] none
   (.seq (.reg [⟨some 24, .binOp .lss t_int (.tmp 23) (.tmp 22) t_int, none, false⟩])
    (.seq (.cond (.tmp 24)
     .skip
     (.exit 0))
    (.seq (.block 1 (.seq (.reg [⟨some 25, .move (.tmp 23), none, false⟩,
      ⟨some 26, .indexAddr t_L_string (.tmp 21) (.tmp 23), none, false⟩,
      ⟨some 27, .load t_string (.tmp 26), none, false⟩,
      ⟨some 7, .assign (.tmp 25), none, false⟩,
      ⟨some 8, .assign (.tmp 27), none, false⟩])
     (.seq (.seq (.reg [⟨some 29, .move (.tmp 6), none, false⟩,
      ⟨some 30, .move (.tmp 8), none, false⟩,
      ⟨some 31, .lookup t_map_string_api_Val (.tmp 29) (.tmp 30) true, none, false⟩,
      ⟨some 28, .move (.tmp 31), none, false⟩,
      ⟨some 32, .extract (.tmp 28) 0, none, false⟩,
      ⟨some 33, .extract (.tmp 28) 1, none, false⟩,
      ⟨some 9, .assign (.tmp 32), none, false⟩,
      ⟨some 10, .assign (.tmp 33), none, false⟩])
     (.seq (.reg [⟨some 34, .move (.tmp 10), none, false⟩,
      ⟨some 35, .move (.tmp 34), none, false⟩,
      ⟨some 36, .move (.tmp 8), some (some 35, false), false⟩,
      ⟨some 37, .call ⟨.value (.func f_unicode_utf8_ValidString), ⟨[(.tmp 36)]⟩, ⟨[t_string]⟩⟩, some (some 35, false), false⟩,
      ⟨some 38, .unOp .not t_bool (.tmp 37), some (some 35, false), false⟩,
      ⟨some 39, .pick (.tmp 35) (.const (.bool true)) (.tmp 38), none, false⟩])
     (.cond (.tmp 39)
      (.seq (.reg [⟨some 4, .assign (.const (.slice none 0 0)), none, false⟩,
       ⟨some 5, .assign (.const (.int .i64 4)), none, false⟩])
      .ret)
      .skip)))
     (.reg [⟨some 40, .move (.tmp 6), none, false⟩,
      ⟨some 41, .move (.tmp 8), none, false⟩,
      ⟨some 42, .move (.tmp 1), none, false⟩,
      ⟨some 43, .move (.tmp 7), none, false⟩,
      ⟨some 44, .indexAddr t_L_api_Val (.tmp 42) (.tmp 43), none, false⟩,
      ⟨some 45, .load t_api_Val (.tmp 44), none, false⟩,
      ⟨none, .mapUpdate t_map_string_api_Val (.tmp 40) (.tmp 41) (.tmp 45), none, false⟩]))))
    (.reg [⟨some 46, .binOp .add t_int (.tmp 23) (.const (.int .i64 1)) t_int, none, false⟩,
     ⟨some 23, .move (.tmp 46), none, false⟩])))))))
  (.seq (.reg [⟨some 47, .move (.tmp 0), none, false⟩,
   ⟨some 48, .call ⟨.value (.func f_slices_Values_L_string_string_), ⟨[(.tmp 47)]⟩, ⟨[t_L_string]⟩⟩, none, false⟩,
   ⟨some 49, .call ⟨.value (.func f_slices_Sorted_string_), ⟨[(.tmp 48)]⟩, ⟨[t_iter_Seq_string_]⟩⟩, none, false⟩,
   ⟨some 11, .assign (.tmp 49), none, false⟩])
  (.seq (.reg [⟨some 12, .assign (.const (.slice none 0 0)), none, false⟩])
  (.seq (.seq (.reg [⟨some 50, .move (.tmp 11), none, false⟩,
   ⟨some 51, .call ⟨.builtin .len, ⟨[(.tmp 50)]⟩, ⟨[t_L_string]⟩⟩, none, false⟩,
   ⟨some 52, .move (.const (.int .i64 0)), none, false⟩])
  (.block 2 (.loop [false, false, false, false, false, false, true, false, false, false, false, true, true, false, false, false, false, false, false, false, false, false, false, false, false, false, false, false, false, false, false, false, false, false, false, false, false, false, false, false, false, false, false, false, false, false, false, false, false, false, true, true, true, false, false, false, false, false, false, false, false, false, false, false, false, false] none
   (.seq (.reg [⟨some 53, .binOp .lss t_int (.tmp 52) (.tmp 51) t_int, none, false⟩])
    (.seq (.cond (.tmp 53)
     .skip
     (.exit 2))
    (.seq (.block 3 (.seq (.reg [⟨some 54, .indexAddr t_L_string (.tmp 50) (.tmp 52), none, false⟩,
      ⟨some 55, .load t_string (.tmp 54), none, false⟩,
      ⟨some 14, .assign (.tmp 55), none, false⟩])
     (.reg [⟨some 56, .move (.tmp 12), none, false⟩,
      ⟨some 57, .move (.tmp 6), none, false⟩,
      ⟨some 58, .move (.tmp 14), none, false⟩,
      ⟨some 59, .lookup t_map_string_api_Val (.tmp 57) (.tmp 58) false, none, false⟩,
      ⟨some 60, .buildSlice t_L_api_Val 1 ⟨[(0, (.tmp 59))]⟩, none, false⟩,
      ⟨some 61, .call ⟨.builtin .append, ⟨[(.tmp 56), (.tmp 60)]⟩, ⟨[t_L_api_Val, t_L_api_Val]⟩⟩, none, false⟩,
      ⟨some 12, .assign (.tmp 61), none, false⟩])))
    (.reg [⟨some 62, .binOp .add t_int (.tmp 52) (.const (.int .i64 1)) t_int, none, false⟩,
     ⟨some 52, .move (.tmp 62), none, false⟩])))))))
  (.seq (.weak (.reg [⟨some 63, .move (.tmp 11), none, false⟩,
   ⟨some 64, .move (.tmp 12), none, false⟩,
   ⟨some 65, .call ⟨.value (.func f_val_laid), ⟨[(.tmp 63), (.tmp 64)]⟩, ⟨[t_L_string, t_L_api_Val]⟩⟩, none, false⟩,
   ⟨some 4, .assign (.tmp 65), none, false⟩,
   ⟨some 5, .assign (.const (.int .i64 0)), none, false⟩]))
  .ret))))))))
theorem k_val_Object : FnOk Tryd.prog f_val_Object 66 [.tmp 4, .tmp 5] c_val_Object := ⟨_, _, Tryd.func9, by kernel_rfl, rfl, Tryd.ntmps9, rfl, by kernel_rfl⟩

def c_slices_Sorted_string_ : LC :=
  (.seq (.reg [⟨some 2, .assign (.const (.slice none 0 0)), none, false⟩])
  (.seq (.reg [⟨some 4, .move (.tmp 0), none, false⟩,
   ⟨some 5, .call ⟨.value (.func f_slices_Collect_string_), ⟨[(.tmp 4)]⟩, ⟨[t_iter_Seq_string_]⟩⟩, none, false⟩,
   ⟨some 3, .assign (.tmp 5), none, false⟩])
  (.seq (.reg [⟨some 6, .move (.tmp 3), none, false⟩,
   ⟨some 7, .call ⟨.value (.func f_slices_Sort_L_string_string_), ⟨[(.tmp 6)]⟩, ⟨[t_L_string]⟩⟩, none, false⟩])
  (.seq (.reg [⟨some 8, .move (.tmp 3), none, false⟩,
   ⟨some 2, .assign (.tmp 8), none, false⟩])
  .ret))))
theorem k_slices_Sorted_string_ : FnOk Tryd.prog f_slices_Sorted_string_ 9 [.tmp 2] c_slices_Sorted_string_ := ⟨_, _, Tryd.func28, by kernel_rfl, rfl, Tryd.ntmps28, rfl, by kernel_rfl⟩

def c_slices_Values_L_string_string_ : LC :=
  (.seq (.reg [⟨some 1, .box t_L_string (.tmp 0), none, false⟩,
   ⟨some 2, .assign (.const (.nilFunc)), none, false⟩])
  (.seq (.reg [⟨some 3, .makeFunc (.func f_slices_Values_L_string_string__1) ⟨[]⟩ ⟨[(.tmp 1)]⟩, none, false⟩,
   ⟨some 2, .assign (.tmp 3), none, false⟩])
  .ret))
theorem k_slices_Values_L_string_string_ : FnOk Tryd.prog f_slices_Values_L_string_string_ 4 [.tmp 2] c_slices_Values_L_string_string_ := ⟨_, _, Tryd.func29, by kernel_rfl, rfl, Tryd.ntmps29, rfl, by kernel_rfl⟩

def c_slices_Values_L_string_string__1 : LC :=
  (.seq (.reg [⟨some 5, .load t_L_string (.tmp 1), none, false⟩,
   ⟨some 6, .call ⟨.builtin .len, ⟨[(.tmp 5)]⟩, ⟨[t_L_string]⟩⟩, none, false⟩,
   ⟨some 7, .move (.const (.int .i64 0)), none, false⟩])
  (.block 0 (.loop [true, false, false, false, false, true, true, true, false, false, false, false, false, false, false, false] none
   (.seq (.reg [⟨some 8, .binOp .lss t_int (.tmp 7) (.tmp 6) t_int, none, false⟩])
    (.seq (.cond (.tmp 8)
     .skip
     (.exit 0))
    (.seq (.block 1 (.seq (.reg [⟨some 9, .indexAddr t_L_string (.tmp 5) (.tmp 7), none, false⟩,
      ⟨some 10, .load t_string (.tmp 9), none, false⟩,
      ⟨some 4, .assign (.tmp 10), none, false⟩])
     (.seq (.reg [⟨some 11, .move (.tmp 0), none, false⟩,
      ⟨some 12, .move (.tmp 4), none, false⟩,
      ⟨some 13, .call ⟨.value (.tmp 11), ⟨[(.tmp 12)]⟩, ⟨[t_string]⟩⟩, none, false⟩,
      ⟨some 14, .unOp .not t_bool (.tmp 13), none, false⟩])
     (.cond (.tmp 14)
      .ret
      .skip))))
    (.reg [⟨some 15, .binOp .add t_int (.tmp 7) (.const (.int .i64 1)) t_int, none, false⟩,
     ⟨some 7, .move (.tmp 15), none, false⟩])))))))
theorem k_slices_Values_L_string_string__1 : FnOk Tryd.prog f_slices_Values_L_string_string__1 16 [] c_slices_Values_L_string_string__1 := ⟨_, _, Tryd.func46, by kernel_rfl, rfl, Tryd.ntmps46, rfl, by kernel_rfl⟩

def c_slices_Collect_string_ : LC :=
  (.seq (.reg [⟨some 2, .assign (.const (.slice none 0 0)), none, false⟩])
  (.seq (.reg [⟨some 3, .move (.tmp 0), none, false⟩,
   ⟨some 4, .call ⟨.value (.func f_slices_AppendSeq_L_string_string_), ⟨[(.const (.slice none 0 0)), (.tmp 3)]⟩, ⟨[t_L_string, t_iter_Seq_string_]⟩⟩, none, false⟩,
   ⟨some 2, .assign (.tmp 4), none, false⟩])
  .ret))
theorem k_slices_Collect_string_ : FnOk Tryd.prog f_slices_Collect_string_ 5 [.tmp 2] c_slices_Collect_string_ := ⟨_, _, Tryd.func44, by kernel_rfl, rfl, Tryd.ntmps44, rfl, by kernel_rfl⟩

def c_slices_AppendSeq_L_string_string_ : LC :=
  (.seq (.reg [⟨some 2, .box t_L_string (.tmp 0), none, false⟩,
   ⟨some 4, .assign (.const (.slice none 0 0)), none, false⟩])
  (.seq (.seq (.reg [⟨some 6, .move (.tmp 1), none, false⟩])
  (.block 0 (.rf (.tmp 6) [7] none
    (.reg [⟨some 5, .assign (.tmp 7), none, false⟩])
    (.block 1 (.reg [⟨some 8, .load t_L_string (.tmp 2), none, false⟩,
      ⟨some 9, .move (.tmp 5), none, false⟩,
      ⟨some 10, .buildSlice t_L_string 1 ⟨[(0, (.tmp 9))]⟩, none, false⟩,
      ⟨some 11, .call ⟨.builtin .append, ⟨[(.tmp 8), (.tmp 10)]⟩, ⟨[t_L_string, t_L_string]⟩⟩, none, false⟩,
      ⟨none, .store t_L_string (.tmp 2) (.tmp 11), none, false⟩])))))
  (.seq (.reg [⟨some 12, .load t_L_string (.tmp 2), none, false⟩,
   ⟨some 4, .assign (.tmp 12), none, false⟩])
  .ret)))
theorem k_slices_AppendSeq_L_string_string_ : FnOk Tryd.prog f_slices_AppendSeq_L_string_string_ 13 [.tmp 4] c_slices_AppendSeq_L_string_string_ := ⟨_, _, Tryd.func55, by kernel_rfl, rfl, Tryd.ntmps55, rfl, by kernel_rfl⟩

def c_val_Field : LC :=
  (.seq (.reg [⟨some 3, .box t_string (.tmp 1), none, false⟩,
   ⟨some 4, .alloc t_api_Val, none, false⟩,
   ⟨some 5, .alloc t_bool, none, false⟩])
  (.seq (.seq (.reg [⟨some 8, .move (.tmp 0), none, false⟩,
   ⟨some 9, .indexAddr t_api_Val (.tmp 8) (.const (.int .i64 0)), none, false⟩,
   ⟨some 10, .fieldAddr t_api_Node (.tmp 9) 0, none, false⟩,
   ⟨some 11, .load t_int (.tmp 10), none, false⟩,
   ⟨some 12, .binOp .neq t_int (.tmp 11) (.const (.int .i64 6)) t_int, none, false⟩])
  (.cond (.tmp 12)
   (.seq (.reg [⟨none, .store t_api_Val (.tmp 4) (.const (.slice none 0 0)), none, false⟩,
    ⟨none, .store t_bool (.tmp 5) (.const (.bool false)), none, false⟩])
   .ret)
   .skip))
  (.seq (.seq (.reg [⟨some 13, .move (.tmp 0), none, false⟩,
   ⟨some 14, .call ⟨.value (.func f_val_each), ⟨[(.tmp 13)]⟩, ⟨[t_api_Val]⟩⟩, none, false⟩])
  (.block 0 (.rf (.tmp 14) [15, 16] none
    (.seq (.reg [⟨some 6, .assign (.tmp 15), none, false⟩])
    (.reg [⟨some 7, .assign (.tmp 16), none, false⟩]))
    (.block 1 (.seq (.reg [⟨some 17, .move (.tmp 6), none, false⟩,
      ⟨some 18, .load t_string (.tmp 3), none, false⟩,
      ⟨some 19, .binOp .eql t_string (.tmp 17) (.tmp 18) t_string, none, false⟩])
     (.cond (.tmp 19)
      (.seq (.reg [⟨some 20, .move (.tmp 7), none, false⟩,
       ⟨none, .store t_api_Val (.tmp 4) (.tmp 20), none, false⟩,
       ⟨none, .store t_bool (.tmp 5) (.const (.bool true)), none, false⟩])
      .ret)
      .skip))))))
  (.seq (.reg [⟨none, .store t_api_Val (.tmp 4) (.const (.slice none 0 0)), none, false⟩,
   ⟨none, .store t_bool (.tmp 5) (.const (.bool false)), none, false⟩])
  .ret))))
theorem k_val_Field : FnOk Tryd.prog f_val_Field 21 [.cell 4 t_api_Val, .cell 5 t_bool] c_val_Field := ⟨_, _, Tryd.func26, by kernel_rfl, rfl, Tryd.ntmps26, rfl, by kernel_rfl⟩

def c_loupelaw02_alive : LC :=
  (.seq (.reg [⟨some 0, .assign (.const (.bool false)), none, false⟩])
  (.seq (.reg [⟨some 9, .build t_api_Node ⟨[(0, (.const (.int .i64 2)))]⟩, none, false⟩,
   ⟨some 10, .buildSlice t_api_Val 1 ⟨[(0, (.tmp 9))]⟩, none, false⟩,
   ⟨some 1, .assign (.tmp 10), none, false⟩])
  (.seq (.reg [⟨some 11, .move (.tmp 1), none, false⟩,
   ⟨some 12, .move (.tmp 1), none, false⟩,
   ⟨some 13, .buildSlice t_L_api_Val 2 ⟨[(0, (.tmp 11)), (1, (.tmp 12))]⟩, none, false⟩,
   ⟨some 14, .call ⟨.value (.func f_val_List), ⟨[(.tmp 13)]⟩, ⟨[t_L_api_Val]⟩⟩, none, false⟩,
   ⟨some 2, .assign (.tmp 14), none, false⟩])
  (.seq (.reg [⟨some 16, .buildSlice t_L_string 2 ⟨[(0, (.const (.string ⟨⟨[98]⟩⟩))), (1, (.const (.string ⟨⟨[97]⟩⟩)))]⟩, none, false⟩,
   ⟨some 17, .move (.tmp 2), none, false⟩,
   ⟨some 18, .move (.tmp 1), none, false⟩,
   ⟨some 19, .buildSlice t_L_api_Val 2 ⟨[(0, (.tmp 17)), (1, (.tmp 18))]⟩, none, false⟩,
   ⟨some 20, .call ⟨.value (.func f_val_Object), ⟨[(.tmp 16), (.tmp 19)]⟩, ⟨[t_L_string, t_L_api_Val]⟩⟩, none, false⟩,
   ⟨some 15, .move (.tmp 20), none, false⟩,
   ⟨some 21, .extract (.tmp 15) 0, none, false⟩,
   ⟨some 22, .extract (.tmp 15) 1, none, false⟩,
   ⟨some 3, .assign (.tmp 21), none, false⟩,
   ⟨some 4, .assign (.tmp 22), none, false⟩])
  (.seq (.reg [⟨some 24, .buildSlice t_L_string 2 ⟨[(0, (.const (.string ⟨⟨[98]⟩⟩))), (1, (.const (.string ⟨⟨[98]⟩⟩)))]⟩, none, false⟩,
   ⟨some 25, .move (.tmp 1), none, false⟩,
   ⟨some 26, .move (.tmp 1), none, false⟩,
   ⟨some 27, .buildSlice t_L_api_Val 2 ⟨[(0, (.tmp 25)), (1, (.tmp 26))]⟩, none, false⟩,
   ⟨some 28, .call ⟨.value (.func f_val_Object), ⟨[(.tmp 24), (.tmp 27)]⟩, ⟨[t_L_string, t_L_api_Val]⟩⟩, none, false⟩,
   ⟨some 23, .move (.tmp 28), none, false⟩,
   ⟨some 29, .extract (.tmp 23) 0, none, false⟩,
   ⟨some 30, .extract (.tmp 23) 1, none, false⟩,
   ⟨some 5, .assign (.tmp 29), none, false⟩,
   ⟨some 6, .assign (.tmp 30), none, false⟩])
  (.seq (.reg [⟨some 32, .move (.tmp 3), none, false⟩,
   ⟨some 33, .call ⟨.value (.func f_val_Field), ⟨[(.tmp 32), (.const (.string ⟨⟨[98]⟩⟩))]⟩, ⟨[t_api_Val, t_string]⟩⟩, none, false⟩,
   ⟨some 31, .move (.tmp 33), none, false⟩,
   ⟨some 34, .extract (.tmp 31) 0, none, false⟩,
   ⟨some 35, .extract (.tmp 31) 1, none, false⟩,
   ⟨some 7, .assign (.tmp 34), none, false⟩,
   ⟨some 8, .assign (.tmp 35), none, false⟩])
  (.seq (.reg [⟨some 36, .move (.tmp 2), none, false⟩,
   ⟨some 37, .call ⟨.builtin .len, ⟨[(.tmp 36)]⟩, ⟨[t_api_Val]⟩⟩, none, false⟩,
   ⟨some 38, .binOp .eql t_int (.tmp 37) (.const (.int .i64 3)) t_int, none, false⟩,
   ⟨some 39, .move (.tmp 38), none, false⟩,
   ⟨some 40, .move (.tmp 4), some (some 39, true), false⟩,
   ⟨some 41, .binOp .eql t_api_Errno (.tmp 40) (.const (.int .i64 0)) t_api_Errno, some (some 39, true), false⟩,
   ⟨some 42, .pick (.tmp 39) (.tmp 41) (.const (.bool false)), none, false⟩,
   ⟨some 43, .move (.tmp 42), none, false⟩,
   ⟨some 44, .move (.tmp 6), some (some 43, true), false⟩,
   ⟨some 45, .binOp .eql t_api_Errno (.tmp 44) (.const (.int .i64 4)) t_api_Errno, some (some 43, true), false⟩,
   ⟨some 46, .pick (.tmp 43) (.tmp 45) (.const (.bool false)), none, false⟩,
   ⟨some 47, .move (.tmp 46), none, false⟩,
   ⟨some 48, .move (.tmp 3), some (some 47, true), false⟩,
   ⟨some 49, .call ⟨.builtin .len, ⟨[(.tmp 48)]⟩, ⟨[t_api_Val]⟩⟩, some (some 47, true), false⟩,
   ⟨some 50, .binOp .eql t_int (.tmp 49) (.const (.int .i64 5)) t_int, some (some 47, true), false⟩,
   ⟨some 51, .pick (.tmp 47) (.tmp 50) (.const (.bool false)), none, false⟩,
   ⟨some 52, .move (.tmp 51), none, false⟩,
   ⟨some 53, .move (.tmp 3), some (some 52, true), false⟩,
   ⟨some 54, .indexAddr t_api_Val (.tmp 53) (.const (.int .i64 1)), some (some 52, true), false⟩,
   ⟨some 55, .fieldAddr t_api_Node (.tmp 54) 2, some (some 52, true), false⟩,
   ⟨some 56, .load t_string (.tmp 55), some (some 52, true), false⟩,
   ⟨some 57, .binOp .eql t_string (.tmp 56) (.const (.string ⟨⟨[97]⟩⟩)) t_string, some (some 52, true), false⟩,
   ⟨some 58, .pick (.tmp 52) (.tmp 57) (.const (.bool false)), none, false⟩,
   ⟨some 59, .move (.tmp 58), none, false⟩,
   ⟨some 60, .move (.tmp 7), some (some 59, true), false⟩,
   ⟨some 61, .move (.tmp 2), some (some 59, true), false⟩,
   ⟨some 62, .call ⟨.value (.func f_val_Same), ⟨[(.tmp 60), (.tmp 61)]⟩, ⟨[t_api_Val, t_api_Val]⟩⟩, some (some 59, true), false⟩,
   ⟨some 63, .pick (.tmp 59) (.tmp 62) (.const (.bool false)), none, false⟩,
   ⟨some 64, .move (.tmp 63), none, false⟩,
   ⟨some 65, .move (.tmp 8), some (some 64, true), false⟩,
   ⟨some 66, .pick (.tmp 64) (.tmp 65) (.const (.bool false)), none, false⟩,
   ⟨some 67, .move (.tmp 66), none, false⟩,
   ⟨some 68, .move (.tmp 3), some (some 67, true), false⟩,
   ⟨some 69, .call ⟨.value (.func f_val_Depth), ⟨[(.tmp 68)]⟩, ⟨[t_api_Val]⟩⟩, some (some 67, true), false⟩,
   ⟨some 70, .binOp .eql t_int (.tmp 69) (.const (.int .i64 2)) t_int, some (some 67, true), false⟩,
   ⟨some 71, .pick (.tmp 67) (.tmp 70) (.const (.bool false)), none, false⟩,
   ⟨some 72, .move (.tmp 71), none, false⟩,
   ⟨some 73, .move (.tmp 3), some (some 72, true), false⟩,
   ⟨some 74, .call ⟨.value (.func f_val_Right), ⟨[(.tmp 73)]⟩, ⟨[t_api_Val]⟩⟩, some (some 72, true), false⟩,
   ⟨some 75, .pick (.tmp 72) (.tmp 74) (.const (.bool false)), none, false⟩,
   ⟨some 76, .move (.tmp 75), none, false⟩,
   ⟨some 77, .call ⟨.value (.func f_val_Right), ⟨[(.const (.slice none 0 0))]⟩, ⟨[t_api_Val]⟩⟩, some (some 76, true), false⟩,
   ⟨some 78, .unOp .not t_bool (.tmp 77), some (some 76, true), false⟩,
   ⟨some 79, .pick (.tmp 76) (.tmp 78) (.const (.bool false)), none, false⟩,
   ⟨some 0, .assign (.tmp 79), none, false⟩])
  .ret)))))))
theorem k_loupelaw02_alive : FnOk Tryd.prog f_loupelaw02_alive 80 [.tmp 0] c_loupelaw02_alive := ⟨_, _, Tryd.func8, by kernel_rfl, rfl, Tryd.ntmps8, rfl, by kernel_rfl⟩

def c_loupelaw02_ValTells : LC :=
  (.seq (.reg [⟨some 4, .assign (.const (.bool false)), none, false⟩])
  (.seq (.seq (.reg [⟨some 6, .move (.tmp 0), none, false⟩,
   ⟨some 7, .call ⟨.builtin .len, ⟨[(.tmp 6)]⟩, ⟨[t_api_Val]⟩⟩, none, false⟩,
   ⟨some 8, .binOp .gtr t_int (.tmp 7) (.const (.int .i64 60)) t_int, none, false⟩,
   ⟨some 9, .move (.tmp 8), none, false⟩,
   ⟨some 10, .move (.tmp 1), some (some 9, false), false⟩,
   ⟨some 11, .call ⟨.builtin .len, ⟨[(.tmp 10)]⟩, ⟨[t_api_Val]⟩⟩, some (some 9, false), false⟩,
   ⟨some 12, .binOp .gtr t_int (.tmp 11) (.const (.int .i64 60)) t_int, some (some 9, false), false⟩,
   ⟨some 13, .pick (.tmp 9) (.const (.bool true)) (.tmp 12), none, false⟩])
  (.cond (.tmp 13)
   (.seq (.reg [⟨some 14, .call ⟨.value (.func f_loupelaw02_alive), ⟨[]⟩, ⟨[]⟩⟩, none, false⟩,
    ⟨some 4, .assign (.tmp 14), none, false⟩])
   .ret)
   .skip))
  (.seq (.reg [⟨some 15, .move (.tmp 0), none, false⟩,
   ⟨some 16, .call ⟨.value (.func f_louperef02_Right), ⟨[(.tmp 15)]⟩, ⟨[t_api_Val]⟩⟩, none, false⟩,
   ⟨some 5, .assign (.tmp 16), none, false⟩])
  (.seq (.seq (.reg [⟨some 17, .move (.tmp 0), none, false⟩,
   ⟨some 18, .call ⟨.value (.func f_val_Right), ⟨[(.tmp 17)]⟩, ⟨[t_api_Val]⟩⟩, none, false⟩,
   ⟨some 19, .move (.tmp 5), none, false⟩,
   ⟨some 20, .binOp .neq t_bool (.tmp 18) (.tmp 19) t_bool, none, false⟩,
   ⟨some 21, .move (.tmp 20), none, false⟩,
   ⟨some 22, .move (.tmp 0), some (some 21, false), false⟩,
   ⟨some 23, .move (.tmp 1), some (some 21, false), false⟩,
   ⟨some 24, .call ⟨.value (.func f_val_Same), ⟨[(.tmp 22), (.tmp 23)]⟩, ⟨[t_api_Val, t_api_Val]⟩⟩, some (some 21, false), false⟩,
   ⟨some 25, .move (.tmp 0), some (some 21, false), false⟩,
   ⟨some 26, .move (.tmp 1), some (some 21, false), false⟩,
   ⟨some 27, .call ⟨.value (.func f_louperef02_Same), ⟨[(.tmp 25), (.tmp 26)]⟩, ⟨[t_api_Val, t_api_Val]⟩⟩, some (some 21, false), false⟩,
   ⟨some 28, .binOp .neq t_bool (.tmp 24) (.tmp 27) t_bool, some (some 21, false), false⟩,
   ⟨some 29, .pick (.tmp 21) (.const (.bool true)) (.tmp 28), none, false⟩])
  (.cond (.tmp 29)
   (.seq (.reg [⟨some 4, .assign (.const (.bool false)), none, false⟩])
   .ret)
   .skip))
  (.seq (.seq (.reg [⟨some 30, .move (.tmp 5), none, false⟩,
   ⟨some 31, .unOp .not t_bool (.tmp 30), none, false⟩])
  (.cond (.tmp 31)
   (.seq (.reg [⟨some 32, .call ⟨.value (.func f_loupelaw02_alive), ⟨[]⟩, ⟨[]⟩⟩, none, false⟩,
    ⟨some 4, .assign (.tmp 32), none, false⟩])
   .ret)
   .skip))
  (.seq (.reg [⟨some 33, .call ⟨.value (.func f_loupelaw02_alive), ⟨[]⟩, ⟨[]⟩⟩, none, false⟩,
   ⟨some 34, .move (.tmp 33), none, false⟩,
   ⟨some 35, .move (.tmp 0), some (some 34, true), false⟩,
   ⟨some 36, .call ⟨.value (.func f_val_Depth), ⟨[(.tmp 35)]⟩, ⟨[t_api_Val]⟩⟩, some (some 34, true), false⟩,
   ⟨some 37, .move (.tmp 0), some (some 34, true), false⟩,
   ⟨some 38, .call ⟨.value (.func f_louperef02_Depth), ⟨[(.tmp 37)]⟩, ⟨[t_api_Val]⟩⟩, some (some 34, true), false⟩,
   ⟨some 39, .binOp .eql t_int (.tmp 36) (.tmp 38) t_int, some (some 34, true), false⟩,
   ⟨some 40, .pick (.tmp 34) (.tmp 39) (.const (.bool false)), none, false⟩,
   ⟨some 41, .move (.tmp 40), none, false⟩,
   ⟨some 42, .move (.tmp 0), some (some 41, true), false⟩,
   ⟨some 43, .call ⟨.value (.func f_val_Parts), ⟨[(.tmp 42)]⟩, ⟨[t_api_Val]⟩⟩, some (some 41, true), false⟩,
   ⟨some 44, .move (.tmp 0), some (some 41, true), false⟩,
   ⟨some 45, .call ⟨.value (.func f_louperef02_Parts), ⟨[(.tmp 44)]⟩, ⟨[t_api_Val]⟩⟩, some (some 41, true), false⟩,
   ⟨some 46, .call ⟨.value (.func f_louperef02_Lists), ⟨[(.tmp 43), (.tmp 45)]⟩, ⟨[t_L_api_Val, t_L_api_Val]⟩⟩, some (some 41, true), false⟩,
   ⟨some 47, .pick (.tmp 41) (.tmp 46) (.const (.bool false)), none, false⟩,
   ⟨some 48, .move (.tmp 47), none, false⟩,
   ⟨some 49, .move (.tmp 0), some (some 48, true), false⟩,
   ⟨some 50, .call ⟨.value (.func f_val_Names), ⟨[(.tmp 49)]⟩, ⟨[t_api_Val]⟩⟩, some (some 48, true), false⟩,
   ⟨some 51, .move (.tmp 0), some (some 48, true), false⟩,
   ⟨some 52, .call ⟨.value (.func f_louperef02_Names), ⟨[(.tmp 51)]⟩, ⟨[t_api_Val]⟩⟩, some (some 48, true), false⟩,
   ⟨some 53, .call ⟨.value (.func f_louperef02_Texts), ⟨[(.tmp 50), (.tmp 52)]⟩, ⟨[t_L_string, t_L_string]⟩⟩, some (some 48, true), false⟩,
   ⟨some 54, .pick (.tmp 48) (.tmp 53) (.const (.bool false)), none, false⟩,
   ⟨some 4, .assign (.tmp 54), none, false⟩])
  .ret))))))
theorem k_loupelaw02_ValTells : FnOk Tryd.prog f_loupelaw02_ValTells 55 [.tmp 4] c_loupelaw02_ValTells := ⟨_, _, Tryd.func5, by kernel_rfl, rfl, Tryd.ntmps5, rfl, by kernel_rfl⟩

def c_loupelaw02_ValMakes : LC :=
  (.seq (.reg [⟨some 4, .assign (.const (.bool false)), none, false⟩])
  (.seq (.seq (.reg [⟨some 9, .move (.tmp 0), none, false⟩,
   ⟨some 10, .call ⟨.builtin .len, ⟨[(.tmp 9)]⟩, ⟨[t_L_string]⟩⟩, none, false⟩,
   ⟨some 11, .binOp .gtr t_int (.tmp 10) (.const (.int .i64 60)) t_int, none, false⟩,
   ⟨some 12, .move (.tmp 11), none, false⟩,
   ⟨some 13, .move (.tmp 1), some (some 12, false), false⟩,
   ⟨some 14, .call ⟨.value (.func f_louperef02_All), ⟨[(.tmp 13), (.const (.int .i64 60))]⟩, ⟨[t_L_api_Val, t_int]⟩⟩, some (some 12, false), false⟩,
   ⟨some 15, .unOp .not t_bool (.tmp 14), some (some 12, false), false⟩,
   ⟨some 16, .pick (.tmp 12) (.const (.bool true)) (.tmp 15), none, false⟩])
  (.cond (.tmp 16)
   (.seq (.reg [⟨some 17, .call ⟨.value (.func f_loupelaw02_alive), ⟨[]⟩, ⟨[]⟩⟩, none, false⟩,
    ⟨some 4, .assign (.tmp 17), none, false⟩])
   .ret)
   .skip))
  (.seq (.reg [⟨some 19, .move (.tmp 0), none, false⟩,
   ⟨some 20, .move (.tmp 1), none, false⟩,
   ⟨some 21, .call ⟨.value (.func f_val_Object), ⟨[(.tmp 19), (.tmp 20)]⟩, ⟨[t_L_string, t_L_api_Val]⟩⟩, none, false⟩,
   ⟨some 18, .move (.tmp 21), none, false⟩,
   ⟨some 22, .extract (.tmp 18) 0, none, false⟩,
   ⟨some 23, .extract (.tmp 18) 1, none, false⟩,
   ⟨some 5, .assign (.tmp 22), none, false⟩,
   ⟨some 6, .assign (.tmp 23), none, false⟩])
  (.seq (.reg [⟨some 25, .move (.tmp 0), none, false⟩,
   ⟨some 26, .move (.tmp 1), none, false⟩,
   ⟨some 27, .call ⟨.value (.func f_louperef02_Object), ⟨[(.tmp 25), (.tmp 26)]⟩, ⟨[t_L_string, t_L_api_Val]⟩⟩, none, false⟩,
   ⟨some 24, .move (.tmp 27), none, false⟩,
   ⟨some 28, .extract (.tmp 24) 0, none, false⟩,
   ⟨some 29, .extract (.tmp 24) 1, none, false⟩,
   ⟨some 7, .assign (.tmp 28), none, false⟩,
   ⟨some 8, .assign (.tmp 29), none, false⟩])
  (.seq (.reg [⟨some 30, .call ⟨.value (.func f_loupelaw02_alive), ⟨[]⟩, ⟨[]⟩⟩, none, false⟩,
   ⟨some 31, .move (.tmp 30), none, false⟩,
   ⟨some 32, .move (.tmp 1), some (some 31, true), false⟩,
   ⟨some 33, .call ⟨.value (.func f_val_List), ⟨[(.tmp 32)]⟩, ⟨[t_L_api_Val]⟩⟩, some (some 31, true), false⟩,
   ⟨some 34, .move (.tmp 1), some (some 31, true), false⟩,
   ⟨some 35, .call ⟨.value (.func f_louperef02_List), ⟨[(.tmp 34)]⟩, ⟨[t_L_api_Val]⟩⟩, some (some 31, true), false⟩,
   ⟨some 36, .call ⟨.value (.func f_louperef02_Same), ⟨[(.tmp 33), (.tmp 35)]⟩, ⟨[t_api_Val, t_api_Val]⟩⟩, some (some 31, true), false⟩,
   ⟨some 37, .pick (.tmp 31) (.tmp 36) (.const (.bool false)), none, false⟩,
   ⟨some 38, .move (.tmp 37), none, false⟩,
   ⟨some 39, .move (.tmp 5), some (some 38, true), false⟩,
   ⟨some 40, .move (.tmp 7), some (some 38, true), false⟩,
   ⟨some 41, .call ⟨.value (.func f_louperef02_Same), ⟨[(.tmp 39), (.tmp 40)]⟩, ⟨[t_api_Val, t_api_Val]⟩⟩, some (some 38, true), false⟩,
   ⟨some 42, .pick (.tmp 38) (.tmp 41) (.const (.bool false)), none, false⟩,
   ⟨some 43, .move (.tmp 42), none, false⟩,
   ⟨some 44, .move (.tmp 6), some (some 43, true), false⟩,
   ⟨some 45, .move (.tmp 8), some (some 43, true), false⟩,
   ⟨some 46, .binOp .eql t_api_Errno (.tmp 44) (.tmp 45) t_api_Errno, some (some 43, true), false⟩,
   ⟨some 47, .pick (.tmp 43) (.tmp 46) (.const (.bool false)), none, false⟩,
   ⟨some 4, .assign (.tmp 47), none, false⟩])
  .ret)))))
theorem k_loupelaw02_ValMakes : FnOk Tryd.prog f_loupelaw02_ValMakes 48 [.tmp 4] c_loupelaw02_ValMakes := ⟨_, _, Tryd.func3, by kernel_rfl, rfl, Tryd.ntmps3, rfl, by kernel_rfl⟩

def c_loupelaw02_ValOrder : LC :=
  (.seq (.reg [⟨some 4, .assign (.const (.bool false)), none, false⟩])
  (.seq (.seq (.reg [⟨some 14, .move (.tmp 0), none, false⟩,
   ⟨some 15, .call ⟨.builtin .len, ⟨[(.tmp 14)]⟩, ⟨[t_L_string]⟩⟩, none, false⟩,
   ⟨some 16, .binOp .gtr t_int (.tmp 15) (.const (.int .i64 60)) t_int, none, false⟩,
   ⟨some 17, .move (.tmp 16), none, false⟩,
   ⟨some 18, .move (.tmp 1), some (some 17, false), false⟩,
   ⟨some 19, .call ⟨.value (.func f_louperef02_All), ⟨[(.tmp 18), (.const (.int .i64 60))]⟩, ⟨[t_L_api_Val, t_int]⟩⟩, some (some 17, false), false⟩,
   ⟨some 20, .unOp .not t_bool (.tmp 19), some (some 17, false), false⟩,
   ⟨some 21, .pick (.tmp 17) (.const (.bool true)) (.tmp 20), none, false⟩])
  (.cond (.tmp 21)
   (.seq (.reg [⟨some 22, .call ⟨.value (.func f_loupelaw02_alive), ⟨[]⟩, ⟨[]⟩⟩, none, false⟩,
    ⟨some 4, .assign (.tmp 22), none, false⟩])
   .ret)
   .skip))
  (.seq (.reg [⟨some 24, .move (.tmp 0), none, false⟩,
   ⟨some 25, .move (.tmp 1), none, false⟩,
   ⟨some 26, .call ⟨.value (.func f_val_Object), ⟨[(.tmp 24), (.tmp 25)]⟩, ⟨[t_L_string, t_L_api_Val]⟩⟩, none, false⟩,
   ⟨some 23, .move (.tmp 26), none, false⟩,
   ⟨some 27, .extract (.tmp 23) 0, none, false⟩,
   ⟨some 28, .extract (.tmp 23) 1, none, false⟩,
   ⟨some 5, .assign (.tmp 27), none, false⟩,
   ⟨some 6, .assign (.tmp 28), none, false⟩])
  (.seq (.seq (.reg [⟨some 29, .move (.tmp 0), none, false⟩,
   ⟨some 30, .call ⟨.builtin .len, ⟨[(.tmp 29)]⟩, ⟨[t_L_string]⟩⟩, none, false⟩,
   ⟨some 31, .move (.tmp 1), none, false⟩,
   ⟨some 32, .call ⟨.builtin .len, ⟨[(.tmp 31)]⟩, ⟨[t_L_api_Val]⟩⟩, none, false⟩,
   ⟨some 33, .binOp .neq t_int (.tmp 30) (.tmp 32) t_int, none, false⟩])
  (.cond (.tmp 33)
   (.seq (.reg [⟨some 34, .call ⟨.value (.func f_loupelaw02_alive), ⟨[]⟩, ⟨[]⟩⟩, none, false⟩,
    ⟨some 35, .move (.tmp 34), none, false⟩,
    ⟨some 36, .move (.tmp 6), some (some 35, true), false⟩,
    ⟨some 37, .binOp .eql t_api_Errno (.tmp 36) (.const (.int .i64 4)) t_api_Errno, some (some 35, true), false⟩,
    ⟨some 38, .pick (.tmp 35) (.tmp 37) (.const (.bool false)), none, false⟩,
    ⟨some 39, .move (.tmp 38), none, false⟩,
    ⟨some 40, .move (.tmp 5), some (some 39, true), false⟩,
    ⟨some 41, .call ⟨.builtin .len, ⟨[(.tmp 40)]⟩, ⟨[t_api_Val]⟩⟩, some (some 39, true), false⟩,
    ⟨some 42, .binOp .eql t_int (.tmp 41) (.const (.int .i64 0)) t_int, some (some 39, true), false⟩,
    ⟨some 43, .pick (.tmp 39) (.tmp 42) (.const (.bool false)), none, false⟩,
    ⟨some 4, .assign (.tmp 43), none, false⟩])
   .ret)
   .skip))
  (.seq (.reg [⟨some 44, .buildSlice t_L_string 0 ⟨[]⟩, none, true⟩,
   ⟨some 7, .assign (.tmp 44), none, false⟩])
  (.seq (.reg [⟨some 45, .buildSlice t_L_api_Val 0 ⟨[]⟩, none, true⟩,
   ⟨some 8, .assign (.tmp 45), none, false⟩])
  (.seq (.seq (.reg [⟨some 46, .move (.tmp 0), none, false⟩,
   ⟨some 47, .call ⟨.builtin .len, ⟨[(.tmp 46)]⟩, ⟨[t_L_string]⟩⟩, none, false⟩,
   ⟨some 48, .binOp .sub t_int (.tmp 47) (.const (.int .i64 1)) t_int, none, false⟩,
   ⟨some 9, .assign (.tmp 48), none, false⟩])
  (.block 0 (.loop [true, true, false, false, false, true, true, true, true, true, false, false, false, false, false, false, false, false, false, false, false, false, false, false, false, false, false, false, false, false, false, false, false, false, false, false, false, false, false, false, false, false, false, false, false, false, false, false, false, false, false, false, false, false, false, false, false, false, false, false, false, false, false, false, false, false, false, false, false, false, false, false, false, false, false, false, false, false, false, false, false, false, false, false, false, false, false, false, false, false, false, false, false, false, false, false, false, false, false, false, false, false, false, false, false, false, false, false, false, false, false, false, false, false, false, false, false, false, false, false, false, false, false, false, false, false, false, false, false, false, false] none
   (.seq (.seq (.reg [⟨some 49, .move (.tmp 9), none, false⟩,
     ⟨some 50, .binOp .geq t_int (.tmp 49) (.const (.int .i64 0)) t_int, none, false⟩])
    (.cond (.tmp 50)
     .skip
     (.exit 0)))
    (.seq (.block 1 (.seq (.reg [⟨some 53, .move (.tmp 7), none, false⟩,
      ⟨some 54, .move (.tmp 0), none, false⟩,
      ⟨some 55, .move (.tmp 9), none, false⟩,
      ⟨some 56, .indexAddr t_L_string (.tmp 54) (.tmp 55), none, false⟩,
      ⟨some 57, .load t_string (.tmp 56), none, false⟩,
      ⟨some 58, .buildSlice t_L_string 1 ⟨[(0, (.tmp 57))]⟩, none, false⟩,
      ⟨some 59, .call ⟨.builtin .append, ⟨[(.tmp 53), (.tmp 58)]⟩, ⟨[t_L_string, t_L_string]⟩⟩, none, false⟩,
      ⟨some 7, .assign (.tmp 59), none, false⟩])
     (.reg [⟨some 60, .move (.tmp 8), none, false⟩,
      ⟨some 61, .move (.tmp 1), none, false⟩,
      ⟨some 62, .move (.tmp 9), none, false⟩,
      ⟨some 63, .indexAddr t_L_api_Val (.tmp 61) (.tmp 62), none, false⟩,
      ⟨some 64, .load t_api_Val (.tmp 63), none, false⟩,
      ⟨some 65, .buildSlice t_L_api_Val 1 ⟨[(0, (.tmp 64))]⟩, none, false⟩,
      ⟨some 66, .call ⟨.builtin .append, ⟨[(.tmp 60), (.tmp 65)]⟩, ⟨[t_L_api_Val, t_L_api_Val]⟩⟩, none, false⟩,
      ⟨some 8, .assign (.tmp 66), none, false⟩])))
    (.reg [⟨some 51, .move (.tmp 9), none, false⟩,
     ⟨some 52, .binOp .sub t_int (.tmp 51) (.const (.int .i64 1)) t_int, none, false⟩,
     ⟨some 9, .assign (.tmp 52), none, false⟩]))))))
  (.seq (.reg [⟨some 68, .move (.tmp 7), none, false⟩,
   ⟨some 69, .move (.tmp 8), none, false⟩,
   ⟨some 70, .call ⟨.value (.func f_val_Object), ⟨[(.tmp 68), (.tmp 69)]⟩, ⟨[t_L_string, t_L_api_Val]⟩⟩, none, false⟩,
   ⟨some 67, .move (.tmp 70), none, false⟩,
   ⟨some 71, .extract (.tmp 67) 0, none, false⟩,
   ⟨some 72, .extract (.tmp 67) 1, none, false⟩,
   ⟨some 10, .assign (.tmp 71), none, false⟩,
   ⟨some 11, .assign (.tmp 72), none, false⟩])
  (.seq (.seq (.weak (.reg [⟨some 73, .move (.tmp 0), none, false⟩,
   ⟨some 74, .call ⟨.builtin .len, ⟨[(.tmp 73)]⟩, ⟨[t_L_string]⟩⟩, none, false⟩,
   ⟨some 75, .binOp .eql t_int (.tmp 74) (.const (.int .i64 0)) t_int, none, false⟩]))
  (.cond (.tmp 75)
   (.seq (.reg [⟨some 76, .call ⟨.value (.func f_loupelaw02_alive), ⟨[]⟩, ⟨[]⟩⟩, none, false⟩,
    ⟨some 77, .move (.tmp 76), none, false⟩,
    ⟨some 78, .move (.tmp 6), some (some 77, true), false⟩,
    ⟨some 79, .binOp .eql t_api_Errno (.tmp 78) (.const (.int .i64 0)) t_api_Errno, some (some 77, true), false⟩,
    ⟨some 80, .pick (.tmp 77) (.tmp 79) (.const (.bool false)), none, false⟩,
    ⟨some 81, .move (.tmp 80), none, false⟩,
    ⟨some 82, .move (.tmp 5), some (some 81, true), false⟩,
    ⟨some 83, .call ⟨.builtin .len, ⟨[(.tmp 82)]⟩, ⟨[t_api_Val]⟩⟩, some (some 81, true), false⟩,
    ⟨some 84, .binOp .eql t_int (.tmp 83) (.const (.int .i64 1)) t_int, some (some 81, true), false⟩,
    ⟨some 85, .pick (.tmp 81) (.tmp 84) (.const (.bool false)), none, false⟩,
    ⟨some 4, .assign (.tmp 85), none, false⟩])
   .ret)
   .skip))
  (.seq (.reg [⟨some 86, .move (.tmp 7), none, false⟩,
   ⟨some 87, .move (.tmp 0), none, false⟩,
   ⟨some 88, .indexAddr t_L_string (.tmp 87) (.const (.int .i64 0)), none, false⟩,
   ⟨some 89, .load t_string (.tmp 88), none, false⟩,
   ⟨some 90, .buildSlice t_L_string 1 ⟨[(0, (.tmp 89))]⟩, none, false⟩,
   ⟨some 91, .call ⟨.builtin .append, ⟨[(.tmp 86), (.tmp 90)]⟩, ⟨[t_L_string, t_L_string]⟩⟩, none, false⟩,
   ⟨some 7, .assign (.tmp 91), none, false⟩])
  (.seq (.reg [⟨some 92, .move (.tmp 8), none, false⟩,
   ⟨some 93, .move (.tmp 1), none, false⟩,
   ⟨some 94, .indexAddr t_L_api_Val (.tmp 93) (.const (.int .i64 0)), none, false⟩,
   ⟨some 95, .load t_api_Val (.tmp 94), none, false⟩,
   ⟨some 96, .buildSlice t_L_api_Val 1 ⟨[(0, (.tmp 95))]⟩, none, false⟩,
   ⟨some 97, .call ⟨.builtin .append, ⟨[(.tmp 92), (.tmp 96)]⟩, ⟨[t_L_api_Val, t_L_api_Val]⟩⟩, none, false⟩,
   ⟨some 8, .assign (.tmp 97), none, false⟩])
  (.seq (.reg [⟨some 99, .move (.tmp 7), none, false⟩,
   ⟨some 100, .move (.tmp 8), none, false⟩,
   ⟨some 101, .call ⟨.value (.func f_val_Object), ⟨[(.tmp 99), (.tmp 100)]⟩, ⟨[t_L_string, t_L_api_Val]⟩⟩, none, false⟩,
   ⟨some 98, .move (.tmp 101), none, false⟩,
   ⟨some 102, .extract (.tmp 98) 0, none, false⟩,
   ⟨some 103, .extract (.tmp 98) 1, none, false⟩,
   ⟨some 12, .assign (.tmp 102), none, false⟩,
   ⟨some 13, .assign (.tmp 103), none, false⟩])
  (.seq (.reg [⟨some 104, .call ⟨.value (.func f_loupelaw02_alive), ⟨[]⟩, ⟨[]⟩⟩, none, false⟩,
   ⟨some 105, .move (.tmp 104), none, false⟩,
   ⟨some 106, .move (.tmp 6), some (some 105, true), false⟩,
   ⟨some 107, .move (.tmp 11), some (some 105, true), false⟩,
   ⟨some 108, .binOp .eql t_api_Errno (.tmp 106) (.tmp 107) t_api_Errno, some (some 105, true), false⟩,
   ⟨some 109, .pick (.tmp 105) (.tmp 108) (.const (.bool false)), none, false⟩,
   ⟨some 110, .move (.tmp 109), none, false⟩,
   ⟨some 111, .move (.tmp 5), some (some 110, true), false⟩,
   ⟨some 112, .move (.tmp 10), some (some 110, true), false⟩,
   ⟨some 113, .call ⟨.value (.func f_louperef02_Same), ⟨[(.tmp 111), (.tmp 112)]⟩, ⟨[t_api_Val, t_api_Val]⟩⟩, some (some 110, true), false⟩,
   ⟨some 114, .pick (.tmp 110) (.tmp 113) (.const (.bool false)), none, false⟩,
   ⟨some 115, .move (.tmp 114), none, false⟩,
   ⟨some 116, .move (.tmp 13), some (some 115, true), false⟩,
   ⟨some 117, .binOp .eql t_api_Errno (.tmp 116) (.const (.int .i64 4)) t_api_Errno, some (some 115, true), false⟩,
   ⟨some 118, .pick (.tmp 115) (.tmp 117) (.const (.bool false)), none, false⟩,
   ⟨some 119, .move (.tmp 118), none, false⟩,
   ⟨some 120, .move (.tmp 6), some (some 119, true), false⟩,
   ⟨some 121, .binOp .neq t_api_Errno (.tmp 120) (.const (.int .i64 0)) t_api_Errno, some (some 119, true), false⟩,
   ⟨some 122, .move (.tmp 121), some (some 119, true), false⟩,
   ⟨some 123, .move (.tmp 5), some (some 122, false), false⟩,
   ⟨some 124, .call ⟨.value (.func f_val_Parts), ⟨[(.tmp 123)]⟩, ⟨[t_api_Val]⟩⟩, some (some 122, false), false⟩,
   ⟨some 125, .call ⟨.builtin .len, ⟨[(.tmp 124)]⟩, ⟨[t_L_api_Val]⟩⟩, some (some 122, false), false⟩,
   ⟨some 126, .move (.tmp 1), some (some 122, false), false⟩,
   ⟨some 127, .call ⟨.builtin .len, ⟨[(.tmp 126)]⟩, ⟨[t_L_api_Val]⟩⟩, some (some 122, false), false⟩,
   ⟨some 128, .binOp .eql t_int (.tmp 125) (.tmp 127) t_int, some (some 122, false), false⟩,
   ⟨some 129, .pick (.tmp 122) (.const (.bool true)) (.tmp 128), some (some 119, true), false⟩,
   ⟨some 130, .pick (.tmp 119) (.tmp 129) (.const (.bool false)), none, false⟩,
   ⟨some 4, .assign (.tmp 130), none, false⟩])
  .ret)))))))))))))
theorem k_loupelaw02_ValOrder : FnOk Tryd.prog f_loupelaw02_ValOrder 131 [.tmp 4] c_loupelaw02_ValOrder := ⟨_, _, Tryd.func4, by kernel_rfl, rfl, Tryd.ntmps4, rfl, by kernel_rfl⟩

def c_loupelaw02_ValBack : LC :=
  (.seq (.reg [⟨some 4, .assign (.const (.bool false)), none, false⟩])
  (.seq (.seq (.reg [⟨some 10, .move (.tmp 0), none, false⟩,
   ⟨some 11, .call ⟨.value (.func f_louperef02_Few), ⟨[(.tmp 10), (.const (.int .i64 60))]⟩, ⟨[t_api_Val, t_int]⟩⟩, none, false⟩,
   ⟨some 12, .unOp .not t_bool (.tmp 11), none, false⟩,
   ⟨some 13, .move (.tmp 12), none, false⟩,
   ⟨some 14, .move (.tmp 1), some (some 13, false), false⟩,
   ⟨some 15, .call ⟨.value (.func f_louperef02_All), ⟨[(.tmp 14), (.const (.int .i64 60))]⟩, ⟨[t_L_api_Val, t_int]⟩⟩, some (some 13, false), false⟩,
   ⟨some 16, .unOp .not t_bool (.tmp 15), some (some 13, false), false⟩,
   ⟨some 17, .pick (.tmp 13) (.const (.bool true)) (.tmp 16), none, false⟩])
  (.cond (.tmp 17)
   (.seq (.reg [⟨some 18, .call ⟨.value (.func f_loupelaw02_alive), ⟨[]⟩, ⟨[]⟩⟩, none, false⟩,
    ⟨some 4, .assign (.tmp 18), none, false⟩])
   .ret)
   .skip))
  (.seq (.reg [⟨some 19, .move (.tmp 1), none, false⟩,
   ⟨some 20, .call ⟨.value (.func f_val_List), ⟨[(.tmp 19)]⟩, ⟨[t_L_api_Val]⟩⟩, none, false⟩,
   ⟨some 5, .assign (.tmp 20), none, false⟩])
  (.seq (.seq (.reg [⟨some 21, .move (.tmp 5), none, false⟩,
   ⟨some 22, .call ⟨.value (.func f_louperef02_Right), ⟨[(.tmp 21)]⟩, ⟨[t_api_Val]⟩⟩, none, false⟩,
   ⟨some 23, .unOp .not t_bool (.tmp 22), none, false⟩,
   ⟨some 24, .move (.tmp 23), none, false⟩,
   ⟨some 25, .move (.tmp 5), some (some 24, false), false⟩,
   ⟨some 26, .call ⟨.value (.func f_val_Parts), ⟨[(.tmp 25)]⟩, ⟨[t_api_Val]⟩⟩, some (some 24, false), false⟩,
   ⟨some 27, .move (.tmp 1), some (some 24, false), false⟩,
   ⟨some 28, .call ⟨.value (.func f_louperef02_Lists), ⟨[(.tmp 26), (.tmp 27)]⟩, ⟨[t_L_api_Val, t_L_api_Val]⟩⟩, some (some 24, false), false⟩,
   ⟨some 29, .unOp .not t_bool (.tmp 28), some (some 24, false), false⟩,
   ⟨some 30, .pick (.tmp 24) (.const (.bool true)) (.tmp 29), none, false⟩,
   ⟨some 31, .move (.tmp 30), none, false⟩,
   ⟨some 32, .move (.tmp 5), some (some 31, false), false⟩,
   ⟨some 33, .call ⟨.value (.func f_val_Names), ⟨[(.tmp 32)]⟩, ⟨[t_api_Val]⟩⟩, some (some 31, false), false⟩,
   ⟨some 34, .call ⟨.builtin .len, ⟨[(.tmp 33)]⟩, ⟨[t_L_string]⟩⟩, some (some 31, false), false⟩,
   ⟨some 35, .binOp .neq t_int (.tmp 34) (.const (.int .i64 0)) t_int, some (some 31, false), false⟩,
   ⟨some 36, .pick (.tmp 31) (.const (.bool true)) (.tmp 35), none, false⟩])
  (.cond (.tmp 36)
   (.seq (.reg [⟨some 4, .assign (.const (.bool false)), none, false⟩])
   .ret)
   .skip))
  (.seq (.reg [⟨some 37, .move (.tmp 0), none, false⟩,
   ⟨some 38, .call ⟨.value (.func f_val_Parts), ⟨[(.tmp 37)]⟩, ⟨[t_api_Val]⟩⟩, none, false⟩,
   ⟨some 6, .assign (.tmp 38), none, false⟩])
  (.seq (.seq (.reg [⟨some 7, .assign (.const (.int .i64 0)), none, false⟩])
  (.block 0 (.loop [true, false, false, false, false, false, true, true, false, false, false, false, false, false, false, false, false, false, false, false, false, false, false, false, false, false, false, false, false, false, false, false, false, false, false, false, false, false, false, false, false, false, false, false, false, false, false, false, false, false, false, false, false, false, false, false, false, false, false, false, false, false, false, false, false, false, false, false, false, false, false, false, false, false, false, false, false, false, false, false, false, false, false, false, false, false, false, false, false, false, false, false, false, false, false, false, false, false, false, false, false, false, false, false] none
   (.seq (.seq (.reg [⟨some 39, .move (.tmp 7), none, false⟩,
     ⟨some 40, .move (.tmp 6), none, false⟩,
     ⟨some 41, .call ⟨.builtin .len, ⟨[(.tmp 40)]⟩, ⟨[t_L_api_Val]⟩⟩, none, false⟩,
     ⟨some 42, .binOp .lss t_int (.tmp 39) (.tmp 41) t_int, none, false⟩])
    (.cond (.tmp 42)
     .skip
     (.exit 0)))
    (.seq (.block 1 (.seq (.reg [⟨some 45, .move (.tmp 6), none, false⟩,
      ⟨some 46, .move (.tmp 7), none, false⟩,
      ⟨some 47, .indexAddr t_L_api_Val (.tmp 45) (.tmp 46), none, false⟩,
      ⟨some 48, .load t_api_Val (.tmp 47), none, false⟩,
      ⟨some 49, .call ⟨.value (.func f_louperef02_Right), ⟨[(.tmp 48)]⟩, ⟨[t_api_Val]⟩⟩, none, false⟩,
      ⟨some 50, .unOp .not t_bool (.tmp 49), none, false⟩,
      ⟨some 51, .move (.tmp 50), none, false⟩,
      ⟨some 52, .move (.tmp 6), some (some 51, false), false⟩,
      ⟨some 53, .move (.tmp 7), some (some 51, false), false⟩,
      ⟨some 54, .indexAddr t_L_api_Val (.tmp 52) (.tmp 53), some (some 51, false), false⟩,
      ⟨some 55, .load t_api_Val (.tmp 54), some (some 51, false), false⟩,
      ⟨some 56, .call ⟨.value (.func f_val_Depth), ⟨[(.tmp 55)]⟩, ⟨[t_api_Val]⟩⟩, some (some 51, false), false⟩,
      ⟨some 57, .move (.tmp 0), some (some 51, false), false⟩,
      ⟨some 58, .call ⟨.value (.func f_val_Depth), ⟨[(.tmp 57)]⟩, ⟨[t_api_Val]⟩⟩, some (some 51, false), false⟩,
      ⟨some 59, .binOp .geq t_int (.tmp 56) (.tmp 58) t_int, some (some 51, false), false⟩,
      ⟨some 60, .pick (.tmp 51) (.const (.bool true)) (.tmp 59), none, false⟩])
     (.cond (.tmp 60)
      (.seq (.reg [⟨some 4, .assign (.const (.bool false)), none, false⟩])
      .ret)
      .skip)))
    (.reg [⟨some 43, .move (.tmp 7), none, false⟩,
     ⟨some 44, .binOp .add t_int (.tmp 43) (.const (.int .i64 1)) t_int, none, false⟩,
     ⟨some 7, .assign (.tmp 44), none, false⟩]))))))
  (.seq (.seq (.reg [⟨some 61, .move (.tmp 0), none, false⟩,
   ⟨some 62, .indexAddr t_api_Val (.tmp 61) (.const (.int .i64 0)), none, false⟩,
   ⟨some 63, .fieldAddr t_api_Node (.tmp 62) 0, none, false⟩,
   ⟨some 64, .load t_int (.tmp 63), none, false⟩])
  (.block 2 (.seq (.reg [⟨some 66, .binOp .eql t_int (.tmp 64) (.const (.int .i64 5)) t_int, none, false⟩,
    ⟨some 65, .assign (.tmp 66), none, false⟩])
   (.cond (.tmp 65)
    (.seq (.reg [⟨some 67, .call ⟨.value (.func f_loupelaw02_alive), ⟨[]⟩, ⟨[]⟩⟩, none, false⟩,
     ⟨some 68, .move (.tmp 67), none, false⟩,
     ⟨some 69, .move (.tmp 6), some (some 68, true), false⟩,
     ⟨some 70, .call ⟨.value (.func f_val_List), ⟨[(.tmp 69)]⟩, ⟨[t_L_api_Val]⟩⟩, some (some 68, true), false⟩,
     ⟨some 71, .move (.tmp 0), some (some 68, true), false⟩,
     ⟨some 72, .call ⟨.value (.func f_louperef02_Same), ⟨[(.tmp 70), (.tmp 71)]⟩, ⟨[t_api_Val, t_api_Val]⟩⟩, some (some 68, true), false⟩,
     ⟨some 73, .pick (.tmp 68) (.tmp 72) (.const (.bool false)), none, false⟩,
     ⟨some 4, .assign (.tmp 73), none, false⟩])
    .ret)
    (.seq (.reg [⟨some 75, .binOp .eql t_int (.tmp 64) (.const (.int .i64 6)) t_int, none, false⟩,
     ⟨some 74, .assign (.tmp 75), none, false⟩])
    (.cond (.tmp 74)
     (.seq (.reg [⟨some 77, .move (.tmp 0), none, false⟩,
      ⟨some 78, .call ⟨.value (.func f_val_Names), ⟨[(.tmp 77)]⟩, ⟨[t_api_Val]⟩⟩, none, false⟩,
      ⟨some 79, .move (.tmp 6), none, false⟩,
      ⟨some 80, .call ⟨.value (.func f_val_Object), ⟨[(.tmp 78), (.tmp 79)]⟩, ⟨[t_L_string, t_L_api_Val]⟩⟩, none, false⟩,
      ⟨some 76, .move (.tmp 80), none, false⟩,
      ⟨some 81, .extract (.tmp 76) 0, none, false⟩,
      ⟨some 82, .extract (.tmp 76) 1, none, false⟩,
      ⟨some 8, .assign (.tmp 81), none, false⟩,
      ⟨some 9, .assign (.tmp 82), none, false⟩])
     (.seq (.reg [⟨some 83, .call ⟨.value (.func f_loupelaw02_alive), ⟨[]⟩, ⟨[]⟩⟩, none, false⟩,
      ⟨some 84, .move (.tmp 83), none, false⟩,
      ⟨some 85, .move (.tmp 9), some (some 84, true), false⟩,
      ⟨some 86, .binOp .eql t_api_Errno (.tmp 85) (.const (.int .i64 0)) t_api_Errno, some (some 84, true), false⟩,
      ⟨some 87, .pick (.tmp 84) (.tmp 86) (.const (.bool false)), none, false⟩,
      ⟨some 88, .move (.tmp 87), none, false⟩,
      ⟨some 89, .move (.tmp 8), some (some 88, true), false⟩,
      ⟨some 90, .move (.tmp 0), some (some 88, true), false⟩,
      ⟨some 91, .call ⟨.value (.func f_louperef02_Same), ⟨[(.tmp 89), (.tmp 90)]⟩, ⟨[t_api_Val, t_api_Val]⟩⟩, some (some 88, true), false⟩,
      ⟨some 92, .pick (.tmp 88) (.tmp 91) (.const (.bool false)), none, false⟩,
      ⟨some 4, .assign (.tmp 92), none, false⟩])
     .ret))
     .skip))))))
  (.seq (.reg [⟨some 93, .call ⟨.value (.func f_loupelaw02_alive), ⟨[]⟩, ⟨[]⟩⟩, none, false⟩,
   ⟨some 94, .move (.tmp 93), none, false⟩,
   ⟨some 95, .move (.tmp 6), some (some 94, true), false⟩,
   ⟨some 96, .call ⟨.builtin .len, ⟨[(.tmp 95)]⟩, ⟨[t_L_api_Val]⟩⟩, some (some 94, true), false⟩,
   ⟨some 97, .binOp .eql t_int (.tmp 96) (.const (.int .i64 0)) t_int, some (some 94, true), false⟩,
   ⟨some 98, .pick (.tmp 94) (.tmp 97) (.const (.bool false)), none, false⟩,
   ⟨some 99, .move (.tmp 98), none, false⟩,
   ⟨some 100, .move (.tmp 0), some (some 99, true), false⟩,
   ⟨some 101, .call ⟨.value (.func f_val_Depth), ⟨[(.tmp 100)]⟩, ⟨[t_api_Val]⟩⟩, some (some 99, true), false⟩,
   ⟨some 102, .binOp .eql t_int (.tmp 101) (.const (.int .i64 0)) t_int, some (some 99, true), false⟩,
   ⟨some 103, .pick (.tmp 99) (.tmp 102) (.const (.bool false)), none, false⟩,
   ⟨some 4, .assign (.tmp 103), none, false⟩])
  .ret))))))))
theorem k_loupelaw02_ValBack : FnOk Tryd.prog f_loupelaw02_ValBack 104 [.tmp 4] c_loupelaw02_ValBack := ⟨_, _, Tryd.func6, by kernel_rfl, rfl, Tryd.ntmps6, rfl, by kernel_rfl⟩

end Lp
