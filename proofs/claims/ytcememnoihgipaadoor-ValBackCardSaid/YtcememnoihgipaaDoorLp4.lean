/-
  Part 4 of what the statement rests on: LpW14, LpW15, LpW16, LpW17, LpW18, LpW19, LpW20, LpW23, LpC2, LpC4, LpC5, LpV6, LpV7, LpV8, LpV9. No condition.
-/
import Derived.Test.YtcememnoihgipaaDoorLp3
import Derived.Lib.TrimByte

set_option linter.all false

/-! LpW14 -/

namespace Lp
open Go Go.Proofs

set_option maxHeartbeats 4000000
set_option maxRecDepth 20000
set_option linter.unusedSimpArgs false

theorem u8c (c : UInt8) (n : Nat) (h : n < 256) : (c < UInt8.ofNat n ↔ c.toNat < n) ∧ (UInt8.ofNat n ≤ c ↔ n ≤ c.toNat) := by
  have e : (UInt8.ofNat n).toNat = n := by simp [UInt8.toNat_ofNat']; omega
  constructor
  · rw [UInt8.lt_iff_toNat_lt, e]
  · rw [UInt8.le_iff_toNat_le, e]

theorem contB_some {s : List UInt8} {i : Nat} {c : UInt8} (h : s[i]? = some c) : contB s i = (decide (128 ≤ c.toNat) && decide (c.toNat < 192)) := by
  have h1 : 128 ≤ c ↔ 128 ≤ c.toNat := (u8c c 128 (by omega)).2
  have h2 : c < 192 ↔ c.toNat < 192 := (u8c c 192 (by omega)).1
  simp only [contB, h]
  rw [decide_eq_decide.2 h1, decide_eq_decide.2 h2]

theorem cont_spec (s : List UInt8) (i : Int) (hi : 0 ≤ i) : FnSpec Tryd.prog f_louperef02_cont [.str s, .int .i64 i] [] (.bool (contB s i.toNat)) [] := by
  refine k_louperef02_cont.pure (T := tabL Tryd.prog []) 0 hD (kOk_tabL tabOk_nil) hmix (by decide) ?_
  try simp only [F_all]
  rcases Nat.lt_or_ge i.toNat s.length with h | h
  · have hg := List.getElem?_eq_getElem h
    generalize s[i.toNat] = c at hg
    simp (maxSteps := 400000) only [↓preZ, postZ, coreZ, ↓preU, postU, D_all, F_all, unR, outL, onePV, binS, ↓binS, boundR, ↓boundR, fieldOf, ↓fieldOf, boxR, allocR, newObj, zeroElem, buildSliceR, appendR, setAll, storeR, St.freeze, makeSliceR, minmaxR, makeFuncR, BEq.rfl, reduceIte, reduceCtorEq, Nat.reduceLT, Nat.reduceAdd, Nat.reduceSub, Nat.reduceMul, Nat.reduceBEq, Nat.reduceLeDiff, Int.reduceToNat, Int.reduceLE, c_louperef02_cont, hg, contB_some hg]
    refine ⟨fun _ => ⟨hi, fun h1 => ⟨hi, ?_⟩, fun h1 => ?_⟩, fun h2 => absurd (by omega) h2⟩
    · have : 128 ≤ c.toNat := by omega
      simp only [this, decide_true, Bool.true_and]
      exact decide_eq_decide.2 (by omega)
    · have : ¬ 128 ≤ c.toNat := by omega
      simp only [this, decide_false, Bool.false_and]
  · have hn : s[i.toNat]? = none := List.getElem?_eq_none h
    simp (maxSteps := 400000) only [↓preZ, postZ, coreZ, ↓preU, postU, D_all, F_all, unR, outL, onePV, binS, ↓binS, boundR, ↓boundR, fieldOf, ↓fieldOf, boxR, allocR, newObj, zeroElem, buildSliceR, appendR, setAll, storeR, St.freeze, makeSliceR, minmaxR, makeFuncR, BEq.rfl, reduceIte, reduceCtorEq, Nat.reduceLT, Nat.reduceAdd, Nat.reduceSub, Nat.reduceMul, Nat.reduceBEq, Nat.reduceLeDiff, Int.reduceToNat, Int.reduceLE, c_louperef02_cont]
    simp only [contB, hn]
    exact ⟨fun hh => absurd hh (by omega), fun _ => trivial⟩

def ctrCont : Ctr := fun args objs K => match args with
  | [.str s, .int .i64 i] => (0 ≤ i) ∧ K (.bool (contB s i.toNat)) objs 0
  | _ => False
theorem ctrCont_ok : CtrOk Tryd.prog f_louperef02_cont (ctrCont) := by
  intro args objs K h
  unfold ctrCont at h
  split at h
  · rename_i s i
    obtain ⟨h1, hk⟩ := h
    exact ⟨_, _, _, .pure _ rfl (cont_spec s i h1), hk⟩
  · exact h.elim

theorem contB_drop (s : List UInt8) (i k : Nat) : contB (s.drop i) k = contB s (i + k) := by
  simp only [contB, List.getElem?_drop]

theorem contB_get {s : List UInt8} {i : Nat} (h : contB s i = true) : ∃ d, s[i]? = some d := by
  unfold contB at h
  split at h
  · rename_i b hb; exact ⟨b, hb⟩
  · cases h

theorem rune_spec (s : List UInt8) (i : Nat) (hi : i < s.length) (hl : s.length ≤ 4611686018427387904) : FnSpec Tryd.prog f_louperef02_Rune [.str s, .int .i64 i] [] (.int .i64 (runeN (s.drop i) : Nat)) [] := by
  have hg := List.getElem?_eq_getElem hi
  have hd := List.drop_eq_getElem_cons hi
  generalize s[i] = c at hg hd
  have c0 : contB (s.drop (i + 1)) 0 = contB s (i + 1) := contB_drop s (i + 1) 0
  have c1 : contB (s.drop (i + 1)) 1 = contB s (i + 2) := contB_drop s (i + 1) 1
  have c2 : contB (s.drop (i + 1)) 2 = contB s (i + 3) := contB_drop s (i + 1) 2
  have n1 : ((i : Int) + 1).toNat = i + 1 := by omega
  have n2 : ((i : Int) + 2).toNat = i + 2 := by omega
  have n3 : ((i : Int) + 3).toNat = i + 3 := by omega
  have z0 : (0 ≤ (i : Int)) = True := eq_true (by omega)
  have z1 : (0 ≤ (i : Int) + 1) = True := eq_true (by omega)
  have z2 : (0 ≤ (i : Int) + 2) = True := eq_true (by omega)
  have z3 : (0 ≤ (i : Int) + 3) = True := eq_true (by omega)
  have i1 : (-9223372036854775808 ≤ (i : Int) + 1 ∧ (i : Int) + 1 ≤ 9223372036854775807) = True := eq_true ⟨by omega, by omega⟩
  have i2 : (-9223372036854775808 ≤ (i : Int) + 2 ∧ (i : Int) + 2 ≤ 9223372036854775807) = True := eq_true ⟨by omega, by omega⟩
  have i3 : (-9223372036854775808 ≤ (i : Int) + 3 ∧ (i : Int) + 3 ≤ 9223372036854775807) = True := eq_true ⟨by omega, by omega⟩
  suffices gen : ∀ Q : Exit → St → Prop, (∀ (l : List (Nat × PV)) (v : Nat), lkA l 4 = .int .i64 v → v = runeN (c :: s.drop (i + 1)) → Q .ret ⟨tmA 109 l, []⟩) →
      wpc Tryd.prog D (tabL Tryd.prog [(f_louperef02_cont, ctrCont)]) c_louperef02_Rune Q (startS [.str s, .int .i64 i] 109) by
    rw [hd]
    refine k_louperef02_Rune.pure (T := tabL Tryd.prog [(f_louperef02_cont, ctrCont)]) 0 hD (kOk_tabL (tabOk_cons ctrCont_ok tabOk_nil)) hmix (by decide) ?_
    try simp only [F_all]
    refine gen _ fun l v h1 h2 => ?_
    subst h2
    simp only [retR, outL, onePV, stR2, taR2, Nat.reduceLT, h1, List.map_cons, List.map_nil, frR]
  intro Q hQ
  have hc : c.toNat < 256 := c.toNat_lt
  have h6 : c.toNat < 128 ∨ (128 ≤ c.toNat ∧ c.toNat < 194) ∨ (194 ≤ c.toNat ∧ c.toNat < 224) ∨ (224 ≤ c.toNat ∧ c.toNat < 240) ∨ (240 ≤ c.toNat ∧ c.toNat < 245) ∨ 245 ≤ c.toNat := by omega
  rcases h6 with h | h | h | h | h | h
  · skip
    have f0 : (((c.toNat : Int) < 128) = True) := eq_true (by omega)
    have f1 : ((128 ≤ (c.toNat : Int)) = False) := eq_false (by omega)
    have f2 : ((c < 128) = True) := eq_true ((u8c c 128 (by omega)).1.2 (by omega))
    have f3 : ((128 ≤ c) = False) := eq_false fun hh => by have := (u8c c 128 (by omega)).2.1 hh; omega
    have f4 : (((c.toNat : Int) < 194) = True) := eq_true (by omega)
    have f5 : ((194 ≤ (c.toNat : Int)) = False) := eq_false (by omega)
    have f6 : ((c < 194) = True) := eq_true ((u8c c 194 (by omega)).1.2 (by omega))
    have f7 : ((194 ≤ c) = False) := eq_false fun hh => by have := (u8c c 194 (by omega)).2.1 hh; omega
    have f8 : (((c.toNat : Int) < 224) = True) := eq_true (by omega)
    have f9 : ((224 ≤ (c.toNat : Int)) = False) := eq_false (by omega)
    have f10 : ((c < 224) = True) := eq_true ((u8c c 224 (by omega)).1.2 (by omega))
    have f11 : ((224 ≤ c) = False) := eq_false fun hh => by have := (u8c c 224 (by omega)).2.1 hh; omega
    have f12 : (((c.toNat : Int) < 240) = True) := eq_true (by omega)
    have f13 : ((240 ≤ (c.toNat : Int)) = False) := eq_false (by omega)
    have f14 : ((c < 240) = True) := eq_true ((u8c c 240 (by omega)).1.2 (by omega))
    have f15 : ((240 ≤ c) = False) := eq_false fun hh => by have := (u8c c 240 (by omega)).2.1 hh; omega
    have f16 : (((c.toNat : Int) < 245) = True) := eq_true (by omega)
    have f17 : ((245 ≤ (c.toNat : Int)) = False) := eq_false (by omega)
    have f18 : ((c < 245) = True) := eq_true ((u8c c 245 (by omega)).1.2 (by omega))
    have f19 : ((245 ≤ c) = False) := eq_false fun hh => by have := (u8c c 245 (by omega)).2.1 hh; omega
    simp (maxSteps := 400000) only [↓preZ, postZ, coreZ, ↓preU, postU, D_all, F_all, unR, outL, onePV, binS, ↓binS, boundR, ↓boundR, fieldOf, ↓fieldOf, boxR, allocR, newObj, zeroElem, buildSliceR, appendR, setAll, storeR, St.freeze, makeSliceR, minmaxR, makeFuncR, BEq.rfl, reduceIte, reduceCtorEq, Nat.reduceLT, Nat.reduceAdd, Nat.reduceSub, Nat.reduceMul, Nat.reduceBEq, Nat.reduceLeDiff, Int.reduceToNat, Int.reduceLE, c_louperef02_Rune, hg, ↓ctrCont, n1, n2, n3, z0, z1, z2, z3, i1, i2, i3, f0, f1, f2, f3, f4, f5, f6, f7, f8, f9, f10, f11, f12, f13, f14, f15, f16, f17, f18, f19]
    exact hQ _ 1 rfl (by simp only [true_or, or_true, or_self, or_false, false_or, and_self, true_and, and_true, false_and, and_false, if_true, if_false, Bool.false_eq_true, c0, c1, c2, runeN, f0, f1, f2, f3, f4, f5, f6, f7, f8, f9, f10, f11, f12, f13, f14, f15, f16, f17, f18, f19])
  · skip
    have f0 : (((c.toNat : Int) < 128) = False) := eq_false (by omega)
    have f1 : ((128 ≤ (c.toNat : Int)) = True) := eq_true (by omega)
    have f2 : ((c < 128) = False) := eq_false fun hh => by have := (u8c c 128 (by omega)).1.1 hh; omega
    have f3 : ((128 ≤ c) = True) := eq_true ((u8c c 128 (by omega)).2.2 (by omega))
    have f4 : (((c.toNat : Int) < 194) = True) := eq_true (by omega)
    have f5 : ((194 ≤ (c.toNat : Int)) = False) := eq_false (by omega)
    have f6 : ((c < 194) = True) := eq_true ((u8c c 194 (by omega)).1.2 (by omega))
    have f7 : ((194 ≤ c) = False) := eq_false fun hh => by have := (u8c c 194 (by omega)).2.1 hh; omega
    have f8 : (((c.toNat : Int) < 224) = True) := eq_true (by omega)
    have f9 : ((224 ≤ (c.toNat : Int)) = False) := eq_false (by omega)
    have f10 : ((c < 224) = True) := eq_true ((u8c c 224 (by omega)).1.2 (by omega))
    have f11 : ((224 ≤ c) = False) := eq_false fun hh => by have := (u8c c 224 (by omega)).2.1 hh; omega
    have f12 : (((c.toNat : Int) < 240) = True) := eq_true (by omega)
    have f13 : ((240 ≤ (c.toNat : Int)) = False) := eq_false (by omega)
    have f14 : ((c < 240) = True) := eq_true ((u8c c 240 (by omega)).1.2 (by omega))
    have f15 : ((240 ≤ c) = False) := eq_false fun hh => by have := (u8c c 240 (by omega)).2.1 hh; omega
    have f16 : (((c.toNat : Int) < 245) = True) := eq_true (by omega)
    have f17 : ((245 ≤ (c.toNat : Int)) = False) := eq_false (by omega)
    have f18 : ((c < 245) = True) := eq_true ((u8c c 245 (by omega)).1.2 (by omega))
    have f19 : ((245 ≤ c) = False) := eq_false fun hh => by have := (u8c c 245 (by omega)).2.1 hh; omega
    simp (maxSteps := 400000) only [↓preZ, postZ, coreZ, ↓preU, postU, D_all, F_all, unR, outL, onePV, binS, ↓binS, boundR, ↓boundR, fieldOf, ↓fieldOf, boxR, allocR, newObj, zeroElem, buildSliceR, appendR, setAll, storeR, St.freeze, makeSliceR, minmaxR, makeFuncR, BEq.rfl, reduceIte, reduceCtorEq, Nat.reduceLT, Nat.reduceAdd, Nat.reduceSub, Nat.reduceMul, Nat.reduceBEq, Nat.reduceLeDiff, Int.reduceToNat, Int.reduceLE, c_louperef02_Rune, hg, ↓ctrCont, n1, n2, n3, z0, z1, z2, z3, i1, i2, i3, f0, f1, f2, f3, f4, f5, f6, f7, f8, f9, f10, f11, f12, f13, f14, f15, f16, f17, f18, f19]
    exact hQ _ 0 rfl (by simp only [true_or, or_true, or_self, or_false, false_or, and_self, true_and, and_true, false_and, and_false, if_true, if_false, Bool.false_eq_true, c0, c1, c2, runeN, f0, f1, f2, f3, f4, f5, f6, f7, f8, f9, f10, f11, f12, f13, f14, f15, f16, f17, f18, f19])
  · skip
    have f0 : (((c.toNat : Int) < 128) = False) := eq_false (by omega)
    have f1 : ((128 ≤ (c.toNat : Int)) = True) := eq_true (by omega)
    have f2 : ((c < 128) = False) := eq_false fun hh => by have := (u8c c 128 (by omega)).1.1 hh; omega
    have f3 : ((128 ≤ c) = True) := eq_true ((u8c c 128 (by omega)).2.2 (by omega))
    have f4 : (((c.toNat : Int) < 194) = False) := eq_false (by omega)
    have f5 : ((194 ≤ (c.toNat : Int)) = True) := eq_true (by omega)
    have f6 : ((c < 194) = False) := eq_false fun hh => by have := (u8c c 194 (by omega)).1.1 hh; omega
    have f7 : ((194 ≤ c) = True) := eq_true ((u8c c 194 (by omega)).2.2 (by omega))
    have f8 : (((c.toNat : Int) < 224) = True) := eq_true (by omega)
    have f9 : ((224 ≤ (c.toNat : Int)) = False) := eq_false (by omega)
    have f10 : ((c < 224) = True) := eq_true ((u8c c 224 (by omega)).1.2 (by omega))
    have f11 : ((224 ≤ c) = False) := eq_false fun hh => by have := (u8c c 224 (by omega)).2.1 hh; omega
    have f12 : (((c.toNat : Int) < 240) = True) := eq_true (by omega)
    have f13 : ((240 ≤ (c.toNat : Int)) = False) := eq_false (by omega)
    have f14 : ((c < 240) = True) := eq_true ((u8c c 240 (by omega)).1.2 (by omega))
    have f15 : ((240 ≤ c) = False) := eq_false fun hh => by have := (u8c c 240 (by omega)).2.1 hh; omega
    have f16 : (((c.toNat : Int) < 245) = True) := eq_true (by omega)
    have f17 : ((245 ≤ (c.toNat : Int)) = False) := eq_false (by omega)
    have f18 : ((c < 245) = True) := eq_true ((u8c c 245 (by omega)).1.2 (by omega))
    have f19 : ((245 ≤ c) = False) := eq_false fun hh => by have := (u8c c 245 (by omega)).2.1 hh; omega
    cases k1 : contB s (i + 1)
    · skip
      simp (maxSteps := 400000) only [↓preZ, postZ, coreZ, ↓preU, postU, D_all, F_all, unR, outL, onePV, binS, ↓binS, boundR, ↓boundR, fieldOf, ↓fieldOf, boxR, allocR, newObj, zeroElem, buildSliceR, appendR, setAll, storeR, St.freeze, makeSliceR, minmaxR, makeFuncR, BEq.rfl, reduceIte, reduceCtorEq, Nat.reduceLT, Nat.reduceAdd, Nat.reduceSub, Nat.reduceMul, Nat.reduceBEq, Nat.reduceLeDiff, Int.reduceToNat, Int.reduceLE, c_louperef02_Rune, hg, ↓ctrCont, n1, n2, n3, z0, z1, z2, z3, i1, i2, i3, f0, f1, f2, f3, f4, f5, f6, f7, f8, f9, f10, f11, f12, f13, f14, f15, f16, f17, f18, f19, k1]
      exact hQ _ 0 rfl (by simp only [true_or, or_true, or_self, or_false, false_or, and_self, true_and, and_true, false_and, and_false, if_true, if_false, Bool.false_eq_true, c0, c1, c2, runeN, f0, f1, f2, f3, f4, f5, f6, f7, f8, f9, f10, f11, f12, f13, f14, f15, f16, f17, f18, f19, k1])
    · skip
      simp (maxSteps := 400000) only [↓preZ, postZ, coreZ, ↓preU, postU, D_all, F_all, unR, outL, onePV, binS, ↓binS, boundR, ↓boundR, fieldOf, ↓fieldOf, boxR, allocR, newObj, zeroElem, buildSliceR, appendR, setAll, storeR, St.freeze, makeSliceR, minmaxR, makeFuncR, BEq.rfl, reduceIte, reduceCtorEq, Nat.reduceLT, Nat.reduceAdd, Nat.reduceSub, Nat.reduceMul, Nat.reduceBEq, Nat.reduceLeDiff, Int.reduceToNat, Int.reduceLE, c_louperef02_Rune, hg, ↓ctrCont, n1, n2, n3, z0, z1, z2, z3, i1, i2, i3, f0, f1, f2, f3, f4, f5, f6, f7, f8, f9, f10, f11, f12, f13, f14, f15, f16, f17, f18, f19, k1]
      exact hQ _ 2 rfl (by simp only [true_or, or_true, or_self, or_false, false_or, and_self, true_and, and_true, false_and, and_false, if_true, if_false, Bool.false_eq_true, c0, c1, c2, runeN, f0, f1, f2, f3, f4, f5, f6, f7, f8, f9, f10, f11, f12, f13, f14, f15, f16, f17, f18, f19, k1])
  · skip
    have f0 : (((c.toNat : Int) < 128) = False) := eq_false (by omega)
    have f1 : ((128 ≤ (c.toNat : Int)) = True) := eq_true (by omega)
    have f2 : ((c < 128) = False) := eq_false fun hh => by have := (u8c c 128 (by omega)).1.1 hh; omega
    have f3 : ((128 ≤ c) = True) := eq_true ((u8c c 128 (by omega)).2.2 (by omega))
    have f4 : (((c.toNat : Int) < 194) = False) := eq_false (by omega)
    have f5 : ((194 ≤ (c.toNat : Int)) = True) := eq_true (by omega)
    have f6 : ((c < 194) = False) := eq_false fun hh => by have := (u8c c 194 (by omega)).1.1 hh; omega
    have f7 : ((194 ≤ c) = True) := eq_true ((u8c c 194 (by omega)).2.2 (by omega))
    have f8 : (((c.toNat : Int) < 224) = False) := eq_false (by omega)
    have f9 : ((224 ≤ (c.toNat : Int)) = True) := eq_true (by omega)
    have f10 : ((c < 224) = False) := eq_false fun hh => by have := (u8c c 224 (by omega)).1.1 hh; omega
    have f11 : ((224 ≤ c) = True) := eq_true ((u8c c 224 (by omega)).2.2 (by omega))
    have f12 : (((c.toNat : Int) < 240) = True) := eq_true (by omega)
    have f13 : ((240 ≤ (c.toNat : Int)) = False) := eq_false (by omega)
    have f14 : ((c < 240) = True) := eq_true ((u8c c 240 (by omega)).1.2 (by omega))
    have f15 : ((240 ≤ c) = False) := eq_false fun hh => by have := (u8c c 240 (by omega)).2.1 hh; omega
    have f16 : (((c.toNat : Int) < 245) = True) := eq_true (by omega)
    have f17 : ((245 ≤ (c.toNat : Int)) = False) := eq_false (by omega)
    have f18 : ((c < 245) = True) := eq_true ((u8c c 245 (by omega)).1.2 (by omega))
    have f19 : ((245 ≤ c) = False) := eq_false fun hh => by have := (u8c c 245 (by omega)).2.1 hh; omega
    cases k1 : contB s (i + 1)
    · skip
      simp (maxSteps := 400000) only [↓preZ, postZ, coreZ, ↓preU, postU, D_all, F_all, unR, outL, onePV, binS, ↓binS, boundR, ↓boundR, fieldOf, ↓fieldOf, boxR, allocR, newObj, zeroElem, buildSliceR, appendR, setAll, storeR, St.freeze, makeSliceR, minmaxR, makeFuncR, BEq.rfl, reduceIte, reduceCtorEq, Nat.reduceLT, Nat.reduceAdd, Nat.reduceSub, Nat.reduceMul, Nat.reduceBEq, Nat.reduceLeDiff, Int.reduceToNat, Int.reduceLE, c_louperef02_Rune, hg, ↓ctrCont, n1, n2, n3, z0, z1, z2, z3, i1, i2, i3, f0, f1, f2, f3, f4, f5, f6, f7, f8, f9, f10, f11, f12, f13, f14, f15, f16, f17, f18, f19, k1]
      exact hQ _ 0 rfl (by simp only [true_or, or_true, or_self, or_false, false_or, and_self, true_and, and_true, false_and, and_false, if_true, if_false, Bool.false_eq_true, c0, c1, c2, runeN, f0, f1, f2, f3, f4, f5, f6, f7, f8, f9, f10, f11, f12, f13, f14, f15, f16, f17, f18, f19, k1])
    cases k2 : contB s (i + 2)
    · skip
      simp (maxSteps := 400000) only [↓preZ, postZ, coreZ, ↓preU, postU, D_all, F_all, unR, outL, onePV, binS, ↓binS, boundR, ↓boundR, fieldOf, ↓fieldOf, boxR, allocR, newObj, zeroElem, buildSliceR, appendR, setAll, storeR, St.freeze, makeSliceR, minmaxR, makeFuncR, BEq.rfl, reduceIte, reduceCtorEq, Nat.reduceLT, Nat.reduceAdd, Nat.reduceSub, Nat.reduceMul, Nat.reduceBEq, Nat.reduceLeDiff, Int.reduceToNat, Int.reduceLE, c_louperef02_Rune, hg, ↓ctrCont, n1, n2, n3, z0, z1, z2, z3, i1, i2, i3, f0, f1, f2, f3, f4, f5, f6, f7, f8, f9, f10, f11, f12, f13, f14, f15, f16, f17, f18, f19, k1, k2]
      exact hQ _ 0 rfl (by simp only [true_or, or_true, or_self, or_false, false_or, and_self, true_and, and_true, false_and, and_false, if_true, if_false, Bool.false_eq_true, c0, c1, c2, runeN, f0, f1, f2, f3, f4, f5, f6, f7, f8, f9, f10, f11, f12, f13, f14, f15, f16, f17, f18, f19, k1, k2])
    obtain ⟨d, hd1⟩ := contB_get k1
    have hhd : (List.drop (i + 1) s).headD 0 = d := by rw [List.headD_eq_head?_getD, List.head?_drop, hd1]; rfl
    by_cases hc224 : c.toNat = 224
    · have hc237 : c.toNat ≠ 237 := by omega
      have e0 : (((c.toNat : Int) = 224) = True) := eq_true (by omega)
      have e1 : ((c = 224) = True) := eq_true (UInt8.toNat_inj.1 (by simpa using hc224))
      have e2 : (((c.toNat : Int) = 237) = False) := eq_false (by omega)
      have e3 : ((c = 237) = False) := eq_false fun hh => hc237 (by rw [hh]; rfl)
      by_cases hdl : d.toNat < 160
      · skip
        have g0 : (((d.toNat : Int) < 160) = True) := eq_true (by omega)
        have g1 : ((160 ≤ (d.toNat : Int)) = False) := eq_false (by omega)
        have g2 : ((d < 160) = True) := eq_true ((u8c d 160 (by omega)).1.2 (by omega))
        have g3 : ((160 ≤ d) = False) := eq_false fun hh => by have := (u8c d 160 (by omega)).2.1 hh; omega
        simp (maxSteps := 400000) only [↓preZ, postZ, coreZ, ↓preU, postU, D_all, F_all, unR, outL, onePV, binS, ↓binS, boundR, ↓boundR, fieldOf, ↓fieldOf, boxR, allocR, newObj, zeroElem, buildSliceR, appendR, setAll, storeR, St.freeze, makeSliceR, minmaxR, makeFuncR, BEq.rfl, reduceIte, reduceCtorEq, Nat.reduceLT, Nat.reduceAdd, Nat.reduceSub, Nat.reduceMul, Nat.reduceBEq, Nat.reduceLeDiff, Int.reduceToNat, Int.reduceLE, c_louperef02_Rune, hg, ↓ctrCont, n1, n2, n3, z0, z1, z2, z3, i1, i2, i3, f0, f1, f2, f3, f4, f5, f6, f7, f8, f9, f10, f11, f12, f13, f14, f15, f16, f17, f18, f19, k1, k2, hd1, hhd, e0, e1, e2, e3, g0, g1, g2, g3]
        exact hQ _ 0 rfl (by simp only [true_or, or_true, or_self, or_false, false_or, and_self, true_and, and_true, false_and, and_false, if_true, if_false, Bool.false_eq_true, c0, c1, c2, runeN, f0, f1, f2, f3, f4, f5, f6, f7, f8, f9, f10, f11, f12, f13, f14, f15, f16, f17, f18, f19, k1, k2, hd1, hhd, e0, e1, e2, e3, g0, g1, g2, g3])
      · skip
        have g0 : (((d.toNat : Int) < 160) = False) := eq_false (by omega)
        have g1 : ((160 ≤ (d.toNat : Int)) = True) := eq_true (by omega)
        have g2 : ((d < 160) = False) := eq_false fun hh => by have := (u8c d 160 (by omega)).1.1 hh; omega
        have g3 : ((160 ≤ d) = True) := eq_true ((u8c d 160 (by omega)).2.2 (by omega))
        simp (maxSteps := 400000) only [↓preZ, postZ, coreZ, ↓preU, postU, D_all, F_all, unR, outL, onePV, binS, ↓binS, boundR, ↓boundR, fieldOf, ↓fieldOf, boxR, allocR, newObj, zeroElem, buildSliceR, appendR, setAll, storeR, St.freeze, makeSliceR, minmaxR, makeFuncR, BEq.rfl, reduceIte, reduceCtorEq, Nat.reduceLT, Nat.reduceAdd, Nat.reduceSub, Nat.reduceMul, Nat.reduceBEq, Nat.reduceLeDiff, Int.reduceToNat, Int.reduceLE, c_louperef02_Rune, hg, ↓ctrCont, n1, n2, n3, z0, z1, z2, z3, i1, i2, i3, f0, f1, f2, f3, f4, f5, f6, f7, f8, f9, f10, f11, f12, f13, f14, f15, f16, f17, f18, f19, k1, k2, hd1, hhd, e0, e1, e2, e3, g0, g1, g2, g3]
        exact hQ _ 3 rfl (by simp only [true_or, or_true, or_self, or_false, false_or, and_self, true_and, and_true, false_and, and_false, if_true, if_false, Bool.false_eq_true, c0, c1, c2, runeN, f0, f1, f2, f3, f4, f5, f6, f7, f8, f9, f10, f11, f12, f13, f14, f15, f16, f17, f18, f19, k1, k2, hd1, hhd, e0, e1, e2, e3, g0, g1, g2, g3])
    · by_cases hc237 : c.toNat = 237
      · skip
        have e0 : (((c.toNat : Int) = 224) = False) := eq_false (by omega)
        have e1 : ((c = 224) = False) := eq_false fun hh => hc224 (by rw [hh]; rfl)
        have e2 : (((c.toNat : Int) = 237) = True) := eq_true (by omega)
        have e3 : ((c = 237) = True) := eq_true (UInt8.toNat_inj.1 (by simpa using hc237))
        by_cases hdl : d.toNat < 160
        · skip
          have g0 : (((d.toNat : Int) < 160) = True) := eq_true (by omega)
          have g1 : ((160 ≤ (d.toNat : Int)) = False) := eq_false (by omega)
          have g2 : ((d < 160) = True) := eq_true ((u8c d 160 (by omega)).1.2 (by omega))
          have g3 : ((160 ≤ d) = False) := eq_false fun hh => by have := (u8c d 160 (by omega)).2.1 hh; omega
          simp (maxSteps := 400000) only [↓preZ, postZ, coreZ, ↓preU, postU, D_all, F_all, unR, outL, onePV, binS, ↓binS, boundR, ↓boundR, fieldOf, ↓fieldOf, boxR, allocR, newObj, zeroElem, buildSliceR, appendR, setAll, storeR, St.freeze, makeSliceR, minmaxR, makeFuncR, BEq.rfl, reduceIte, reduceCtorEq, Nat.reduceLT, Nat.reduceAdd, Nat.reduceSub, Nat.reduceMul, Nat.reduceBEq, Nat.reduceLeDiff, Int.reduceToNat, Int.reduceLE, c_louperef02_Rune, hg, ↓ctrCont, n1, n2, n3, z0, z1, z2, z3, i1, i2, i3, f0, f1, f2, f3, f4, f5, f6, f7, f8, f9, f10, f11, f12, f13, f14, f15, f16, f17, f18, f19, k1, k2, hd1, hhd, e0, e1, e2, e3, g0, g1, g2, g3]
          exact hQ _ 3 rfl (by simp only [true_or, or_true, or_self, or_false, false_or, and_self, true_and, and_true, false_and, and_false, if_true, if_false, Bool.false_eq_true, c0, c1, c2, runeN, f0, f1, f2, f3, f4, f5, f6, f7, f8, f9, f10, f11, f12, f13, f14, f15, f16, f17, f18, f19, k1, k2, hd1, hhd, e0, e1, e2, e3, g0, g1, g2, g3])
        · skip
          have g0 : (((d.toNat : Int) < 160) = False) := eq_false (by omega)
          have g1 : ((160 ≤ (d.toNat : Int)) = True) := eq_true (by omega)
          have g2 : ((d < 160) = False) := eq_false fun hh => by have := (u8c d 160 (by omega)).1.1 hh; omega
          have g3 : ((160 ≤ d) = True) := eq_true ((u8c d 160 (by omega)).2.2 (by omega))
          simp (maxSteps := 400000) only [↓preZ, postZ, coreZ, ↓preU, postU, D_all, F_all, unR, outL, onePV, binS, ↓binS, boundR, ↓boundR, fieldOf, ↓fieldOf, boxR, allocR, newObj, zeroElem, buildSliceR, appendR, setAll, storeR, St.freeze, makeSliceR, minmaxR, makeFuncR, BEq.rfl, reduceIte, reduceCtorEq, Nat.reduceLT, Nat.reduceAdd, Nat.reduceSub, Nat.reduceMul, Nat.reduceBEq, Nat.reduceLeDiff, Int.reduceToNat, Int.reduceLE, c_louperef02_Rune, hg, ↓ctrCont, n1, n2, n3, z0, z1, z2, z3, i1, i2, i3, f0, f1, f2, f3, f4, f5, f6, f7, f8, f9, f10, f11, f12, f13, f14, f15, f16, f17, f18, f19, k1, k2, hd1, hhd, e0, e1, e2, e3, g0, g1, g2, g3]
          exact hQ _ 0 rfl (by simp only [true_or, or_true, or_self, or_false, false_or, and_self, true_and, and_true, false_and, and_false, if_true, if_false, Bool.false_eq_true, c0, c1, c2, runeN, f0, f1, f2, f3, f4, f5, f6, f7, f8, f9, f10, f11, f12, f13, f14, f15, f16, f17, f18, f19, k1, k2, hd1, hhd, e0, e1, e2, e3, g0, g1, g2, g3])
      · skip
        have e0 : (((c.toNat : Int) = 224) = False) := eq_false (by omega)
        have e1 : ((c = 224) = False) := eq_false fun hh => hc224 (by rw [hh]; rfl)
        have e2 : (((c.toNat : Int) = 237) = False) := eq_false (by omega)
        have e3 : ((c = 237) = False) := eq_false fun hh => hc237 (by rw [hh]; rfl)
        simp (maxSteps := 400000) only [↓preZ, postZ, coreZ, ↓preU, postU, D_all, F_all, unR, outL, onePV, binS, ↓binS, boundR, ↓boundR, fieldOf, ↓fieldOf, boxR, allocR, newObj, zeroElem, buildSliceR, appendR, setAll, storeR, St.freeze, makeSliceR, minmaxR, makeFuncR, BEq.rfl, reduceIte, reduceCtorEq, Nat.reduceLT, Nat.reduceAdd, Nat.reduceSub, Nat.reduceMul, Nat.reduceBEq, Nat.reduceLeDiff, Int.reduceToNat, Int.reduceLE, c_louperef02_Rune, hg, ↓ctrCont, n1, n2, n3, z0, z1, z2, z3, i1, i2, i3, f0, f1, f2, f3, f4, f5, f6, f7, f8, f9, f10, f11, f12, f13, f14, f15, f16, f17, f18, f19, k1, k2, hd1, hhd, e0, e1, e2, e3]
        exact hQ _ 3 rfl (by simp only [true_or, or_true, or_self, or_false, false_or, and_self, true_and, and_true, false_and, and_false, if_true, if_false, Bool.false_eq_true, c0, c1, c2, runeN, f0, f1, f2, f3, f4, f5, f6, f7, f8, f9, f10, f11, f12, f13, f14, f15, f16, f17, f18, f19, k1, k2, hd1, hhd, e0, e1, e2, e3])
  · skip
    have f0 : (((c.toNat : Int) < 128) = False) := eq_false (by omega)
    have f1 : ((128 ≤ (c.toNat : Int)) = True) := eq_true (by omega)
    have f2 : ((c < 128) = False) := eq_false fun hh => by have := (u8c c 128 (by omega)).1.1 hh; omega
    have f3 : ((128 ≤ c) = True) := eq_true ((u8c c 128 (by omega)).2.2 (by omega))
    have f4 : (((c.toNat : Int) < 194) = False) := eq_false (by omega)
    have f5 : ((194 ≤ (c.toNat : Int)) = True) := eq_true (by omega)
    have f6 : ((c < 194) = False) := eq_false fun hh => by have := (u8c c 194 (by omega)).1.1 hh; omega
    have f7 : ((194 ≤ c) = True) := eq_true ((u8c c 194 (by omega)).2.2 (by omega))
    have f8 : (((c.toNat : Int) < 224) = False) := eq_false (by omega)
    have f9 : ((224 ≤ (c.toNat : Int)) = True) := eq_true (by omega)
    have f10 : ((c < 224) = False) := eq_false fun hh => by have := (u8c c 224 (by omega)).1.1 hh; omega
    have f11 : ((224 ≤ c) = True) := eq_true ((u8c c 224 (by omega)).2.2 (by omega))
    have f12 : (((c.toNat : Int) < 240) = False) := eq_false (by omega)
    have f13 : ((240 ≤ (c.toNat : Int)) = True) := eq_true (by omega)
    have f14 : ((c < 240) = False) := eq_false fun hh => by have := (u8c c 240 (by omega)).1.1 hh; omega
    have f15 : ((240 ≤ c) = True) := eq_true ((u8c c 240 (by omega)).2.2 (by omega))
    have f16 : (((c.toNat : Int) < 245) = True) := eq_true (by omega)
    have f17 : ((245 ≤ (c.toNat : Int)) = False) := eq_false (by omega)
    have f18 : ((c < 245) = True) := eq_true ((u8c c 245 (by omega)).1.2 (by omega))
    have f19 : ((245 ≤ c) = False) := eq_false fun hh => by have := (u8c c 245 (by omega)).2.1 hh; omega
    cases k1 : contB s (i + 1)
    · skip
      simp (maxSteps := 400000) only [↓preZ, postZ, coreZ, ↓preU, postU, D_all, F_all, unR, outL, onePV, binS, ↓binS, boundR, ↓boundR, fieldOf, ↓fieldOf, boxR, allocR, newObj, zeroElem, buildSliceR, appendR, setAll, storeR, St.freeze, makeSliceR, minmaxR, makeFuncR, BEq.rfl, reduceIte, reduceCtorEq, Nat.reduceLT, Nat.reduceAdd, Nat.reduceSub, Nat.reduceMul, Nat.reduceBEq, Nat.reduceLeDiff, Int.reduceToNat, Int.reduceLE, c_louperef02_Rune, hg, ↓ctrCont, n1, n2, n3, z0, z1, z2, z3, i1, i2, i3, f0, f1, f2, f3, f4, f5, f6, f7, f8, f9, f10, f11, f12, f13, f14, f15, f16, f17, f18, f19, k1]
      exact hQ _ 0 rfl (by simp only [true_or, or_true, or_self, or_false, false_or, and_self, true_and, and_true, false_and, and_false, if_true, if_false, Bool.false_eq_true, c0, c1, c2, runeN, f0, f1, f2, f3, f4, f5, f6, f7, f8, f9, f10, f11, f12, f13, f14, f15, f16, f17, f18, f19, k1])
    cases k2 : contB s (i + 2)
    · skip
      simp (maxSteps := 400000) only [↓preZ, postZ, coreZ, ↓preU, postU, D_all, F_all, unR, outL, onePV, binS, ↓binS, boundR, ↓boundR, fieldOf, ↓fieldOf, boxR, allocR, newObj, zeroElem, buildSliceR, appendR, setAll, storeR, St.freeze, makeSliceR, minmaxR, makeFuncR, BEq.rfl, reduceIte, reduceCtorEq, Nat.reduceLT, Nat.reduceAdd, Nat.reduceSub, Nat.reduceMul, Nat.reduceBEq, Nat.reduceLeDiff, Int.reduceToNat, Int.reduceLE, c_louperef02_Rune, hg, ↓ctrCont, n1, n2, n3, z0, z1, z2, z3, i1, i2, i3, f0, f1, f2, f3, f4, f5, f6, f7, f8, f9, f10, f11, f12, f13, f14, f15, f16, f17, f18, f19, k1, k2]
      exact hQ _ 0 rfl (by simp only [true_or, or_true, or_self, or_false, false_or, and_self, true_and, and_true, false_and, and_false, if_true, if_false, Bool.false_eq_true, c0, c1, c2, runeN, f0, f1, f2, f3, f4, f5, f6, f7, f8, f9, f10, f11, f12, f13, f14, f15, f16, f17, f18, f19, k1, k2])
    cases k3 : contB s (i + 3)
    · skip
      simp (maxSteps := 400000) only [↓preZ, postZ, coreZ, ↓preU, postU, D_all, F_all, unR, outL, onePV, binS, ↓binS, boundR, ↓boundR, fieldOf, ↓fieldOf, boxR, allocR, newObj, zeroElem, buildSliceR, appendR, setAll, storeR, St.freeze, makeSliceR, minmaxR, makeFuncR, BEq.rfl, reduceIte, reduceCtorEq, Nat.reduceLT, Nat.reduceAdd, Nat.reduceSub, Nat.reduceMul, Nat.reduceBEq, Nat.reduceLeDiff, Int.reduceToNat, Int.reduceLE, c_louperef02_Rune, hg, ↓ctrCont, n1, n2, n3, z0, z1, z2, z3, i1, i2, i3, f0, f1, f2, f3, f4, f5, f6, f7, f8, f9, f10, f11, f12, f13, f14, f15, f16, f17, f18, f19, k1, k2, k3]
      exact hQ _ 0 rfl (by simp only [true_or, or_true, or_self, or_false, false_or, and_self, true_and, and_true, false_and, and_false, if_true, if_false, Bool.false_eq_true, c0, c1, c2, runeN, f0, f1, f2, f3, f4, f5, f6, f7, f8, f9, f10, f11, f12, f13, f14, f15, f16, f17, f18, f19, k1, k2, k3])
    obtain ⟨d, hd1⟩ := contB_get k1
    have hhd : (List.drop (i + 1) s).headD 0 = d := by rw [List.headD_eq_head?_getD, List.head?_drop, hd1]; rfl
    by_cases hc240 : c.toNat = 240
    · have hc244 : c.toNat ≠ 244 := by omega
      have e0 : (((c.toNat : Int) = 240) = True) := eq_true (by omega)
      have e1 : ((c = 240) = True) := eq_true (UInt8.toNat_inj.1 (by simpa using hc240))
      have e2 : (((c.toNat : Int) = 244) = False) := eq_false (by omega)
      have e3 : ((c = 244) = False) := eq_false fun hh => hc244 (by rw [hh]; rfl)
      by_cases hdl : d.toNat < 144
      · skip
        have g0 : (((d.toNat : Int) < 144) = True) := eq_true (by omega)
        have g1 : ((144 ≤ (d.toNat : Int)) = False) := eq_false (by omega)
        have g2 : ((d < 144) = True) := eq_true ((u8c d 144 (by omega)).1.2 (by omega))
        have g3 : ((144 ≤ d) = False) := eq_false fun hh => by have := (u8c d 144 (by omega)).2.1 hh; omega
        simp (maxSteps := 400000) only [↓preZ, postZ, coreZ, ↓preU, postU, D_all, F_all, unR, outL, onePV, binS, ↓binS, boundR, ↓boundR, fieldOf, ↓fieldOf, boxR, allocR, newObj, zeroElem, buildSliceR, appendR, setAll, storeR, St.freeze, makeSliceR, minmaxR, makeFuncR, BEq.rfl, reduceIte, reduceCtorEq, Nat.reduceLT, Nat.reduceAdd, Nat.reduceSub, Nat.reduceMul, Nat.reduceBEq, Nat.reduceLeDiff, Int.reduceToNat, Int.reduceLE, c_louperef02_Rune, hg, ↓ctrCont, n1, n2, n3, z0, z1, z2, z3, i1, i2, i3, f0, f1, f2, f3, f4, f5, f6, f7, f8, f9, f10, f11, f12, f13, f14, f15, f16, f17, f18, f19, k1, k2, k3, hd1, hhd, e0, e1, e2, e3, g0, g1, g2, g3]
        exact hQ _ 0 rfl (by simp only [true_or, or_true, or_self, or_false, false_or, and_self, true_and, and_true, false_and, and_false, if_true, if_false, Bool.false_eq_true, c0, c1, c2, runeN, f0, f1, f2, f3, f4, f5, f6, f7, f8, f9, f10, f11, f12, f13, f14, f15, f16, f17, f18, f19, k1, k2, k3, hd1, hhd, e0, e1, e2, e3, g0, g1, g2, g3])
      · skip
        have g0 : (((d.toNat : Int) < 144) = False) := eq_false (by omega)
        have g1 : ((144 ≤ (d.toNat : Int)) = True) := eq_true (by omega)
        have g2 : ((d < 144) = False) := eq_false fun hh => by have := (u8c d 144 (by omega)).1.1 hh; omega
        have g3 : ((144 ≤ d) = True) := eq_true ((u8c d 144 (by omega)).2.2 (by omega))
        simp (maxSteps := 400000) only [↓preZ, postZ, coreZ, ↓preU, postU, D_all, F_all, unR, outL, onePV, binS, ↓binS, boundR, ↓boundR, fieldOf, ↓fieldOf, boxR, allocR, newObj, zeroElem, buildSliceR, appendR, setAll, storeR, St.freeze, makeSliceR, minmaxR, makeFuncR, BEq.rfl, reduceIte, reduceCtorEq, Nat.reduceLT, Nat.reduceAdd, Nat.reduceSub, Nat.reduceMul, Nat.reduceBEq, Nat.reduceLeDiff, Int.reduceToNat, Int.reduceLE, c_louperef02_Rune, hg, ↓ctrCont, n1, n2, n3, z0, z1, z2, z3, i1, i2, i3, f0, f1, f2, f3, f4, f5, f6, f7, f8, f9, f10, f11, f12, f13, f14, f15, f16, f17, f18, f19, k1, k2, k3, hd1, hhd, e0, e1, e2, e3, g0, g1, g2, g3]
        exact hQ _ 4 rfl (by simp only [true_or, or_true, or_self, or_false, false_or, and_self, true_and, and_true, false_and, and_false, if_true, if_false, Bool.false_eq_true, c0, c1, c2, runeN, f0, f1, f2, f3, f4, f5, f6, f7, f8, f9, f10, f11, f12, f13, f14, f15, f16, f17, f18, f19, k1, k2, k3, hd1, hhd, e0, e1, e2, e3, g0, g1, g2, g3])
    · by_cases hc244 : c.toNat = 244
      · skip
        have e0 : (((c.toNat : Int) = 240) = False) := eq_false (by omega)
        have e1 : ((c = 240) = False) := eq_false fun hh => hc240 (by rw [hh]; rfl)
        have e2 : (((c.toNat : Int) = 244) = True) := eq_true (by omega)
        have e3 : ((c = 244) = True) := eq_true (UInt8.toNat_inj.1 (by simpa using hc244))
        by_cases hdl : d.toNat < 144
        · skip
          have g0 : (((d.toNat : Int) < 144) = True) := eq_true (by omega)
          have g1 : ((144 ≤ (d.toNat : Int)) = False) := eq_false (by omega)
          have g2 : ((d < 144) = True) := eq_true ((u8c d 144 (by omega)).1.2 (by omega))
          have g3 : ((144 ≤ d) = False) := eq_false fun hh => by have := (u8c d 144 (by omega)).2.1 hh; omega
          simp (maxSteps := 400000) only [↓preZ, postZ, coreZ, ↓preU, postU, D_all, F_all, unR, outL, onePV, binS, ↓binS, boundR, ↓boundR, fieldOf, ↓fieldOf, boxR, allocR, newObj, zeroElem, buildSliceR, appendR, setAll, storeR, St.freeze, makeSliceR, minmaxR, makeFuncR, BEq.rfl, reduceIte, reduceCtorEq, Nat.reduceLT, Nat.reduceAdd, Nat.reduceSub, Nat.reduceMul, Nat.reduceBEq, Nat.reduceLeDiff, Int.reduceToNat, Int.reduceLE, c_louperef02_Rune, hg, ↓ctrCont, n1, n2, n3, z0, z1, z2, z3, i1, i2, i3, f0, f1, f2, f3, f4, f5, f6, f7, f8, f9, f10, f11, f12, f13, f14, f15, f16, f17, f18, f19, k1, k2, k3, hd1, hhd, e0, e1, e2, e3, g0, g1, g2, g3]
          exact hQ _ 4 rfl (by simp only [true_or, or_true, or_self, or_false, false_or, and_self, true_and, and_true, false_and, and_false, if_true, if_false, Bool.false_eq_true, c0, c1, c2, runeN, f0, f1, f2, f3, f4, f5, f6, f7, f8, f9, f10, f11, f12, f13, f14, f15, f16, f17, f18, f19, k1, k2, k3, hd1, hhd, e0, e1, e2, e3, g0, g1, g2, g3])
        · skip
          have g0 : (((d.toNat : Int) < 144) = False) := eq_false (by omega)
          have g1 : ((144 ≤ (d.toNat : Int)) = True) := eq_true (by omega)
          have g2 : ((d < 144) = False) := eq_false fun hh => by have := (u8c d 144 (by omega)).1.1 hh; omega
          have g3 : ((144 ≤ d) = True) := eq_true ((u8c d 144 (by omega)).2.2 (by omega))
          simp (maxSteps := 400000) only [↓preZ, postZ, coreZ, ↓preU, postU, D_all, F_all, unR, outL, onePV, binS, ↓binS, boundR, ↓boundR, fieldOf, ↓fieldOf, boxR, allocR, newObj, zeroElem, buildSliceR, appendR, setAll, storeR, St.freeze, makeSliceR, minmaxR, makeFuncR, BEq.rfl, reduceIte, reduceCtorEq, Nat.reduceLT, Nat.reduceAdd, Nat.reduceSub, Nat.reduceMul, Nat.reduceBEq, Nat.reduceLeDiff, Int.reduceToNat, Int.reduceLE, c_louperef02_Rune, hg, ↓ctrCont, n1, n2, n3, z0, z1, z2, z3, i1, i2, i3, f0, f1, f2, f3, f4, f5, f6, f7, f8, f9, f10, f11, f12, f13, f14, f15, f16, f17, f18, f19, k1, k2, k3, hd1, hhd, e0, e1, e2, e3, g0, g1, g2, g3]
          exact hQ _ 0 rfl (by simp only [true_or, or_true, or_self, or_false, false_or, and_self, true_and, and_true, false_and, and_false, if_true, if_false, Bool.false_eq_true, c0, c1, c2, runeN, f0, f1, f2, f3, f4, f5, f6, f7, f8, f9, f10, f11, f12, f13, f14, f15, f16, f17, f18, f19, k1, k2, k3, hd1, hhd, e0, e1, e2, e3, g0, g1, g2, g3])
      · skip
        have e0 : (((c.toNat : Int) = 240) = False) := eq_false (by omega)
        have e1 : ((c = 240) = False) := eq_false fun hh => hc240 (by rw [hh]; rfl)
        have e2 : (((c.toNat : Int) = 244) = False) := eq_false (by omega)
        have e3 : ((c = 244) = False) := eq_false fun hh => hc244 (by rw [hh]; rfl)
        simp (maxSteps := 400000) only [↓preZ, postZ, coreZ, ↓preU, postU, D_all, F_all, unR, outL, onePV, binS, ↓binS, boundR, ↓boundR, fieldOf, ↓fieldOf, boxR, allocR, newObj, zeroElem, buildSliceR, appendR, setAll, storeR, St.freeze, makeSliceR, minmaxR, makeFuncR, BEq.rfl, reduceIte, reduceCtorEq, Nat.reduceLT, Nat.reduceAdd, Nat.reduceSub, Nat.reduceMul, Nat.reduceBEq, Nat.reduceLeDiff, Int.reduceToNat, Int.reduceLE, c_louperef02_Rune, hg, ↓ctrCont, n1, n2, n3, z0, z1, z2, z3, i1, i2, i3, f0, f1, f2, f3, f4, f5, f6, f7, f8, f9, f10, f11, f12, f13, f14, f15, f16, f17, f18, f19, k1, k2, k3, hd1, hhd, e0, e1, e2, e3]
        exact hQ _ 4 rfl (by simp only [true_or, or_true, or_self, or_false, false_or, and_self, true_and, and_true, false_and, and_false, if_true, if_false, Bool.false_eq_true, c0, c1, c2, runeN, f0, f1, f2, f3, f4, f5, f6, f7, f8, f9, f10, f11, f12, f13, f14, f15, f16, f17, f18, f19, k1, k2, k3, hd1, hhd, e0, e1, e2, e3])
  · skip
    have f0 : (((c.toNat : Int) < 128) = False) := eq_false (by omega)
    have f1 : ((128 ≤ (c.toNat : Int)) = True) := eq_true (by omega)
    have f2 : ((c < 128) = False) := eq_false fun hh => by have := (u8c c 128 (by omega)).1.1 hh; omega
    have f3 : ((128 ≤ c) = True) := eq_true ((u8c c 128 (by omega)).2.2 (by omega))
    have f4 : (((c.toNat : Int) < 194) = False) := eq_false (by omega)
    have f5 : ((194 ≤ (c.toNat : Int)) = True) := eq_true (by omega)
    have f6 : ((c < 194) = False) := eq_false fun hh => by have := (u8c c 194 (by omega)).1.1 hh; omega
    have f7 : ((194 ≤ c) = True) := eq_true ((u8c c 194 (by omega)).2.2 (by omega))
    have f8 : (((c.toNat : Int) < 224) = False) := eq_false (by omega)
    have f9 : ((224 ≤ (c.toNat : Int)) = True) := eq_true (by omega)
    have f10 : ((c < 224) = False) := eq_false fun hh => by have := (u8c c 224 (by omega)).1.1 hh; omega
    have f11 : ((224 ≤ c) = True) := eq_true ((u8c c 224 (by omega)).2.2 (by omega))
    have f12 : (((c.toNat : Int) < 240) = False) := eq_false (by omega)
    have f13 : ((240 ≤ (c.toNat : Int)) = True) := eq_true (by omega)
    have f14 : ((c < 240) = False) := eq_false fun hh => by have := (u8c c 240 (by omega)).1.1 hh; omega
    have f15 : ((240 ≤ c) = True) := eq_true ((u8c c 240 (by omega)).2.2 (by omega))
    have f16 : (((c.toNat : Int) < 245) = False) := eq_false (by omega)
    have f17 : ((245 ≤ (c.toNat : Int)) = True) := eq_true (by omega)
    have f18 : ((c < 245) = False) := eq_false fun hh => by have := (u8c c 245 (by omega)).1.1 hh; omega
    have f19 : ((245 ≤ c) = True) := eq_true ((u8c c 245 (by omega)).2.2 (by omega))
    simp (maxSteps := 400000) only [↓preZ, postZ, coreZ, ↓preU, postU, D_all, F_all, unR, outL, onePV, binS, ↓binS, boundR, ↓boundR, fieldOf, ↓fieldOf, boxR, allocR, newObj, zeroElem, buildSliceR, appendR, setAll, storeR, St.freeze, makeSliceR, minmaxR, makeFuncR, BEq.rfl, reduceIte, reduceCtorEq, Nat.reduceLT, Nat.reduceAdd, Nat.reduceSub, Nat.reduceMul, Nat.reduceBEq, Nat.reduceLeDiff, Int.reduceToNat, Int.reduceLE, c_louperef02_Rune, hg, ↓ctrCont, n1, n2, n3, z0, z1, z2, z3, i1, i2, i3, f0, f1, f2, f3, f4, f5, f6, f7, f8, f9, f10, f11, f12, f13, f14, f15, f16, f17, f18, f19]
    exact hQ _ 0 rfl (by simp only [true_or, or_true, or_self, or_false, false_or, and_self, true_and, and_true, false_and, and_false, if_true, if_false, Bool.false_eq_true, c0, c1, c2, runeN, f0, f1, f2, f3, f4, f5, f6, f7, f8, f9, f10, f11, f12, f13, f14, f15, f16, f17, f18, f19])

theorem rune_spec' (s : List UInt8) (i : Int) (h0 : 0 ≤ i) (hi : i.toNat < s.length) (hl : s.length ≤ 4611686018427387904) : FnSpec Tryd.prog f_louperef02_Rune [.str s, .int .i64 i] [] (.int .i64 (runeN (s.drop i.toNat) : Nat)) [] := by
  have e : i = (i.toNat : Int) := by omega
  rw [e]
  exact rune_spec s i.toNat hi hl

def ctrRune : Ctr := fun args objs K => match args with
  | [.str s, .int .i64 i] => (0 ≤ i) ∧ (i.toNat < s.length) ∧ (s.length ≤ 4611686018427387904) ∧ K (.int .i64 (runeN (s.drop i.toNat) : Nat)) objs 0
  | _ => False
theorem ctrRune_ok : CtrOk Tryd.prog f_louperef02_Rune (ctrRune) := by
  intro args objs K h
  unfold ctrRune at h
  split at h
  · rename_i s i
    obtain ⟨h1, h2, h3, hk⟩ := h
    exact ⟨_, _, _, .pure _ rfl (rune_spec' s i h1 h2 h3), hk⟩
  · exact h.elim
end Lp

/-! LpW15 -/

namespace Lp
open Go Go.Proofs

set_option maxHeartbeats 4000000
set_option maxRecDepth 20000
set_option linter.unusedSimpArgs false

theorem runeN_le (s : List UInt8) : runeN s ≤ s.length := by
  cases s with
  | nil => simp [runeN]
  | cons c t =>
    have h0 : ∀ i, contB t i = true → i < t.length := by
      intro i h
      obtain ⟨d, hd⟩ := contB_get h
      exact (List.getElem?_eq_some_iff.1 hd).1
    simp only [runeN, List.length_cons]
    split
    · omega
    · split
      · rename_i h; have := h0 0 h.2.2; omega
      · split
        · rename_i h; have := h0 1 h.2.2.2; split <;> omega
        · split
          · rename_i h; have := h0 2 h.2.2.2.2; split <;> omega
          · omega

theorem utf_spec (s : List UInt8) (hl : s.length ≤ 4611686018427387904) : FnSpec Tryd.prog f_louperef02_Utf [.str s] [] (.bool (utf s)) [] := by
  refine k_louperef02_Utf.pureG (T := tabL Tryd.prog [(f_louperef02_Rune, ctrRune)]) 0 hD (kOk_tabL (tabOk_cons ctrRune_ok tabOk_nil)) hmix (by decide) fun Q hQ => ?_
  try simp only [F_all]
  simp (maxSteps := 400000) only [↓preZ, postZ, coreZ, ↓preU, postU, D_all, F_all, unR, outL, onePV, binS, ↓binS, boundR, ↓boundR, fieldOf, ↓fieldOf, boxR, allocR, newObj, zeroElem, buildSliceR, appendR, setAll, storeR, St.freeze, makeSliceR, minmaxR, makeFuncR, BEq.rfl, reduceIte, reduceCtorEq, Nat.reduceLT, Nat.reduceAdd, Nat.reduceSub, Nat.reduceMul, Nat.reduceBEq, Nat.reduceLeDiff, Int.reduceToNat, Int.reduceLE, hQ, c_louperef02_Utf]
  refine wpc_loop (fun m S => ∃ i : Nat, i + m = s.length ∧ utfF m (s.drop i) = utf s ∧ S = ⟨tmA 17 [(0, .str s), (3, .int .i64 i)], []⟩) s.length ⟨0, by omega, rfl, ?_⟩ ?_
  · simp only [normR, keepR, Nat.reduceAdd, lkR, Nat.reduceBEq, F_all, List.map_nil]
    rfl
  rintro m S ⟨i, him, hu, rfl⟩
  simp (maxSteps := 400000) only [↓preZ, postZ, coreZ, ↓preU, postU, D_all, F_all, unR, outL, onePV, binS, ↓binS, boundR, ↓boundR, fieldOf, ↓fieldOf, boxR, allocR, newObj, zeroElem, buildSliceR, appendR, setAll, storeR, St.freeze, makeSliceR, minmaxR, makeFuncR, BEq.rfl, reduceIte, reduceCtorEq, Nat.reduceLT, Nat.reduceAdd, Nat.reduceSub, Nat.reduceMul, Nat.reduceBEq, Nat.reduceLeDiff, Int.reduceToNat, Int.reduceLE, hQ, ↓ctrRune]
  have hle := runeN_le (s.drop i)
  simp only [List.length_drop] at hle
  refine ⟨fun h => ⟨by omega, by omega, hl, fun h0 => ?_, fun h0 => ⟨⟨by omega, by omega⟩, m - runeN (s.drop i), by omega, i + runeN (s.drop i), by omega, ?_, by simp⟩⟩, fun h => ?_⟩
  · obtain ⟨m, rfl⟩ : ∃ k, m = k + 1 := ⟨m - 1, by omega⟩
    have hne : (s.drop i).isEmpty = false := by
      rw [List.isEmpty_eq_false_iff]
      intro he
      have := congrArg List.length he
      simp at this; omega
    rw [← hu, utfF, hne]
    have : runeN (s.drop i) = 0 := by omega
    simp [this]
  · obtain ⟨m, rfl⟩ : ∃ k, m = k + 1 := ⟨m - 1, by omega⟩
    have hne : (s.drop i).isEmpty = false := by
      rw [List.isEmpty_eq_false_iff]
      intro he
      have := congrArg List.length he
      simp at this; omega
    rw [← hu]
    conv => rhs; rw [utfF, hne]
    have h1 : (runeN (s.drop i) != 0) = true := by simp; omega
    rw [h1, Bool.false_or, Bool.true_and, List.drop_drop]
    refine utfF_more _ _ _ ?_ ?_
    · simp; omega
    · simp; omega
  · rw [← hu]
    have hn : s.drop i = [] := List.drop_eq_nil_of_le (by omega)
    rw [hn]
    cases m <;> rfl

def ctrUtf : Ctr := fun args objs K => match args with
  | [.str s] => (s.length ≤ 4611686018427387904) ∧ K (.bool (utf s)) objs 0
  | _ => False
theorem ctrUtf_ok : CtrOk Tryd.prog f_louperef02_Utf (ctrUtf) := by
  intro args objs K h
  unfold ctrUtf at h
  split at h
  · rename_i s
    obtain ⟨h1, hk⟩ := h
    exact ⟨_, _, _, .pure _ rfl (utf_spec s h1), hk⟩
  · exact h.elim

theorem figures_spec (s : List UInt8) (hl : s.length ≤ 4611686018427387904) : FnSpec Tryd.prog f_louperef01_figures [.str s] [] (.bool (figs s)) [] := by
  refine k_louperef01_figures.pureG (T := tabL Tryd.prog []) 0 hD (kOk_tabL tabOk_nil) hmix (by decide) fun Q hQ => ?_
  try simp only [F_all]
  simp (maxSteps := 400000) only [↓preZ, postZ, coreZ, ↓preU, postU, D_all, F_all, unR, outL, onePV, binS, ↓binS, boundR, ↓boundR, fieldOf, ↓fieldOf, boxR, allocR, newObj, zeroElem, buildSliceR, appendR, setAll, storeR, St.freeze, makeSliceR, minmaxR, makeFuncR, BEq.rfl, reduceIte, reduceCtorEq, Nat.reduceLT, Nat.reduceAdd, Nat.reduceSub, Nat.reduceMul, Nat.reduceBEq, Nat.reduceLeDiff, Int.reduceToNat, Int.reduceLE, hQ, c_louperef01_figures]
  refine wpc_loop (fun m S => ∃ i : Nat, i + m = s.length ∧ figs (s.drop i) = figs s ∧ S = ⟨tmA 20 [(0, .str s), (3, .int .i64 i)], []⟩) s.length ⟨0, by omega, rfl, ?_⟩ ?_
  · simp only [normR, keepR, Nat.reduceAdd, lkR, Nat.reduceBEq, F_all, List.map_nil]
    rfl
  rintro m S ⟨i, him, hu, rfl⟩
  rcases Nat.lt_or_ge i s.length with h | h
  · have hg := List.getElem?_eq_getElem h
    have hd := List.drop_eq_getElem_cons h
    generalize s[i] = c at hg hd
    simp (maxSteps := 400000) only [↓preZ, postZ, coreZ, ↓preU, postU, D_all, F_all, unR, outL, onePV, binS, ↓binS, boundR, ↓boundR, fieldOf, ↓fieldOf, boxR, allocR, newObj, zeroElem, buildSliceR, appendR, setAll, storeR, St.freeze, makeSliceR, minmaxR, makeFuncR, BEq.rfl, reduceIte, reduceCtorEq, Nat.reduceLT, Nat.reduceAdd, Nat.reduceSub, Nat.reduceMul, Nat.reduceBEq, Nat.reduceLeDiff, Int.reduceToNat, Int.reduceLE, hQ, hg]
    have hf : figs (c :: s.drop (i + 1)) = (decide (48 ≤ c) && decide (c ≤ 57) && figs (s.drop (i + 1))) := by simp [figs]
    rw [hd, hf] at hu
    refine ⟨fun _ => ⟨by omega, fun h1 => ?_, fun h1 => ⟨by omega, fun h2 => ?_, fun h2 => ⟨⟨by omega, by omega⟩, m - 1, by omega, i + 1, by omega, ?_, by simp⟩⟩⟩, fun h1 => absurd (by omega) h1⟩
    · have : ¬ (48 ≤ c) := fun h => by have := (u8c c 48 (by omega)).2.1 h; omega
      rw [← hu]; simp [this]
    · have : ¬ (c ≤ 57) := fun h => by have : c.toNat ≤ (57 : UInt8).toNat := UInt8.le_iff_toNat_le.1 h; have h57 : (57 : UInt8).toNat = 57 := rfl; omega
      rw [← hu]; simp [this]
    · have h3 : 48 ≤ c := (u8c c 48 (by omega)).2.2 (by omega)
      have h4 : c ≤ 57 := UInt8.le_iff_toNat_le.2 (by have h57 : (57 : UInt8).toNat = 57 := rfl; omega)
      rw [← hu]; simp [h3, h4]
  · simp (maxSteps := 400000) only [↓preZ, postZ, coreZ, ↓preU, postU, D_all, F_all, unR, outL, onePV, binS, ↓binS, boundR, ↓boundR, fieldOf, ↓fieldOf, boxR, allocR, newObj, zeroElem, buildSliceR, appendR, setAll, storeR, St.freeze, makeSliceR, minmaxR, makeFuncR, BEq.rfl, reduceIte, reduceCtorEq, Nat.reduceLT, Nat.reduceAdd, Nat.reduceSub, Nat.reduceMul, Nat.reduceBEq, Nat.reduceLeDiff, Int.reduceToNat, Int.reduceLE, hQ]
    refine ⟨fun h1 => absurd h1 (by omega), fun _ => ?_⟩
    rw [← hu, List.drop_eq_nil_of_le h]; rfl

def ctrFigs : Ctr := fun args objs K => match args with
  | [.str s] => (s.length ≤ 4611686018427387904) ∧ K (.bool (figs s)) objs 0
  | _ => False
theorem ctrFigs_ok : CtrOk Tryd.prog f_louperef01_figures (ctrFigs) := by
  intro args objs K h
  unfold ctrFigs at h
  split at h
  · rename_i s
    obtain ⟨h1, hk⟩ := h
    exact ⟨_, _, _, .pure _ rfl (figures_spec s h1), hk⟩
  · exact h.elim

theorem numB_iff (n : Nd) : numB n = true ↔ n.many = 0 ∧ figs n.s = true ∧ n.s.length ≤ 100 ∧ -1000 ≤ n.e ∧ n.e ≤ 1000 ∧ n.s.length + n.e ≤ 1000 ∧
    (if n.s = [] then n.neg = false ∧ n.e = 0 else n.s.head? ≠ some 48 ∧ n.s.getLast? ≠ some 48) := by
  simp only [numB, Bool.and_eq_true, decide_eq_true_eq, beq_iff_eq, and_assoc]
  split <;> simp

theorem bfalse {b : Bool} (h : b = true → False) : b = false := by cases b <;> simp_all

theorem numRight_spec (n : Nd) (hl : n.s.length ≤ 4611686018427387904) (hk : n.kind = 3) (hn : n.name = []) : FnSpec Tryd.prog f_louperef01_Right [encN n] [] (.bool (numB n)) [] := by
  refine k_louperef01_Right.pureG (T := tabL Tryd.prog [(f_louperef01_figures, ctrFigs)]) 0 hD (kOk_tabL (tabOk_cons ctrFigs_ok tabOk_nil)) hmix (by decide) fun Q hQ => ?_
  try simp only [F_all]
  simp (maxSteps := 400000) only [↓preZ, postZ, coreZ, ↓preU, postU, D_all, F_all, unR, outL, onePV, binS, ↓binS, boundR, ↓boundR, fieldOf, ↓fieldOf, boxR, allocR, newObj, zeroElem, buildSliceR, appendR, setAll, storeR, St.freeze, makeSliceR, minmaxR, makeFuncR, BEq.rfl, reduceIte, reduceCtorEq, Nat.reduceLT, Nat.reduceAdd, Nat.reduceSub, Nat.reduceMul, Nat.reduceBEq, Nat.reduceLeDiff, Int.reduceToNat, Int.reduceLE, hQ, c_louperef01_Right]
  refine wpc_weak _ (Weak.freeze 1 0 (Nat.le_refl _) _) ?_
  cases hf : figs n.s
  · simp (maxSteps := 400000) only [↓preZ, postZ, coreZ, ↓preU, postU, D_all, F_all, unR, outL, onePV, binS, ↓binS, boundR, ↓boundR, fieldOf, ↓fieldOf, boxR, allocR, newObj, zeroElem, buildSliceR, appendR, setAll, storeR, St.freeze, makeSliceR, minmaxR, makeFuncR, BEq.rfl, reduceIte, reduceCtorEq, Nat.reduceLT, Nat.reduceAdd, Nat.reduceSub, Nat.reduceMul, Nat.reduceBEq, Nat.reduceLeDiff, Int.reduceToNat, Int.reduceLE, hQ, frzC0, ↓ctrFigs, hk, hn, hf]
    have : numB n = false := bfalse fun h => by have := ((numB_iff n).1 h).2.1; rw [hf] at this; cases this
    exact ⟨fun _ => ⟨hl, this⟩, fun _ => this⟩
  by_cases hs : n.s = []
  · simp (maxSteps := 400000) only [↓preZ, postZ, coreZ, ↓preU, postU, D_all, F_all, unR, outL, onePV, binS, ↓binS, boundR, ↓boundR, fieldOf, ↓fieldOf, boxR, allocR, newObj, zeroElem, buildSliceR, appendR, setAll, storeR, St.freeze, makeSliceR, minmaxR, makeFuncR, BEq.rfl, reduceIte, reduceCtorEq, Nat.reduceLT, Nat.reduceAdd, Nat.reduceSub, Nat.reduceMul, Nat.reduceBEq, Nat.reduceLeDiff, Int.reduceToNat, Int.reduceLE, hQ, frzC0, ↓ctrFigs, hk, hn, hs]
    have hf0 : figs [] = true := rfl
    have key := numB_iff n
    rw [if_pos hs, hs] at key
    have hlz : (([] : List UInt8).length : Int) = 0 := rfl
    simp only [hf0, ifR, hlz, Int.zero_add, List.length_nil]
    refine ⟨fun h0 => ⟨fun h => absurd h (by omega), fun _ => ⟨fun h => bfalse fun hb => ?_, fun h1 => ⟨fun h => bfalse fun hb => ?_, fun h2 => ⟨⟨by omega, by omega⟩, fun h => bfalse fun hb => ?_, fun h3 => ?_⟩⟩⟩⟩, fun h0 => bfalse fun hb => ?_⟩
    · have := key.1 hb; omega
    · have := key.1 hb; omega
    · have := key.1 hb; omega
    · refine ⟨fun hng => bfalse fun hb => ?_, fun hng => ?_⟩
      · have := (key.1 hb).2.2.2.2.2.2.1; rw [hng] at this; cases this
      · by_cases hz : n.e = 0
        · rw [decide_eq_true hz, key]
          exact ⟨h0, hf0, by simp, by omega, by omega, by simp; omega, hng, hz⟩
        · rw [decide_eq_false hz]
          exact bfalse fun hb => hz (key.1 hb).2.2.2.2.2.2.2
    · have := key.1 hb; omega
  · obtain ⟨c, t, hct⟩ : ∃ c t, n.s = c :: t := by
      cases h : n.s with
      | nil => exact absurd h hs
      | cons c t => exact ⟨c, t, rfl⟩
    have hlen : 0 < n.s.length := by rw [hct]; simp
    have g0 : n.s[0]? = some c := by rw [hct]; rfl
    have g1 : n.s[n.s.length - 1]? = some (n.s[n.s.length - 1]'(by omega)) := List.getElem?_eq_getElem (by omega)
    have t1 : ((n.s.length : Int) - 1).toNat = n.s.length - 1 := by omega
    have hl1 : n.s.getLast? = some (n.s[n.s.length - 1]'(by omega)) := by rw [List.getLast?_eq_getElem?, g1]
    have hh1 : n.s.head? = some c := by rw [hct]; rfl
    generalize n.s[n.s.length - 1]'(by omega) = d at g1 hl1
    have i1 : (-9223372036854775808 ≤ (n.s.length : Int) - 1 ∧ (n.s.length : Int) - 1 ≤ 9223372036854775807) = True := eq_true ⟨by omega, by omega⟩
    have z1 : (0 ≤ (n.s.length : Int) - 1) = True := eq_true (by omega)
    simp (maxSteps := 400000) only [↓preZ, postZ, coreZ, ↓preU, postU, D_all, F_all, unR, outL, onePV, binS, ↓binS, boundR, ↓boundR, fieldOf, ↓fieldOf, boxR, allocR, newObj, zeroElem, buildSliceR, appendR, setAll, storeR, St.freeze, makeSliceR, minmaxR, makeFuncR, BEq.rfl, reduceIte, reduceCtorEq, Nat.reduceLT, Nat.reduceAdd, Nat.reduceSub, Nat.reduceMul, Nat.reduceBEq, Nat.reduceLeDiff, Int.reduceToNat, Int.reduceLE, hQ, frzC0, ↓ctrFigs, hk, hn, hs, hf, g0, t1, g1, i1, z1]
    have key := numB_iff n
    rw [if_neg hs, hh1, hl1] at key
    have e48 : ∀ x : UInt8, x = 48 ↔ x.toNat = 48 := fun x => ⟨fun h => by rw [h]; rfl, fun h => UInt8.toNat_inj.1 (by simpa using h)⟩
    refine ⟨fun h0 => ⟨hl, fun h => bfalse fun hb => ?_, fun h1 => ⟨fun h => bfalse fun hb => ?_, fun h2 => ⟨fun h => bfalse fun hb => ?_, fun h3 => ⟨⟨by omega, by omega⟩, fun h => bfalse fun hb => ?_, fun h4 => ⟨fun h => bfalse fun hb => ?_, fun h5 => ?_⟩⟩⟩⟩⟩, fun h0 => bfalse fun hb => ?_⟩
    · have := key.1 hb; omega
    · have := key.1 hb; omega
    · have := key.1 hb; omega
    · have := key.1 hb; omega
    · refine (key.1 hb).2.2.2.2.2.2.1 ?_
      rw [(e48 c).2 (by omega)]
    · by_cases hz : d.toNat = 48
      · have hz' : (d.toNat : Int) = 48 := by omega
        rw [decide_eq_true hz']
        refine bfalse fun hb => (key.1 hb).2.2.2.2.2.2.2 ?_
        rw [(e48 d).2 hz]
      · have hz' : ¬ (d.toNat : Int) = 48 := by omega
        rw [decide_eq_false hz', Bool.not_false, key]
        refine ⟨h0, hf, by omega, by omega, by omega, by omega, fun h => ?_, fun h => ?_⟩
        · have := (e48 c).1 (by simpa using h); omega
        · exact hz ((e48 d).1 (by simpa using h))
    · exact h0 (key.1 hb).1

def ctrNumRight : Ctr := fun args objs K => match args with
  | [a0] => ofE encN a0 (HK.mk : HK fun n => (n.s.length ≤ 4611686018427387904) ∧ (n.kind = 3) ∧ (n.name = []) ∧ K (.bool (numB n)) objs 0)
  | _ => False
theorem ctrNumRight_ok : CtrOk Tryd.prog f_louperef01_Right (ctrNumRight) := by
  intro args objs K h
  unfold ctrNumRight at h
  split at h
  · rename_i a0
    obtain ⟨n, rfl, h1, h2, h3, hk⟩ := h
    exact ⟨_, _, _, .pure _ rfl (numRight_spec n h1 h2 h3), hk⟩
  · exact h.elim
end Lp

/-! LpW16 -/

namespace Lp
open Go Go.Proofs

set_option maxHeartbeats 4000000
set_option maxRecDepth 20000
set_option linter.unusedSimpArgs false

/-- The place behind, or -1. -/
def nextI (v : Vl) (i : Nat) : Int := match nxt v.length (v.drop i) 1 with
  | some c => (i + c : Nat)
  | none => -1

theorem nextI_none {v : Vl} {i : Nat} (h : (nxt v.length (v.drop i) 1).map (fun c => i + c) = none) : nextI v i = -1 := by
  unfold nextI
  cases hx : nxt v.length (v.drop i) 1 with
  | none => rfl
  | some c => rw [hx] at h; simp at h
theorem nextI_some {v : Vl} {i j : Nat} (h : (nxt v.length (v.drop i) 1).map (fun c => i + c) = some j) : nextI v i = j := by
  unfold nextI
  cases hx : nxt v.length (v.drop i) 1 with
  | none => rw [hx] at h; simp at h
  | some c => rw [hx] at h; simp only [Option.map_some, Option.some.injEq] at h; rw [← h]

theorem nxt_zero (L : Nat) (v : Vl) : nxt L v 0 = some 0 := by cases v <;> rfl

theorem next_spec (v : Vl) (i : Nat) (hi : i ≤ v.length) (hl : v.length ≤ 1000000) : FnSpec Tryd.prog f_louperef02_Next [encV v, .int .i64 i] [] (.int .i64 (nextI v i)) [] := by
  refine k_louperef02_Next.pureG (T := tabL Tryd.prog []) 0 hD (kOk_tabL tabOk_nil) hmix (by decide) fun Q hQ => ?_
  try simp only [F_all]
  simp (maxSteps := 400000) only [↓preZ, postZ, coreZ, ↓preU, postU, D_all, F_all, unR, outL, onePV, binS, ↓binS, boundR, ↓boundR, fieldOf, ↓fieldOf, boxR, allocR, newObj, zeroElem, buildSliceR, appendR, setAll, storeR, St.freeze, makeSliceR, minmaxR, makeFuncR, BEq.rfl, reduceIte, reduceCtorEq, Nat.reduceLT, Nat.reduceAdd, Nat.reduceSub, Nat.reduceMul, Nat.reduceBEq, Nat.reduceLeDiff, Int.reduceToNat, Int.reduceLE, hQ, c_louperef02_Next]
  refine wpc_loop (fun m S => ∃ j k : Nat, j + m = v.length ∧ k ≤ 1 + j * 1000000 ∧ (nxt v.length (v.drop i) 1).map (fun c => i + c) = (nxt v.length (v.drop j) k).map (fun c => j + c) ∧
    S = ⟨tmA 41 [(0, encV v), (1, .int .i64 j), (5, .int .i64 k)], []⟩) (v.length - i) ⟨i, 1, by omega, by omega, rfl, ?_⟩ ?_
  · simp only [normR, keepR, Nat.reduceAdd, lkR, Nat.reduceBEq, F_all, List.map_nil]
    rfl
  rintro m S ⟨j, k, hjm, hk, hn, rfl⟩
  rcases Nat.lt_or_ge j v.length with h | h
  · have hg := List.getElem?_eq_getElem h
    have hd := List.drop_eq_getElem_cons h
    generalize v[j] = n at hg hd
    simp (maxSteps := 400000) only [↓preZ, postZ, coreZ, ↓preU, postU, D_all, F_all, unR, outL, onePV, binS, ↓binS, boundR, ↓boundR, fieldOf, ↓fieldOf, boxR, allocR, newObj, zeroElem, buildSliceR, appendR, setAll, storeR, St.freeze, makeSliceR, minmaxR, makeFuncR, BEq.rfl, reduceIte, reduceCtorEq, Nat.reduceLT, Nat.reduceAdd, Nat.reduceSub, Nat.reduceMul, Nat.reduceBEq, Nat.reduceLeDiff, Int.reduceToNat, Int.reduceLE, hQ, hg]
    refine ⟨fun hk0 => ⟨fun h' => absurd h' (by omega), fun _ => ⟨by omega, fun hm => ?_, fun hm => ⟨by omega, fun hm2 => ?_, fun hm2 => ?_⟩⟩⟩, fun hk0 => ?_⟩
    · obtain ⟨k, rfl⟩ : ∃ q, k = q + 1 := ⟨k - 1, by omega⟩
      rw [hd, nxt, if_pos (.inl hm)] at hn
      rw [nextI_none hn]
    · obtain ⟨k, rfl⟩ : ∃ q, k = q + 1 := ⟨k - 1, by omega⟩
      rw [hd, nxt, if_pos (.inr hm2)] at hn
      rw [nextI_none hn]
    · obtain ⟨k, rfl⟩ : ∃ q, k = q + 1 := ⟨k - 1, by omega⟩
      rw [hd, nxt, if_neg (by omega)] at hn
      have hk2 : (((k + 1 : Nat) : Int) - 1 + n.many) = ((k + n.many.toNat : Nat) : Int) := by omega
      refine ⟨⟨by omega, by omega⟩, by omega, ⟨by omega, by omega⟩, ⟨by omega, by omega⟩, m - 1, by omega, j + 1, k + n.many.toNat, by omega, by omega, ?_, ?_⟩
      · rw [hn]
        cases nxt v.length (v.drop (j + 1)) (k + n.many.toNat) with
        | none => rfl
        | some c => simp; omega
      · rw [hk2]; rfl
    · have hk1 : k = 0 := by omega
      subst hk1
      rw [nxt_zero] at hn
      rw [nextI_some (j := j) (by simpa using hn)]
  · simp (maxSteps := 400000) only [↓preZ, postZ, coreZ, ↓preU, postU, D_all, F_all, unR, outL, onePV, binS, ↓binS, boundR, ↓boundR, fieldOf, ↓fieldOf, boxR, allocR, newObj, zeroElem, buildSliceR, appendR, setAll, storeR, St.freeze, makeSliceR, minmaxR, makeFuncR, BEq.rfl, reduceIte, reduceCtorEq, Nat.reduceLT, Nat.reduceAdd, Nat.reduceSub, Nat.reduceMul, Nat.reduceBEq, Nat.reduceLeDiff, Int.reduceToNat, Int.reduceLE, hQ]
    refine ⟨fun hk0 => ⟨fun _ => ?_, fun h' => absurd (by omega) h'⟩, fun hk0 => ?_⟩
    · obtain ⟨k, rfl⟩ : ∃ q, k = q + 1 := ⟨k - 1, by omega⟩
      rw [List.drop_eq_nil_of_le h] at hn
      simp only [nxt, Option.map_none] at hn
      rw [nextI_none hn]
    · have hk1 : k = 0 := by omega
      subst hk1
      rw [nxt_zero] at hn
      rw [nextI_some (j := j) (by simpa using hn)]

theorem next_spec' (v : Vl) (i : Int) (h0 : 0 ≤ i) (hi : i.toNat ≤ v.length) (hl : v.length ≤ 1000000) : FnSpec Tryd.prog f_louperef02_Next [encV v, .int .i64 i] [] (.int .i64 (nextI v i.toNat)) [] := by
  have e : i = (i.toNat : Int) := by omega
  rw [e]
  exact next_spec v i.toNat hi hl

def ctrNext : Ctr := fun args objs K => match args with
  | [a0, .int .i64 i] => ofE encV a0 (HK.mk : HK fun v => (0 ≤ i) ∧ (i.toNat ≤ v.length) ∧ (v.length ≤ 1000000) ∧ K (.int .i64 (nextI v i.toNat)) objs 0)
  | _ => False
theorem ctrNext_ok : CtrOk Tryd.prog f_louperef02_Next (ctrNext) := by
  intro args objs K h
  unfold ctrNext at h
  split at h
  · rename_i a0 i
    obtain ⟨v, rfl, h1, h2, h3, hk⟩ := h
    exact ⟨_, _, _, .pure _ rfl (next_spec' v i h1 h2 h3), hk⟩
  · exact h.elim
end Lp

/-! LpW17 -/

namespace Lp
open Go Go.Proofs

set_option maxHeartbeats 4000000
set_option maxRecDepth 20000
set_option linter.unusedSimpArgs false

theorem plain_spec (n : Nd) (hl : n.s.length ≤ 4611686018427387904) : FnSpec Tryd.prog f_louperef02_plain [encN n] [] (.bool (plainB n)) [] := by
  refine k_louperef02_plain.pureG (T := tabL Tryd.prog [(f_louperef02_Utf, ctrUtf), (f_louperef01_Right, ctrNumRight)]) 0 hD (kOk_tabL (tabOk_cons ctrUtf_ok (tabOk_cons ctrNumRight_ok tabOk_nil))) hmix (by decide) fun Q hQ => ?_
  try simp only [F_all]
  have h8 : n.kind = 0 ∨ n.kind = 1 ∨ n.kind = 2 ∨ n.kind = 3 ∨ n.kind = 4 ∨ n.kind = 5 ∨ n.kind = 6 ∨ (n.kind ≠ 0 ∧ n.kind ≠ 1 ∧ n.kind ≠ 2 ∧ n.kind ≠ 3 ∧ n.kind ≠ 4 ∧ n.kind ≠ 5 ∧ n.kind ≠ 6) := by omega
  rcases h8 with hk | hk | hk | hk | hk | hk | hk | ⟨k0, k1, k2, k3, k4, k5, k6⟩
  · simp (maxSteps := 400000) only [↓preZ, postZ, coreZ, ↓preU, postU, D_all, F_all, unR, outL, onePV, binS, ↓binS, boundR, ↓boundR, fieldOf, ↓fieldOf, boxR, allocR, newObj, zeroElem, buildSliceR, appendR, setAll, storeR, St.freeze, makeSliceR, minmaxR, makeFuncR, BEq.rfl, reduceIte, reduceCtorEq, Nat.reduceLT, Nat.reduceAdd, Nat.reduceSub, Nat.reduceMul, Nat.reduceBEq, Nat.reduceLeDiff, Int.reduceToNat, Int.reduceLE, hQ, c_louperef02_plain, ↓ctrUtf, ↓ctrNumRight, hk, Int.reduceEq]
    rw [Bool.eq_iff_iff]
    simp [plainB, hk, and_assoc]
  · simp (maxSteps := 400000) only [↓preZ, postZ, coreZ, ↓preU, postU, D_all, F_all, unR, outL, onePV, binS, ↓binS, boundR, ↓boundR, fieldOf, ↓fieldOf, boxR, allocR, newObj, zeroElem, buildSliceR, appendR, setAll, storeR, St.freeze, makeSliceR, minmaxR, makeFuncR, BEq.rfl, reduceIte, reduceCtorEq, Nat.reduceLT, Nat.reduceAdd, Nat.reduceSub, Nat.reduceMul, Nat.reduceBEq, Nat.reduceLeDiff, Int.reduceToNat, Int.reduceLE, hQ, c_louperef02_plain, ↓ctrUtf, ↓ctrNumRight, hk, Int.reduceEq]
    rw [Bool.eq_iff_iff]
    simp [plainB, hk, and_assoc]
  · simp (maxSteps := 400000) only [↓preZ, postZ, coreZ, ↓preU, postU, D_all, F_all, unR, outL, onePV, binS, ↓binS, boundR, ↓boundR, fieldOf, ↓fieldOf, boxR, allocR, newObj, zeroElem, buildSliceR, appendR, setAll, storeR, St.freeze, makeSliceR, minmaxR, makeFuncR, BEq.rfl, reduceIte, reduceCtorEq, Nat.reduceLT, Nat.reduceAdd, Nat.reduceSub, Nat.reduceMul, Nat.reduceBEq, Nat.reduceLeDiff, Int.reduceToNat, Int.reduceLE, hQ, c_louperef02_plain, ↓ctrUtf, ↓ctrNumRight, hk, Int.reduceEq]
    rw [Bool.eq_iff_iff]
    simp [plainB, hk, and_assoc]
  · simp (maxSteps := 400000) only [↓preZ, postZ, coreZ, ↓preU, postU, D_all, F_all, unR, outL, onePV, binS, ↓binS, boundR, ↓boundR, fieldOf, ↓fieldOf, boxR, allocR, newObj, zeroElem, buildSliceR, appendR, setAll, storeR, St.freeze, makeSliceR, minmaxR, makeFuncR, BEq.rfl, reduceIte, reduceCtorEq, Nat.reduceLT, Nat.reduceAdd, Nat.reduceSub, Nat.reduceMul, Nat.reduceBEq, Nat.reduceLeDiff, Int.reduceToNat, Int.reduceLE, hQ, c_louperef02_plain, ↓ctrUtf, ↓ctrNumRight, hk, Int.reduceEq]
    refine ⟨hl, ?_⟩
    simp [plainB, hk, numB]
  · simp (maxSteps := 400000) only [↓preZ, postZ, coreZ, ↓preU, postU, D_all, F_all, unR, outL, onePV, binS, ↓binS, boundR, ↓boundR, fieldOf, ↓fieldOf, boxR, allocR, newObj, zeroElem, buildSliceR, appendR, setAll, storeR, St.freeze, makeSliceR, minmaxR, makeFuncR, BEq.rfl, reduceIte, reduceCtorEq, Nat.reduceLT, Nat.reduceAdd, Nat.reduceSub, Nat.reduceMul, Nat.reduceBEq, Nat.reduceLeDiff, Int.reduceToNat, Int.reduceLE, hQ, c_louperef02_plain, ↓ctrUtf, ↓ctrNumRight, hk, Int.reduceEq]
    refine ⟨hl, ?_⟩
    cases hu : utf n.s
    · simp [ifP, plainB, hk, hu]
    · simp only [ifR]
      rw [Bool.eq_iff_iff]
      simp [plainB, hk, hu, and_assoc]
  · simp (maxSteps := 400000) only [↓preZ, postZ, coreZ, ↓preU, postU, D_all, F_all, unR, outL, onePV, binS, ↓binS, boundR, ↓boundR, fieldOf, ↓fieldOf, boxR, allocR, newObj, zeroElem, buildSliceR, appendR, setAll, storeR, St.freeze, makeSliceR, minmaxR, makeFuncR, BEq.rfl, reduceIte, reduceCtorEq, Nat.reduceLT, Nat.reduceAdd, Nat.reduceSub, Nat.reduceMul, Nat.reduceBEq, Nat.reduceLeDiff, Int.reduceToNat, Int.reduceLE, hQ, c_louperef02_plain, ↓ctrUtf, ↓ctrNumRight, hk, Int.reduceEq]
    refine ⟨fun hm => ?_, fun hm => ?_⟩
    · rw [Bool.eq_iff_iff]
      simp [plainB, hk, hm, and_assoc]
    · simp [plainB, hk, hm]
  · simp (maxSteps := 400000) only [↓preZ, postZ, coreZ, ↓preU, postU, D_all, F_all, unR, outL, onePV, binS, ↓binS, boundR, ↓boundR, fieldOf, ↓fieldOf, boxR, allocR, newObj, zeroElem, buildSliceR, appendR, setAll, storeR, St.freeze, makeSliceR, minmaxR, makeFuncR, BEq.rfl, reduceIte, reduceCtorEq, Nat.reduceLT, Nat.reduceAdd, Nat.reduceSub, Nat.reduceMul, Nat.reduceBEq, Nat.reduceLeDiff, Int.reduceToNat, Int.reduceLE, hQ, c_louperef02_plain, ↓ctrUtf, ↓ctrNumRight, hk, Int.reduceEq]
    refine ⟨fun hm => ?_, fun hm => ?_⟩
    · rw [Bool.eq_iff_iff]
      simp [plainB, hk, hm, and_assoc]
    · simp [plainB, hk, hm]
  · simp (maxSteps := 400000) only [↓preZ, postZ, coreZ, ↓preU, postU, D_all, F_all, unR, outL, onePV, binS, ↓binS, boundR, ↓boundR, fieldOf, ↓fieldOf, boxR, allocR, newObj, zeroElem, buildSliceR, appendR, setAll, storeR, St.freeze, makeSliceR, minmaxR, makeFuncR, BEq.rfl, reduceIte, reduceCtorEq, Nat.reduceLT, Nat.reduceAdd, Nat.reduceSub, Nat.reduceMul, Nat.reduceBEq, Nat.reduceLeDiff, Int.reduceToNat, Int.reduceLE, hQ, c_louperef02_plain, ↓ctrUtf, ↓ctrNumRight, k0, k1, k2, k3, k4, k5, k6]
    simp [plainB, k0, k1, k2, k3, k4, k5, k6]

def ctrPlain : Ctr := fun args objs K => match args with
  | [a0] => ofE encN a0 (HK.mk : HK fun n => (n.s.length ≤ 4611686018427387904) ∧ K (.bool (plainB n)) objs 0)
  | _ => False
theorem ctrPlain_ok : CtrOk Tryd.prog f_louperef02_plain (ctrPlain) := by
  intro args objs K h
  unfold ctrPlain at h
  split at h
  · rename_i a0
    obtain ⟨n, rfl, h1, hk⟩ := h
    exact ⟨_, _, _, .pure _ rfl (plain_spec n h1), hk⟩
  · exact h.elim
end Lp

/-! LpW18 -/

namespace Lp
open Go Go.Proofs

set_option maxHeartbeats 4000000
set_option maxRecDepth 20000
set_option linter.unusedSimpArgs false

def nextOk (kind : Int) (name : List UInt8) : List Vl → Bool
  | [] => true
  | q :: _ => kind != 6 || Op.bytesLess name (nameOf q)

theorem ifF {X Y : Prop} (h : Y) : ifP false X Y := ⟨fun h => (by cases h), fun _ => h⟩
theorem ifT {X Y : Prop} (h : X) : ifP true X Y := ⟨fun _ => h, fun h => (by cases h)⟩

/-- The nodes a value may have, by size. -/
structure Small (v : Vl) : Prop where
  len : v.length ≤ 1000000
  txt : ∀ n ∈ v, n.s.length ≤ 4611686018427387904 ∧ n.name.length ≤ 4611686018427387904

theorem nxt_split (L : Nat) : ∀ (v : Vl) (j k c : Nat), nxt L v (j + k) = some c → ∃ c1 c2, nxt L v j = some c1 ∧ nxt L (v.drop c1) k = some c2 ∧ c = c1 + c2
  | v, 0, k, c, h => ⟨0, c, nxt_zero L v, by simpa using h, by simp⟩
  | [], j + 1, k, c, h => by
    rw [show j + 1 + k = (j + k) + 1 by omega] at h
    simp [nxt] at h
  | n :: v, j + 1, k, c, h => by
    rw [show j + 1 + k = (j + k) + 1 by omega, nxt] at h
    split at h
    · cases h
    · rename_i hn
      cases hs : nxt L v (j + k + n.many.toNat) with
      | none => rw [hs] at h; simp at h
      | some c' =>
        rw [hs] at h
        simp only [Option.map_some, Option.some.injEq] at h
        rw [show j + k + n.many.toNat = (j + n.many.toNat) + k by omega] at hs
        obtain ⟨c1, c2, h1, h2, rfl⟩ := nxt_split L v _ k c' hs
        refine ⟨c1 + 1, c2, ?_, by simpa using h2, by omega⟩
        rw [nxt, if_neg hn, h1]; rfl

theorem nextI_of {v : Vl} {i c : Nat} (h : nxt v.length (v.drop i) 1 = some c) : nextI v i = (i + c : Nat) := by
  simp only [nextI, h]

/-- Rising, from a part on. -/
theorem rising_spec (v : Vl) (at' : Nat) (n : Nd) (c : Nat) (hs : Small v) (hat : v[at']? = some n) (hm : 0 ≤ n.many) (hc : nxt v.length (v.drop (at' + 1)) n.many.toNat = some c) (ps : List Vl) (hps : parts n.many.toNat (v.drop (at' + 1)) = some ps) :
    FnSpec Tryd.prog f_louperef02_rising [encV v, .int .i64 at'] [] (.bool (risB n.kind ps)) [] := by
  obtain ⟨hl, htx⟩ := hs
  have hatl := (List.getElem?_eq_some_iff.1 hat).1
  have hpl := parts_len _ _ _ hps
  have hple := parts_le _ _ _ hps
  simp only [List.length_drop] at hple
  refine k_louperef02_rising.pureG (T := tabL Tryd.prog [(f_louperef02_Utf, ctrUtf), (f_louperef02_Next, ctrNext)]) 0 hD (kOk_tabL (tabOk_cons ctrUtf_ok (tabOk_cons ctrNext_ok tabOk_nil))) hmix (by decide) fun Q hQ => ?_
  try simp only [F_all]
  simp (maxSteps := 400000) only [↓preZ, postZ, coreZ, ↓preU, postU, D_all, F_all, unR, outL, onePV, binS, ↓binS, boundR, ↓boundR, fieldOf, ↓fieldOf, boxR, allocR, newObj, zeroElem, buildSliceR, appendR, setAll, storeR, St.freeze, makeSliceR, minmaxR, makeFuncR, BEq.rfl, reduceIte, reduceCtorEq, Nat.reduceLT, Nat.reduceAdd, Nat.reduceSub, Nat.reduceMul, Nat.reduceBEq, Nat.reduceLeDiff, Int.reduceToNat, Int.reduceLE, hQ, c_louperef02_rising]
  refine ⟨⟨by omega, by omega⟩, ?_⟩
  refine wpc_loop (fun m S => ∃ (i c' : Nat) (rest : List Vl), m = rest.length ∧ rest.length ≤ ps.length ∧ parts rest.length (v.drop i) = some rest ∧ nxt v.length (v.drop i) rest.length = some c' ∧ risB n.kind rest = risB n.kind ps ∧
    S = ⟨tmA 75 [(0, encV v), (1, .int .i64 at'), (5, .int .i64 i), (6, .int .i64 ((ps.length : Int) - rest.length))], []⟩) ps.length ⟨at' + 1, c, ps, rfl, Nat.le_refl _, by rw [hpl]; exact hps, by rw [hpl]; exact hc, rfl, ?_⟩ ?_
  · simp only [normR, keepR, Nat.reduceAdd, lkR, Nat.reduceBEq, F_all, List.map_nil]
    simp
  rintro m S ⟨i, c', rest, rfl, hrl, hrp, hrn, hrb, rfl⟩
  have hmn : n.many = (ps.length : Int) := by omega
  have z0 : (0 ≤ (at' : Int)) = True := eq_true (by omega)
  have zi : (0 ≤ (i : Int)) = True := eq_true (by omega)
  cases rest with
  | nil =>
    simp (maxSteps := 400000) only [↓preZ, postZ, coreZ, ↓preU, postU, D_all, F_all, unR, outL, onePV, binS, ↓binS, boundR, ↓boundR, fieldOf, ↓fieldOf, boxR, allocR, newObj, zeroElem, buildSliceR, appendR, setAll, storeR, St.freeze, makeSliceR, minmaxR, makeFuncR, BEq.rfl, reduceIte, reduceCtorEq, Nat.reduceLT, Nat.reduceAdd, Nat.reduceSub, Nat.reduceMul, Nat.reduceBEq, Nat.reduceLeDiff, Int.reduceToNat, Int.reduceLE, hQ, hat, hmn, z0]
    refine ⟨fun h => absurd h (by simp), fun _ => ?_⟩
    rw [← hrb]; rfl
  | cons p qs =>
    obtain ⟨pc, qs', h1, h2, h3⟩ := parts_step (k := qs.length) hrp
    simp only [List.cons.injEq] at h2
    obtain ⟨rfl, rfl⟩ := h2
    have hpc := skip_le _ _ _ h1
    simp only [List.length_drop] at hpc
    have hil : i < v.length := by omega
    have hgi := List.getElem?_eq_getElem hil
    have hdi := List.drop_eq_getElem_cons hil
    have htx1 := htx _ (List.getElem_mem hil)
    generalize v[i] = pn at hgi hdi htx1
    have hname : nameOf (List.take pc (v.drop i)) = pn.name := by
      obtain ⟨q, hq⟩ : ∃ q, pc = q + 1 := ⟨pc - 1, by omega⟩
      rw [hdi, hq]; rfl
    obtain ⟨c1, c2, e1, e2, e3⟩ := nxt_split v.length (v.drop i) 1 qs.length c' (by rw [Nat.add_comm]; exact hrn)
    have hcc : c1 = pc := by
      have := nxt_skip _ _ _ _ e1
      rw [h1] at this
      exact (Option.some.inj this).symm
    subst hcc
    have hnx := nextI_of e1
    simp only [List.length_cons] at hrl
    have ht1 : ((i + c1 : Nat) : Int).toNat = i + c1 := by omega
    have h3' : parts qs.length (v.drop (i + c1)) = some qs := by rw [← List.drop_drop]; exact h3
    have e2' : nxt v.length (v.drop (i + c1)) qs.length = some c2 := by rw [← List.drop_drop]; exact e2
    have hun : ∀ x : Bool, nextOk n.kind pn.name qs = x → risB n.kind (List.take c1 (v.drop i) :: qs) = ((n.kind != 5 || pn.name == []) && utf pn.name && x && risB n.kind qs) := by
      intro x hx
      rw [← hx]
      cases qs <;> simp only [risB, nextOk, hname]
    have hltT : ((ps.length : Int) - ((qs.length + 1 : Nat) : Int) < (ps.length : Int)) = True := eq_true (by omega)
    cases hu : utf pn.name
    · have hfin : risB n.kind ps = false := by rw [← hrb, hun _ rfl, hu]; simp
      simp (maxSteps := 400000) only [↓preZ, postZ, coreZ, ↓preU, postU, D_all, F_all, unR, outL, onePV, binS, ↓binS, boundR, ↓boundR, fieldOf, ↓fieldOf, boxR, allocR, newObj, zeroElem, buildSliceR, appendR, setAll, storeR, St.freeze, makeSliceR, minmaxR, makeFuncR, BEq.rfl, reduceIte, reduceCtorEq, Nat.reduceLT, Nat.reduceAdd, Nat.reduceSub, Nat.reduceMul, Nat.reduceBEq, Nat.reduceLeDiff, Int.reduceToNat, Int.reduceLE, hQ, hat, hmn, z0, zi, hgi, ↓ctrUtf, ↓ctrNext, hnx, hu, hltT, hfin]
      exact ⟨fun _ _ => htx1.2, fun _ => htx1.2⟩
    by_cases h5 : n.kind = 5 ∧ pn.name ≠ []
    · have hfin : risB n.kind ps = false := by rw [← hrb, hun _ rfl]; simp [h5.1, h5.2]
      simp (maxSteps := 400000) only [↓preZ, postZ, coreZ, ↓preU, postU, D_all, F_all, unR, outL, onePV, binS, ↓binS, boundR, ↓boundR, fieldOf, ↓fieldOf, boxR, allocR, newObj, zeroElem, buildSliceR, appendR, setAll, storeR, St.freeze, makeSliceR, minmaxR, makeFuncR, BEq.rfl, reduceIte, reduceCtorEq, Nat.reduceLT, Nat.reduceAdd, Nat.reduceSub, Nat.reduceMul, Nat.reduceBEq, Nat.reduceLeDiff, Int.reduceToNat, Int.reduceLE, hQ, hat, hmn, z0, zi, hgi, ↓ctrUtf, ↓ctrNext, hnx, hu, hltT, h5.1, h5.2]
      rw [← h5.1]; exact hfin
    have hc5 : (n.kind != 5 || pn.name == []) = true := by
      by_cases hk : n.kind = 5
      · have : pn.name = [] := Decidable.of_not_not fun h => h5 ⟨hk, h⟩
        simp [this]
      · simp [hk]
    rw [hc5, hu] at hun
    have good : n.kind = 5 → pn.name = [] := fun hk => Decidable.of_not_not fun h => h5 ⟨hk, h⟩
    have hlt1 : (-9223372036854775808 ≤ (ps.length : Int) - ((qs.length + 1 : Nat) : Int) + 1 ∧ (ps.length : Int) - ((qs.length + 1 : Nat) : Int) + 1 ≤ 9223372036854775807) = True := eq_true ⟨by omega, by omega⟩
    have hiv : i ≤ v.length := by omega
    have e : (ps.length : Int) - ((qs.length + 1 : Nat) : Int) + 1 = (ps.length : Int) - qs.length := by omega
    have l1 : qs.length < qs.length + 1 := Nat.lt_succ_self _
    have l2 : qs.length ≤ ps.length := by omega
    have zc : (0 ≤ ((i + c1 : Nat) : Int)) = True := eq_true (by omega)
    -- what goes on when the part is good
    have step : nextOk n.kind pn.name qs = true → ∃ m', m' < qs.length + 1 ∧ ∃ (i_1 c' : Nat) (rest : List Vl), m' = rest.length ∧ rest.length ≤ ps.length ∧ parts rest.length (v.drop i_1) = some rest ∧ nxt v.length (v.drop i_1) rest.length = some c' ∧ risB n.kind rest = risB n.kind ps ∧
        (⟨tmA 75 [(0, encV v), (1, .int .i64 at'), (5, .int .i64 (i + c1 : Nat)), (6, .int .i64 ((ps.length : Int) - ((qs.length + 1 : Nat) : Int) + 1))], []⟩ : St) = ⟨tmA 75 [(0, encV v), (1, .int .i64 at'), (5, .int .i64 i_1), (6, .int .i64 ((ps.length : Int) - rest.length))], []⟩ := by
      intro hx
      refine ⟨qs.length, l1, i + c1, c2, qs, rfl, l2, h3', e2', ?_, ?_⟩
      · rw [← hrb, hun true hx]; simp
      · rw [e]
    have stop : nextOk n.kind pn.name qs = false → risB n.kind ps = false := fun hx => by rw [← hrb, hun false hx]; simp
    by_cases h6 : n.kind = 6
    · have h5' : ¬ n.kind = 5 := by omega
      rcases Nat.eq_zero_or_pos qs.length with hq0 | hqp
      · have hq : qs = [] := List.length_eq_zero_iff.1 hq0
        have hlast : ((ps.length : Int) - ((qs.length + 1 : Nat) : Int) + 1 < (ps.length : Int)) = False := eq_false (by omega)
        have hst := step (by rw [hq]; rfl)
        simp (maxSteps := 400000) only [↓preZ, postZ, coreZ, ↓preU, postU, D_all, F_all, unR, outL, onePV, binS, ↓binS, boundR, ↓boundR, fieldOf, ↓fieldOf, boxR, allocR, newObj, zeroElem, buildSliceR, appendR, setAll, storeR, St.freeze, makeSliceR, minmaxR, makeFuncR, BEq.rfl, reduceIte, reduceCtorEq, Nat.reduceLT, Nat.reduceAdd, Nat.reduceSub, Nat.reduceMul, Nat.reduceBEq, Nat.reduceLeDiff, Int.reduceToNat, Int.reduceLE, hQ, hat, hmn, z0, zi, hgi, ↓ctrUtf, ↓ctrNext, hnx, hu, hltT, h6, Int.reduceEq, hlt1, hlast]
        simp only [h6] at hst
        exact ⟨htx1.2, hiv, hl, hst⟩
      · obtain ⟨q, r, hqr⟩ : ∃ q r, qs = q :: r := by
          cases qs with
          | nil => simp at hqp
          | cons q r => exact ⟨q, r, rfl⟩
        have hmore : ((ps.length : Int) - ((qs.length + 1 : Nat) : Int) + 1 < (ps.length : Int)) = True := eq_true (by omega)
        have g0 := h3'
        rw [hqr] at g0
        obtain ⟨pc2, qs2, g1, g2, g3⟩ := parts_step (k := r.length) g0
        simp only [List.cons.injEq] at g2
        have hpc2 := skip_le _ _ _ g1
        simp only [List.length_drop] at hpc2
        have hil2 : i + c1 < v.length := by omega
        have hgi2 := List.getElem?_eq_getElem hil2
        have hdi2 := List.drop_eq_getElem_cons hil2
        generalize v[i + c1] = qn at hgi2 hdi2
        have hname2 : nameOf q = qn.name := by
          obtain ⟨w, hw⟩ : ∃ w, pc2 = w + 1 := ⟨pc2 - 1, by omega⟩
          rw [g2.1, hdi2, hw]; rfl
        have hno : nextOk n.kind pn.name qs = Op.bytesLess pn.name qn.name := by
          rw [hqr, nextOk, hname2]; simp [h6]
        clear g0 g1 g2 g3 hqr hname2 hdi2 hdi
        cases hbl : Op.bytesLess pn.name qn.name
        · have hfin := stop (by rw [hno, hbl])
          simp (maxSteps := 400000) only [↓preZ, postZ, coreZ, ↓preU, postU, D_all, F_all, unR, outL, onePV, binS, ↓binS, boundR, ↓boundR, fieldOf, ↓fieldOf, boxR, allocR, newObj, zeroElem, buildSliceR, appendR, setAll, storeR, St.freeze, makeSliceR, minmaxR, makeFuncR, BEq.rfl, reduceIte, reduceCtorEq, Nat.reduceLT, Nat.reduceAdd, Nat.reduceSub, Nat.reduceMul, Nat.reduceBEq, Nat.reduceLeDiff, Int.reduceToNat, Int.reduceLE, hQ, hat, hmn, z0, zi, hgi, ↓ctrUtf, ↓ctrNext, hnx, hu, hltT, h6, Int.reduceEq, hlt1, hmore, zc, ht1, hgi2, hbl]
          rw [h6] at hfin
          exact ⟨htx1.2, hiv, hl, hfin⟩
        · have hst := step (by rw [hno, hbl])
          simp (maxSteps := 400000) only [↓preZ, postZ, coreZ, ↓preU, postU, D_all, F_all, unR, outL, onePV, binS, ↓binS, boundR, ↓boundR, fieldOf, ↓fieldOf, boxR, allocR, newObj, zeroElem, buildSliceR, appendR, setAll, storeR, St.freeze, makeSliceR, minmaxR, makeFuncR, BEq.rfl, reduceIte, reduceCtorEq, Nat.reduceLT, Nat.reduceAdd, Nat.reduceSub, Nat.reduceMul, Nat.reduceBEq, Nat.reduceLeDiff, Int.reduceToNat, Int.reduceLE, hQ, hat, hmn, z0, zi, hgi, ↓ctrUtf, ↓ctrNext, hnx, hu, hltT, h6, Int.reduceEq, hlt1, hmore, zc, ht1, hgi2, hbl]
          simp only [h6] at hst
          exact ⟨htx1.2, hiv, hl, hst⟩
    · have hst := step (by cases qs <;> simp [nextOk, h6])
      simp (maxSteps := 400000) only [↓preZ, postZ, coreZ, ↓preU, postU, D_all, F_all, unR, outL, onePV, binS, ↓binS, boundR, ↓boundR, fieldOf, ↓fieldOf, boxR, allocR, newObj, zeroElem, buildSliceR, appendR, setAll, storeR, St.freeze, makeSliceR, minmaxR, makeFuncR, BEq.rfl, reduceIte, reduceCtorEq, Nat.reduceLT, Nat.reduceAdd, Nat.reduceSub, Nat.reduceMul, Nat.reduceBEq, Nat.reduceLeDiff, Int.reduceToNat, Int.reduceLE, hQ, hat, hmn, z0, zi, hgi, ↓ctrUtf, ↓ctrNext, hnx, hu, hltT, h6, hlt1]
      exact ⟨fun h5' => ⟨fun _ => ⟨htx1.2, hiv, hl, hst⟩, fun hne => absurd (good h5') hne⟩, fun _ => ⟨htx1.2, hiv, hl, hst⟩⟩
end Lp

/-! LpW19 -/

namespace Lp
open Go Go.Proofs

set_option maxHeartbeats 4000000
set_option maxRecDepth 20000
set_option linter.unusedSimpArgs false

theorem nxt_at (L : Nat) : ∀ (v : Vl) (k c i : Nat), nxt L v k = some c → i < c → ∃ k' c', nxt L (v.drop i) (k' + 1) = some c'
  | v, 0, c, i, h, hi => by rw [nxt_zero] at h; cases h; omega
  | [], k + 1, c, i, h, hi => by simp [nxt] at h
  | n :: v, k + 1, c, 0, h, hi => ⟨k, c, by simpa using h⟩
  | n :: v, k + 1, c, i + 1, h, hi => by
    rw [nxt] at h
    split at h
    · cases h
    · cases hs : nxt L v (k + n.many.toNat) with
      | none => rw [hs] at h; simp at h
      | some c' =>
        rw [hs] at h
        simp only [Option.map_some, Option.some.injEq] at h
        simpa using nxt_at L v _ c' i hs (by omega)

/-- What is asked of the names of a node's parts. -/
def goodAt (v : Vl) (i : Nat) : Bool := match v.drop i with
  | n :: r => (match parts n.many.toNat r with | some ps => risB n.kind ps | none => false)
  | [] => true

theorem goodB_drop {v : Vl} {i : Nat} {n : Nd} (hi : v[i]? = some n) : goodB (v.drop i) = (plainB n && goodAt v i && goodB (v.drop (i + 1))) := by
  have hl := (List.getElem?_eq_some_iff.1 hi).1
  have hd := List.drop_eq_getElem_cons hl
  rw [List.getElem?_eq_getElem hl] at hi
  cases hi
  simp only [goodAt, hd, goodB]
  rfl

theorem riseAt_spec (v : Vl) (i : Int) (h0 : 0 ≤ i) (hi : i.toNat < v.length) (hs : Small v) (hn : nxt v.length v 1 = some v.length) :
    FnSpec Tryd.prog f_louperef02_rising [encV v, .int .i64 i] [] (.bool (goodAt v i.toNat)) [] := by
  obtain ⟨i, rfl⟩ : ∃ k : Nat, i = k := ⟨i.toNat, by omega⟩
  simp only [Int.toNat_natCast] at hi ⊢
  have hg := List.getElem?_eq_getElem hi
  have hd := List.drop_eq_getElem_cons hi
  generalize v[i] = n at hg hd
  obtain ⟨k', c', h'⟩ := nxt_at v.length v 1 _ i hn hi
  rw [Nat.add_comm] at h'
  obtain ⟨c1, _, h1, _, _⟩ := nxt_split v.length _ 1 k' c' h'
  rw [hd, nxt] at h1
  split at h1
  · cases h1
  · rename_i hm
    cases hx : nxt v.length (v.drop (i + 1)) (0 + n.many.toNat) with
    | none => rw [hx] at h1; simp at h1
    | some c =>
      rw [Nat.zero_add] at hx
      obtain ⟨ps, hp, _, _⟩ := parts_of_skip _ _ _ (nxt_skip _ _ _ _ hx)
      have := rising_spec v i n c hs hg (by omega) hx ps hp
      simp only [goodAt, hd, hp]
      exact this

def ctrRising : Ctr := fun args objs K => match args with
  | [a0, .int .i64 i] => ofE encV a0 (HK.mk : HK fun v => (0 ≤ i) ∧ (i.toNat < v.length) ∧ (Small v) ∧ (nxt v.length v 1 = some v.length) ∧ K (.bool (goodAt v i.toNat)) objs 0)
  | _ => False
theorem ctrRising_ok : CtrOk Tryd.prog f_louperef02_rising (ctrRising) := by
  intro args objs K h
  unfold ctrRising at h
  split at h
  · rename_i a0 i
    obtain ⟨v, rfl, h1, h2, h3, h4, hk⟩ := h
    exact ⟨_, _, _, .pure _ rfl (riseAt_spec v i h1 h2 h3 h4), hk⟩
  · exact h.elim

theorem right_spec (v : Vl) (hs : Small v) : FnSpec Tryd.prog f_louperef02_Right [encV v] [] (.bool (rightB v)) [] := by
  have hl := hs.len
  refine k_louperef02_Right.pureG (T := tabL Tryd.prog [(f_louperef02_Next, ctrNext), (f_louperef02_plain, ctrPlain), (f_louperef02_rising, ctrRising)]) 0 hD (kOk_tabL (tabOk_cons ctrNext_ok (tabOk_cons ctrPlain_ok (tabOk_cons ctrRising_ok tabOk_nil)))) hmix (by decide) fun Q hQ => ?_
  try simp only [F_all]
  rcases Nat.eq_zero_or_pos v.length with hv | hv
  · have hr : rightB v = false := by
      have : v = [] := List.length_eq_zero_iff.1 hv
      rw [this]; rfl
    have hv' : ((v.length : Int) = 0) = True := eq_true (by omega)
    simp (maxSteps := 400000) only [↓preZ, postZ, coreZ, ↓preU, postU, D_all, F_all, unR, outL, onePV, binS, ↓binS, boundR, ↓boundR, fieldOf, ↓fieldOf, boxR, allocR, newObj, zeroElem, buildSliceR, appendR, setAll, storeR, St.freeze, makeSliceR, minmaxR, makeFuncR, BEq.rfl, reduceIte, reduceCtorEq, Nat.reduceLT, Nat.reduceAdd, Nat.reduceSub, Nat.reduceMul, Nat.reduceBEq, Nat.reduceLeDiff, Int.reduceToNat, Int.reduceLE, hQ, c_louperef02_Right, hr, hv']
  have hv' : ((v.length : Int) = 0) = False := eq_false (by omega)
  obtain ⟨n0, r0, hvr⟩ : ∃ n r, v = n :: r := by
    cases v with
    | nil => simp at hv
    | cons n r => exact ⟨n, r, rfl⟩
  have hg0 : v[0]? = some n0 := by rw [hvr]; rfl
  have hnm : nameOf v = n0.name := by rw [hvr]; rfl
  have hne : v.isEmpty = false := by rw [hvr]; rfl
  by_cases hname : n0.name = []
  rotate_left 1
  · have hr : rightB v = false := by simp [rightB, hnm, hname]
    simp (maxSteps := 400000) only [↓preZ, postZ, coreZ, ↓preU, postU, D_all, F_all, unR, outL, onePV, binS, ↓binS, boundR, ↓boundR, fieldOf, ↓fieldOf, boxR, allocR, newObj, zeroElem, buildSliceR, appendR, setAll, storeR, St.freeze, makeSliceR, minmaxR, makeFuncR, BEq.rfl, reduceIte, reduceCtorEq, Nat.reduceLT, Nat.reduceAdd, Nat.reduceSub, Nat.reduceMul, Nat.reduceBEq, Nat.reduceLeDiff, Int.reduceToNat, Int.reduceLE, hQ, c_louperef02_Right, hr, hv', hg0, hname]
  have hz : Int.toNat 0 = 0 := rfl
  by_cases hnx : nextI v 0 = (v.length : Int)
  rotate_left 1
  · have hr : rightB v = false := by
      have : nxt v.length v 1 ≠ some v.length := fun h => hnx (by rw [nextI_of (i := 0) (by simpa using h)]; simp)
      simp [rightB, this]
    simp (maxSteps := 400000) only [↓preZ, postZ, coreZ, ↓preU, postU, D_all, F_all, unR, outL, onePV, binS, ↓binS, boundR, ↓boundR, fieldOf, ↓fieldOf, boxR, allocR, newObj, zeroElem, buildSliceR, appendR, setAll, storeR, St.freeze, makeSliceR, minmaxR, makeFuncR, BEq.rfl, reduceIte, reduceCtorEq, Nat.reduceLT, Nat.reduceAdd, Nat.reduceSub, Nat.reduceMul, Nat.reduceBEq, Nat.reduceLeDiff, Int.reduceToNat, Int.reduceLE, hQ, c_louperef02_Right, hr, hv', hg0, hname, ↓ctrNext, hnx]
    exact ⟨by omega, hl⟩
  have hn : nxt v.length v 1 = some v.length := by
    unfold nextI at hnx
    rw [List.drop_zero] at hnx
    cases hx : nxt v.length v 1 with
    | none => rw [hx] at hnx; simp only at hnx; omega
    | some c => rw [hx] at hnx; simp only at hnx; congr 1; omega
  have hr : rightB v = goodB v := by simp [rightB, hnm, hname, hn, hne]
  simp (maxSteps := 400000) only [↓preZ, postZ, coreZ, ↓preU, postU, D_all, F_all, unR, outL, onePV, binS, ↓binS, boundR, ↓boundR, fieldOf, ↓fieldOf, boxR, allocR, newObj, zeroElem, buildSliceR, appendR, setAll, storeR, St.freeze, makeSliceR, minmaxR, makeFuncR, BEq.rfl, reduceIte, reduceCtorEq, Nat.reduceLT, Nat.reduceAdd, Nat.reduceSub, Nat.reduceMul, Nat.reduceBEq, Nat.reduceLeDiff, Int.reduceToNat, Int.reduceLE, hQ, c_louperef02_Right, hv', hg0, hname, ↓ctrNext, hnx]
  refine ⟨by omega, hl, ?_⟩
  refine wpc_loop (fun m S => ∃ i : Nat, i + m = v.length ∧ goodB (v.drop i) = goodB v ∧ S = ⟨tmA 39 [(0, encV v), (3, .int .i64 i)], []⟩) v.length ⟨0, by omega, rfl, ?_⟩ ?_
  · simp only [normR, keepR, Nat.reduceAdd, lkR, Nat.reduceBEq, F_all, List.map_nil]
    rfl
  rintro m S ⟨i, him, hgd, rfl⟩
  rcases Nat.lt_or_ge i v.length with h | h
  · have hg := List.getElem?_eq_getElem h
    have htx := hs.txt _ (List.getElem_mem h)
    generalize v[i] = n at hg htx
    have hd := goodB_drop hg
    rw [hgd] at hd
    have zi : (0 ≤ (i : Int)) = True := eq_true (by omega)
    have hlt : ((i : Int) < (v.length : Int)) = True := eq_true (by omega)
    cases hp : plainB n
    · have hr2 : rightB v = false := by rw [hr, hd, hp]; rfl
      simp (maxSteps := 400000) only [↓preZ, postZ, coreZ, ↓preU, postU, D_all, F_all, unR, outL, onePV, binS, ↓binS, boundR, ↓boundR, fieldOf, ↓fieldOf, boxR, allocR, newObj, zeroElem, buildSliceR, appendR, setAll, storeR, St.freeze, makeSliceR, minmaxR, makeFuncR, BEq.rfl, reduceIte, reduceCtorEq, Nat.reduceLT, Nat.reduceAdd, Nat.reduceSub, Nat.reduceMul, Nat.reduceBEq, Nat.reduceLeDiff, Int.reduceToNat, Int.reduceLE, hQ, hg, ↓ctrPlain, ↓ctrRising, hp, zi, hlt, hr2]
      exact htx.1
    cases hq : goodAt v i
    · have hr2 : rightB v = false := by rw [hr, hd, hp, hq]; rfl
      simp (maxSteps := 400000) only [↓preZ, postZ, coreZ, ↓preU, postU, D_all, F_all, unR, outL, onePV, binS, ↓binS, boundR, ↓boundR, fieldOf, ↓fieldOf, boxR, allocR, newObj, zeroElem, buildSliceR, appendR, setAll, storeR, St.freeze, makeSliceR, minmaxR, makeFuncR, BEq.rfl, reduceIte, reduceCtorEq, Nat.reduceLT, Nat.reduceAdd, Nat.reduceSub, Nat.reduceMul, Nat.reduceBEq, Nat.reduceLeDiff, Int.reduceToNat, Int.reduceLE, hQ, hg, ↓ctrPlain, ↓ctrRising, hp, hq, zi, hlt, hr2]
      exact ⟨htx.1, h, hs, hn⟩
    · simp (maxSteps := 400000) only [↓preZ, postZ, coreZ, ↓preU, postU, D_all, F_all, unR, outL, onePV, binS, ↓binS, boundR, ↓boundR, fieldOf, ↓fieldOf, boxR, allocR, newObj, zeroElem, buildSliceR, appendR, setAll, storeR, St.freeze, makeSliceR, minmaxR, makeFuncR, BEq.rfl, reduceIte, reduceCtorEq, Nat.reduceLT, Nat.reduceAdd, Nat.reduceSub, Nat.reduceMul, Nat.reduceBEq, Nat.reduceLeDiff, Int.reduceToNat, Int.reduceLE, hQ, hg, ↓ctrPlain, ↓ctrRising, hp, hq, zi, hlt]
      refine ⟨htx.1, h, hs, hn, ⟨by omega, by omega⟩, m - 1, by omega, i + 1, by omega, ?_, by simp⟩
      rw [hd, hp, hq]; simp
  · have hlt : ((i : Int) < (v.length : Int)) = False := eq_false (by omega)
    simp (maxSteps := 400000) only [↓preZ, postZ, coreZ, ↓preU, postU, D_all, F_all, unR, outL, onePV, binS, ↓binS, boundR, ↓boundR, fieldOf, ↓fieldOf, boxR, allocR, newObj, zeroElem, buildSliceR, appendR, setAll, storeR, St.freeze, makeSliceR, minmaxR, makeFuncR, BEq.rfl, reduceIte, reduceCtorEq, Nat.reduceLT, Nat.reduceAdd, Nat.reduceSub, Nat.reduceMul, Nat.reduceBEq, Nat.reduceLeDiff, Int.reduceToNat, Int.reduceLE, hQ, hlt]
    rw [hr, ← hgd, List.drop_eq_nil_of_le h]; rfl

def ctrRight : Ctr := fun args objs K => match args with
  | [a0] => ofE encV a0 (HK.mk : HK fun v => (Small v) ∧ K (.bool (rightB v)) objs 0)
  | _ => False
theorem ctrRight_ok : CtrOk Tryd.prog f_louperef02_Right (ctrRight) := by
  intro args objs K h
  unfold ctrRight at h
  split at h
  · rename_i a0
    obtain ⟨v, rfl, h1, hk⟩ := h
    exact ⟨_, _, _, .pure _ rfl (right_spec v h1), hk⟩
  · exact h.elim

def shortN (n : Nd) : Bool := decide (n.s.length ≤ 200) && decide (n.name.length ≤ 200)

theorem few_spec (v : Vl) (k : Nat) (hk : k ≤ 1000000) (hs : v.length ≤ 4611686018427387904) (htx : ∀ n ∈ v, n.s.length ≤ 4611686018427387904 ∧ n.name.length ≤ 4611686018427387904) : FnSpec Tryd.prog f_louperef02_Few [encV v, .int .i64 k] [] (.bool (fewB v k)) [] := by
  refine k_louperef02_Few.pureG (T := tabL Tryd.prog [(f_louperef02_Right, ctrRight)]) 0 hD (kOk_tabL (tabOk_cons ctrRight_ok tabOk_nil)) hmix (by decide) fun Q hQ => ?_
  try simp only [F_all]
  rcases Nat.lt_or_ge k v.length with hlen | hlen
  · have hr : fewB v k = false := by
      have : decide (v.length ≤ k) = false := by simp; omega
      simp [fewB, this]
    have hlt : ((k : Int) < (v.length : Int)) = True := eq_true (by omega)
    simp (maxSteps := 400000) only [↓preZ, postZ, coreZ, ↓preU, postU, D_all, F_all, unR, outL, onePV, binS, ↓binS, boundR, ↓boundR, fieldOf, ↓fieldOf, boxR, allocR, newObj, zeroElem, buildSliceR, appendR, setAll, storeR, St.freeze, makeSliceR, minmaxR, makeFuncR, BEq.rfl, reduceIte, reduceCtorEq, Nat.reduceLT, Nat.reduceAdd, Nat.reduceSub, Nat.reduceMul, Nat.reduceBEq, Nat.reduceLeDiff, Int.reduceToNat, Int.reduceLE, hQ, c_louperef02_Few, hr, hlt]
  have hlt : ((k : Int) < (v.length : Int)) = False := eq_false (by omega)
  have hr : fewB v k = (v.all shortN && rightB v) := by
    have : decide (v.length ≤ k) = true := by simpa using hlen
    simp only [fewB, this, Bool.true_and]
    rfl
  have hsm : Small v := ⟨by omega, htx⟩
  simp (maxSteps := 400000) only [↓preZ, postZ, coreZ, ↓preU, postU, D_all, F_all, unR, outL, onePV, binS, ↓binS, boundR, ↓boundR, fieldOf, ↓fieldOf, boxR, allocR, newObj, zeroElem, buildSliceR, appendR, setAll, storeR, St.freeze, makeSliceR, minmaxR, makeFuncR, BEq.rfl, reduceIte, reduceCtorEq, Nat.reduceLT, Nat.reduceAdd, Nat.reduceSub, Nat.reduceMul, Nat.reduceBEq, Nat.reduceLeDiff, Int.reduceToNat, Int.reduceLE, hQ, c_louperef02_Few, hlt]
  refine wpc_loop (fun m S => ∃ i : Nat, i + m = v.length ∧ (v.drop i).all shortN = v.all shortN ∧ S = ⟨tmA 34 [(0, encV v), (5, .int .i64 i)], []⟩) v.length ⟨0, by omega, rfl, ?_⟩ ?_
  · simp only [normR, keepR, Nat.reduceAdd, lkR, Nat.reduceBEq, F_all, List.map_nil]
    rfl
  rintro m S ⟨i, him, hal, rfl⟩
  rcases Nat.lt_or_ge i v.length with h | h
  · have hg := List.getElem?_eq_getElem h
    have hd := List.drop_eq_getElem_cons h
    generalize v[i] = n at hg hd
    have zi : (0 ≤ (i : Int)) = True := eq_true (by omega)
    have hlt : ((i : Int) < (v.length : Int)) = True := eq_true (by omega)
    rw [hd, List.all_cons] at hal
    by_cases h1 : n.s.length ≤ 200
    rotate_left 1
    · have e1 : ((200 : Int) < (n.s.length : Int)) = True := eq_true (by omega)
      have hr2 : fewB v k = false := by rw [hr, ← hal]; simp [shortN, h1]
      simp (maxSteps := 400000) only [↓preZ, postZ, coreZ, ↓preU, postU, D_all, F_all, unR, outL, onePV, binS, ↓binS, boundR, ↓boundR, fieldOf, ↓fieldOf, boxR, allocR, newObj, zeroElem, buildSliceR, appendR, setAll, storeR, St.freeze, makeSliceR, minmaxR, makeFuncR, BEq.rfl, reduceIte, reduceCtorEq, Nat.reduceLT, Nat.reduceAdd, Nat.reduceSub, Nat.reduceMul, Nat.reduceBEq, Nat.reduceLeDiff, Int.reduceToNat, Int.reduceLE, hQ, hg, zi, hlt, e1, hr2]
    have e1 : ((200 : Int) < (n.s.length : Int)) = False := eq_false (by omega)
    by_cases h2 : n.name.length ≤ 200
    rotate_left 1
    · have e2 : ((200 : Int) < (n.name.length : Int)) = True := eq_true (by omega)
      have hr2 : fewB v k = false := by rw [hr, ← hal]; simp [shortN, h2]
      simp (maxSteps := 400000) only [↓preZ, postZ, coreZ, ↓preU, postU, D_all, F_all, unR, outL, onePV, binS, ↓binS, boundR, ↓boundR, fieldOf, ↓fieldOf, boxR, allocR, newObj, zeroElem, buildSliceR, appendR, setAll, storeR, St.freeze, makeSliceR, minmaxR, makeFuncR, BEq.rfl, reduceIte, reduceCtorEq, Nat.reduceLT, Nat.reduceAdd, Nat.reduceSub, Nat.reduceMul, Nat.reduceBEq, Nat.reduceLeDiff, Int.reduceToNat, Int.reduceLE, hQ, hg, zi, hlt, e1, e2, hr2]
    have e2 : ((200 : Int) < (n.name.length : Int)) = False := eq_false (by omega)
    simp (maxSteps := 400000) only [↓preZ, postZ, coreZ, ↓preU, postU, D_all, F_all, unR, outL, onePV, binS, ↓binS, boundR, ↓boundR, fieldOf, ↓fieldOf, boxR, allocR, newObj, zeroElem, buildSliceR, appendR, setAll, storeR, St.freeze, makeSliceR, minmaxR, makeFuncR, BEq.rfl, reduceIte, reduceCtorEq, Nat.reduceLT, Nat.reduceAdd, Nat.reduceSub, Nat.reduceMul, Nat.reduceBEq, Nat.reduceLeDiff, Int.reduceToNat, Int.reduceLE, hQ, hg, zi, hlt, e1, e2]
    refine ⟨⟨by omega, by omega⟩, m - 1, by omega, i + 1, by omega, ?_, by simp⟩
    rw [← hal]; simp [shortN, h1, h2]
  · have hlt : ((i : Int) < (v.length : Int)) = False := eq_false (by omega)
    have hr2 : fewB v k = rightB v := by
      rw [hr, ← hal, List.drop_eq_nil_of_le h]; rfl
    simp (maxSteps := 400000) only [↓preZ, postZ, coreZ, ↓preU, postU, D_all, F_all, unR, outL, onePV, binS, ↓binS, boundR, ↓boundR, fieldOf, ↓fieldOf, boxR, allocR, newObj, zeroElem, buildSliceR, appendR, setAll, storeR, St.freeze, makeSliceR, minmaxR, makeFuncR, BEq.rfl, reduceIte, reduceCtorEq, Nat.reduceLT, Nat.reduceAdd, Nat.reduceSub, Nat.reduceMul, Nat.reduceBEq, Nat.reduceLeDiff, Int.reduceToNat, Int.reduceLE, hQ, hlt, ↓ctrRight, hr2]
    exact hsm

theorem few_spec' (v : Vl) (k : Int) (hk : 0 ≤ k ∧ k ≤ 1000000) (hs : v.length ≤ 4611686018427387904) (htx : ∀ n ∈ v, n.s.length ≤ 4611686018427387904 ∧ n.name.length ≤ 4611686018427387904) : FnSpec Tryd.prog f_louperef02_Few [encV v, .int .i64 k] [] (.bool (fewB v k.toNat)) [] := by
  have e : k = (k.toNat : Int) := by omega
  rw [e]
  exact few_spec v k.toNat (by omega) hs htx

def ctrFew : Ctr := fun args objs K => match args with
  | [a0, .int .i64 k] => ofE encV a0 (HK.mk : HK fun v => (0 ≤ k ∧ k ≤ 1000000) ∧ (v.length ≤ 4611686018427387904) ∧ (∀ n ∈ v, n.s.length ≤ 4611686018427387904 ∧ n.name.length ≤ 4611686018427387904) ∧ K (.bool (fewB v k.toNat)) objs 0)
  | _ => False
theorem ctrFew_ok : CtrOk Tryd.prog f_louperef02_Few (ctrFew) := by
  intro args objs K h
  unfold ctrFew at h
  split at h
  · rename_i a0 k
    obtain ⟨v, rfl, h1, h2, h3, hk⟩ := h
    exact ⟨_, _, _, .pure _ rfl (few_spec' v k h1 h2 h3), hk⟩
  · exact h.elim

theorem allN_cons (x : Vl) (l : List Vl) : allN (x :: l) = x.length + 1 + allN l := rfl

theorem allN_len : ∀ l : List Vl, l.length ≤ allN l
  | [] => Nat.le_refl _
  | x :: l => by have := allN_len l; simp only [List.length_cons, allN]; omega

theorem all_spec (l : List Vl) (k : Nat) (hk : k ≤ 1000000) (hs : l.length ≤ 1152921504606846976) (htx : ∀ v ∈ l, v.length ≤ 1152921504606846976 ∧ ∀ n ∈ v, n.s.length ≤ 4611686018427387904 ∧ n.name.length ≤ 4611686018427387904) : FnSpec Tryd.prog f_louperef02_All [encL l, .int .i64 k] [] (.bool (allB l k)) [] := by
  refine k_louperef02_All.pureG (T := tabL Tryd.prog [(f_louperef02_Few, ctrFew)]) 0 hD (kOk_tabL (tabOk_cons ctrFew_ok tabOk_nil)) hmix (by decide) fun Q hQ => ?_
  try simp only [F_all]
  simp (maxSteps := 400000) only [↓preZ, postZ, coreZ, ↓preU, postU, D_all, F_all, unR, outL, onePV, binS, ↓binS, boundR, ↓boundR, fieldOf, ↓fieldOf, boxR, allocR, newObj, zeroElem, buildSliceR, appendR, setAll, storeR, St.freeze, makeSliceR, minmaxR, makeFuncR, BEq.rfl, reduceIte, reduceCtorEq, Nat.reduceLT, Nat.reduceAdd, Nat.reduceSub, Nat.reduceMul, Nat.reduceBEq, Nat.reduceLeDiff, Int.reduceToNat, Int.reduceLE, hQ, c_louperef02_All]
  refine wpc_loop (fun m S => ∃ (i s : Nat), i + m = l.length ∧ s + ((l.drop i).map List.length).sum = l.length + (l.map List.length).sum ∧ (i = 0 ∨ s ≤ k) ∧ s ≤ l.length + k ∧ (l.take i).all (fewB · k) = true ∧
    S = ⟨tmA 37 [(0, encL l), (1, .int .i64 k), (5, .int .i64 s), (6, .int .i64 i)], []⟩) l.length ⟨0, l.length, by omega, rfl, .inl rfl, by omega, by simp, ?_⟩ ?_
  · simp only [normR, keepR, Nat.reduceAdd, lkR, Nat.reduceBEq, F_all, List.map_nil]
    rfl
  rintro m S ⟨i, s, him, hsum, hsk, hsk2, hal, rfl⟩
  have hallN : ∀ q : List Vl, allN q = q.length + (q.map List.length).sum := by
    intro q
    induction q with
    | nil => rfl
    | cons x q ih => simp only [allN, ih, List.length_cons, List.map_cons, List.sum_cons]; omega
  have hN : allN l = s + ((l.drop i).map List.length).sum := by rw [hallN]; omega
  rcases Nat.lt_or_ge i l.length with h | h
  · have hg := List.getElem?_eq_getElem h
    have hd := List.drop_eq_getElem_cons h
    have hx := htx _ (List.getElem_mem h)
    have htk : l.take (i + 1) = l.take i ++ [l[i]] := by rw [List.take_add_one, hg]; rfl
    have hmem : l[i] ∈ l := List.getElem_mem h
    generalize l[i] = x at hg hd hx htk hmem
    have zi : (0 ≤ (i : Int)) = True := eq_true (by omega)
    have hlt : ((i : Int) < (l.length : Int)) = True := eq_true (by omega)
    rw [hd, List.map_cons, List.sum_cons] at hsum hN
    by_cases h1 : s + x.length ≤ k
    rotate_left 1
    · have e1 : ((k : Int) < (s : Int) + (x.length : Int)) = True := eq_true (by omega)
      have hr2 : allB l k = false := by
        have : decide (allN l ≤ k) = false := by simp; omega
        simp [allB, this]
      simp (maxSteps := 400000) only [↓preZ, postZ, coreZ, ↓preU, postU, D_all, F_all, unR, outL, onePV, binS, ↓binS, boundR, ↓boundR, fieldOf, ↓fieldOf, boxR, allocR, newObj, zeroElem, buildSliceR, appendR, setAll, storeR, St.freeze, makeSliceR, minmaxR, makeFuncR, BEq.rfl, reduceIte, reduceCtorEq, Nat.reduceLT, Nat.reduceAdd, Nat.reduceSub, Nat.reduceMul, Nat.reduceBEq, Nat.reduceLeDiff, Int.reduceToNat, Int.reduceLE, hQ, hg, zi, hlt, e1, hr2]
      exact ⟨by omega, by omega⟩
    have e1 : ((k : Int) < (s : Int) + (x.length : Int)) = False := eq_false (by omega)
    cases hf : fewB x k
    · have hr2 : allB l k = false := by
        have : l.all (fewB · k) = false := by
          rw [List.all_eq_false]
          exact ⟨x, hmem, by simp [hf]⟩
        simp [allB, this]
      simp (maxSteps := 400000) only [↓preZ, postZ, coreZ, ↓preU, postU, D_all, F_all, unR, outL, onePV, binS, ↓binS, boundR, ↓boundR, fieldOf, ↓fieldOf, boxR, allocR, newObj, zeroElem, buildSliceR, appendR, setAll, storeR, St.freeze, makeSliceR, minmaxR, makeFuncR, BEq.rfl, reduceIte, reduceCtorEq, Nat.reduceLT, Nat.reduceAdd, Nat.reduceSub, Nat.reduceMul, Nat.reduceBEq, Nat.reduceLeDiff, Int.reduceToNat, Int.reduceLE, hQ, hg, zi, hlt, e1, hr2, ↓ctrFew, hf]
      exact ⟨⟨by omega, by omega⟩, ⟨by omega, by omega⟩, by omega, hx.2⟩
    · simp (maxSteps := 400000) only [↓preZ, postZ, coreZ, ↓preU, postU, D_all, F_all, unR, outL, onePV, binS, ↓binS, boundR, ↓boundR, fieldOf, ↓fieldOf, boxR, allocR, newObj, zeroElem, buildSliceR, appendR, setAll, storeR, St.freeze, makeSliceR, minmaxR, makeFuncR, BEq.rfl, reduceIte, reduceCtorEq, Nat.reduceLT, Nat.reduceAdd, Nat.reduceSub, Nat.reduceMul, Nat.reduceBEq, Nat.reduceLeDiff, Int.reduceToNat, Int.reduceLE, hQ, hg, zi, hlt, e1, ↓ctrFew, hf]
      refine ⟨⟨by omega, by omega⟩, ⟨by omega, by omega⟩, by omega, hx.2, ⟨by omega, by omega⟩, m - 1, by omega, i + 1, s + x.length, by omega, by omega, .inr h1, by omega, ?_, by simp⟩
      rw [htk, List.all_append, hal]; simp [hf]
  · have hlt : ((i : Int) < (l.length : Int)) = False := eq_false (by omega)
    simp (maxSteps := 400000) only [↓preZ, postZ, coreZ, ↓preU, postU, D_all, F_all, unR, outL, onePV, binS, ↓binS, boundR, ↓boundR, fieldOf, ↓fieldOf, boxR, allocR, newObj, zeroElem, buildSliceR, appendR, setAll, storeR, St.freeze, makeSliceR, minmaxR, makeFuncR, BEq.rfl, reduceIte, reduceCtorEq, Nat.reduceLT, Nat.reduceAdd, Nat.reduceSub, Nat.reduceMul, Nat.reduceBEq, Nat.reduceLeDiff, Int.reduceToNat, Int.reduceLE, hQ, hlt]
    rw [List.drop_eq_nil_of_le h] at hN
    simp only [List.map_nil, List.sum_nil, Nat.add_zero] at hN
    rw [List.take_of_length_le h] at hal
    have : allB l k = decide (allN l ≤ k) := by simp [allB, hal]
    rw [this, hN]
    exact decide_eq_decide.2 (by omega)

end Lp

/-! LpW20 -/

namespace Lp
open Go Go.Proofs

set_option maxHeartbeats 4000000
set_option maxRecDepth 20000
set_option linter.unusedSimpArgs false

theorem nodeZ : PV.ofV (.agg ⟨[.int .i64 0, .int .i64 0, .string ⟨⟨[]⟩⟩, .string ⟨⟨[]⟩⟩, .bool false, .int .i64 0]⟩) = encN ⟨0, 0, [], [], false, 0⟩ := rfl
theorem nodeW (a : Nd) (k m : Int) (x y : List UInt8) (g : Bool) (e : Int) : (encN a).putCells 0 [.int .i64 k, .int .i64 m, .str x, .str y, .bool g, .int .i64 e] = encN ⟨k, m, x, y, g, e⟩ := rfl
theorem rowA2 (n : Nd) (r : Vl) : (∀ y, y ∈ encN n :: r.map encN → y.cells.length = 6 ∧ y.cells.all PV.storable = true) = True := by
  have := rowA (enc := encN) (sz := 6) (fun _ => rfl) (fun _ => rfl) (n :: r)
  rwa [List.map_cons] at this

theorem own_spec (v : Vl) (i j : Nat) (hij : i < j) (hj : j ≤ v.length) (hl : v.length ≤ 1000000) : FnSpec Tryd.prog f_louperef02_own [encV v, .int .i64 i, .int .i64 j] [] (encV (clr ((v.take j).drop i))) [] := by
  obtain ⟨n, r, hnr⟩ : ∃ n r, (v.take j).drop i = n :: r := by
    cases h : (v.take j).drop i with
    | nil => have := congrArg List.length h; simp at this; omega
    | cons n r => exact ⟨n, r, rfl⟩
  have hlen : ((v.take j).drop i).length ≤ 1000000 := by simp; omega
  rw [hnr] at hlen ⊢
  simp only [List.length_cons] at hlen
  have zi : (0 ≤ (i : Int)) = True := eq_true (by omega)
  have c1 : ((i : Int) ≤ (j : Int)) = True := eq_true (by omega)
  have c2 : ((j : Int) ≤ (v.length : Int)) = True := eq_true (by omega)
  refine k_louperef02_own.pureG (T := tabL Tryd.prog []) 1 hD (kOk_tabL tabOk_nil) hmix (by decide) fun Q hQ => ?_
  try simp only [F_all]
  simp (maxSteps := 400000) only [↓preZ, postZ, coreZ, ↓preU, postU, D_all, F_all, unR, outL, onePV, binS, ↓binS, boundR, ↓boundR, fieldOf, ↓fieldOf, boxR, allocR, newObj, zeroElem, buildSliceR, appendR, setAll, storeR, St.freeze, makeSliceR, minmaxR, makeFuncR, BEq.rfl, reduceIte, reduceCtorEq, Nat.reduceLT, Nat.reduceAdd, Nat.reduceSub, Nat.reduceMul, Nat.reduceBEq, Nat.reduceLeDiff, Int.reduceToNat, Int.reduceLE, hQ, c_louperef02_own, zi, c1, c2, hnr, nodeZ, nodeW, rowA2, List.set_cons_zero]
  exact ⟨by omega, by omega, by omega, by omega, ((frzRow hV inN).1 _ _ (clr (n :: r)) 2 _).symm⟩

theorem own_spec' (v : Vl) (i j : Int) (h : 0 ≤ i ∧ i < j ∧ j ≤ v.length) (hl : v.length ≤ 1000000) : FnSpec Tryd.prog f_louperef02_own [encV v, .int .i64 i, .int .i64 j] [] (encV (clr ((v.take j.toNat).drop i.toNat))) [] := by
  have e1 : i = (i.toNat : Int) := by omega
  have e2 : j = (j.toNat : Int) := by omega
  have := own_spec v i.toNat j.toNat (by omega) (by omega) hl
  rw [← e1, ← e2] at this
  exact this

def ctrOwn : Ctr := fun args objs K => match args with
  | [a0, .int .i64 i, .int .i64 j] => ofE encV a0 (HK.mk : HK fun v => (0 ≤ i ∧ i < j ∧ j ≤ v.length) ∧ (v.length ≤ 1000000) ∧ K (encV (clr ((v.take j.toNat).drop i.toNat))) objs 0)
  | _ => False
theorem ctrOwn_ok : CtrOk Tryd.prog f_louperef02_own (ctrOwn) := by
  intro args objs K h
  unfold ctrOwn at h
  split at h
  · rename_i a0 i j
    obtain ⟨v, rfl, h1, h2, hk⟩ := h
    exact ⟨_, _, _, .pure _ rfl (own_spec' v i j h1 h2), hk⟩
  · exact h.elim

theorem skip_nxt (L : Nat) : ∀ (v : Vl) (k c : Nat), skip v k = some c → c ≤ L → nxt L v k = some c
  | v, 0, c, h, _ => by cases v <;> simpa [nxt, skip] using h
  | [], k + 1, c, h, _ => by simp [skip] at h
  | n :: v, k + 1, c, h, hc => by
    obtain ⟨hm, c', rfl, h'⟩ := skip_step h
    have := skip_le _ _ _ h'
    rw [nxt, if_neg (by omega), skip_nxt L v _ c' h' (by omega)]; rfl

theorem refParts_spec (v : Vl) (ho : One v) (hl : v.length ≤ 1000000) : FnSpec Tryd.prog f_louperef02_Parts [encV v] [] (encL (partsV v)) [] := by
  obtain ⟨n, r, hv⟩ : ∃ n r, v = n :: r := by
    cases v with
    | nil => exact absurd rfl ho.ne
    | cons n r => exact ⟨n, r, rfl⟩
  have ho' := ho
  rw [hv] at ho'
  obtain ⟨hm, ps, hp, hfl, hps⟩ := ho'.parts
  have hpl := parts_len _ _ _ hp
  have hg0 : v[0]? = some n := by rw [hv]; rfl
  have hr : partsV v = ps.map clr := by rw [hv, partsV]; exact (partsOf_eq hp).1
  have hmn : n.many = (ps.length : Int) := by omega
  have hd1 : v.drop 1 = r := by rw [hv]; rfl
  have hple := parts_le _ _ _ hp
  have hrl : r.length + 1 = v.length := by rw [hv]; rfl
  rw [hr]
  refine k_louperef02_Parts.pureG (T := tabL Tryd.prog [(f_louperef02_Next, ctrNext), (f_louperef02_own, ctrOwn)]) 1 hD (kOk_tabL (tabOk_cons ctrNext_ok (tabOk_cons ctrOwn_ok tabOk_nil))) hmix (by decide) fun Q hQ => ?_
  try simp only [F_all]
  simp (maxSteps := 400000) only [↓preZ, postZ, coreZ, ↓preU, postU, D_all, F_all, unR, outL, onePV, binS, ↓binS, boundR, ↓boundR, fieldOf, ↓fieldOf, boxR, allocR, newObj, zeroElem, buildSliceR, appendR, setAll, storeR, St.freeze, makeSliceR, minmaxR, makeFuncR, BEq.rfl, reduceIte, reduceCtorEq, Nat.reduceLT, Nat.reduceAdd, Nat.reduceSub, Nat.reduceMul, Nat.reduceBEq, Nat.reduceLeDiff, Int.reduceToNat, Int.reduceLE, hQ, c_louperef02_Parts]
  refine wpc_loop (fun m S => ∃ (i ver : Nat) (done : List Vl) (rest : List Vl), m = rest.length ∧ done.length + rest.length = ps.length ∧ done ++ rest.map clr = ps.map clr ∧ parts rest.length (v.drop i) = some rest ∧
    S = ⟨tmA 28 [(0, encV v), (3, .osl 0 ver), (4, .int .i64 i), (5, .int .i64 done.length)], [⟨t_api_Val, 1, done.map encV, true, ver⟩]⟩) ps.length ⟨1, 1, [], ps, rfl, by simp, rfl, by rw [hd1, hpl]; exact hp, ?_⟩ ?_
  · simp only [normR, keepR, Nat.reduceAdd, lkR, Nat.reduceBEq, F_all, List.map_nil]
    rfl
  rintro m S ⟨i, ver, done, rest, rfl, hdl, hdr, hrp, rfl⟩
  cases rest with
  | nil =>
    simp only [List.length_nil, Nat.add_zero] at hdl
    have hlt : ((done.length : Int) < (ps.length : Int)) = False := eq_false (by omega)
    simp only [List.map_nil, List.append_nil] at hdr
    simp (maxSteps := 400000) only [↓preZ, postZ, coreZ, ↓preU, postU, D_all, F_all, unR, outL, onePV, binS, ↓binS, boundR, ↓boundR, fieldOf, ↓fieldOf, boxR, allocR, newObj, zeroElem, buildSliceR, appendR, setAll, storeR, St.freeze, makeSliceR, minmaxR, makeFuncR, BEq.rfl, reduceIte, reduceCtorEq, Nat.reduceLT, Nat.reduceAdd, Nat.reduceSub, Nat.reduceMul, Nat.reduceBEq, Nat.reduceLeDiff, Int.reduceToNat, Int.reduceLE, hQ, hg0, hmn, hlt]
    rw [hdr]
  | cons p qs =>
    obtain ⟨c, qs', h1, h2, h3⟩ := parts_step (k := qs.length) hrp
    simp only [List.cons.injEq] at h2
    obtain ⟨hp1, rfl⟩ := h2
    simp only [List.length_cons] at hdl
    have hlt : ((done.length : Int) < (ps.length : Int)) = True := eq_true (by omega)
    have hc := skip_le _ _ _ h1
    simp only [List.length_drop] at hc
    have hnx : nextI v i = (i + c : Nat) := nextI_of (skip_nxt _ _ _ _ h1 (by omega))
    have zi : (0 ≤ (i : Int)) = True := eq_true (by omega)
    simp (maxSteps := 400000) only [↓preZ, postZ, coreZ, ↓preU, postU, D_all, F_all, unR, outL, onePV, binS, ↓binS, boundR, ↓boundR, fieldOf, ↓fieldOf, boxR, allocR, newObj, zeroElem, buildSliceR, appendR, setAll, storeR, St.freeze, makeSliceR, minmaxR, makeFuncR, BEq.rfl, reduceIte, reduceCtorEq, Nat.reduceLT, Nat.reduceAdd, Nat.reduceSub, Nat.reduceMul, Nat.reduceBEq, Nat.reduceLeDiff, Int.reduceToNat, Int.reduceLE, hQ, hg0, hmn, hlt, ↓ctrNext, ↓ctrOwn, hnx, zi]
    have hpe : List.drop i (List.take (i + c) v) = p := by
      rw [List.drop_take, hp1, show i + c - i = c by omega]
    have happ : List.map encV done ++ [encV (clr p)] = List.map encV (done ++ [clr p]) := by simp
    rw [hpe, happ]
    refine ⟨by omega, hl, ⟨by omega, by omega⟩, hl, by omega, by omega, ⟨by omega, by omega⟩, qs.length, by omega, i + c, ver + 1, done ++ [clr p], qs, rfl, ?_, ?_, ?_, ?_⟩
    · simp only [List.length_append, List.length_cons, List.length_nil]; omega
    · rw [← hdr]; simp
    · rw [← List.drop_drop]; exact h3
    · simp only [List.length_append, List.length_cons, List.length_nil, Nat.zero_add, Int.natCast_add, Int.cast_ofNat_Int, Int.natCast_one]

def ctrRefParts : Ctr := fun args objs K => match args with
  | [a0] => ofE encV a0 (HK.mk : HK fun v => (One v) ∧ (v.length ≤ 1000000) ∧ K (encL (partsV v)) objs 0)
  | _ => False
theorem ctrRefParts_ok : CtrOk Tryd.prog f_louperef02_Parts (ctrRefParts) := by
  intro args objs K h
  unfold ctrRefParts at h
  split at h
  · rename_i a0
    obtain ⟨v, rfl, h1, h2, hk⟩ := h
    exact ⟨_, _, _, .pure _ rfl (refParts_spec v h1 h2), hk⟩
  · exact h.elim

theorem refNamesOf_spec (v : Vl) (ho : One v) (hl : v.length ≤ 1000000) : FnSpec Tryd.prog f_louperef02_Names [encV v] [] (encT (namesV v)) [] := by
  obtain ⟨n, r, hv⟩ : ∃ n r, v = n :: r := by
    cases v with
    | nil => exact absurd rfl ho.ne
    | cons n r => exact ⟨n, r, rfl⟩
  have ho' := ho
  rw [hv] at ho'
  obtain ⟨hm, ps, hp, hfl, hps⟩ := ho'.parts
  have hpl := parts_len _ _ _ hp
  have hg0 : v[0]? = some n := by rw [hv]; rfl
  have hr : namesV v = if n.kind = 6 then ps.map nameOf else [] := by rw [hv, namesV, (partsOf_eq hp).2]
  have hmn : n.many = (ps.length : Int) := by omega
  have hd1 : v.drop 1 = r := by rw [hv]; rfl
  have hple := parts_le _ _ _ hp
  have hrl : r.length + 1 = v.length := by rw [hv]; rfl
  refine k_louperef02_Names.pureG (T := tabL Tryd.prog [(f_louperef02_Next, ctrNext)]) 1 hD (kOk_tabL (tabOk_cons ctrNext_ok tabOk_nil)) hmix (by decide) fun Q hQ => ?_
  try simp only [F_all]
  simp (maxSteps := 400000) only [↓preZ, postZ, coreZ, ↓preU, postU, D_all, F_all, unR, outL, onePV, binS, ↓binS, boundR, ↓boundR, fieldOf, ↓fieldOf, boxR, allocR, newObj, zeroElem, buildSliceR, appendR, setAll, storeR, St.freeze, makeSliceR, minmaxR, makeFuncR, BEq.rfl, reduceIte, reduceCtorEq, Nat.reduceLT, Nat.reduceAdd, Nat.reduceSub, Nat.reduceMul, Nat.reduceBEq, Nat.reduceLeDiff, Int.reduceToNat, Int.reduceLE, hQ, c_louperef02_Names]
  refine wpc_loop (fun m S => ∃ (i ver : Nat) (done : List (List UInt8)) (rest : List Vl), m = rest.length ∧ (done = [] ∨ n.kind = 6) ∧ done.length + rest.length = ps.length ∧ done ++ rest.map nameOf = ps.map nameOf ∧ parts rest.length (v.drop i) = some rest ∧
    S = ⟨tmA 34 [(0, encV v), (3, .osl 0 ver), (4, .int .i64 i), (5, .int .i64 done.length)], [⟨t_string, 1, done.map .str, true, ver⟩]⟩) ps.length ⟨1, 1, [], ps, rfl, .inl rfl, by simp, rfl, by rw [hd1, hpl]; exact hp, ?_⟩ ?_
  · simp only [normR, keepR, Nat.reduceAdd, lkR, Nat.reduceBEq, F_all, List.map_nil]
    rfl
  rintro m S ⟨i, ver, done, rest, rfl, hdn, hdl, hdr, hrp, rfl⟩
  cases rest with
  | nil =>
    simp only [List.length_nil, Nat.add_zero] at hdl
    have hlt : ((done.length : Int) < (ps.length : Int)) = False := eq_false (by omega)
    simp only [List.map_nil, List.append_nil] at hdr
    simp (maxSteps := 400000) only [↓preZ, postZ, coreZ, ↓preU, postU, D_all, F_all, unR, outL, onePV, binS, ↓binS, boundR, ↓boundR, fieldOf, ↓fieldOf, boxR, allocR, newObj, zeroElem, buildSliceR, appendR, setAll, storeR, St.freeze, makeSliceR, minmaxR, makeFuncR, BEq.rfl, reduceIte, reduceCtorEq, Nat.reduceLT, Nat.reduceAdd, Nat.reduceSub, Nat.reduceMul, Nat.reduceBEq, Nat.reduceLeDiff, Int.reduceToNat, Int.reduceLE, hQ, hg0, hmn, hlt]
    rw [hr]
    split
    · rw [hdr]
    · rename_i h6
      rw [hdn.resolve_right h6]
  | cons p qs =>
    obtain ⟨c, qs', h1, h2, h3⟩ := parts_step (k := qs.length) hrp
    simp only [List.cons.injEq] at h2
    obtain ⟨hp1, rfl⟩ := h2
    simp only [List.length_cons] at hdl
    have hlt : ((done.length : Int) < (ps.length : Int)) = True := eq_true (by omega)
    have hc := skip_le _ _ _ h1
    simp only [List.length_drop] at hc
    have hnx : nextI v i = (i + c : Nat) := nextI_of (skip_nxt _ _ _ _ h1 (by omega))
    have zi : (0 ≤ (i : Int)) = True := eq_true (by omega)
    have hil : i < v.length := by omega
    have hgi := List.getElem?_eq_getElem hil
    have hdi := List.drop_eq_getElem_cons hil
    generalize v[i] = pn at hgi hdi
    have hname : nameOf p = pn.name := by
      obtain ⟨w, hw⟩ : ∃ w, c = w + 1 := ⟨c - 1, by omega⟩
      rw [hp1, hdi, hw]; rfl
    by_cases h6 : n.kind = 6
    rotate_left 1
    · simp (maxSteps := 400000) only [↓preZ, postZ, coreZ, ↓preU, postU, D_all, F_all, unR, outL, onePV, binS, ↓binS, boundR, ↓boundR, fieldOf, ↓fieldOf, boxR, allocR, newObj, zeroElem, buildSliceR, appendR, setAll, storeR, St.freeze, makeSliceR, minmaxR, makeFuncR, BEq.rfl, reduceIte, reduceCtorEq, Nat.reduceLT, Nat.reduceAdd, Nat.reduceSub, Nat.reduceMul, Nat.reduceBEq, Nat.reduceLeDiff, Int.reduceToNat, Int.reduceLE, hQ, hg0, hmn, hlt, h6]
      rw [hr, if_neg h6, hdn.resolve_right h6]
    simp (maxSteps := 400000) only [↓preZ, postZ, coreZ, ↓preU, postU, D_all, F_all, unR, outL, onePV, binS, ↓binS, boundR, ↓boundR, fieldOf, ↓fieldOf, boxR, allocR, newObj, zeroElem, buildSliceR, appendR, setAll, storeR, St.freeze, makeSliceR, minmaxR, makeFuncR, BEq.rfl, reduceIte, reduceCtorEq, Nat.reduceLT, Nat.reduceAdd, Nat.reduceSub, Nat.reduceMul, Nat.reduceBEq, Nat.reduceLeDiff, Int.reduceToNat, Int.reduceLE, hQ, hg0, hmn, hlt, h6, ↓ctrNext, hnx, zi, hgi]
    have happ : List.map PV.str done ++ [PV.str pn.name] = List.map PV.str (done ++ [pn.name]) := by simp
    rw [happ]
    refine ⟨by omega, by omega, by omega, hl, ⟨by omega, by omega⟩, qs.length, by omega, i + c, ver + 1, done ++ [pn.name], qs, rfl, ?_, ?_, ?_, ?_⟩
    · simp only [List.length_append, List.length_cons, List.length_nil]; omega
    · rw [← hdr, List.map_cons, hname]; simp
    · rw [← List.drop_drop]; exact h3
    · simp only [List.length_append, List.length_cons, List.length_nil, Nat.zero_add, Int.natCast_add, Int.cast_ofNat_Int, Int.natCast_one]

def ctrRefNamesOf : Ctr := fun args objs K => match args with
  | [a0] => ofE encV a0 (HK.mk : HK fun v => (One v) ∧ (v.length ≤ 1000000) ∧ K (encT (namesV v)) objs 0)
  | _ => False
theorem ctrRefNamesOf_ok : CtrOk Tryd.prog f_louperef02_Names (ctrRefNamesOf) := by
  intro args objs K h
  unfold ctrRefNamesOf at h
  split at h
  · rename_i a0
    obtain ⟨v, rfl, h1, h2, hk⟩ := h
    exact ⟨_, _, _, .pure _ rfl (refNamesOf_spec v h1 h2), hk⟩
  · exact h.elim
end Lp

/-! LpW23 -/

namespace Lp
open Go Go.Proofs

set_option maxHeartbeats 4000000
set_option maxRecDepth 20000
set_option linter.unusedSimpArgs false

theorem same_spec (a b : Vl) (ha : a.length ≤ 1000000) (hb : b.length ≤ 1000000) : FnSpec Tryd.prog f_louperef02_Same [encV a, encV b] [] (.bool (decide (a = b))) [] := by
  refine k_louperef02_Same.pureG (T := tabL Tryd.prog []) 0 hD (kOk_tabL tabOk_nil) hmix (by decide) fun Q hQ => ?_
  try simp only [F_all]
  by_cases hl : a.length = b.length
  rotate_left 1
  · have hl' : ((a.length : Int) = (b.length : Int)) = False := eq_false (by omega)
    have hr : decide (a = b) = false := decide_eq_false fun h => hl (by rw [h])
    simp (maxSteps := 400000) only [↓preZ, postZ, coreZ, ↓preU, postU, D_all, F_all, unR, outL, onePV, binS, ↓binS, boundR, ↓boundR, fieldOf, ↓fieldOf, boxR, allocR, newObj, zeroElem, buildSliceR, appendR, setAll, storeR, St.freeze, makeSliceR, minmaxR, makeFuncR, BEq.rfl, reduceIte, reduceCtorEq, Nat.reduceLT, Nat.reduceAdd, Nat.reduceSub, Nat.reduceMul, Nat.reduceBEq, Nat.reduceLeDiff, Int.reduceToNat, Int.reduceLE, hQ, c_louperef02_Same, hl', hr]
  have hl' : ((a.length : Int) = (b.length : Int)) = True := eq_true (by omega)
  simp (maxSteps := 400000) only [↓preZ, postZ, coreZ, ↓preU, postU, D_all, F_all, unR, outL, onePV, binS, ↓binS, boundR, ↓boundR, fieldOf, ↓fieldOf, boxR, allocR, newObj, zeroElem, buildSliceR, appendR, setAll, storeR, St.freeze, makeSliceR, minmaxR, makeFuncR, BEq.rfl, reduceIte, reduceCtorEq, Nat.reduceLT, Nat.reduceAdd, Nat.reduceSub, Nat.reduceMul, Nat.reduceBEq, Nat.reduceLeDiff, Int.reduceToNat, Int.reduceLE, hQ, c_louperef02_Same, hl']
  refine wpc_loop (fun m S => ∃ i : Nat, i + m = a.length ∧ (∀ j, j < i → a[j]? = b[j]?) ∧ S = ⟨tmA 26 [(0, encV a), (1, encV b), (5, .int .i64 i)], []⟩) a.length ⟨0, by omega, fun j h => absurd h (by omega), ?_⟩ ?_
  · simp only [normR, keepR, Nat.reduceAdd, lkR, Nat.reduceBEq, F_all, List.map_nil]
    rfl
  rintro m S ⟨i, him, hj, rfl⟩
  have zi : (0 ≤ (i : Int)) = True := eq_true (by omega)
  rcases Nat.lt_or_ge i a.length with h | h
  rotate_left 1
  · have hlt : ((i : Int) < (a.length : Int)) = False := eq_false (by omega)
    have hab : a = b := List.ext_getElem? fun j => by
      by_cases hji : j < i
      · exact hj j hji
      · rw [List.getElem?_eq_none (by omega), List.getElem?_eq_none (by omega)]
    have hr : decide (a = b) = true := decide_eq_true hab
    simp (maxSteps := 400000) only [↓preZ, postZ, coreZ, ↓preU, postU, D_all, F_all, unR, outL, onePV, binS, ↓binS, boundR, ↓boundR, fieldOf, ↓fieldOf, boxR, allocR, newObj, zeroElem, buildSliceR, appendR, setAll, storeR, St.freeze, makeSliceR, minmaxR, makeFuncR, BEq.rfl, reduceIte, reduceCtorEq, Nat.reduceLT, Nat.reduceAdd, Nat.reduceSub, Nat.reduceMul, Nat.reduceBEq, Nat.reduceLeDiff, Int.reduceToNat, Int.reduceLE, hQ, hlt, hr]
  have hlt : ((i : Int) < (a.length : Int)) = True := eq_true (by omega)
  have ga := List.getElem?_eq_getElem h
  have gb : b[i]? = some (b[i]'(by omega)) := List.getElem?_eq_getElem (by omega)
  generalize a[i] = x at ga
  generalize b[i]'(by omega) = y at gb
  by_cases hxy : x = y
  · have hxy' : (x = y) = True := eq_true hxy
    simp (maxSteps := 400000) only [↓preZ, postZ, coreZ, ↓preU, postU, D_all, F_all, unR, outL, onePV, binS, ↓binS, boundR, ↓boundR, fieldOf, ↓fieldOf, boxR, allocR, newObj, zeroElem, buildSliceR, appendR, setAll, storeR, St.freeze, makeSliceR, minmaxR, makeFuncR, BEq.rfl, reduceIte, reduceCtorEq, Nat.reduceLT, Nat.reduceAdd, Nat.reduceSub, Nat.reduceMul, Nat.reduceBEq, Nat.reduceLeDiff, Int.reduceToNat, Int.reduceLE, hQ, hlt, zi, ga, gb, hxy']
    refine ⟨⟨by omega, by omega⟩, m - 1, by omega, i + 1, by omega, ?_, by simp⟩
    intro j hji
    by_cases hjj : j = i
    · subst hjj; rw [ga, gb, hxy]
    · exact hj j (by omega)
  · have hxy' : (x = y) = False := eq_false hxy
    have hr : decide (a = b) = false := decide_eq_false fun h => hxy (by rw [h, gb] at ga; exact (Option.some.inj ga).symm)
    simp (maxSteps := 400000) only [↓preZ, postZ, coreZ, ↓preU, postU, D_all, F_all, unR, outL, onePV, binS, ↓binS, boundR, ↓boundR, fieldOf, ↓fieldOf, boxR, allocR, newObj, zeroElem, buildSliceR, appendR, setAll, storeR, St.freeze, makeSliceR, minmaxR, makeFuncR, BEq.rfl, reduceIte, reduceCtorEq, Nat.reduceLT, Nat.reduceAdd, Nat.reduceSub, Nat.reduceMul, Nat.reduceBEq, Nat.reduceLeDiff, Int.reduceToNat, Int.reduceLE, hQ, hlt, zi, ga, gb, hxy', hr]

def ctrSame : Ctr := fun args objs K => match args with
  | [a0, a1] => ofE encV a0 (HK.mk : HK fun a => ofE encV a1 (HK.mk : HK fun b => (a.length ≤ 1000000) ∧ (b.length ≤ 1000000) ∧ K (.bool (decide (a = b))) objs 0))
  | _ => False
theorem ctrSame_ok : CtrOk Tryd.prog f_louperef02_Same (ctrSame) := by
  intro args objs K h
  unfold ctrSame at h
  split at h
  · rename_i a0 a1
    obtain ⟨a, rfl, b, rfl, h1, h2, hk⟩ := h
    exact ⟨_, _, _, .pure _ rfl (same_spec a b h1 h2), hk⟩
  · exact h.elim
end Lp

/-! LpC2 -/

namespace Lp
open Go Go.Proofs
end Lp

/-! LpC4 -/

namespace Lp
open Go Go.Proofs
def c_louperef02_Object : LC :=
  (.seq (.reg [⟨some 4, .assign (.const (.slice none 0 0)), none, false⟩,
   ⟨some 5, .assign (.const (.int .i64 0)), none, false⟩])
  (.seq (.seq (.reg [⟨some 11, .move (.tmp 0), none, false⟩,
   ⟨some 12, .call ⟨.builtin .len, ⟨[(.tmp 11)]⟩, ⟨[t_L_string]⟩⟩, none, false⟩,
   ⟨some 13, .move (.tmp 1), none, false⟩,
   ⟨some 14, .call ⟨.builtin .len, ⟨[(.tmp 13)]⟩, ⟨[t_L_api_Val]⟩⟩, none, false⟩,
   ⟨some 15, .binOp .neq t_int (.tmp 12) (.tmp 14) t_int, none, false⟩])
  (.cond (.tmp 15)
   (.seq (.reg [⟨some 4, .assign (.const (.slice none 0 0)), none, false⟩,
    ⟨some 5, .assign (.const (.int .i64 4)), none, false⟩])
   .ret)
   .skip))
  (.seq (.reg [⟨some 16, .buildSlice t_L_string 0 ⟨[]⟩, none, true⟩,
   ⟨some 6, .assign (.tmp 16), none, false⟩])
  (.seq (.reg [⟨some 17, .buildSlice t_L_api_Val 0 ⟨[]⟩, none, true⟩,
   ⟨some 7, .assign (.tmp 17), none, false⟩])
  (.seq (.reg [⟨some 18, .move (.tmp 0), none, false⟩,
   ⟨some 19, .call ⟨.builtin .len, ⟨[(.tmp 18)]⟩, ⟨[t_L_string]⟩⟩, none, false⟩,
   ⟨some 20, .makeSlice t_L_bool (.tmp 19) (.tmp 19), none, false⟩,
   ⟨some 8, .assign (.tmp 20), none, false⟩])
  (.seq (.block 0 (.loop [true, true, false, false, false, false, true, true, true, false, false, false, false, false, false, false, false, false, false, false, false, false, false, false, false, false, false, false, false, false, false, false, false, false, false, false, false, false, false, false, false, false, false, false, false, false, false, false, false, false, false, false, false, false, false, false, false, false, false, false, false, false, false, false, false, false, false, false, false, false, false, false, false, false, false, false, false, false, false, false, false, false, false, false, false, false, false, false, false, false, false, false, false, false, false, false, false] none
   (.seq (.seq (.reg [⟨some 21, .move (.tmp 6), none, false⟩,
     ⟨some 22, .call ⟨.builtin .len, ⟨[(.tmp 21)]⟩, ⟨[t_L_string]⟩⟩, none, false⟩,
     ⟨some 23, .move (.tmp 0), none, false⟩,
     ⟨some 24, .call ⟨.builtin .len, ⟨[(.tmp 23)]⟩, ⟨[t_L_string]⟩⟩, none, false⟩,
     ⟨some 25, .binOp .lss t_int (.tmp 22) (.tmp 24) t_int, none, false⟩])
    (.cond (.tmp 25)
     .skip
     (.exit 0)))
    (.block 1 (.seq (.reg [⟨some 9, .assign (.const (.int .i64 (-1))), none, false⟩])
     (.seq (.seq (.reg [⟨some 10, .assign (.const (.int .i64 0)), none, false⟩])
     (.block 2 (.loop [true, true, false, false, false, false, true, true, true, true, true, false, false, false, false, false, false, false, false, false, false, false, false, false, false, false, false, false, false, false, false, false, false, false, false, false, false, false, false, false, false, false, false, false, false, false, false, false, false, false, false, false, false, false, false, false, false, false, false, false, false, false, false, false, false, false, false, false, false, false, false, false, false, false, false, false, false, false, false, false, false, false, false, false, false, false, false, false, false, false, false, false, false, false, false, false, false] none
      (.seq (.seq (.reg [⟨some 26, .move (.tmp 10), none, false⟩,
        ⟨some 27, .move (.tmp 0), none, false⟩,
        ⟨some 28, .call ⟨.builtin .len, ⟨[(.tmp 27)]⟩, ⟨[t_L_string]⟩⟩, none, false⟩,
        ⟨some 29, .binOp .lss t_int (.tmp 26) (.tmp 28) t_int, none, false⟩])
       (.cond (.tmp 29)
        .skip
        (.exit 2)))
       (.seq (.block 3 (.seq (.draw [⟨some 32, .move (.tmp 8), none, false⟩,
         ⟨some 33, .move (.tmp 10), none, false⟩,
         ⟨some 34, .indexAddr t_L_bool (.tmp 32) (.tmp 33), none, false⟩,
         ⟨some 35, .load t_bool (.tmp 34), none, false⟩,
         ⟨some 36, .unOp .not t_bool (.tmp 35), none, false⟩,
         ⟨some 37, .move (.tmp 36), none, false⟩,
         ⟨some 38, .move (.tmp 9), some (some 37, true), false⟩,
         ⟨some 39, .binOp .lss t_int (.tmp 38) (.const (.int .i64 0)) t_int, some (some 37, true), false⟩,
         ⟨some 40, .move (.tmp 39), some (some 37, true), false⟩,
         ⟨some 41, .move (.tmp 0), some (some 40, false), false⟩,
         ⟨some 42, .move (.tmp 10), some (some 40, false), false⟩,
         ⟨some 43, .indexAddr t_L_string (.tmp 41) (.tmp 42), some (some 40, false), false⟩,
         ⟨some 44, .load t_string (.tmp 43), some (some 40, false), false⟩,
         ⟨some 45, .move (.tmp 0), some (some 40, false), false⟩,
         ⟨some 46, .move (.tmp 9), some (some 40, false), false⟩,
         ⟨some 47, .indexAddr t_L_string (.tmp 45) (.tmp 46), some (some 40, false), false⟩,
         ⟨some 48, .load t_string (.tmp 47), some (some 40, false), false⟩,
         ⟨some 49, .binOp .lss t_string (.tmp 44) (.tmp 48) t_string, some (some 40, false), false⟩,
         ⟨some 50, .pick (.tmp 40) (.const (.bool true)) (.tmp 49), some (some 37, true), false⟩,
         ⟨some 51, .pick (.tmp 37) (.tmp 50) (.const (.bool false)), none, false⟩]
        [0, 1, 0, 0, 0, 0, 0, 0, 0, 0, 512, 0, 0, 7680, 15872, 7680, 7680, 0, 0, 0])
        (.cond (.tmp 51)
         (.reg [⟨some 52, .move (.tmp 10), none, false⟩,
          ⟨some 9, .assign (.tmp 52), none, false⟩])
         .skip)))
       (.reg [⟨some 30, .move (.tmp 10), none, false⟩,
        ⟨some 31, .binOp .add t_int (.tmp 30) (.const (.int .i64 1)) t_int, none, false⟩,
        ⟨some 10, .assign (.tmp 31), none, false⟩]))))))
     (.seq (.seq (.draw [⟨some 53, .move (.tmp 0), none, false⟩,
      ⟨some 54, .move (.tmp 9), none, false⟩,
      ⟨some 55, .indexAddr t_L_string (.tmp 53) (.tmp 54), none, false⟩,
      ⟨some 56, .load t_string (.tmp 55), none, false⟩,
      ⟨some 57, .call ⟨.value (.func f_louperef02_Utf), ⟨[(.tmp 56)]⟩, ⟨[t_string]⟩⟩, none, false⟩,
      ⟨some 58, .unOp .not t_bool (.tmp 57), none, false⟩,
      ⟨some 59, .move (.tmp 58), none, false⟩,
      ⟨some 60, .move (.tmp 6), some (some 59, false), false⟩,
      ⟨some 61, .call ⟨.builtin .len, ⟨[(.tmp 60)]⟩, ⟨[t_L_string]⟩⟩, some (some 59, false), false⟩,
      ⟨some 62, .binOp .gtr t_int (.tmp 61) (.const (.int .i64 0)) t_int, some (some 59, false), false⟩,
      ⟨some 63, .move (.tmp 62), some (some 59, false), false⟩,
      ⟨some 64, .move (.tmp 6), some (some 63, true), false⟩,
      ⟨some 65, .move (.tmp 6), some (some 63, true), false⟩,
      ⟨some 66, .call ⟨.builtin .len, ⟨[(.tmp 65)]⟩, ⟨[t_L_string]⟩⟩, some (some 63, true), false⟩,
      ⟨some 67, .binOp .sub t_int (.tmp 66) (.const (.int .i64 1)) t_int, some (some 63, true), false⟩,
      ⟨some 68, .indexAddr t_L_string (.tmp 64) (.tmp 67), some (some 63, true), false⟩,
      ⟨some 69, .load t_string (.tmp 68), some (some 63, true), false⟩,
      ⟨some 70, .move (.tmp 0), some (some 63, true), false⟩,
      ⟨some 71, .move (.tmp 9), some (some 63, true), false⟩,
      ⟨some 72, .indexAddr t_L_string (.tmp 70) (.tmp 71), some (some 63, true), false⟩,
      ⟨some 73, .load t_string (.tmp 72), some (some 63, true), false⟩,
      ⟨some 74, .binOp .eql t_string (.tmp 69) (.tmp 73) t_string, some (some 63, true), false⟩,
      ⟨some 75, .pick (.tmp 63) (.tmp 74) (.const (.bool false)), some (some 59, false), false⟩,
      ⟨some 76, .pick (.tmp 59) (.const (.bool true)) (.tmp 75), none, false⟩]
     [0, 1, 0, 0, 0, 0, 0, 0, 0, 0, 0, 0, 2048, 2048, 2048, 0, 0, 129024, 260096, 129024, 129024, 0, 0, 0])
     (.cond (.tmp 76)
      (.seq (.reg [⟨some 4, .assign (.const (.slice none 0 0)), none, false⟩,
       ⟨some 5, .assign (.const (.int .i64 4)), none, false⟩])
      .ret)
      .skip))
     (.seq (.reg [⟨some 77, .move (.tmp 8), none, false⟩,
      ⟨some 78, .move (.tmp 9), none, false⟩,
      ⟨some 79, .indexAddr t_L_bool (.tmp 77) (.tmp 78), none, false⟩,
      ⟨none, .store t_bool (.tmp 79) (.const (.bool true)), none, false⟩])
     (.seq (.reg [⟨some 80, .move (.tmp 6), none, false⟩,
      ⟨some 81, .move (.tmp 0), none, false⟩,
      ⟨some 82, .move (.tmp 9), none, false⟩,
      ⟨some 83, .indexAddr t_L_string (.tmp 81) (.tmp 82), none, false⟩,
      ⟨some 84, .load t_string (.tmp 83), none, false⟩,
      ⟨some 85, .buildSlice t_L_string 1 ⟨[(0, (.tmp 84))]⟩, none, false⟩,
      ⟨some 86, .call ⟨.builtin .append, ⟨[(.tmp 80), (.tmp 85)]⟩, ⟨[t_L_string, t_L_string]⟩⟩, none, false⟩,
      ⟨some 6, .assign (.tmp 86), none, false⟩])
     (.reg [⟨some 87, .move (.tmp 7), none, false⟩,
      ⟨some 88, .move (.tmp 1), none, false⟩,
      ⟨some 89, .move (.tmp 9), none, false⟩,
      ⟨some 90, .indexAddr t_L_api_Val (.tmp 88) (.tmp 89), none, false⟩,
      ⟨some 91, .load t_api_Val (.tmp 90), none, false⟩,
      ⟨some 92, .buildSlice t_L_api_Val 1 ⟨[(0, (.tmp 91))]⟩, none, false⟩,
      ⟨some 93, .call ⟨.builtin .append, ⟨[(.tmp 87), (.tmp 92)]⟩, ⟨[t_L_api_Val, t_L_api_Val]⟩⟩, none, false⟩,
      ⟨some 7, .assign (.tmp 93), none, false⟩]))))))))))
  (.seq (.weak (.reg [⟨some 94, .move (.tmp 6), none, false⟩,
   ⟨some 95, .move (.tmp 7), none, false⟩,
   ⟨some 96, .call ⟨.value (.func f_louperef02_named), ⟨[(.tmp 94), (.tmp 95)]⟩, ⟨[t_L_string, t_L_api_Val]⟩⟩, none, false⟩,
   ⟨some 4, .assign (.tmp 96), none, false⟩,
   ⟨some 5, .assign (.const (.int .i64 0)), none, false⟩]))
  .ret)))))))
theorem k_louperef02_Object : FnOk Tryd.prog f_louperef02_Object 97 [.tmp 4, .tmp 5] c_louperef02_Object := ⟨_, _, Tryd.func10, by kernel_rfl, rfl, Tryd.ntmps10, rfl, by kernel_rfl⟩

def c_louperef02_List : LC :=
  (.seq (.reg [⟨some 2, .assign (.const (.slice none 0 0)), none, false⟩])
  (.seq (.reg [⟨some 5, .move (.tmp 0), none, false⟩,
   ⟨some 6, .call ⟨.builtin .len, ⟨[(.tmp 5)]⟩, ⟨[t_L_api_Val]⟩⟩, none, false⟩,
   ⟨some 7, .build t_api_Node ⟨[(0, (.const (.int .i64 5))), (1, (.tmp 6))]⟩, none, false⟩,
   ⟨some 8, .buildSlice t_api_Val 1 ⟨[(0, (.tmp 7))]⟩, none, true⟩,
   ⟨some 3, .assign (.tmp 8), none, false⟩])
  (.seq (.seq (.reg [⟨some 4, .assign (.const (.int .i64 0)), none, false⟩])
  (.block 0 (.loop [true, false, false, true, true, false, false, false, false, false, false, false, false, false, false, false, false, false, false, false, false, false] none
   (.seq (.seq (.reg [⟨some 9, .move (.tmp 4), none, false⟩,
     ⟨some 10, .move (.tmp 0), none, false⟩,
     ⟨some 11, .call ⟨.builtin .len, ⟨[(.tmp 10)]⟩, ⟨[t_L_api_Val]⟩⟩, none, false⟩,
     ⟨some 12, .binOp .lss t_int (.tmp 9) (.tmp 11) t_int, none, false⟩])
    (.cond (.tmp 12)
     .skip
     (.exit 0)))
    (.seq (.block 1 (.reg [⟨some 15, .move (.tmp 3), none, false⟩,
      ⟨some 16, .move (.tmp 0), none, false⟩,
      ⟨some 17, .move (.tmp 4), none, false⟩,
      ⟨some 18, .indexAddr t_L_api_Val (.tmp 16) (.tmp 17), none, false⟩,
      ⟨some 19, .load t_api_Val (.tmp 18), none, false⟩,
      ⟨some 20, .call ⟨.builtin .append, ⟨[(.tmp 15), (.tmp 19)]⟩, ⟨[t_api_Val, t_api_Val]⟩⟩, none, false⟩,
      ⟨some 3, .assign (.tmp 20), none, false⟩]))
    (.reg [⟨some 13, .move (.tmp 4), none, false⟩,
     ⟨some 14, .binOp .add t_int (.tmp 13) (.const (.int .i64 1)) t_int, none, false⟩,
     ⟨some 4, .assign (.tmp 14), none, false⟩]))))))
  (.seq (.reg [⟨some 21, .move (.tmp 3), none, false⟩,
   ⟨some 2, .assign (.tmp 21), none, false⟩])
  .ret))))
theorem k_louperef02_List : FnOk Tryd.prog f_louperef02_List 22 [.tmp 2] c_louperef02_List := ⟨_, _, Tryd.func13, by kernel_rfl, rfl, Tryd.ntmps13, rfl, by kernel_rfl⟩

def c_louperef02_named : LC :=
  (.seq (.reg [⟨some 4, .assign (.const (.slice none 0 0)), none, false⟩])
  (.seq (.reg [⟨some 9, .move (.tmp 1), none, false⟩,
   ⟨some 10, .call ⟨.builtin .len, ⟨[(.tmp 9)]⟩, ⟨[t_L_api_Val]⟩⟩, none, false⟩,
   ⟨some 11, .build t_api_Node ⟨[(0, (.const (.int .i64 6))), (1, (.tmp 10))]⟩, none, false⟩,
   ⟨some 12, .buildSlice t_api_Val 1 ⟨[(0, (.tmp 11))]⟩, none, true⟩,
   ⟨some 5, .assign (.tmp 12), none, false⟩])
  (.seq (.seq (.reg [⟨some 6, .assign (.const (.int .i64 0)), none, false⟩])
  (.block 0 (.loop [true, true, false, false, false, true, true, false, false, false, false, false, false, false, false, false, false, false, false, false, false, false, false, false, false, false, false, false, false, false, false, false, false, false, false, false, false, false, false, false, false] (some (1, 1))
   (.seq (.seq (.reg [⟨some 13, .move (.tmp 6), none, false⟩,
     ⟨some 14, .move (.tmp 1), none, false⟩,
     ⟨some 15, .call ⟨.builtin .len, ⟨[(.tmp 14)]⟩, ⟨[t_L_api_Val]⟩⟩, none, false⟩,
     ⟨some 16, .binOp .lss t_int (.tmp 13) (.tmp 15) t_int, none, false⟩])
    (.cond (.tmp 16)
     .skip
     (.exit 0)))
    (.seq (.block 1 (.seq (.reg [⟨some 19, .move (.tmp 5), none, false⟩,
      ⟨some 20, .call ⟨.builtin .len, ⟨[(.tmp 19)]⟩, ⟨[t_api_Val]⟩⟩, none, false⟩,
      ⟨some 7, .assign (.tmp 20), none, false⟩])
     (.seq (.reg [⟨some 21, .move (.tmp 5), none, false⟩,
      ⟨some 22, .move (.tmp 1), none, false⟩,
      ⟨some 23, .move (.tmp 6), none, false⟩,
      ⟨some 24, .indexAddr t_L_api_Val (.tmp 22) (.tmp 23), none, false⟩,
      ⟨some 25, .load t_api_Val (.tmp 24), none, false⟩,
      ⟨some 26, .call ⟨.builtin .append, ⟨[(.tmp 21), (.tmp 25)]⟩, ⟨[t_api_Val, t_api_Val]⟩⟩, none, false⟩,
      ⟨some 5, .assign (.tmp 26), none, false⟩])
     (.seq (.reg [⟨some 27, .move (.tmp 5), none, false⟩,
      ⟨some 28, .move (.tmp 7), none, false⟩,
      ⟨some 29, .indexAddr t_api_Val (.tmp 27) (.tmp 28), none, false⟩,
      ⟨some 30, .load t_api_Node (.tmp 29), none, false⟩,
      ⟨some 8, .alloc t_api_Node, none, false⟩,
      ⟨none, .store t_api_Node (.tmp 8) (.tmp 30), none, false⟩])
     (.seq (.reg [⟨some 31, .move (.tmp 0), none, false⟩,
      ⟨some 32, .move (.tmp 6), none, false⟩,
      ⟨some 33, .indexAddr t_L_string (.tmp 31) (.tmp 32), none, false⟩,
      ⟨some 34, .load t_string (.tmp 33), none, false⟩,
      ⟨some 35, .fieldAddr t_api_Node (.tmp 8) 2, none, false⟩,
      ⟨none, .store t_string (.tmp 35) (.tmp 34), none, false⟩])
     (.reg [⟨some 36, .move (.tmp 5), none, false⟩,
      ⟨some 37, .move (.tmp 7), none, false⟩,
      ⟨some 38, .load t_api_Node (.tmp 8), none, false⟩,
      ⟨some 39, .indexAddr t_api_Val (.tmp 36) (.tmp 37), none, false⟩,
      ⟨none, .store t_api_Node (.tmp 39) (.tmp 38), none, false⟩]))))))
    (.reg [⟨some 17, .move (.tmp 6), none, false⟩,
     ⟨some 18, .binOp .add t_int (.tmp 17) (.const (.int .i64 1)) t_int, none, false⟩,
     ⟨some 6, .assign (.tmp 18), none, false⟩]))))))
  (.seq (.reg [⟨some 40, .move (.tmp 5), none, false⟩,
   ⟨some 4, .assign (.tmp 40), none, false⟩])
  .ret))))
theorem k_louperef02_named : FnOk Tryd.prog f_louperef02_named 41 [.tmp 4] c_louperef02_named := ⟨_, _, Tryd.func32, by kernel_rfl, rfl, Tryd.ntmps32, rfl, by kernel_rfl⟩

end Lp

/-! LpC5 -/

namespace Lp
open Go Go.Proofs
def c_louperef02_Lists : LC :=
  (.seq (.reg [⟨some 4, .assign (.const (.bool false)), none, false⟩])
  (.seq (.seq (.reg [⟨some 6, .move (.tmp 0), none, false⟩,
   ⟨some 7, .call ⟨.builtin .len, ⟨[(.tmp 6)]⟩, ⟨[t_L_api_Val]⟩⟩, none, false⟩,
   ⟨some 8, .move (.tmp 1), none, false⟩,
   ⟨some 9, .call ⟨.builtin .len, ⟨[(.tmp 8)]⟩, ⟨[t_L_api_Val]⟩⟩, none, false⟩,
   ⟨some 10, .binOp .neq t_int (.tmp 7) (.tmp 9) t_int, none, false⟩])
  (.cond (.tmp 10)
   (.seq (.reg [⟨some 4, .assign (.const (.bool false)), none, false⟩])
   .ret)
   .skip))
  (.seq (.seq (.reg [⟨some 5, .assign (.const (.int .i64 0)), none, false⟩])
  (.block 0 (.loop [true, true, false, false, false, true, false, false, false, false, false, false, false, false, false, false, false, false, false, false, false, false, false, false, false, false, false] none
   (.seq (.seq (.reg [⟨some 11, .move (.tmp 5), none, false⟩,
     ⟨some 12, .move (.tmp 0), none, false⟩,
     ⟨some 13, .call ⟨.builtin .len, ⟨[(.tmp 12)]⟩, ⟨[t_L_api_Val]⟩⟩, none, false⟩,
     ⟨some 14, .binOp .lss t_int (.tmp 11) (.tmp 13) t_int, none, false⟩])
    (.cond (.tmp 14)
     .skip
     (.exit 0)))
    (.seq (.block 1 (.seq (.draw [⟨some 17, .move (.tmp 0), none, false⟩,
      ⟨some 18, .move (.tmp 5), none, false⟩,
      ⟨some 19, .indexAddr t_L_api_Val (.tmp 17) (.tmp 18), none, false⟩,
      ⟨some 20, .load t_api_Val (.tmp 19), none, false⟩,
      ⟨some 21, .move (.tmp 1), none, false⟩,
      ⟨some 22, .move (.tmp 5), none, false⟩,
      ⟨some 23, .indexAddr t_L_api_Val (.tmp 21) (.tmp 22), none, false⟩,
      ⟨some 24, .load t_api_Val (.tmp 23), none, false⟩,
      ⟨some 25, .call ⟨.value (.func f_louperef02_Same), ⟨[(.tmp 20), (.tmp 24)]⟩, ⟨[t_api_Val, t_api_Val]⟩⟩, none, false⟩,
      ⟨some 26, .unOp .not t_bool (.tmp 25), none, false⟩]
     [0, 1, 0, 0, 15, 31, 15, 15, 0, 0])
     (.cond (.tmp 26)
      (.seq (.reg [⟨some 4, .assign (.const (.bool false)), none, false⟩])
      .ret)
      .skip)))
    (.reg [⟨some 15, .move (.tmp 5), none, false⟩,
     ⟨some 16, .binOp .add t_int (.tmp 15) (.const (.int .i64 1)) t_int, none, false⟩,
     ⟨some 5, .assign (.tmp 16), none, false⟩]))))))
  (.seq (.reg [⟨some 4, .assign (.const (.bool true)), none, false⟩])
  .ret))))
theorem k_louperef02_Lists : FnOk Tryd.prog f_louperef02_Lists 27 [.tmp 4] c_louperef02_Lists := ⟨_, _, Tryd.func20, by kernel_rfl, rfl, Tryd.ntmps20, rfl, by kernel_rfl⟩

def c_louperef02_Texts : LC :=
  (.seq (.reg [⟨some 4, .assign (.const (.bool false)), none, false⟩])
  (.seq (.seq (.reg [⟨some 6, .move (.tmp 0), none, false⟩,
   ⟨some 7, .call ⟨.builtin .len, ⟨[(.tmp 6)]⟩, ⟨[t_L_string]⟩⟩, none, false⟩,
   ⟨some 8, .move (.tmp 1), none, false⟩,
   ⟨some 9, .call ⟨.builtin .len, ⟨[(.tmp 8)]⟩, ⟨[t_L_string]⟩⟩, none, false⟩,
   ⟨some 10, .binOp .neq t_int (.tmp 7) (.tmp 9) t_int, none, false⟩])
  (.cond (.tmp 10)
   (.seq (.reg [⟨some 4, .assign (.const (.bool false)), none, false⟩])
   .ret)
   .skip))
  (.seq (.seq (.reg [⟨some 5, .assign (.const (.int .i64 0)), none, false⟩])
  (.block 0 (.loop [true, true, false, false, false, true, false, false, false, false, false, false, false, false, false, false, false, false, false, false, false, false, false, false, false, false] none
   (.seq (.seq (.reg [⟨some 11, .move (.tmp 5), none, false⟩,
     ⟨some 12, .move (.tmp 0), none, false⟩,
     ⟨some 13, .call ⟨.builtin .len, ⟨[(.tmp 12)]⟩, ⟨[t_L_string]⟩⟩, none, false⟩,
     ⟨some 14, .binOp .lss t_int (.tmp 11) (.tmp 13) t_int, none, false⟩])
    (.cond (.tmp 14)
     .skip
     (.exit 0)))
    (.seq (.block 1 (.seq (.draw [⟨some 17, .move (.tmp 0), none, false⟩,
      ⟨some 18, .move (.tmp 5), none, false⟩,
      ⟨some 19, .indexAddr t_L_string (.tmp 17) (.tmp 18), none, false⟩,
      ⟨some 20, .load t_string (.tmp 19), none, false⟩,
      ⟨some 21, .move (.tmp 1), none, false⟩,
      ⟨some 22, .move (.tmp 5), none, false⟩,
      ⟨some 23, .indexAddr t_L_string (.tmp 21) (.tmp 22), none, false⟩,
      ⟨some 24, .load t_string (.tmp 23), none, false⟩,
      ⟨some 25, .binOp .neq t_string (.tmp 20) (.tmp 24) t_string, none, false⟩]
     [0, 1, 0, 0, 15, 31, 15, 15, 0])
     (.cond (.tmp 25)
      (.seq (.reg [⟨some 4, .assign (.const (.bool false)), none, false⟩])
      .ret)
      .skip)))
    (.reg [⟨some 15, .move (.tmp 5), none, false⟩,
     ⟨some 16, .binOp .add t_int (.tmp 15) (.const (.int .i64 1)) t_int, none, false⟩,
     ⟨some 5, .assign (.tmp 16), none, false⟩]))))))
  (.seq (.reg [⟨some 4, .assign (.const (.bool true)), none, false⟩])
  .ret))))
theorem k_louperef02_Texts : FnOk Tryd.prog f_louperef02_Texts 26 [.tmp 4] c_louperef02_Texts := ⟨_, _, Tryd.func22, by kernel_rfl, rfl, Tryd.ntmps22, rfl, by kernel_rfl⟩

def c_louperef02_Depth : LC :=
  (.seq (.reg [⟨some 2, .assign (.const (.int .i64 0)), none, false⟩])
  (.seq (.seq (.reg [⟨some 6, .move (.tmp 0), none, false⟩,
   ⟨some 7, .indexAddr t_api_Val (.tmp 6) (.const (.int .i64 0)), none, false⟩,
   ⟨some 8, .fieldAddr t_api_Node (.tmp 7) 0, none, false⟩,
   ⟨some 9, .load t_int (.tmp 8), none, false⟩,
   ⟨some 10, .binOp .neq t_int (.tmp 9) (.const (.int .i64 5)) t_int, none, false⟩,
   ⟨some 11, .move (.tmp 10), none, false⟩,
   ⟨some 12, .move (.tmp 0), some (some 11, true), false⟩,
   ⟨some 13, .indexAddr t_api_Val (.tmp 12) (.const (.int .i64 0)), some (some 11, true), false⟩,
   ⟨some 14, .fieldAddr t_api_Node (.tmp 13) 0, some (some 11, true), false⟩,
   ⟨some 15, .load t_int (.tmp 14), some (some 11, true), false⟩,
   ⟨some 16, .binOp .neq t_int (.tmp 15) (.const (.int .i64 6)) t_int, some (some 11, true), false⟩,
   ⟨some 17, .pick (.tmp 11) (.tmp 16) (.const (.bool false)), none, false⟩])
  (.cond (.tmp 17)
   (.seq (.reg [⟨some 2, .assign (.const (.int .i64 0)), none, false⟩])
   .ret)
   .skip))
  (.seq (.reg [⟨some 18, .move (.tmp 0), none, false⟩,
   ⟨some 19, .call ⟨.value (.func f_louperef02_Parts), ⟨[(.tmp 18)]⟩, ⟨[t_api_Val]⟩⟩, none, false⟩,
   ⟨some 3, .assign (.tmp 19), none, false⟩])
  (.seq (.reg [⟨some 4, .assign (.const (.int .i64 0)), none, false⟩])
  (.seq (.seq (.reg [⟨some 5, .assign (.const (.int .i64 0)), none, false⟩])
  (.block 0 (.loop [false, false, false, true, true, true, false, false, false, false, false, false, false, false, false, false, false, false, false, false, false, false, false, false, false, false, false, false, false, false, false, false, false, false, false] none
   (.seq (.seq (.reg [⟨some 20, .move (.tmp 5), none, false⟩,
     ⟨some 21, .move (.tmp 3), none, false⟩,
     ⟨some 22, .call ⟨.builtin .len, ⟨[(.tmp 21)]⟩, ⟨[t_L_api_Val]⟩⟩, none, false⟩,
     ⟨some 23, .binOp .lss t_int (.tmp 20) (.tmp 22) t_int, none, false⟩])
    (.cond (.tmp 23)
     .skip
     (.exit 0)))
    (.seq (.block 1 (.reg [⟨some 26, .move (.tmp 4), none, false⟩,
      ⟨some 27, .move (.tmp 3), none, false⟩,
      ⟨some 28, .move (.tmp 5), none, false⟩,
      ⟨some 29, .indexAddr t_L_api_Val (.tmp 27) (.tmp 28), none, false⟩,
      ⟨some 30, .load t_api_Val (.tmp 29), none, false⟩,
      ⟨some 31, .call ⟨.value (.func f_louperef02_Depth), ⟨[(.tmp 30)]⟩, ⟨[t_api_Val]⟩⟩, none, false⟩,
      ⟨some 32, .call ⟨.builtin .max, ⟨[(.tmp 26), (.tmp 31)]⟩, ⟨[t_int, t_int]⟩⟩, none, false⟩,
      ⟨some 4, .assign (.tmp 32), none, false⟩]))
    (.reg [⟨some 24, .move (.tmp 5), none, false⟩,
     ⟨some 25, .binOp .add t_int (.tmp 24) (.const (.int .i64 1)) t_int, none, false⟩,
     ⟨some 5, .assign (.tmp 25), none, false⟩]))))))
  (.seq (.reg [⟨some 33, .move (.tmp 4), none, false⟩,
   ⟨some 34, .binOp .add t_int (.tmp 33) (.const (.int .i64 1)) t_int, none, false⟩,
   ⟨some 2, .assign (.tmp 34), none, false⟩])
  .ret))))))
theorem k_louperef02_Depth : FnOk Tryd.prog f_louperef02_Depth 35 [.tmp 2] c_louperef02_Depth := ⟨_, _, Tryd.func19, by kernel_rfl, rfl, Tryd.ntmps19, rfl, by kernel_rfl⟩

def c_val_Same : LC :=
  (.seq (.reg [⟨some 4, .assign (.const (.bool false)), none, false⟩])
  (.seq (.reg [⟨some 5, .move (.tmp 0), none, false⟩,
   ⟨some 6, .move (.tmp 1), none, false⟩,
   ⟨some 7, .call ⟨.value (.func f_slices_Equal_api_Val_api_Node_), ⟨[(.tmp 5), (.tmp 6)]⟩, ⟨[t_api_Val, t_api_Val]⟩⟩, none, false⟩,
   ⟨some 4, .assign (.tmp 7), none, false⟩])
  .ret))
theorem k_val_Same : FnOk Tryd.prog f_val_Same 8 [.tmp 4] c_val_Same := ⟨_, _, Tryd.func17, by kernel_rfl, rfl, Tryd.ntmps17, rfl, by kernel_rfl⟩

def c_slices_Equal_api_Val_api_Node_ : LC :=
  (.seq (.reg [⟨some 4, .assign (.const (.bool false)), none, false⟩])
  (.seq (.seq (.reg [⟨some 6, .move (.tmp 0), none, false⟩,
   ⟨some 7, .call ⟨.builtin .len, ⟨[(.tmp 6)]⟩, ⟨[t_api_Val]⟩⟩, none, false⟩,
   ⟨some 8, .move (.tmp 1), none, false⟩,
   ⟨some 9, .call ⟨.builtin .len, ⟨[(.tmp 8)]⟩, ⟨[t_api_Val]⟩⟩, none, false⟩,
   ⟨some 10, .binOp .neq t_int (.tmp 7) (.tmp 9) t_int, none, false⟩])
  (.cond (.tmp 10)
   (.seq (.reg [⟨some 4, .assign (.const (.bool false)), none, false⟩])
   .ret)
   .skip))
  (.seq (.seq (.reg [⟨some 11, .move (.tmp 0), none, false⟩,
   ⟨some 12, .call ⟨.builtin .len, ⟨[(.tmp 11)]⟩, ⟨[t_api_Val]⟩⟩, none, false⟩,
   ⟨some 13, .move (.const (.int .i64 0)), none, false⟩])
  (.block 0 (.loop [true, true, false, false, false, false, false, false, false, false, false, false, true, true, false, false, false, false, false, false, false, false, false, false, false, false] none
   (.seq (.reg [⟨some 14, .binOp .lss t_int (.tmp 13) (.tmp 12) t_int, none, false⟩])
    (.seq (.cond (.tmp 14)
     .skip
     (.exit 0))
    (.seq (.block 1 (.seq (.reg [⟨some 15, .move (.tmp 13), none, false⟩,
      ⟨some 5, .assign (.tmp 15), none, false⟩])
     (.seq (.draw [⟨some 16, .move (.tmp 0), none, false⟩,
      ⟨some 17, .move (.tmp 5), none, false⟩,
      ⟨some 18, .indexAddr t_api_Val (.tmp 16) (.tmp 17), none, false⟩,
      ⟨some 19, .load t_api_Node (.tmp 18), none, false⟩,
      ⟨some 20, .move (.tmp 1), none, false⟩,
      ⟨some 21, .move (.tmp 5), none, false⟩,
      ⟨some 22, .indexAddr t_api_Val (.tmp 20) (.tmp 21), none, false⟩,
      ⟨some 23, .load t_api_Node (.tmp 22), none, false⟩,
      ⟨some 24, .binOp .neq t_api_Node (.tmp 19) (.tmp 23) t_api_Node, none, false⟩]
     [0, 1, 0, 0, 15, 31, 15, 15, 0])
     (.cond (.tmp 24)
      (.seq (.reg [⟨some 4, .assign (.const (.bool false)), none, false⟩])
      .ret)
      .skip))))
    (.reg [⟨some 25, .binOp .add t_int (.tmp 13) (.const (.int .i64 1)) t_int, none, false⟩,
     ⟨some 13, .move (.tmp 25), none, false⟩])))))))
  (.seq (.reg [⟨some 4, .assign (.const (.bool true)), none, false⟩])
  .ret))))
theorem k_slices_Equal_api_Val_api_Node_ : FnOk Tryd.prog f_slices_Equal_api_Val_api_Node_ 26 [.tmp 4] c_slices_Equal_api_Val_api_Node_ := ⟨_, _, Tryd.func41, by kernel_rfl, rfl, Tryd.ntmps41, rfl, by kernel_rfl⟩

def c_val_Depth : LC :=
  (.seq (.reg [⟨some 2, .assign (.const (.int .i64 0)), none, false⟩])
  (.seq (.seq (.reg [⟨some 6, .move (.tmp 0), none, false⟩,
   ⟨some 7, .indexAddr t_api_Val (.tmp 6) (.const (.int .i64 0)), none, false⟩,
   ⟨some 8, .fieldAddr t_api_Node (.tmp 7) 0, none, false⟩,
   ⟨some 9, .load t_int (.tmp 8), none, false⟩,
   ⟨some 10, .binOp .neq t_int (.tmp 9) (.const (.int .i64 5)) t_int, none, false⟩,
   ⟨some 11, .move (.tmp 10), none, false⟩,
   ⟨some 12, .move (.tmp 0), some (some 11, true), false⟩,
   ⟨some 13, .indexAddr t_api_Val (.tmp 12) (.const (.int .i64 0)), some (some 11, true), false⟩,
   ⟨some 14, .fieldAddr t_api_Node (.tmp 13) 0, some (some 11, true), false⟩,
   ⟨some 15, .load t_int (.tmp 14), some (some 11, true), false⟩,
   ⟨some 16, .binOp .neq t_int (.tmp 15) (.const (.int .i64 6)) t_int, some (some 11, true), false⟩,
   ⟨some 17, .pick (.tmp 11) (.tmp 16) (.const (.bool false)), none, false⟩])
  (.cond (.tmp 17)
   (.seq (.reg [⟨some 2, .assign (.const (.int .i64 0)), none, false⟩])
   .ret)
   .skip))
  (.seq (.reg [⟨some 3, .alloc t_int, none, false⟩,
   ⟨none, .store t_int (.tmp 3) (.const (.int .i64 0)), none, false⟩])
  (.seq (.seq (.reg [⟨some 18, .move (.tmp 0), none, false⟩,
   ⟨some 19, .call ⟨.value (.func f_val_each), ⟨[(.tmp 18)]⟩, ⟨[t_api_Val]⟩⟩, none, false⟩])
  (.block 0 (.rf (.tmp 19) [20, 21] none
    (.reg [⟨some 5, .assign (.tmp 21), none, false⟩])
    (.block 1 (.draw [⟨some 22, .load t_int (.tmp 3), none, false⟩,
      ⟨some 23, .move (.tmp 5), none, false⟩,
      ⟨some 24, .call ⟨.value (.func f_val_Depth), ⟨[(.tmp 23)]⟩, ⟨[t_api_Val]⟩⟩, none, false⟩,
      ⟨some 25, .call ⟨.builtin .max, ⟨[(.tmp 22), (.tmp 24)]⟩, ⟨[t_int, t_int]⟩⟩, none, false⟩,
      ⟨none, .store t_int (.tmp 3) (.tmp 25), none, false⟩]
     [0, 1, 1, 0, 0])))))
  (.seq (.reg [⟨some 26, .load t_int (.tmp 3), none, false⟩,
   ⟨some 27, .binOp .add t_int (.tmp 26) (.const (.int .i64 1)) t_int, none, false⟩,
   ⟨some 2, .assign (.tmp 27), none, false⟩])
  .ret)))))
theorem k_val_Depth : FnOk Tryd.prog f_val_Depth 28 [.tmp 2] c_val_Depth := ⟨_, _, Tryd.func18, by kernel_rfl, rfl, Tryd.ntmps18, rfl, by kernel_rfl⟩

def c_val_isPlain : LC :=
  (.seq (.reg [⟨some 1, .box t_api_Node (.tmp 0), none, false⟩,
   ⟨some 2, .assign (.const (.bool false)), none, false⟩])
  (.seq (.reg [⟨some 3, .fieldAddr t_api_Node (.tmp 1) 2, none, false⟩,
   ⟨none, .store t_string (.tmp 3) (.const (.string ⟨⟨[]⟩⟩)), none, false⟩])
  (.seq (.seq (.weak (.reg [⟨some 4, .fieldAddr t_api_Node (.tmp 1) 0, none, false⟩,
   ⟨some 5, .load t_int (.tmp 4), none, false⟩]))
  (.block 0 (.seq (.seq (.reg [⟨some 7, .binOp .eql t_int (.tmp 5) (.const (.int .i64 0)) t_int, none, false⟩,
    ⟨some 6, .assign (.tmp 7), none, false⟩])
   (.cond (.tmp 6)
    .skip
    (.seq (.reg [⟨some 8, .binOp .eql t_int (.tmp 5) (.const (.int .i64 1)) t_int, none, false⟩,
     ⟨some 6, .assign (.tmp 8), none, false⟩])
    (.cond (.tmp 6)
     .skip
     (.reg [⟨some 9, .binOp .eql t_int (.tmp 5) (.const (.int .i64 2)) t_int, none, false⟩,
      ⟨some 6, .assign (.tmp 9), none, false⟩])))))
   (.cond (.tmp 6)
    (.seq (.reg [⟨some 10, .load t_api_Node (.tmp 1), none, false⟩,
     ⟨some 11, .fieldAddr t_api_Node (.tmp 1) 0, none, false⟩,
     ⟨some 12, .load t_int (.tmp 11), none, false⟩,
     ⟨some 13, .build t_api_Node ⟨[(0, (.tmp 12))]⟩, none, false⟩,
     ⟨some 14, .binOp .eql t_api_Node (.tmp 10) (.tmp 13) t_api_Node, none, false⟩,
     ⟨some 2, .assign (.tmp 14), none, false⟩])
    .ret)
    (.seq (.reg [⟨some 16, .binOp .eql t_int (.tmp 5) (.const (.int .i64 3)) t_int, none, false⟩,
     ⟨some 15, .assign (.tmp 16), none, false⟩])
    (.cond (.tmp 15)
     (.seq (.reg [⟨some 17, .load t_api_Node (.tmp 1), none, false⟩,
      ⟨some 18, .call ⟨.value (.func f_num_Right), ⟨[(.tmp 17)]⟩, ⟨[t_api_Node]⟩⟩, none, false⟩,
      ⟨some 2, .assign (.tmp 18), none, false⟩])
     .ret)
     (.seq (.reg [⟨some 20, .binOp .eql t_int (.tmp 5) (.const (.int .i64 4)) t_int, none, false⟩,
      ⟨some 19, .assign (.tmp 20), none, false⟩])
     (.cond (.tmp 19)
      (.seq (.reg [⟨some 21, .fieldAddr t_api_Node (.tmp 1) 3, none, false⟩,
       ⟨some 22, .load t_string (.tmp 21), none, false⟩,
       ⟨some 23, .call ⟨.value (.func f_unicode_utf8_ValidString), ⟨[(.tmp 22)]⟩, ⟨[t_string]⟩⟩, none, false⟩,
       ⟨some 24, .move (.tmp 23), none, false⟩,
       ⟨some 25, .load t_api_Node (.tmp 1), some (some 24, true), false⟩,
       ⟨some 26, .fieldAddr t_api_Node (.tmp 1) 0, some (some 24, true), false⟩,
       ⟨some 27, .load t_int (.tmp 26), some (some 24, true), false⟩,
       ⟨some 28, .fieldAddr t_api_Node (.tmp 1) 3, some (some 24, true), false⟩,
       ⟨some 29, .load t_string (.tmp 28), some (some 24, true), false⟩,
       ⟨some 30, .build t_api_Node ⟨[(0, (.tmp 27)), (3, (.tmp 29))]⟩, some (some 24, true), false⟩,
       ⟨some 31, .binOp .eql t_api_Node (.tmp 25) (.tmp 30) t_api_Node, some (some 24, true), false⟩,
       ⟨some 32, .pick (.tmp 24) (.tmp 31) (.const (.bool false)), none, false⟩,
       ⟨some 2, .assign (.tmp 32), none, false⟩])
      .ret)
      (.seq (.seq (.reg [⟨some 34, .binOp .eql t_int (.tmp 5) (.const (.int .i64 5)) t_int, none, false⟩,
       ⟨some 33, .assign (.tmp 34), none, false⟩])
      (.cond (.tmp 33)
       .skip
       (.reg [⟨some 35, .binOp .eql t_int (.tmp 5) (.const (.int .i64 6)) t_int, none, false⟩,
        ⟨some 33, .assign (.tmp 35), none, false⟩])))
      (.cond (.tmp 33)
       (.seq (.reg [⟨some 36, .fieldAddr t_api_Node (.tmp 1) 1, none, false⟩,
        ⟨some 37, .load t_int (.tmp 36), none, false⟩,
        ⟨some 38, .binOp .geq t_int (.tmp 37) (.const (.int .i64 0)) t_int, none, false⟩,
        ⟨some 39, .move (.tmp 38), none, false⟩,
        ⟨some 40, .load t_api_Node (.tmp 1), some (some 39, true), false⟩,
        ⟨some 41, .fieldAddr t_api_Node (.tmp 1) 0, some (some 39, true), false⟩,
        ⟨some 42, .load t_int (.tmp 41), some (some 39, true), false⟩,
        ⟨some 43, .fieldAddr t_api_Node (.tmp 1) 1, some (some 39, true), false⟩,
        ⟨some 44, .load t_int (.tmp 43), some (some 39, true), false⟩,
        ⟨some 45, .build t_api_Node ⟨[(0, (.tmp 42)), (1, (.tmp 44))]⟩, some (some 39, true), false⟩,
        ⟨some 46, .binOp .eql t_api_Node (.tmp 40) (.tmp 45) t_api_Node, some (some 39, true), false⟩,
        ⟨some 47, .pick (.tmp 39) (.tmp 46) (.const (.bool false)), none, false⟩,
        ⟨some 2, .assign (.tmp 47), none, false⟩])
       .ret)
       .skip))))))))))
  (.seq (.reg [⟨some 2, .assign (.const (.bool false)), none, false⟩])
  .ret))))
theorem k_val_isPlain : FnOk Tryd.prog f_val_isPlain 48 [.tmp 2] c_val_isPlain := ⟨_, _, Tryd.func38, by kernel_rfl, rfl, Tryd.ntmps38, rfl, by kernel_rfl⟩

def c_num_Right : LC :=
  (.seq (.reg [⟨some 1, .box t_api_Node (.tmp 0), none, false⟩,
   ⟨some 2, .assign (.const (.bool false)), none, false⟩])
  (.seq (.seq (.weak (.reg [⟨some 3, .fieldAddr t_api_Node (.tmp 1) 0, none, false⟩,
   ⟨some 4, .load t_int (.tmp 3), none, false⟩,
   ⟨some 5, .binOp .neq t_int (.tmp 4) (.const (.int .i64 3)) t_int, none, false⟩,
   ⟨some 6, .move (.tmp 5), none, false⟩,
   ⟨some 7, .fieldAddr t_api_Node (.tmp 1) 1, some (some 6, false), false⟩,
   ⟨some 8, .load t_int (.tmp 7), some (some 6, false), false⟩,
   ⟨some 9, .binOp .neq t_int (.tmp 8) (.const (.int .i64 0)) t_int, some (some 6, false), false⟩,
   ⟨some 10, .pick (.tmp 6) (.const (.bool true)) (.tmp 9), none, false⟩,
   ⟨some 11, .move (.tmp 10), none, false⟩,
   ⟨some 12, .fieldAddr t_api_Node (.tmp 1) 2, some (some 11, false), false⟩,
   ⟨some 13, .load t_string (.tmp 12), some (some 11, false), false⟩,
   ⟨some 14, .binOp .neq t_string (.tmp 13) (.const (.string ⟨⟨[]⟩⟩)) t_string, some (some 11, false), false⟩,
   ⟨some 15, .pick (.tmp 11) (.const (.bool true)) (.tmp 14), none, false⟩,
   ⟨some 16, .move (.tmp 15), none, false⟩,
   ⟨some 17, .fieldAddr t_api_Node (.tmp 1) 3, some (some 16, false), false⟩,
   ⟨some 18, .load t_string (.tmp 17), some (some 16, false), false⟩,
   ⟨some 19, .call ⟨.builtin .len, ⟨[(.tmp 18)]⟩, ⟨[t_string]⟩⟩, some (some 16, false), false⟩,
   ⟨some 20, .binOp .gtr t_int (.tmp 19) (.const (.int .i64 100)) t_int, some (some 16, false), false⟩,
   ⟨some 21, .pick (.tmp 16) (.const (.bool true)) (.tmp 20), none, false⟩,
   ⟨some 22, .move (.tmp 21), none, false⟩,
   ⟨some 23, .fieldAddr t_api_Node (.tmp 1) 3, some (some 22, false), false⟩,
   ⟨some 24, .load t_string (.tmp 23), some (some 22, false), false⟩,
   ⟨some 25, .call ⟨.builtin .len, ⟨[(.tmp 24)]⟩, ⟨[t_string]⟩⟩, some (some 22, false), false⟩,
   ⟨some 26, .fieldAddr t_api_Node (.tmp 1) 5, some (some 22, false), false⟩,
   ⟨some 27, .load t_int (.tmp 26), some (some 22, false), false⟩,
   ⟨some 28, .call ⟨.value (.func f_num_isPower), ⟨[(.tmp 25), (.tmp 27)]⟩, ⟨[t_int, t_int]⟩⟩, some (some 22, false), false⟩,
   ⟨some 29, .unOp .not t_bool (.tmp 28), some (some 22, false), false⟩,
   ⟨some 30, .pick (.tmp 22) (.const (.bool true)) (.tmp 29), none, false⟩,
   ⟨some 31, .move (.tmp 30), none, false⟩,
   ⟨some 32, .fieldAddr t_api_Node (.tmp 1) 3, some (some 31, false), false⟩,
   ⟨some 33, .load t_string (.tmp 32), some (some 31, false), false⟩,
   ⟨some 34, .call ⟨.value (.func f_num_isFigures), ⟨[(.tmp 33)]⟩, ⟨[t_string]⟩⟩, some (some 31, false), false⟩,
   ⟨some 35, .unOp .not t_bool (.tmp 34), some (some 31, false), false⟩,
   ⟨some 36, .pick (.tmp 31) (.const (.bool true)) (.tmp 35), none, false⟩]))
  (.cond (.tmp 36)
   (.seq (.reg [⟨some 2, .assign (.const (.bool false)), none, false⟩])
   .ret)
   .skip))
  (.seq (.seq (.reg [⟨some 37, .fieldAddr t_api_Node (.tmp 1) 3, none, false⟩,
   ⟨some 38, .load t_string (.tmp 37), none, false⟩,
   ⟨some 39, .binOp .eql t_string (.tmp 38) (.const (.string ⟨⟨[]⟩⟩)) t_string, none, false⟩])
  (.cond (.tmp 39)
   (.seq (.reg [⟨some 40, .fieldAddr t_api_Node (.tmp 1) 4, none, false⟩,
    ⟨some 41, .load t_bool (.tmp 40), none, false⟩,
    ⟨some 42, .unOp .not t_bool (.tmp 41), none, false⟩,
    ⟨some 43, .move (.tmp 42), none, false⟩,
    ⟨some 44, .fieldAddr t_api_Node (.tmp 1) 5, some (some 43, true), false⟩,
    ⟨some 45, .load t_int (.tmp 44), some (some 43, true), false⟩,
    ⟨some 46, .binOp .eql t_int (.tmp 45) (.const (.int .i64 0)) t_int, some (some 43, true), false⟩,
    ⟨some 47, .pick (.tmp 43) (.tmp 46) (.const (.bool false)), none, false⟩,
    ⟨some 2, .assign (.tmp 47), none, false⟩])
   .ret)
   .skip))
  (.seq (.draw [⟨some 48, .fieldAddr t_api_Node (.tmp 1) 3, none, false⟩,
   ⟨some 49, .load t_string (.tmp 48), none, false⟩,
   ⟨some 50, .call ⟨.value (.func f_strings_Trim), ⟨[(.tmp 49), (.const (.string ⟨⟨[48]⟩⟩))]⟩, ⟨[t_string, t_string]⟩⟩, none, false⟩,
   ⟨some 51, .fieldAddr t_api_Node (.tmp 1) 3, none, false⟩,
   ⟨some 52, .load t_string (.tmp 51), none, false⟩,
   ⟨some 53, .binOp .eql t_string (.tmp 50) (.tmp 52) t_string, none, false⟩,
   ⟨some 2, .assign (.tmp 53), none, false⟩]
  [0, 0, 0, 7, 7, 0, 0])
  .ret))))
theorem k_num_Right : FnOk Tryd.prog f_num_Right 54 [.tmp 2] c_num_Right := ⟨_, _, Tryd.func53, by kernel_rfl, rfl, Tryd.ntmps53, rfl, by kernel_rfl⟩

def c_num_isPower : LC :=
  (.seq (.reg [⟨some 4, .assign (.const (.bool false)), none, false⟩])
  (.seq (.reg [⟨some 5, .move (.tmp 1), none, false⟩,
   ⟨some 6, .binOp .geq t_int (.tmp 5) (.const (.int .i64 (-1000))) t_int, none, false⟩,
   ⟨some 7, .move (.tmp 6), none, false⟩,
   ⟨some 8, .move (.tmp 1), some (some 7, true), false⟩,
   ⟨some 9, .binOp .leq t_int (.tmp 8) (.const (.int .i64 1000)) t_int, some (some 7, true), false⟩,
   ⟨some 10, .pick (.tmp 7) (.tmp 9) (.const (.bool false)), none, false⟩,
   ⟨some 11, .move (.tmp 10), none, false⟩,
   ⟨some 12, .move (.tmp 0), some (some 11, true), false⟩,
   ⟨some 13, .move (.tmp 1), some (some 11, true), false⟩,
   ⟨some 14, .binOp .add t_int (.tmp 12) (.tmp 13) t_int, some (some 11, true), false⟩,
   ⟨some 15, .binOp .leq t_int (.tmp 14) (.const (.int .i64 1000)) t_int, some (some 11, true), false⟩,
   ⟨some 16, .pick (.tmp 11) (.tmp 15) (.const (.bool false)), none, false⟩,
   ⟨some 4, .assign (.tmp 16), none, false⟩])
  .ret))
theorem k_num_isPower : FnOk Tryd.prog f_num_isPower 17 [.tmp 4] c_num_isPower := ⟨_, _, Tryd.func60, by kernel_rfl, rfl, Tryd.ntmps60, rfl, by kernel_rfl⟩

def c_num_isFigures : LC :=
  (.seq (.reg [⟨some 2, .assign (.const (.bool false)), none, false⟩])
  (.seq (.reg [⟨some 3, .move (.tmp 0), none, false⟩,
   ⟨some 4, .call ⟨.value (.func f_strings_TrimFunc), ⟨[(.tmp 3), (.func f_num_isFigure)]⟩, ⟨[t_string, t_func_int32__bool]⟩⟩, none, false⟩,
   ⟨some 5, .binOp .eql t_string (.tmp 4) (.const (.string ⟨⟨[]⟩⟩)) t_string, none, false⟩,
   ⟨some 2, .assign (.tmp 5), none, false⟩])
  .ret))
theorem k_num_isFigures : FnOk Tryd.prog f_num_isFigures 6 [.tmp 2] c_num_isFigures := ⟨_, _, Tryd.func61, by kernel_rfl, rfl, Tryd.ntmps61, rfl, by kernel_rfl⟩

def c_num_isFigure : LC :=
  (.seq (.reg [⟨some 2, .assign (.const (.bool false)), none, false⟩])
  (.seq (.reg [⟨some 3, .move (.tmp 0), none, false⟩,
   ⟨some 4, .binOp .geq t_int32 (.tmp 3) (.const (.int .i32 48)) t_int32, none, false⟩,
   ⟨some 5, .move (.tmp 4), none, false⟩,
   ⟨some 6, .move (.tmp 0), some (some 5, true), false⟩,
   ⟨some 7, .binOp .leq t_int32 (.tmp 6) (.const (.int .i32 57)) t_int32, some (some 5, true), false⟩,
   ⟨some 8, .pick (.tmp 5) (.tmp 7) (.const (.bool false)), none, false⟩,
   ⟨some 2, .assign (.tmp 8), none, false⟩])
  .ret))
theorem k_num_isFigure : FnOk Tryd.prog f_num_isFigure 9 [.tmp 2] c_num_isFigure := ⟨_, _, Tryd.func75, by kernel_rfl, rfl, Tryd.ntmps75, rfl, by kernel_rfl⟩

def c_val_Right : LC :=
  (.seq (.reg [⟨some 2, .assign (.const (.bool false)), none, false⟩])
  (.seq (.reg [⟨some 8, .build t_val_open ⟨[(0, (.const (.int .i64 5))), (1, (.const (.int .i64 1)))]⟩, none, false⟩,
   ⟨some 9, .buildSlice t_L_val_open 1 ⟨[(0, (.tmp 8))]⟩, none, true⟩,
   ⟨some 3, .assign (.tmp 9), none, false⟩])
  (.seq (.seq (.reg [⟨some 10, .move (.tmp 0), none, false⟩,
   ⟨some 11, .call ⟨.builtin .len, ⟨[(.tmp 10)]⟩, ⟨[t_api_Val]⟩⟩, none, false⟩,
   ⟨some 12, .move (.const (.int .i64 0)), none, false⟩])
  (.block 0 (.loop [true, false, false, true, false, false, false, false, false, false, true, true, true, false, false, false, false, false, false, false, false, false, false, false, false, false, false, false, false, false, false, false, false, false, false, false, false, false, false, false, false, false, false, false, false, false, false, false, false, false, false, false, false, false, false, false, false, false, false, false, false, false, false, false, false, false, false, false, false, false, false, false, false, false, false, false, false, false, false, false, false, false, false, false, false, false, false, false, false, false, false, false, false, false, false, false, false, false, false, false, false, false, false, false, false, false, false, false, false, false, false, false, false, false, false, false, false, false, false, false, false, false, false] (some (1, 1))
   (.seq (.reg [⟨some 13, .binOp .lss t_int (.tmp 12) (.tmp 11) t_int, none, false⟩])
    (.seq (.cond (.tmp 13)
     .skip
     (.exit 0))
    (.seq (.block 1 (.seq (.reg [⟨some 14, .indexAddr t_api_Val (.tmp 10) (.tmp 12), none, false⟩,
      ⟨some 15, .load t_api_Node (.tmp 14), none, false⟩,
      ⟨some 5, .alloc t_api_Node, none, false⟩,
      ⟨none, .store t_api_Node (.tmp 5) (.tmp 15), none, false⟩])
     (.seq (.block 2 (.loop [true, false, false, true, false, true, false, false, false, false, true, true, true, false, false, false, false, false, false, false, false, false, false, false, false, false, false, false, false, false, false, false, false, false, false, false, false, false, false, false, false, false, false, false, false, false, false, false, false, false, false, false, false, false, false, false, false, false, false, false, false, false, false, false, false, false, false, false, false, false, false, false, false, false, false, false, false, false, false, false, false, false, false, false, false, false, false, false, false, false, false, false, false, false, false, false, false, false, false, false, false, false, false, false, false, false, false, false, false, false, false, false, false, false, false, false, false, false, false, false, false, false, false] none
      (.seq (.seq (.reg [⟨some 16, .move (.tmp 3), none, false⟩,
        ⟨some 17, .call ⟨.builtin .len, ⟨[(.tmp 16)]⟩, ⟨[t_L_val_open]⟩⟩, none, false⟩,
        ⟨some 18, .binOp .gtr t_int (.tmp 17) (.const (.int .i64 0)) t_int, none, false⟩,
        ⟨some 19, .move (.tmp 18), none, false⟩,
        ⟨some 20, .move (.tmp 3), some (some 19, true), false⟩,
        ⟨some 21, .move (.tmp 3), some (some 19, true), false⟩,
        ⟨some 22, .call ⟨.builtin .len, ⟨[(.tmp 21)]⟩, ⟨[t_L_val_open]⟩⟩, some (some 19, true), false⟩,
        ⟨some 23, .binOp .sub t_int (.tmp 22) (.const (.int .i64 1)) t_int, some (some 19, true), false⟩,
        ⟨some 24, .indexAddr t_L_val_open (.tmp 20) (.tmp 23), some (some 19, true), false⟩,
        ⟨some 25, .fieldAddr t_val_open (.tmp 24) 1, some (some 19, true), false⟩,
        ⟨some 26, .load t_int (.tmp 25), some (some 19, true), false⟩,
        ⟨some 27, .binOp .eql t_int (.tmp 26) (.const (.int .i64 0)) t_int, some (some 19, true), false⟩,
        ⟨some 28, .pick (.tmp 19) (.tmp 27) (.const (.bool false)), none, false⟩])
       (.cond (.tmp 28)
        .skip
        (.exit 2)))
       (.block 3 (.reg [⟨some 29, .move (.tmp 3), none, false⟩,
         ⟨some 30, .move (.tmp 3), none, false⟩,
         ⟨some 31, .call ⟨.builtin .len, ⟨[(.tmp 30)]⟩, ⟨[t_L_val_open]⟩⟩, none, false⟩,
         ⟨some 32, .binOp .sub t_int (.tmp 31) (.const (.int .i64 1)) t_int, none, false⟩,
         ⟨some 33, .slice t_L_val_open (.tmp 29) none (some (.tmp 32)) none, none, false⟩,
         ⟨some 3, .assign (.tmp 33), none, false⟩])))))
     (.seq (.seq (.reg [⟨some 34, .move (.tmp 3), none, false⟩,
      ⟨some 35, .call ⟨.builtin .len, ⟨[(.tmp 34)]⟩, ⟨[t_L_val_open]⟩⟩, none, false⟩,
      ⟨some 36, .binOp .eql t_int (.tmp 35) (.const (.int .i64 0)) t_int, none, false⟩,
      ⟨some 37, .move (.tmp 36), none, false⟩,
      ⟨some 38, .load t_api_Node (.tmp 5), some (some 37, false), false⟩,
      ⟨some 39, .call ⟨.value (.func f_val_isPlain), ⟨[(.tmp 38)]⟩, ⟨[t_api_Node]⟩⟩, some (some 37, false), false⟩,
      ⟨some 40, .unOp .not t_bool (.tmp 39), some (some 37, false), false⟩,
      ⟨some 41, .pick (.tmp 37) (.const (.bool true)) (.tmp 40), none, false⟩,
      ⟨some 42, .move (.tmp 41), none, false⟩,
      ⟨some 43, .fieldAddr t_api_Node (.tmp 5) 1, some (some 42, false), false⟩,
      ⟨some 44, .load t_int (.tmp 43), some (some 42, false), false⟩,
      ⟨some 45, .move (.tmp 0), some (some 42, false), false⟩,
      ⟨some 46, .call ⟨.builtin .len, ⟨[(.tmp 45)]⟩, ⟨[t_api_Val]⟩⟩, some (some 42, false), false⟩,
      ⟨some 47, .binOp .gtr t_int (.tmp 44) (.tmp 46) t_int, some (some 42, false), false⟩,
      ⟨some 48, .pick (.tmp 42) (.const (.bool true)) (.tmp 47), none, false⟩])
     (.cond (.tmp 48)
      (.seq (.reg [⟨some 2, .assign (.const (.bool false)), none, false⟩])
      .ret)
      .skip))
     (.seq (.reg [⟨some 49, .move (.tmp 3), none, false⟩,
      ⟨some 50, .move (.tmp 3), none, false⟩,
      ⟨some 51, .call ⟨.builtin .len, ⟨[(.tmp 50)]⟩, ⟨[t_L_val_open]⟩⟩, none, false⟩,
      ⟨some 52, .binOp .sub t_int (.tmp 51) (.const (.int .i64 1)) t_int, none, false⟩,
      ⟨some 53, .indexAddr t_L_val_open (.tmp 49) (.tmp 52), none, false⟩,
      ⟨some 6, .assign (.tmp 53), none, false⟩])
     (.seq (.reg [⟨some 54, .move (.tmp 6), none, false⟩,
      ⟨some 55, .nilCheck (.tmp 54), none, false⟩,
      ⟨some 56, .fieldAddr t_val_open (.tmp 55) 0, none, false⟩,
      ⟨some 57, .load t_int (.tmp 56), none, false⟩,
      ⟨some 58, .binOp .eql t_int (.tmp 57) (.const (.int .i64 6)) t_int, none, false⟩,
      ⟨some 7, .assign (.tmp 58), none, false⟩])
     (.seq (.block 4 (.seq (.reg [⟨some 60, .move (.tmp 7), none, false⟩,
       ⟨some 61, .unOp .not t_bool (.tmp 60), none, false⟩,
       ⟨some 62, .move (.tmp 61), none, false⟩,
       ⟨some 63, .fieldAddr t_api_Node (.tmp 5) 2, some (some 62, true), false⟩,
       ⟨some 64, .load t_string (.tmp 63), some (some 62, true), false⟩,
       ⟨some 65, .binOp .neq t_string (.tmp 64) (.const (.string ⟨⟨[]⟩⟩)) t_string, some (some 62, true), false⟩,
       ⟨some 66, .pick (.tmp 62) (.tmp 65) (.const (.bool false)), none, false⟩,
       ⟨some 59, .assign (.tmp 66), none, false⟩])
      (.cond (.tmp 59)
       (.seq (.reg [⟨some 2, .assign (.const (.bool false)), none, false⟩])
       .ret)
       (.seq (.draw [⟨some 68, .move (.tmp 7), none, false⟩,
        ⟨some 69, .move (.tmp 68), none, false⟩,
        ⟨some 70, .fieldAddr t_api_Node (.tmp 5) 2, some (some 69, true), false⟩,
        ⟨some 71, .load t_string (.tmp 70), some (some 69, true), false⟩,
        ⟨some 72, .call ⟨.value (.func f_unicode_utf8_ValidString), ⟨[(.tmp 71)]⟩, ⟨[t_string]⟩⟩, some (some 69, true), false⟩,
        ⟨some 73, .unOp .not t_bool (.tmp 72), some (some 69, true), false⟩,
        ⟨some 74, .move (.tmp 73), some (some 69, true), false⟩,
        ⟨some 75, .move (.tmp 6), some (some 74, false), false⟩,
        ⟨some 76, .nilCheck (.tmp 75), some (some 74, false), false⟩,
        ⟨some 77, .fieldAddr t_val_open (.tmp 76) 2, some (some 74, false), false⟩,
        ⟨some 78, .load t_bool (.tmp 77), some (some 74, false), false⟩,
        ⟨some 79, .unOp .not t_bool (.tmp 78), some (some 74, false), false⟩,
        ⟨some 80, .move (.tmp 79), some (some 74, false), false⟩,
        ⟨some 81, .fieldAddr t_api_Node (.tmp 5) 2, some (some 80, true), false⟩,
        ⟨some 82, .load t_string (.tmp 81), some (some 80, true), false⟩,
        ⟨some 83, .move (.tmp 6), some (some 80, true), false⟩,
        ⟨some 84, .nilCheck (.tmp 83), some (some 80, true), false⟩,
        ⟨some 85, .fieldAddr t_val_open (.tmp 84) 3, some (some 80, true), false⟩,
        ⟨some 86, .load t_string (.tmp 85), some (some 80, true), false⟩,
        ⟨some 87, .binOp .leq t_string (.tmp 82) (.tmp 86) t_string, some (some 80, true), false⟩,
        ⟨some 88, .pick (.tmp 80) (.tmp 87) (.const (.bool false)), some (some 74, false), false⟩,
        ⟨some 89, .pick (.tmp 74) (.const (.bool true)) (.tmp 88), some (some 69, true), false⟩,
        ⟨some 90, .pick (.tmp 69) (.tmp 89) (.const (.bool false)), none, false⟩,
        ⟨some 67, .assign (.tmp 90), none, false⟩]
       [0, 0, 0, 0, 0, 0, 0, 0, 0, 0, 0, 0, 0, 0, 0, 24576, 24576, 24576, 24576, 0, 0, 0, 0, 0])
       (.cond (.tmp 67)
        (.seq (.reg [⟨some 2, .assign (.const (.bool false)), none, false⟩])
        .ret)
        .skip)))))
     (.seq (.reg [⟨some 91, .move (.tmp 6), none, false⟩,
      ⟨some 92, .nilCheck (.tmp 91), none, false⟩,
      ⟨some 93, .fieldAddr t_val_open (.tmp 92) 1, none, false⟩,
      ⟨some 94, .load t_int (.tmp 93), none, false⟩,
      ⟨some 95, .binOp .sub t_int (.tmp 94) (.const (.int .i64 1)) t_int, none, false⟩,
      ⟨some 96, .nilCheck (.tmp 91), none, false⟩,
      ⟨some 97, .fieldAddr t_val_open (.tmp 96) 1, none, false⟩,
      ⟨none, .store t_int (.tmp 97) (.tmp 95), none, false⟩])
     (.seq (.draw [⟨some 98, .move (.tmp 6), none, false⟩,
      ⟨some 99, .move (.tmp 6), none, false⟩,
      ⟨some 100, .fieldAddr t_api_Node (.tmp 5) 2, none, false⟩,
      ⟨some 101, .load t_string (.tmp 100), none, false⟩,
      ⟨some 102, .nilCheck (.tmp 98), none, false⟩,
      ⟨some 103, .fieldAddr t_val_open (.tmp 102) 2, none, false⟩,
      ⟨none, .store t_bool (.tmp 103) (.const (.bool false)), none, false⟩,
      ⟨some 104, .nilCheck (.tmp 99), none, false⟩,
      ⟨some 105, .fieldAddr t_val_open (.tmp 104) 3, none, false⟩,
      ⟨none, .store t_string (.tmp 105) (.tmp 101), none, false⟩]
     [0, 1, 3, 3, 14, 14, 14, 0, 0, 0])
     (.reg [⟨some 106, .move (.tmp 3), none, false⟩,
      ⟨some 107, .fieldAddr t_api_Node (.tmp 5) 0, none, false⟩,
      ⟨some 108, .load t_int (.tmp 107), none, false⟩,
      ⟨some 109, .fieldAddr t_api_Node (.tmp 5) 1, none, false⟩,
      ⟨some 110, .load t_int (.tmp 109), none, false⟩,
      ⟨some 111, .build t_val_open ⟨[(0, (.tmp 108)), (1, (.tmp 110)), (2, (.const (.bool true)))]⟩, none, false⟩,
      ⟨some 112, .buildSlice t_L_val_open 1 ⟨[(0, (.tmp 111))]⟩, none, false⟩,
      ⟨some 113, .call ⟨.builtin .append, ⟨[(.tmp 106), (.tmp 112)]⟩, ⟨[t_L_val_open, t_L_val_open]⟩⟩, none, false⟩,
      ⟨some 3, .assign (.tmp 113), none, false⟩]))))))))))
    (.reg [⟨some 114, .binOp .add t_int (.tmp 12) (.const (.int .i64 1)) t_int, none, false⟩,
     ⟨some 12, .move (.tmp 114), none, false⟩])))))))
  (.seq (.weak (.reg [⟨some 115, .move (.tmp 0), none, false⟩,
   ⟨some 116, .call ⟨.builtin .len, ⟨[(.tmp 115)]⟩, ⟨[t_api_Val]⟩⟩, none, false⟩,
   ⟨some 117, .binOp .gtr t_int (.tmp 116) (.const (.int .i64 0)) t_int, none, false⟩,
   ⟨some 118, .move (.tmp 117), none, false⟩,
   ⟨some 119, .move (.tmp 3), some (some 118, true), false⟩,
   ⟨some 120, .call ⟨.value (.func f_slices_ContainsFunc_L_val_open_val_open_), ⟨[(.tmp 119), (.func f_val_Right_1)]⟩, ⟨[t_L_val_open, t_func_val_open__bool]⟩⟩, some (some 118, true), false⟩,
   ⟨some 121, .unOp .not t_bool (.tmp 120), some (some 118, true), false⟩,
   ⟨some 122, .pick (.tmp 118) (.tmp 121) (.const (.bool false)), none, false⟩,
   ⟨some 2, .assign (.tmp 122), none, false⟩]))
  .ret))))
theorem k_val_Right : FnOk Tryd.prog f_val_Right 123 [.tmp 2] c_val_Right := ⟨_, _, Tryd.func16, by kernel_rfl, rfl, Tryd.ntmps16, rfl, by kernel_rfl⟩

def c_val_Right_1 : LC :=
  (.seq (.reg [⟨some 1, .box t_val_open (.tmp 0), none, false⟩,
   ⟨some 2, .assign (.const (.bool false)), none, false⟩])
  (.seq (.reg [⟨some 3, .fieldAddr t_val_open (.tmp 1) 1, none, false⟩,
   ⟨some 4, .load t_int (.tmp 3), none, false⟩,
   ⟨some 5, .binOp .gtr t_int (.tmp 4) (.const (.int .i64 0)) t_int, none, false⟩,
   ⟨some 2, .assign (.tmp 5), none, false⟩])
  .ret))
theorem k_val_Right_1 : FnOk Tryd.prog f_val_Right_1 6 [.tmp 2] c_val_Right_1 := ⟨_, _, Tryd.func40, by kernel_rfl, rfl, Tryd.ntmps40, rfl, by kernel_rfl⟩

def c_slices_ContainsFunc_L_val_open_val_open_ : LC :=
  (.seq (.reg [⟨some 4, .assign (.const (.bool false)), none, false⟩])
  (.seq (.reg [⟨some 5, .move (.tmp 0), none, false⟩,
   ⟨some 6, .move (.tmp 1), none, false⟩,
   ⟨some 7, .call ⟨.value (.func f_slices_IndexFunc_L_val_open_val_open_), ⟨[(.tmp 5), (.tmp 6)]⟩, ⟨[t_L_val_open, t_func_val_open__bool]⟩⟩, none, false⟩,
   ⟨some 8, .binOp .geq t_int (.tmp 7) (.const (.int .i64 0)) t_int, none, false⟩,
   ⟨some 4, .assign (.tmp 8), none, false⟩])
  .ret))
theorem k_slices_ContainsFunc_L_val_open_val_open_ : FnOk Tryd.prog f_slices_ContainsFunc_L_val_open_val_open_ 9 [.tmp 4] c_slices_ContainsFunc_L_val_open_val_open_ := ⟨_, _, Tryd.func39, by kernel_rfl, rfl, Tryd.ntmps39, rfl, by kernel_rfl⟩

def c_slices_IndexFunc_L_val_open_val_open_ : LC :=
  (.seq (.reg [⟨some 4, .assign (.const (.int .i64 0)), none, false⟩])
  (.seq (.seq (.reg [⟨some 6, .move (.tmp 0), none, false⟩,
   ⟨some 7, .call ⟨.builtin .len, ⟨[(.tmp 6)]⟩, ⟨[t_L_val_open]⟩⟩, none, false⟩,
   ⟨some 8, .move (.const (.int .i64 0)), none, false⟩])
  (.block 0 (.loop [true, true, false, false, false, false, false, true, true, false, false, false, false, false, false, false, false, false, false] none
   (.seq (.reg [⟨some 9, .binOp .lss t_int (.tmp 8) (.tmp 7) t_int, none, false⟩])
    (.seq (.cond (.tmp 9)
     .skip
     (.exit 0))
    (.seq (.block 1 (.seq (.reg [⟨some 10, .move (.tmp 8), none, false⟩,
      ⟨some 5, .assign (.tmp 10), none, false⟩])
     (.seq (.reg [⟨some 11, .move (.tmp 1), none, false⟩,
      ⟨some 12, .move (.tmp 0), none, false⟩,
      ⟨some 13, .move (.tmp 5), none, false⟩,
      ⟨some 14, .indexAddr t_L_val_open (.tmp 12) (.tmp 13), none, false⟩,
      ⟨some 15, .load t_val_open (.tmp 14), none, false⟩,
      ⟨some 16, .call ⟨.value (.tmp 11), ⟨[(.tmp 15)]⟩, ⟨[t_val_open]⟩⟩, none, false⟩])
     (.cond (.tmp 16)
      (.seq (.reg [⟨some 17, .move (.tmp 5), none, false⟩,
       ⟨some 4, .assign (.tmp 17), none, false⟩])
      .ret)
      .skip))))
    (.reg [⟨some 18, .binOp .add t_int (.tmp 8) (.const (.int .i64 1)) t_int, none, false⟩,
     ⟨some 8, .move (.tmp 18), none, false⟩])))))))
  (.seq (.reg [⟨some 4, .assign (.const (.int .i64 (-1))), none, false⟩])
  .ret)))
theorem k_slices_IndexFunc_L_val_open_val_open_ : FnOk Tryd.prog f_slices_IndexFunc_L_val_open_val_open_ 19 [.tmp 4] c_slices_IndexFunc_L_val_open_val_open_ := ⟨_, _, Tryd.func54, by kernel_rfl, rfl, Tryd.ntmps54, rfl, by kernel_rfl⟩

def c_val_List : LC :=
  (.seq (.reg [⟨some 2, .assign (.const (.slice none 0 0)), none, false⟩])
  (.seq (.reg [⟨some 3, .move (.tmp 0), none, false⟩,
   ⟨some 4, .call ⟨.builtin .len, ⟨[(.tmp 3)]⟩, ⟨[t_L_api_Val]⟩⟩, none, false⟩,
   ⟨some 5, .build t_api_Node ⟨[(0, (.const (.int .i64 5))), (1, (.tmp 4))]⟩, none, false⟩,
   ⟨some 6, .buildSlice t_api_Val 1 ⟨[(0, (.tmp 5))]⟩, none, true⟩,
   ⟨some 7, .move (.tmp 0), none, false⟩,
   ⟨some 8, .call ⟨.value (.func f_slices_Concat_api_Val_api_Node_), ⟨[(.tmp 7)]⟩, ⟨[t_L_api_Val]⟩⟩, none, false⟩,
   ⟨some 9, .call ⟨.builtin .append, ⟨[(.tmp 6), (.tmp 8)]⟩, ⟨[t_api_Val, t_api_Val]⟩⟩, none, false⟩,
   ⟨some 2, .assign (.tmp 9), none, false⟩])
  .ret))
theorem k_val_List : FnOk Tryd.prog f_val_List 10 [.tmp 2] c_val_List := ⟨_, _, Tryd.func12, by kernel_rfl, rfl, Tryd.ntmps12, rfl, by kernel_rfl⟩

def c_slices_Concat_api_Val_api_Node_ : LC :=
  (.seq (.reg [⟨some 2, .assign (.const (.slice none 0 0)), none, false⟩])
  (.seq (.reg [⟨some 3, .assign (.const (.int .i64 0)), none, false⟩])
  (.seq (.seq (.reg [⟨some 9, .move (.tmp 0), none, false⟩,
   ⟨some 10, .call ⟨.builtin .len, ⟨[(.tmp 9)]⟩, ⟨[t_L_api_Val]⟩⟩, none, false⟩,
   ⟨some 11, .move (.const (.int .i64 0)), none, false⟩])
  (.block 0 (.loop [true, false, false, true, false, false, false, false, false, true, true, true, false, false, false, false, false, false, false, false, false, false, false, false, false, false, false, false, false, false, false, false, false, false, false, false] none
   (.seq (.reg [⟨some 12, .binOp .lss t_int (.tmp 11) (.tmp 10) t_int, none, false⟩])
    (.seq (.cond (.tmp 12)
     .skip
     (.exit 0))
    (.seq (.block 1 (.seq (.reg [⟨some 13, .indexAddr t_L_api_Val (.tmp 9) (.tmp 11), none, false⟩,
      ⟨some 14, .load t_api_Val (.tmp 13), none, false⟩,
      ⟨some 5, .assign (.tmp 14), none, false⟩])
     (.seq (.reg [⟨some 15, .move (.tmp 3), none, false⟩,
      ⟨some 16, .move (.tmp 5), none, false⟩,
      ⟨some 17, .call ⟨.builtin .len, ⟨[(.tmp 16)]⟩, ⟨[t_api_Val]⟩⟩, none, false⟩,
      ⟨some 18, .binOp .add t_int (.tmp 15) (.tmp 17) t_int, none, false⟩,
      ⟨some 3, .assign (.tmp 18), none, false⟩])
     (.seq (.reg [⟨some 19, .move (.tmp 3), none, false⟩,
      ⟨some 20, .binOp .lss t_int (.tmp 19) (.const (.int .i64 0)) t_int, none, false⟩])
     (.cond (.tmp 20)
      (.reg [⟨some 21, .makeInterface t_string (.const (.string ⟨⟨[108, 101, 110, 32, 111, 117, 116, 32, 111, 102, 32, 114, 97, 110, 103, 101]⟩⟩)), none, false⟩,
       ⟨none, .panic (.tmp 21), none, false⟩])
      .skip)))))
    (.reg [⟨some 22, .binOp .add t_int (.tmp 11) (.const (.int .i64 1)) t_int, none, false⟩,
     ⟨some 11, .move (.tmp 22), none, false⟩])))))))
  (.seq (.reg [⟨some 23, .move (.tmp 3), none, false⟩,
   ⟨some 24, .call ⟨.value (.func f_slices_Grow_api_Val_api_Node_), ⟨[(.const (.slice none 0 0)), (.tmp 23)]⟩, ⟨[t_api_Val, t_int]⟩⟩, none, false⟩,
   ⟨some 6, .assign (.tmp 24), none, false⟩])
  (.seq (.seq (.reg [⟨some 25, .move (.tmp 0), none, false⟩,
   ⟨some 26, .call ⟨.builtin .len, ⟨[(.tmp 25)]⟩, ⟨[t_L_api_Val]⟩⟩, none, false⟩,
   ⟨some 27, .move (.const (.int .i64 0)), none, false⟩])
  (.block 2 (.loop [false, false, false, false, false, false, true, false, false, false, false, false, false, false, false, false, false, false, false, false, false, false, false, false, false, true, true, true, false, false, false, false, false, false, false, false] none
   (.seq (.reg [⟨some 28, .binOp .lss t_int (.tmp 27) (.tmp 26) t_int, none, false⟩])
    (.seq (.cond (.tmp 28)
     .skip
     (.exit 2))
    (.seq (.block 3 (.seq (.reg [⟨some 29, .indexAddr t_L_api_Val (.tmp 25) (.tmp 27), none, false⟩,
      ⟨some 30, .load t_api_Val (.tmp 29), none, false⟩,
      ⟨some 8, .assign (.tmp 30), none, false⟩])
     (.reg [⟨some 31, .move (.tmp 6), none, false⟩,
      ⟨some 32, .move (.tmp 8), none, false⟩,
      ⟨some 33, .call ⟨.builtin .append, ⟨[(.tmp 31), (.tmp 32)]⟩, ⟨[t_api_Val, t_api_Val]⟩⟩, none, false⟩,
      ⟨some 6, .assign (.tmp 33), none, false⟩])))
    (.reg [⟨some 34, .binOp .add t_int (.tmp 27) (.const (.int .i64 1)) t_int, none, false⟩,
     ⟨some 27, .move (.tmp 34), none, false⟩])))))))
  (.seq (.reg [⟨some 35, .move (.tmp 6), none, false⟩,
   ⟨some 2, .assign (.tmp 35), none, false⟩])
  .ret))))))
theorem k_slices_Concat_api_Val_api_Node_ : FnOk Tryd.prog f_slices_Concat_api_Val_api_Node_ 36 [.tmp 2] c_slices_Concat_api_Val_api_Node_ := ⟨_, _, Tryd.func33, by kernel_rfl, rfl, Tryd.ntmps33, rfl, by kernel_rfl⟩

def c_val_laid : LC :=
  (.seq (.reg [⟨some 4, .assign (.const (.slice none 0 0)), none, false⟩])
  (.seq (.reg [⟨some 9, .move (.tmp 1), none, false⟩,
   ⟨some 10, .call ⟨.builtin .len, ⟨[(.tmp 9)]⟩, ⟨[t_L_api_Val]⟩⟩, none, false⟩,
   ⟨some 11, .build t_api_Node ⟨[(0, (.const (.int .i64 6))), (1, (.tmp 10))]⟩, none, false⟩,
   ⟨some 12, .buildSlice t_api_Val 1 ⟨[(0, (.tmp 11))]⟩, none, true⟩,
   ⟨some 5, .assign (.tmp 12), none, false⟩])
  (.seq (.seq (.reg [⟨some 13, .move (.tmp 1), none, false⟩,
   ⟨some 14, .call ⟨.builtin .len, ⟨[(.tmp 13)]⟩, ⟨[t_L_api_Val]⟩⟩, none, false⟩,
   ⟨some 15, .move (.const (.int .i64 0)), none, false⟩])
  (.block 0 (.loop [true, false, false, false, false, true, false, false, false, false, false, false, false, true, true, true, false, false, false, false, false, false, false, false, false, false, false, false, false, false, false, false, false, false, false] none
   (.seq (.reg [⟨some 16, .binOp .lss t_int (.tmp 15) (.tmp 14) t_int, none, false⟩])
    (.seq (.cond (.tmp 16)
     .skip
     (.exit 0))
    (.seq (.block 1 (.seq (.reg [⟨some 17, .move (.tmp 15), none, false⟩,
      ⟨some 18, .indexAddr t_L_api_Val (.tmp 13) (.tmp 15), none, false⟩,
      ⟨some 19, .load t_api_Val (.tmp 18), none, false⟩,
      ⟨some 6, .assign (.tmp 17), none, false⟩,
      ⟨some 7, .assign (.tmp 19), none, false⟩])
     (.seq (.reg [⟨some 20, .move (.tmp 5), none, false⟩,
      ⟨some 21, .call ⟨.builtin .len, ⟨[(.tmp 20)]⟩, ⟨[t_api_Val]⟩⟩, none, false⟩,
      ⟨some 8, .assign (.tmp 21), none, false⟩])
     (.seq (.reg [⟨some 22, .move (.tmp 5), none, false⟩,
      ⟨some 23, .move (.tmp 7), none, false⟩,
      ⟨some 24, .call ⟨.builtin .append, ⟨[(.tmp 22), (.tmp 23)]⟩, ⟨[t_api_Val, t_api_Val]⟩⟩, none, false⟩,
      ⟨some 5, .assign (.tmp 24), none, false⟩])
     (.reg [⟨some 25, .move (.tmp 5), none, false⟩,
      ⟨some 26, .move (.tmp 8), none, false⟩,
      ⟨some 27, .move (.tmp 0), none, false⟩,
      ⟨some 28, .move (.tmp 6), none, false⟩,
      ⟨some 29, .indexAddr t_L_string (.tmp 27) (.tmp 28), none, false⟩,
      ⟨some 30, .load t_string (.tmp 29), none, false⟩,
      ⟨some 31, .indexAddr t_api_Val (.tmp 25) (.tmp 26), none, false⟩,
      ⟨some 32, .fieldAddr t_api_Node (.tmp 31) 2, none, false⟩,
      ⟨none, .store t_string (.tmp 32) (.tmp 30), none, false⟩])))))
    (.reg [⟨some 33, .binOp .add t_int (.tmp 15) (.const (.int .i64 1)) t_int, none, false⟩,
     ⟨some 15, .move (.tmp 33), none, false⟩])))))))
  (.seq (.reg [⟨some 34, .move (.tmp 5), none, false⟩,
   ⟨some 4, .assign (.tmp 34), none, false⟩])
  .ret))))
theorem k_val_laid : FnOk Tryd.prog f_val_laid 35 [.tmp 4] c_val_laid := ⟨_, _, Tryd.func30, by kernel_rfl, rfl, Tryd.ntmps30, rfl, by kernel_rfl⟩

def c_val_Object : LC :=
  (.seq (.reg [⟨some 4, .assign (.const (.slice none 0 0)), none, false⟩,
   ⟨some 5, .assign (.const (.int .i64 0)), none, false⟩])
  (.seq (.seq (.reg [⟨some 15, .move (.tmp 0), none, false⟩,
   ⟨some 16, .call ⟨.builtin .len, ⟨[(.tmp 15)]⟩, ⟨[t_L_string]⟩⟩, none, false⟩,
   ⟨some 17, .move (.tmp 1), none, false⟩,
   ⟨some 18, .call ⟨.builtin .len, ⟨[(.tmp 17)]⟩, ⟨[t_L_api_Val]⟩⟩, none, false⟩,
   ⟨some 19, .binOp .neq t_int (.tmp 16) (.tmp 18) t_int, none, false⟩])
  (.cond (.tmp 19)
   (.seq (.reg [⟨some 4, .assign (.const (.slice none 0 0)), none, false⟩,
    ⟨some 5, .assign (.const (.int .i64 4)), none, false⟩])
   .ret)
   .skip))
  (.seq (.reg [⟨some 20, .makeMap t_map_string_api_Val none, none, false⟩,
   ⟨some 6, .assign (.tmp 20), none, false⟩])
  (.seq (.seq (.reg [⟨some 21, .move (.tmp 0), none, false⟩,
   ⟨some 22, .call ⟨.builtin .len, ⟨[(.tmp 21)]⟩, ⟨[t_L_string]⟩⟩, none, false⟩,
   ⟨some 23, .move (.const (.int .i64 0)), none, false⟩])
  (.block 0 (.loop [true, true, false, false, false, false, true, false, false, false, false, false, false, false, false, false, false, false, false, false, false, true, true, true, false, false, false, false, false, false, false, false, false, false, false, false, false, false, false, false, false, false, false, false, false, false, false, false, false, false, false, false, false, false, false, false, false, false, false, false, false, false, false, false, false, false] none
   (.seq (.reg [⟨some 24, .binOp .lss t_int (.tmp 23) (.tmp 22) t_int, none, false⟩])
    (.seq (.cond (.tmp 24)
     .skip
     (.exit 0))
    (.seq (.block 1 (.seq (.reg [⟨some 25, .move (.tmp 23), none, false⟩,
      ⟨some 26, .indexAddr t_L_string (.tmp 21) (.tmp 23), none, false⟩,
      ⟨some 27, .load t_string (.tmp 26), none, false⟩,
      ⟨some 7, .assign (.tmp 25), none, false⟩,
      ⟨some 8, .assign (.tmp 27), none, false⟩])
     (.seq (.seq (.reg [⟨some 29, .move (.tmp 6), none, false⟩,
      ⟨some 30, .move (.tmp 8), none, false⟩,
      ⟨some 31, .lookup t_map_string_api_Val (.tmp 29) (.tmp 30) true, none, false⟩,
      ⟨some 28, .move (.tmp 31), none, false⟩,
      ⟨some 32, .extract (.tmp 28) 0, none, false⟩,
      ⟨some 33, .extract (.tmp 28) 1, none, false⟩,
      ⟨some 9, .assign (.tmp 32), none, false⟩,
      ⟨some 10, .assign (.tmp 33), none, false⟩])
     (.seq (.reg [⟨some 34, .move (.tmp 10), none, false⟩,
      ⟨some 35, .move (.tmp 34), none, false⟩,
      ⟨some 36, .move (.tmp 8), some (some 35, false), false⟩,
      ⟨some 37, .call ⟨.value (.func f_unicode_utf8_ValidString), ⟨[(.tmp 36)]⟩, ⟨[t_string]⟩⟩, some (some 35, false), false⟩,
      ⟨some 38, .unOp .not t_bool (.tmp 37), some (some 35, false), false⟩,
      ⟨some 39, .pick (.tmp 35) (.const (.bool true)) (.tmp 38), none, false⟩])
     (.cond (.tmp 39)
      (.seq (.reg [⟨some 4, .assign (.const (.slice none 0 0)), none, false⟩,
       ⟨some 5, .assign (.const (.int .i64 4)), none, false⟩])
      .ret)
      .skip)))
     (.reg [⟨some 40, .move (.tmp 6), none, false⟩,
      ⟨some 41, .move (.tmp 8), none, false⟩,
      ⟨some 42, .move (.tmp 1), none, false⟩,
      ⟨some 43, .move (.tmp 7), none, false⟩,
      ⟨some 44, .indexAddr t_L_api_Val (.tmp 42) (.tmp 43), none, false⟩,
      ⟨some 45, .load t_api_Val (.tmp 44), none, false⟩,
      ⟨none, .mapUpdate t_map_string_api_Val (.tmp 40) (.tmp 41) (.tmp 45), none, false⟩]))))
    (.reg [⟨some 46, .binOp .add t_int (.tmp 23) (.const (.int .i64 1)) t_int, none, false⟩,
     ⟨some 23, .move (.tmp 46), none, false⟩])))))))
  (.seq (.reg [⟨some 47, .move (.tmp 0), none, false⟩,
   ⟨some 48, .call ⟨.value (.func f_slices_Values_L_string_string_), ⟨[(.tmp 47)]⟩, ⟨[t_L_string]⟩⟩, none, false⟩,
   ⟨some 49, .call ⟨.value (.func f_slices_Sorted_string_), ⟨[(.tmp 48)]⟩, ⟨[t_iter_Seq_string_]⟩⟩, none, false⟩,
   ⟨some 11, .assign (.tmp 49), none, false⟩])
  (.seq (.reg [⟨some 12, .assign (.const (.slice none 0 0)), none, false⟩])
  (.seq (.seq (.reg [⟨some 50, .move (.tmp 11), none, false⟩,
   ⟨some 51, .call ⟨.builtin .len, ⟨[(.tmp 50)]⟩, ⟨[t_L_string]⟩⟩, none, false⟩,
   ⟨some 52, .move (.const (.int .i64 0)), none, false⟩])
  (.block 2 (.loop [false, false, false, false, false, false, true, false, false, false, false, true, true, false, false, false, false, false, false, false, false, false, false, false, false, false, false, false, false, false, false, false, false, false, false, false, false, false, false, false, false, false, false, false, false, false, false, false, false, false, true, true, true, false, false, false, false, false, false, false, false, false, false, false, false, false] none
   (.seq (.reg [⟨some 53, .binOp .lss t_int (.tmp 52) (.tmp 51) t_int, none, false⟩])
    (.seq (.cond (.tmp 53)
     .skip
     (.exit 2))
    (.seq (.block 3 (.seq (.reg [⟨some 54, .indexAddr t_L_string (.tmp 50) (.tmp 52), none, false⟩,
      ⟨some 55, .load t_string (.tmp 54), none, false⟩,
      ⟨some 14, .assign (.tmp 55), none, false⟩])
     (.reg [⟨some 56, .move (.tmp 12), none, false⟩,
      ⟨some 57, .move (.tmp 6), none, false⟩,
      ⟨some 58, .move (.tmp 14), none, false⟩,
      ⟨some 59, .lookup t_map_string_api_Val (.tmp 57) (.tmp 58) false, none, false⟩,
      ⟨some 60, .buildSlice t_L_api_Val 1 ⟨[(0, (.tmp 59))]⟩, none, false⟩,
      ⟨some 61, .call ⟨.builtin .append, ⟨[(.tmp 56), (.tmp 60)]⟩, ⟨[t_L_api_Val, t_L_api_Val]⟩⟩, none, false⟩,
      ⟨some 12, .assign (.tmp 61), none, false⟩])))
    (.reg [⟨some 62, .binOp .add t_int (.tmp 52) (.const (.int .i64 1)) t_int, none, false⟩,
     ⟨some 52, .move (.tmp 62), none, false⟩])))))))
  (.seq (.weak (.reg [⟨some 63, .move (.tmp 11), none, false⟩,
   ⟨some 64, .move (.tmp 12), none, false⟩,
   ⟨some 65, .call ⟨.value (.func f_val_laid), ⟨[(.tmp 63), (.tmp 64)]⟩, ⟨[t_L_string, t_L_api_Val]⟩⟩, none, false⟩,
   ⟨some 4, .assign (.tmp 65), none, false⟩,
   ⟨some 5, .assign (.const (.int .i64 0)), none, false⟩]))
  .ret))))))))
theorem k_val_Object : FnOk Tryd.prog f_val_Object 66 [.tmp 4, .tmp 5] c_val_Object := ⟨_, _, Tryd.func9, by kernel_rfl, rfl, Tryd.ntmps9, rfl, by kernel_rfl⟩

def c_slices_Sorted_string_ : LC :=
  (.seq (.reg [⟨some 2, .assign (.const (.slice none 0 0)), none, false⟩])
  (.seq (.reg [⟨some 4, .move (.tmp 0), none, false⟩,
   ⟨some 5, .call ⟨.value (.func f_slices_Collect_string_), ⟨[(.tmp 4)]⟩, ⟨[t_iter_Seq_string_]⟩⟩, none, false⟩,
   ⟨some 3, .assign (.tmp 5), none, false⟩])
  (.seq (.reg [⟨some 6, .move (.tmp 3), none, false⟩,
   ⟨some 7, .call ⟨.value (.func f_slices_Sort_L_string_string_), ⟨[(.tmp 6)]⟩, ⟨[t_L_string]⟩⟩, none, false⟩])
  (.seq (.reg [⟨some 8, .move (.tmp 3), none, false⟩,
   ⟨some 2, .assign (.tmp 8), none, false⟩])
  .ret))))
theorem k_slices_Sorted_string_ : FnOk Tryd.prog f_slices_Sorted_string_ 9 [.tmp 2] c_slices_Sorted_string_ := ⟨_, _, Tryd.func28, by kernel_rfl, rfl, Tryd.ntmps28, rfl, by kernel_rfl⟩

def c_slices_Values_L_string_string_ : LC :=
  (.seq (.reg [⟨some 1, .box t_L_string (.tmp 0), none, false⟩,
   ⟨some 2, .assign (.const (.nilFunc)), none, false⟩])
  (.seq (.reg [⟨some 3, .makeFunc (.func f_slices_Values_L_string_string__1) ⟨[]⟩ ⟨[(.tmp 1)]⟩, none, false⟩,
   ⟨some 2, .assign (.tmp 3), none, false⟩])
  .ret))
theorem k_slices_Values_L_string_string_ : FnOk Tryd.prog f_slices_Values_L_string_string_ 4 [.tmp 2] c_slices_Values_L_string_string_ := ⟨_, _, Tryd.func29, by kernel_rfl, rfl, Tryd.ntmps29, rfl, by kernel_rfl⟩

def c_slices_Values_L_string_string__1 : LC :=
  (.seq (.reg [⟨some 5, .load t_L_string (.tmp 1), none, false⟩,
   ⟨some 6, .call ⟨.builtin .len, ⟨[(.tmp 5)]⟩, ⟨[t_L_string]⟩⟩, none, false⟩,
   ⟨some 7, .move (.const (.int .i64 0)), none, false⟩])
  (.block 0 (.loop [true, false, false, false, false, true, true, true, false, false, false, false, false, false, false, false] none
   (.seq (.reg [⟨some 8, .binOp .lss t_int (.tmp 7) (.tmp 6) t_int, none, false⟩])
    (.seq (.cond (.tmp 8)
     .skip
     (.exit 0))
    (.seq (.block 1 (.seq (.reg [⟨some 9, .indexAddr t_L_string (.tmp 5) (.tmp 7), none, false⟩,
      ⟨some 10, .load t_string (.tmp 9), none, false⟩,
      ⟨some 4, .assign (.tmp 10), none, false⟩])
     (.seq (.reg [⟨some 11, .move (.tmp 0), none, false⟩,
      ⟨some 12, .move (.tmp 4), none, false⟩,
      ⟨some 13, .call ⟨.value (.tmp 11), ⟨[(.tmp 12)]⟩, ⟨[t_string]⟩⟩, none, false⟩,
      ⟨some 14, .unOp .not t_bool (.tmp 13), none, false⟩])
     (.cond (.tmp 14)
      .ret
      .skip))))
    (.reg [⟨some 15, .binOp .add t_int (.tmp 7) (.const (.int .i64 1)) t_int, none, false⟩,
     ⟨some 7, .move (.tmp 15), none, false⟩])))))))
theorem k_slices_Values_L_string_string__1 : FnOk Tryd.prog f_slices_Values_L_string_string__1 16 [] c_slices_Values_L_string_string__1 := ⟨_, _, Tryd.func46, by kernel_rfl, rfl, Tryd.ntmps46, rfl, by kernel_rfl⟩

def c_slices_Collect_string_ : LC :=
  (.seq (.reg [⟨some 2, .assign (.const (.slice none 0 0)), none, false⟩])
  (.seq (.reg [⟨some 3, .move (.tmp 0), none, false⟩,
   ⟨some 4, .call ⟨.value (.func f_slices_AppendSeq_L_string_string_), ⟨[(.const (.slice none 0 0)), (.tmp 3)]⟩, ⟨[t_L_string, t_iter_Seq_string_]⟩⟩, none, false⟩,
   ⟨some 2, .assign (.tmp 4), none, false⟩])
  .ret))
theorem k_slices_Collect_string_ : FnOk Tryd.prog f_slices_Collect_string_ 5 [.tmp 2] c_slices_Collect_string_ := ⟨_, _, Tryd.func44, by kernel_rfl, rfl, Tryd.ntmps44, rfl, by kernel_rfl⟩

def c_slices_AppendSeq_L_string_string_ : LC :=
  (.seq (.reg [⟨some 2, .box t_L_string (.tmp 0), none, false⟩,
   ⟨some 4, .assign (.const (.slice none 0 0)), none, false⟩])
  (.seq (.seq (.reg [⟨some 6, .move (.tmp 1), none, false⟩])
  (.block 0 (.rf (.tmp 6) [7] none
    (.reg [⟨some 5, .assign (.tmp 7), none, false⟩])
    (.block 1 (.reg [⟨some 8, .load t_L_string (.tmp 2), none, false⟩,
      ⟨some 9, .move (.tmp 5), none, false⟩,
      ⟨some 10, .buildSlice t_L_string 1 ⟨[(0, (.tmp 9))]⟩, none, false⟩,
      ⟨some 11, .call ⟨.builtin .append, ⟨[(.tmp 8), (.tmp 10)]⟩, ⟨[t_L_string, t_L_string]⟩⟩, none, false⟩,
      ⟨none, .store t_L_string (.tmp 2) (.tmp 11), none, false⟩])))))
  (.seq (.reg [⟨some 12, .load t_L_string (.tmp 2), none, false⟩,
   ⟨some 4, .assign (.tmp 12), none, false⟩])
  .ret)))
theorem k_slices_AppendSeq_L_string_string_ : FnOk Tryd.prog f_slices_AppendSeq_L_string_string_ 13 [.tmp 4] c_slices_AppendSeq_L_string_string_ := ⟨_, _, Tryd.func55, by kernel_rfl, rfl, Tryd.ntmps55, rfl, by kernel_rfl⟩

def c_val_Field : LC :=
  (.seq (.reg [⟨some 3, .box t_string (.tmp 1), none, false⟩,
   ⟨some 4, .alloc t_api_Val, none, false⟩,
   ⟨some 5, .alloc t_bool, none, false⟩])
  (.seq (.seq (.reg [⟨some 8, .move (.tmp 0), none, false⟩,
   ⟨some 9, .indexAddr t_api_Val (.tmp 8) (.const (.int .i64 0)), none, false⟩,
   ⟨some 10, .fieldAddr t_api_Node (.tmp 9) 0, none, false⟩,
   ⟨some 11, .load t_int (.tmp 10), none, false⟩,
   ⟨some 12, .binOp .neq t_int (.tmp 11) (.const (.int .i64 6)) t_int, none, false⟩])
  (.cond (.tmp 12)
   (.seq (.reg [⟨none, .store t_api_Val (.tmp 4) (.const (.slice none 0 0)), none, false⟩,
    ⟨none, .store t_bool (.tmp 5) (.const (.bool false)), none, false⟩])
   .ret)
   .skip))
  (.seq (.seq (.reg [⟨some 13, .move (.tmp 0), none, false⟩,
   ⟨some 14, .call ⟨.value (.func f_val_each), ⟨[(.tmp 13)]⟩, ⟨[t_api_Val]⟩⟩, none, false⟩])
  (.block 0 (.rf (.tmp 14) [15, 16] none
    (.seq (.reg [⟨some 6, .assign (.tmp 15), none, false⟩])
    (.reg [⟨some 7, .assign (.tmp 16), none, false⟩]))
    (.block 1 (.seq (.reg [⟨some 17, .move (.tmp 6), none, false⟩,
      ⟨some 18, .load t_string (.tmp 3), none, false⟩,
      ⟨some 19, .binOp .eql t_string (.tmp 17) (.tmp 18) t_string, none, false⟩])
     (.cond (.tmp 19)
      (.seq (.reg [⟨some 20, .move (.tmp 7), none, false⟩,
       ⟨none, .store t_api_Val (.tmp 4) (.tmp 20), none, false⟩,
       ⟨none, .store t_bool (.tmp 5) (.const (.bool true)), none, false⟩])
      .ret)
      .skip))))))
  (.seq (.reg [⟨none, .store t_api_Val (.tmp 4) (.const (.slice none 0 0)), none, false⟩,
   ⟨none, .store t_bool (.tmp 5) (.const (.bool false)), none, false⟩])
  .ret))))
theorem k_val_Field : FnOk Tryd.prog f_val_Field 21 [.cell 4 t_api_Val, .cell 5 t_bool] c_val_Field := ⟨_, _, Tryd.func26, by kernel_rfl, rfl, Tryd.ntmps26, rfl, by kernel_rfl⟩

def c_loupelaw02_alive : LC :=
  (.seq (.reg [⟨some 0, .assign (.const (.bool false)), none, false⟩])
  (.seq (.reg [⟨some 9, .build t_api_Node ⟨[(0, (.const (.int .i64 2)))]⟩, none, false⟩,
   ⟨some 10, .buildSlice t_api_Val 1 ⟨[(0, (.tmp 9))]⟩, none, false⟩,
   ⟨some 1, .assign (.tmp 10), none, false⟩])
  (.seq (.reg [⟨some 11, .move (.tmp 1), none, false⟩,
   ⟨some 12, .move (.tmp 1), none, false⟩,
   ⟨some 13, .buildSlice t_L_api_Val 2 ⟨[(0, (.tmp 11)), (1, (.tmp 12))]⟩, none, false⟩,
   ⟨some 14, .call ⟨.value (.func f_val_List), ⟨[(.tmp 13)]⟩, ⟨[t_L_api_Val]⟩⟩, none, false⟩,
   ⟨some 2, .assign (.tmp 14), none, false⟩])
  (.seq (.reg [⟨some 16, .buildSlice t_L_string 2 ⟨[(0, (.const (.string ⟨⟨[98]⟩⟩))), (1, (.const (.string ⟨⟨[97]⟩⟩)))]⟩, none, false⟩,
   ⟨some 17, .move (.tmp 2), none, false⟩,
   ⟨some 18, .move (.tmp 1), none, false⟩,
   ⟨some 19, .buildSlice t_L_api_Val 2 ⟨[(0, (.tmp 17)), (1, (.tmp 18))]⟩, none, false⟩,
   ⟨some 20, .call ⟨.value (.func f_val_Object), ⟨[(.tmp 16), (.tmp 19)]⟩, ⟨[t_L_string, t_L_api_Val]⟩⟩, none, false⟩,
   ⟨some 15, .move (.tmp 20), none, false⟩,
   ⟨some 21, .extract (.tmp 15) 0, none, false⟩,
   ⟨some 22, .extract (.tmp 15) 1, none, false⟩,
   ⟨some 3, .assign (.tmp 21), none, false⟩,
   ⟨some 4, .assign (.tmp 22), none, false⟩])
  (.seq (.reg [⟨some 24, .buildSlice t_L_string 2 ⟨[(0, (.const (.string ⟨⟨[98]⟩⟩))), (1, (.const (.string ⟨⟨[98]⟩⟩)))]⟩, none, false⟩,
   ⟨some 25, .move (.tmp 1), none, false⟩,
   ⟨some 26, .move (.tmp 1), none, false⟩,
   ⟨some 27, .buildSlice t_L_api_Val 2 ⟨[(0, (.tmp 25)), (1, (.tmp 26))]⟩, none, false⟩,
   ⟨some 28, .call ⟨.value (.func f_val_Object), ⟨[(.tmp 24), (.tmp 27)]⟩, ⟨[t_L_string, t_L_api_Val]⟩⟩, none, false⟩,
   ⟨some 23, .move (.tmp 28), none, false⟩,
   ⟨some 29, .extract (.tmp 23) 0, none, false⟩,
   ⟨some 30, .extract (.tmp 23) 1, none, false⟩,
   ⟨some 5, .assign (.tmp 29), none, false⟩,
   ⟨some 6, .assign (.tmp 30), none, false⟩])
  (.seq (.reg [⟨some 32, .move (.tmp 3), none, false⟩,
   ⟨some 33, .call ⟨.value (.func f_val_Field), ⟨[(.tmp 32), (.const (.string ⟨⟨[98]⟩⟩))]⟩, ⟨[t_api_Val, t_string]⟩⟩, none, false⟩,
   ⟨some 31, .move (.tmp 33), none, false⟩,
   ⟨some 34, .extract (.tmp 31) 0, none, false⟩,
   ⟨some 35, .extract (.tmp 31) 1, none, false⟩,
   ⟨some 7, .assign (.tmp 34), none, false⟩,
   ⟨some 8, .assign (.tmp 35), none, false⟩])
  (.seq (.reg [⟨some 36, .move (.tmp 2), none, false⟩,
   ⟨some 37, .call ⟨.builtin .len, ⟨[(.tmp 36)]⟩, ⟨[t_api_Val]⟩⟩, none, false⟩,
   ⟨some 38, .binOp .eql t_int (.tmp 37) (.const (.int .i64 3)) t_int, none, false⟩,
   ⟨some 39, .move (.tmp 38), none, false⟩,
   ⟨some 40, .move (.tmp 4), some (some 39, true), false⟩,
   ⟨some 41, .binOp .eql t_api_Errno (.tmp 40) (.const (.int .i64 0)) t_api_Errno, some (some 39, true), false⟩,
   ⟨some 42, .pick (.tmp 39) (.tmp 41) (.const (.bool false)), none, false⟩,
   ⟨some 43, .move (.tmp 42), none, false⟩,
   ⟨some 44, .move (.tmp 6), some (some 43, true), false⟩,
   ⟨some 45, .binOp .eql t_api_Errno (.tmp 44) (.const (.int .i64 4)) t_api_Errno, some (some 43, true), false⟩,
   ⟨some 46, .pick (.tmp 43) (.tmp 45) (.const (.bool false)), none, false⟩,
   ⟨some 47, .move (.tmp 46), none, false⟩,
   ⟨some 48, .move (.tmp 3), some (some 47, true), false⟩,
   ⟨some 49, .call ⟨.builtin .len, ⟨[(.tmp 48)]⟩, ⟨[t_api_Val]⟩⟩, some (some 47, true), false⟩,
   ⟨some 50, .binOp .eql t_int (.tmp 49) (.const (.int .i64 5)) t_int, some (some 47, true), false⟩,
   ⟨some 51, .pick (.tmp 47) (.tmp 50) (.const (.bool false)), none, false⟩,
   ⟨some 52, .move (.tmp 51), none, false⟩,
   ⟨some 53, .move (.tmp 3), some (some 52, true), false⟩,
   ⟨some 54, .indexAddr t_api_Val (.tmp 53) (.const (.int .i64 1)), some (some 52, true), false⟩,
   ⟨some 55, .fieldAddr t_api_Node (.tmp 54) 2, some (some 52, true), false⟩,
   ⟨some 56, .load t_string (.tmp 55), some (some 52, true), false⟩,
   ⟨some 57, .binOp .eql t_string (.tmp 56) (.const (.string ⟨⟨[97]⟩⟩)) t_string, some (some 52, true), false⟩,
   ⟨some 58, .pick (.tmp 52) (.tmp 57) (.const (.bool false)), none, false⟩,
   ⟨some 59, .move (.tmp 58), none, false⟩,
   ⟨some 60, .move (.tmp 7), some (some 59, true), false⟩,
   ⟨some 61, .move (.tmp 2), some (some 59, true), false⟩,
   ⟨some 62, .call ⟨.value (.func f_val_Same), ⟨[(.tmp 60), (.tmp 61)]⟩, ⟨[t_api_Val, t_api_Val]⟩⟩, some (some 59, true), false⟩,
   ⟨some 63, .pick (.tmp 59) (.tmp 62) (.const (.bool false)), none, false⟩,
   ⟨some 64, .move (.tmp 63), none, false⟩,
   ⟨some 65, .move (.tmp 8), some (some 64, true), false⟩,
   ⟨some 66, .pick (.tmp 64) (.tmp 65) (.const (.bool false)), none, false⟩,
   ⟨some 67, .move (.tmp 66), none, false⟩,
   ⟨some 68, .move (.tmp 3), some (some 67, true), false⟩,
   ⟨some 69, .call ⟨.value (.func f_val_Depth), ⟨[(.tmp 68)]⟩, ⟨[t_api_Val]⟩⟩, some (some 67, true), false⟩,
   ⟨some 70, .binOp .eql t_int (.tmp 69) (.const (.int .i64 2)) t_int, some (some 67, true), false⟩,
   ⟨some 71, .pick (.tmp 67) (.tmp 70) (.const (.bool false)), none, false⟩,
   ⟨some 72, .move (.tmp 71), none, false⟩,
   ⟨some 73, .move (.tmp 3), some (some 72, true), false⟩,
   ⟨some 74, .call ⟨.value (.func f_val_Right), ⟨[(.tmp 73)]⟩, ⟨[t_api_Val]⟩⟩, some (some 72, true), false⟩,
   ⟨some 75, .pick (.tmp 72) (.tmp 74) (.const (.bool false)), none, false⟩,
   ⟨some 76, .move (.tmp 75), none, false⟩,
   ⟨some 77, .call ⟨.value (.func f_val_Right), ⟨[(.const (.slice none 0 0))]⟩, ⟨[t_api_Val]⟩⟩, some (some 76, true), false⟩,
   ⟨some 78, .unOp .not t_bool (.tmp 77), some (some 76, true), false⟩,
   ⟨some 79, .pick (.tmp 76) (.tmp 78) (.const (.bool false)), none, false⟩,
   ⟨some 0, .assign (.tmp 79), none, false⟩])
  .ret)))))))
theorem k_loupelaw02_alive : FnOk Tryd.prog f_loupelaw02_alive 80 [.tmp 0] c_loupelaw02_alive := ⟨_, _, Tryd.func8, by kernel_rfl, rfl, Tryd.ntmps8, rfl, by kernel_rfl⟩

def c_loupelaw02_ValTells : LC :=
  (.seq (.reg [⟨some 4, .assign (.const (.bool false)), none, false⟩])
  (.seq (.seq (.reg [⟨some 6, .move (.tmp 0), none, false⟩,
   ⟨some 7, .call ⟨.builtin .len, ⟨[(.tmp 6)]⟩, ⟨[t_api_Val]⟩⟩, none, false⟩,
   ⟨some 8, .binOp .gtr t_int (.tmp 7) (.const (.int .i64 60)) t_int, none, false⟩,
   ⟨some 9, .move (.tmp 8), none, false⟩,
   ⟨some 10, .move (.tmp 1), some (some 9, false), false⟩,
   ⟨some 11, .call ⟨.builtin .len, ⟨[(.tmp 10)]⟩, ⟨[t_api_Val]⟩⟩, some (some 9, false), false⟩,
   ⟨some 12, .binOp .gtr t_int (.tmp 11) (.const (.int .i64 60)) t_int, some (some 9, false), false⟩,
   ⟨some 13, .pick (.tmp 9) (.const (.bool true)) (.tmp 12), none, false⟩])
  (.cond (.tmp 13)
   (.seq (.reg [⟨some 14, .call ⟨.value (.func f_loupelaw02_alive), ⟨[]⟩, ⟨[]⟩⟩, none, false⟩,
    ⟨some 4, .assign (.tmp 14), none, false⟩])
   .ret)
   .skip))
  (.seq (.reg [⟨some 15, .move (.tmp 0), none, false⟩,
   ⟨some 16, .call ⟨.value (.func f_louperef02_Right), ⟨[(.tmp 15)]⟩, ⟨[t_api_Val]⟩⟩, none, false⟩,
   ⟨some 5, .assign (.tmp 16), none, false⟩])
  (.seq (.seq (.reg [⟨some 17, .move (.tmp 0), none, false⟩,
   ⟨some 18, .call ⟨.value (.func f_val_Right), ⟨[(.tmp 17)]⟩, ⟨[t_api_Val]⟩⟩, none, false⟩,
   ⟨some 19, .move (.tmp 5), none, false⟩,
   ⟨some 20, .binOp .neq t_bool (.tmp 18) (.tmp 19) t_bool, none, false⟩,
   ⟨some 21, .move (.tmp 20), none, false⟩,
   ⟨some 22, .move (.tmp 0), some (some 21, false), false⟩,
   ⟨some 23, .move (.tmp 1), some (some 21, false), false⟩,
   ⟨some 24, .call ⟨.value (.func f_val_Same), ⟨[(.tmp 22), (.tmp 23)]⟩, ⟨[t_api_Val, t_api_Val]⟩⟩, some (some 21, false), false⟩,
   ⟨some 25, .move (.tmp 0), some (some 21, false), false⟩,
   ⟨some 26, .move (.tmp 1), some (some 21, false), false⟩,
   ⟨some 27, .call ⟨.value (.func f_louperef02_Same), ⟨[(.tmp 25), (.tmp 26)]⟩, ⟨[t_api_Val, t_api_Val]⟩⟩, some (some 21, false), false⟩,
   ⟨some 28, .binOp .neq t_bool (.tmp 24) (.tmp 27) t_bool, some (some 21, false), false⟩,
   ⟨some 29, .pick (.tmp 21) (.const (.bool true)) (.tmp 28), none, false⟩])
  (.cond (.tmp 29)
   (.seq (.reg [⟨some 4, .assign (.const (.bool false)), none, false⟩])
   .ret)
   .skip))
  (.seq (.seq (.reg [⟨some 30, .move (.tmp 5), none, false⟩,
   ⟨some 31, .unOp .not t_bool (.tmp 30), none, false⟩])
  (.cond (.tmp 31)
   (.seq (.reg [⟨some 32, .call ⟨.value (.func f_loupelaw02_alive), ⟨[]⟩, ⟨[]⟩⟩, none, false⟩,
    ⟨some 4, .assign (.tmp 32), none, false⟩])
   .ret)
   .skip))
  (.seq (.reg [⟨some 33, .call ⟨.value (.func f_loupelaw02_alive), ⟨[]⟩, ⟨[]⟩⟩, none, false⟩,
   ⟨some 34, .move (.tmp 33), none, false⟩,
   ⟨some 35, .move (.tmp 0), some (some 34, true), false⟩,
   ⟨some 36, .call ⟨.value (.func f_val_Depth), ⟨[(.tmp 35)]⟩, ⟨[t_api_Val]⟩⟩, some (some 34, true), false⟩,
   ⟨some 37, .move (.tmp 0), some (some 34, true), false⟩,
   ⟨some 38, .call ⟨.value (.func f_louperef02_Depth), ⟨[(.tmp 37)]⟩, ⟨[t_api_Val]⟩⟩, some (some 34, true), false⟩,
   ⟨some 39, .binOp .eql t_int (.tmp 36) (.tmp 38) t_int, some (some 34, true), false⟩,
   ⟨some 40, .pick (.tmp 34) (.tmp 39) (.const (.bool false)), none, false⟩,
   ⟨some 41, .move (.tmp 40), none, false⟩,
   ⟨some 42, .move (.tmp 0), some (some 41, true), false⟩,
   ⟨some 43, .call ⟨.value (.func f_val_Parts), ⟨[(.tmp 42)]⟩, ⟨[t_api_Val]⟩⟩, some (some 41, true), false⟩,
   ⟨some 44, .move (.tmp 0), some (some 41, true), false⟩,
   ⟨some 45, .call ⟨.value (.func f_louperef02_Parts), ⟨[(.tmp 44)]⟩, ⟨[t_api_Val]⟩⟩, some (some 41, true), false⟩,
   ⟨some 46, .call ⟨.value (.func f_louperef02_Lists), ⟨[(.tmp 43), (.tmp 45)]⟩, ⟨[t_L_api_Val, t_L_api_Val]⟩⟩, some (some 41, true), false⟩,
   ⟨some 47, .pick (.tmp 41) (.tmp 46) (.const (.bool false)), none, false⟩,
   ⟨some 48, .move (.tmp 47), none, false⟩,
   ⟨some 49, .move (.tmp 0), some (some 48, true), false⟩,
   ⟨some 50, .call ⟨.value (.func f_val_Names), ⟨[(.tmp 49)]⟩, ⟨[t_api_Val]⟩⟩, some (some 48, true), false⟩,
   ⟨some 51, .move (.tmp 0), some (some 48, true), false⟩,
   ⟨some 52, .call ⟨.value (.func f_louperef02_Names), ⟨[(.tmp 51)]⟩, ⟨[t_api_Val]⟩⟩, some (some 48, true), false⟩,
   ⟨some 53, .call ⟨.value (.func f_louperef02_Texts), ⟨[(.tmp 50), (.tmp 52)]⟩, ⟨[t_L_string, t_L_string]⟩⟩, some (some 48, true), false⟩,
   ⟨some 54, .pick (.tmp 48) (.tmp 53) (.const (.bool false)), none, false⟩,
   ⟨some 4, .assign (.tmp 54), none, false⟩])
  .ret))))))
theorem k_loupelaw02_ValTells : FnOk Tryd.prog f_loupelaw02_ValTells 55 [.tmp 4] c_loupelaw02_ValTells := ⟨_, _, Tryd.func5, by kernel_rfl, rfl, Tryd.ntmps5, rfl, by kernel_rfl⟩

def c_loupelaw02_ValMakes : LC :=
  (.seq (.reg [⟨some 4, .assign (.const (.bool false)), none, false⟩])
  (.seq (.seq (.reg [⟨some 9, .move (.tmp 0), none, false⟩,
   ⟨some 10, .call ⟨.builtin .len, ⟨[(.tmp 9)]⟩, ⟨[t_L_string]⟩⟩, none, false⟩,
   ⟨some 11, .binOp .gtr t_int (.tmp 10) (.const (.int .i64 60)) t_int, none, false⟩,
   ⟨some 12, .move (.tmp 11), none, false⟩,
   ⟨some 13, .move (.tmp 1), some (some 12, false), false⟩,
   ⟨some 14, .call ⟨.value (.func f_louperef02_All), ⟨[(.tmp 13), (.const (.int .i64 60))]⟩, ⟨[t_L_api_Val, t_int]⟩⟩, some (some 12, false), false⟩,
   ⟨some 15, .unOp .not t_bool (.tmp 14), some (some 12, false), false⟩,
   ⟨some 16, .pick (.tmp 12) (.const (.bool true)) (.tmp 15), none, false⟩])
  (.cond (.tmp 16)
   (.seq (.reg [⟨some 17, .call ⟨.value (.func f_loupelaw02_alive), ⟨[]⟩, ⟨[]⟩⟩, none, false⟩,
    ⟨some 4, .assign (.tmp 17), none, false⟩])
   .ret)
   .skip))
  (.seq (.reg [⟨some 19, .move (.tmp 0), none, false⟩,
   ⟨some 20, .move (.tmp 1), none, false⟩,
   ⟨some 21, .call ⟨.value (.func f_val_Object), ⟨[(.tmp 19), (.tmp 20)]⟩, ⟨[t_L_string, t_L_api_Val]⟩⟩, none, false⟩,
   ⟨some 18, .move (.tmp 21), none, false⟩,
   ⟨some 22, .extract (.tmp 18) 0, none, false⟩,
   ⟨some 23, .extract (.tmp 18) 1, none, false⟩,
   ⟨some 5, .assign (.tmp 22), none, false⟩,
   ⟨some 6, .assign (.tmp 23), none, false⟩])
  (.seq (.reg [⟨some 25, .move (.tmp 0), none, false⟩,
   ⟨some 26, .move (.tmp 1), none, false⟩,
   ⟨some 27, .call ⟨.value (.func f_louperef02_Object), ⟨[(.tmp 25), (.tmp 26)]⟩, ⟨[t_L_string, t_L_api_Val]⟩⟩, none, false⟩,
   ⟨some 24, .move (.tmp 27), none, false⟩,
   ⟨some 28, .extract (.tmp 24) 0, none, false⟩,
   ⟨some 29, .extract (.tmp 24) 1, none, false⟩,
   ⟨some 7, .assign (.tmp 28), none, false⟩,
   ⟨some 8, .assign (.tmp 29), none, false⟩])
  (.seq (.reg [⟨some 30, .call ⟨.value (.func f_loupelaw02_alive), ⟨[]⟩, ⟨[]⟩⟩, none, false⟩,
   ⟨some 31, .move (.tmp 30), none, false⟩,
   ⟨some 32, .move (.tmp 1), some (some 31, true), false⟩,
   ⟨some 33, .call ⟨.value (.func f_val_List), ⟨[(.tmp 32)]⟩, ⟨[t_L_api_Val]⟩⟩, some (some 31, true), false⟩,
   ⟨some 34, .move (.tmp 1), some (some 31, true), false⟩,
   ⟨some 35, .call ⟨.value (.func f_louperef02_List), ⟨[(.tmp 34)]⟩, ⟨[t_L_api_Val]⟩⟩, some (some 31, true), false⟩,
   ⟨some 36, .call ⟨.value (.func f_louperef02_Same), ⟨[(.tmp 33), (.tmp 35)]⟩, ⟨[t_api_Val, t_api_Val]⟩⟩, some (some 31, true), false⟩,
   ⟨some 37, .pick (.tmp 31) (.tmp 36) (.const (.bool false)), none, false⟩,
   ⟨some 38, .move (.tmp 37), none, false⟩,
   ⟨some 39, .move (.tmp 5), some (some 38, true), false⟩,
   ⟨some 40, .move (.tmp 7), some (some 38, true), false⟩,
   ⟨some 41, .call ⟨.value (.func f_louperef02_Same), ⟨[(.tmp 39), (.tmp 40)]⟩, ⟨[t_api_Val, t_api_Val]⟩⟩, some (some 38, true), false⟩,
   ⟨some 42, .pick (.tmp 38) (.tmp 41) (.const (.bool false)), none, false⟩,
   ⟨some 43, .move (.tmp 42), none, false⟩,
   ⟨some 44, .move (.tmp 6), some (some 43, true), false⟩,
   ⟨some 45, .move (.tmp 8), some (some 43, true), false⟩,
   ⟨some 46, .binOp .eql t_api_Errno (.tmp 44) (.tmp 45) t_api_Errno, some (some 43, true), false⟩,
   ⟨some 47, .pick (.tmp 43) (.tmp 46) (.const (.bool false)), none, false⟩,
   ⟨some 4, .assign (.tmp 47), none, false⟩])
  .ret)))))
theorem k_loupelaw02_ValMakes : FnOk Tryd.prog f_loupelaw02_ValMakes 48 [.tmp 4] c_loupelaw02_ValMakes := ⟨_, _, Tryd.func3, by kernel_rfl, rfl, Tryd.ntmps3, rfl, by kernel_rfl⟩

def c_loupelaw02_ValOrder : LC :=
  (.seq (.reg [⟨some 4, .assign (.const (.bool false)), none, false⟩])
  (.seq (.seq (.reg [⟨some 14, .move (.tmp 0), none, false⟩,
   ⟨some 15, .call ⟨.builtin .len, ⟨[(.tmp 14)]⟩, ⟨[t_L_string]⟩⟩, none, false⟩,
   ⟨some 16, .binOp .gtr t_int (.tmp 15) (.const (.int .i64 60)) t_int, none, false⟩,
   ⟨some 17, .move (.tmp 16), none, false⟩,
   ⟨some 18, .move (.tmp 1), some (some 17, false), false⟩,
   ⟨some 19, .call ⟨.value (.func f_louperef02_All), ⟨[(.tmp 18), (.const (.int .i64 60))]⟩, ⟨[t_L_api_Val, t_int]⟩⟩, some (some 17, false), false⟩,
   ⟨some 20, .unOp .not t_bool (.tmp 19), some (some 17, false), false⟩,
   ⟨some 21, .pick (.tmp 17) (.const (.bool true)) (.tmp 20), none, false⟩])
  (.cond (.tmp 21)
   (.seq (.reg [⟨some 22, .call ⟨.value (.func f_loupelaw02_alive), ⟨[]⟩, ⟨[]⟩⟩, none, false⟩,
    ⟨some 4, .assign (.tmp 22), none, false⟩])
   .ret)
   .skip))
  (.seq (.reg [⟨some 24, .move (.tmp 0), none, false⟩,
   ⟨some 25, .move (.tmp 1), none, false⟩,
   ⟨some 26, .call ⟨.value (.func f_val_Object), ⟨[(.tmp 24), (.tmp 25)]⟩, ⟨[t_L_string, t_L_api_Val]⟩⟩, none, false⟩,
   ⟨some 23, .move (.tmp 26), none, false⟩,
   ⟨some 27, .extract (.tmp 23) 0, none, false⟩,
   ⟨some 28, .extract (.tmp 23) 1, none, false⟩,
   ⟨some 5, .assign (.tmp 27), none, false⟩,
   ⟨some 6, .assign (.tmp 28), none, false⟩])
  (.seq (.seq (.reg [⟨some 29, .move (.tmp 0), none, false⟩,
   ⟨some 30, .call ⟨.builtin .len, ⟨[(.tmp 29)]⟩, ⟨[t_L_string]⟩⟩, none, false⟩,
   ⟨some 31, .move (.tmp 1), none, false⟩,
   ⟨some 32, .call ⟨.builtin .len, ⟨[(.tmp 31)]⟩, ⟨[t_L_api_Val]⟩⟩, none, false⟩,
   ⟨some 33, .binOp .neq t_int (.tmp 30) (.tmp 32) t_int, none, false⟩])
  (.cond (.tmp 33)
   (.seq (.reg [⟨some 34, .call ⟨.value (.func f_loupelaw02_alive), ⟨[]⟩, ⟨[]⟩⟩, none, false⟩,
    ⟨some 35, .move (.tmp 34), none, false⟩,
    ⟨some 36, .move (.tmp 6), some (some 35, true), false⟩,
    ⟨some 37, .binOp .eql t_api_Errno (.tmp 36) (.const (.int .i64 4)) t_api_Errno, some (some 35, true), false⟩,
    ⟨some 38, .pick (.tmp 35) (.tmp 37) (.const (.bool false)), none, false⟩,
    ⟨some 39, .move (.tmp 38), none, false⟩,
    ⟨some 40, .move (.tmp 5), some (some 39, true), false⟩,
    ⟨some 41, .call ⟨.builtin .len, ⟨[(.tmp 40)]⟩, ⟨[t_api_Val]⟩⟩, some (some 39, true), false⟩,
    ⟨some 42, .binOp .eql t_int (.tmp 41) (.const (.int .i64 0)) t_int, some (some 39, true), false⟩,
    ⟨some 43, .pick (.tmp 39) (.tmp 42) (.const (.bool false)), none, false⟩,
    ⟨some 4, .assign (.tmp 43), none, false⟩])
   .ret)
   .skip))
  (.seq (.reg [⟨some 44, .buildSlice t_L_string 0 ⟨[]⟩, none, true⟩,
   ⟨some 7, .assign (.tmp 44), none, false⟩])
  (.seq (.reg [⟨some 45, .buildSlice t_L_api_Val 0 ⟨[]⟩, none, true⟩,
   ⟨some 8, .assign (.tmp 45), none, false⟩])
  (.seq (.seq (.reg [⟨some 46, .move (.tmp 0), none, false⟩,
   ⟨some 47, .call ⟨.builtin .len, ⟨[(.tmp 46)]⟩, ⟨[t_L_string]⟩⟩, none, false⟩,
   ⟨some 48, .binOp .sub t_int (.tmp 47) (.const (.int .i64 1)) t_int, none, false⟩,
   ⟨some 9, .assign (.tmp 48), none, false⟩])
  (.block 0 (.loop [true, true, false, false, false, true, true, true, true, true, false, false, false, false, false, false, false, false, false, false, false, false, false, false, false, false, false, false, false, false, false, false, false, false, false, false, false, false, false, false, false, false, false, false, false, false, false, false, false, false, false, false, false, false, false, false, false, false, false, false, false, false, false, false, false, false, false, false, false, false, false, false, false, false, false, false, false, false, false, false, false, false, false, false, false, false, false, false, false, false, false, false, false, false, false, false, false, false, false, false, false, false, false, false, false, false, false, false, false, false, false, false, false, false, false, false, false, false, false, false, false, false, false, false, false, false, false, false, false, false, false] none
   (.seq (.seq (.reg [⟨some 49, .move (.tmp 9), none, false⟩,
     ⟨some 50, .binOp .geq t_int (.tmp 49) (.const (.int .i64 0)) t_int, none, false⟩])
    (.cond (.tmp 50)
     .skip
     (.exit 0)))
    (.seq (.block 1 (.seq (.reg [⟨some 53, .move (.tmp 7), none, false⟩,
      ⟨some 54, .move (.tmp 0), none, false⟩,
      ⟨some 55, .move (.tmp 9), none, false⟩,
      ⟨some 56, .indexAddr t_L_string (.tmp 54) (.tmp 55), none, false⟩,
      ⟨some 57, .load t_string (.tmp 56), none, false⟩,
      ⟨some 58, .buildSlice t_L_string 1 ⟨[(0, (.tmp 57))]⟩, none, false⟩,
      ⟨some 59, .call ⟨.builtin .append, ⟨[(.tmp 53), (.tmp 58)]⟩, ⟨[t_L_string, t_L_string]⟩⟩, none, false⟩,
      ⟨some 7, .assign (.tmp 59), none, false⟩])
     (.reg [⟨some 60, .move (.tmp 8), none, false⟩,
      ⟨some 61, .move (.tmp 1), none, false⟩,
      ⟨some 62, .move (.tmp 9), none, false⟩,
      ⟨some 63, .indexAddr t_L_api_Val (.tmp 61) (.tmp 62), none, false⟩,
      ⟨some 64, .load t_api_Val (.tmp 63), none, false⟩,
      ⟨some 65, .buildSlice t_L_api_Val 1 ⟨[(0, (.tmp 64))]⟩, none, false⟩,
      ⟨some 66, .call ⟨.builtin .append, ⟨[(.tmp 60), (.tmp 65)]⟩, ⟨[t_L_api_Val, t_L_api_Val]⟩⟩, none, false⟩,
      ⟨some 8, .assign (.tmp 66), none, false⟩])))
    (.reg [⟨some 51, .move (.tmp 9), none, false⟩,
     ⟨some 52, .binOp .sub t_int (.tmp 51) (.const (.int .i64 1)) t_int, none, false⟩,
     ⟨some 9, .assign (.tmp 52), none, false⟩]))))))
  (.seq (.reg [⟨some 68, .move (.tmp 7), none, false⟩,
   ⟨some 69, .move (.tmp 8), none, false⟩,
   ⟨some 70, .call ⟨.value (.func f_val_Object), ⟨[(.tmp 68), (.tmp 69)]⟩, ⟨[t_L_string, t_L_api_Val]⟩⟩, none, false⟩,
   ⟨some 67, .move (.tmp 70), none, false⟩,
   ⟨some 71, .extract (.tmp 67) 0, none, false⟩,
   ⟨some 72, .extract (.tmp 67) 1, none, false⟩,
   ⟨some 10, .assign (.tmp 71), none, false⟩,
   ⟨some 11, .assign (.tmp 72), none, false⟩])
  (.seq (.seq (.reg [⟨some 73, .move (.tmp 0), none, false⟩,
   ⟨some 74, .call ⟨.builtin .len, ⟨[(.tmp 73)]⟩, ⟨[t_L_string]⟩⟩, none, false⟩,
   ⟨some 75, .binOp .eql t_int (.tmp 74) (.const (.int .i64 0)) t_int, none, false⟩])
  (.cond (.tmp 75)
   (.seq (.reg [⟨some 76, .call ⟨.value (.func f_loupelaw02_alive), ⟨[]⟩, ⟨[]⟩⟩, none, false⟩,
    ⟨some 77, .move (.tmp 76), none, false⟩,
    ⟨some 78, .move (.tmp 6), some (some 77, true), false⟩,
    ⟨some 79, .binOp .eql t_api_Errno (.tmp 78) (.const (.int .i64 0)) t_api_Errno, some (some 77, true), false⟩,
    ⟨some 80, .pick (.tmp 77) (.tmp 79) (.const (.bool false)), none, false⟩,
    ⟨some 81, .move (.tmp 80), none, false⟩,
    ⟨some 82, .move (.tmp 5), some (some 81, true), false⟩,
    ⟨some 83, .call ⟨.builtin .len, ⟨[(.tmp 82)]⟩, ⟨[t_api_Val]⟩⟩, some (some 81, true), false⟩,
    ⟨some 84, .binOp .eql t_int (.tmp 83) (.const (.int .i64 1)) t_int, some (some 81, true), false⟩,
    ⟨some 85, .pick (.tmp 81) (.tmp 84) (.const (.bool false)), none, false⟩,
    ⟨some 4, .assign (.tmp 85), none, false⟩])
   .ret)
   .skip))
  (.seq (.reg [⟨some 86, .move (.tmp 7), none, false⟩,
   ⟨some 87, .move (.tmp 0), none, false⟩,
   ⟨some 88, .indexAddr t_L_string (.tmp 87) (.const (.int .i64 0)), none, false⟩,
   ⟨some 89, .load t_string (.tmp 88), none, false⟩,
   ⟨some 90, .buildSlice t_L_string 1 ⟨[(0, (.tmp 89))]⟩, none, false⟩,
   ⟨some 91, .call ⟨.builtin .append, ⟨[(.tmp 86), (.tmp 90)]⟩, ⟨[t_L_string, t_L_string]⟩⟩, none, false⟩,
   ⟨some 7, .assign (.tmp 91), none, false⟩])
  (.seq (.reg [⟨some 92, .move (.tmp 8), none, false⟩,
   ⟨some 93, .move (.tmp 1), none, false⟩,
   ⟨some 94, .indexAddr t_L_api_Val (.tmp 93) (.const (.int .i64 0)), none, false⟩,
   ⟨some 95, .load t_api_Val (.tmp 94), none, false⟩,
   ⟨some 96, .buildSlice t_L_api_Val 1 ⟨[(0, (.tmp 95))]⟩, none, false⟩,
   ⟨some 97, .call ⟨.builtin .append, ⟨[(.tmp 92), (.tmp 96)]⟩, ⟨[t_L_api_Val, t_L_api_Val]⟩⟩, none, false⟩,
   ⟨some 8, .assign (.tmp 97), none, false⟩])
  (.seq (.reg [⟨some 99, .move (.tmp 7), none, false⟩,
   ⟨some 100, .move (.tmp 8), none, false⟩,
   ⟨some 101, .call ⟨.value (.func f_val_Object), ⟨[(.tmp 99), (.tmp 100)]⟩, ⟨[t_L_string, t_L_api_Val]⟩⟩, none, false⟩,
   ⟨some 98, .move (.tmp 101), none, false⟩,
   ⟨some 102, .extract (.tmp 98) 0, none, false⟩,
   ⟨some 103, .extract (.tmp 98) 1, none, false⟩,
   ⟨some 12, .assign (.tmp 102), none, false⟩,
   ⟨some 13, .assign (.tmp 103), none, false⟩])
  (.seq (.reg [⟨some 104, .call ⟨.value (.func f_loupelaw02_alive), ⟨[]⟩, ⟨[]⟩⟩, none, false⟩,
   ⟨some 105, .move (.tmp 104), none, false⟩,
   ⟨some 106, .move (.tmp 6), some (some 105, true), false⟩,
   ⟨some 107, .move (.tmp 11), some (some 105, true), false⟩,
   ⟨some 108, .binOp .eql t_api_Errno (.tmp 106) (.tmp 107) t_api_Errno, some (some 105, true), false⟩,
   ⟨some 109, .pick (.tmp 105) (.tmp 108) (.const (.bool false)), none, false⟩,
   ⟨some 110, .move (.tmp 109), none, false⟩,
   ⟨some 111, .move (.tmp 5), some (some 110, true), false⟩,
   ⟨some 112, .move (.tmp 10), some (some 110, true), false⟩,
   ⟨some 113, .call ⟨.value (.func f_louperef02_Same), ⟨[(.tmp 111), (.tmp 112)]⟩, ⟨[t_api_Val, t_api_Val]⟩⟩, some (some 110, true), false⟩,
   ⟨some 114, .pick (.tmp 110) (.tmp 113) (.const (.bool false)), none, false⟩,
   ⟨some 115, .move (.tmp 114), none, false⟩,
   ⟨some 116, .move (.tmp 13), some (some 115, true), false⟩,
   ⟨some 117, .binOp .eql t_api_Errno (.tmp 116) (.const (.int .i64 4)) t_api_Errno, some (some 115, true), false⟩,
   ⟨some 118, .pick (.tmp 115) (.tmp 117) (.const (.bool false)), none, false⟩,
   ⟨some 119, .move (.tmp 118), none, false⟩,
   ⟨some 120, .move (.tmp 6), some (some 119, true), false⟩,
   ⟨some 121, .binOp .neq t_api_Errno (.tmp 120) (.const (.int .i64 0)) t_api_Errno, some (some 119, true), false⟩,
   ⟨some 122, .move (.tmp 121), some (some 119, true), false⟩,
   ⟨some 123, .move (.tmp 5), some (some 122, false), false⟩,
   ⟨some 124, .call ⟨.value (.func f_val_Parts), ⟨[(.tmp 123)]⟩, ⟨[t_api_Val]⟩⟩, some (some 122, false), false⟩,
   ⟨some 125, .call ⟨.builtin .len, ⟨[(.tmp 124)]⟩, ⟨[t_L_api_Val]⟩⟩, some (some 122, false), false⟩,
   ⟨some 126, .move (.tmp 1), some (some 122, false), false⟩,
   ⟨some 127, .call ⟨.builtin .len, ⟨[(.tmp 126)]⟩, ⟨[t_L_api_Val]⟩⟩, some (some 122, false), false⟩,
   ⟨some 128, .binOp .eql t_int (.tmp 125) (.tmp 127) t_int, some (some 122, false), false⟩,
   ⟨some 129, .pick (.tmp 122) (.const (.bool true)) (.tmp 128), some (some 119, true), false⟩,
   ⟨some 130, .pick (.tmp 119) (.tmp 129) (.const (.bool false)), none, false⟩,
   ⟨some 4, .assign (.tmp 130), none, false⟩])
  .ret)))))))))))))
theorem k_loupelaw02_ValOrder : FnOk Tryd.prog f_loupelaw02_ValOrder 131 [.tmp 4] c_loupelaw02_ValOrder := ⟨_, _, Tryd.func4, by kernel_rfl, rfl, Tryd.ntmps4, rfl, by kernel_rfl⟩

def c_loupelaw02_ValBack : LC :=
  (.seq (.reg [⟨some 4, .assign (.const (.bool false)), none, false⟩])
  (.seq (.seq (.reg [⟨some 10, .move (.tmp 0), none, false⟩,
   ⟨some 11, .call ⟨.value (.func f_louperef02_Few), ⟨[(.tmp 10), (.const (.int .i64 60))]⟩, ⟨[t_api_Val, t_int]⟩⟩, none, false⟩,
   ⟨some 12, .unOp .not t_bool (.tmp 11), none, false⟩,
   ⟨some 13, .move (.tmp 12), none, false⟩,
   ⟨some 14, .move (.tmp 1), some (some 13, false), false⟩,
   ⟨some 15, .call ⟨.value (.func f_louperef02_All), ⟨[(.tmp 14), (.const (.int .i64 60))]⟩, ⟨[t_L_api_Val, t_int]⟩⟩, some (some 13, false), false⟩,
   ⟨some 16, .unOp .not t_bool (.tmp 15), some (some 13, false), false⟩,
   ⟨some 17, .pick (.tmp 13) (.const (.bool true)) (.tmp 16), none, false⟩])
  (.cond (.tmp 17)
   (.seq (.reg [⟨some 18, .call ⟨.value (.func f_loupelaw02_alive), ⟨[]⟩, ⟨[]⟩⟩, none, false⟩,
    ⟨some 4, .assign (.tmp 18), none, false⟩])
   .ret)
   .skip))
  (.seq (.reg [⟨some 19, .move (.tmp 1), none, false⟩,
   ⟨some 20, .call ⟨.value (.func f_val_List), ⟨[(.tmp 19)]⟩, ⟨[t_L_api_Val]⟩⟩, none, false⟩,
   ⟨some 5, .assign (.tmp 20), none, false⟩])
  (.seq (.seq (.reg [⟨some 21, .move (.tmp 5), none, false⟩,
   ⟨some 22, .call ⟨.value (.func f_louperef02_Right), ⟨[(.tmp 21)]⟩, ⟨[t_api_Val]⟩⟩, none, false⟩,
   ⟨some 23, .unOp .not t_bool (.tmp 22), none, false⟩,
   ⟨some 24, .move (.tmp 23), none, false⟩,
   ⟨some 25, .move (.tmp 5), some (some 24, false), false⟩,
   ⟨some 26, .call ⟨.value (.func f_val_Parts), ⟨[(.tmp 25)]⟩, ⟨[t_api_Val]⟩⟩, some (some 24, false), false⟩,
   ⟨some 27, .move (.tmp 1), some (some 24, false), false⟩,
   ⟨some 28, .call ⟨.value (.func f_louperef02_Lists), ⟨[(.tmp 26), (.tmp 27)]⟩, ⟨[t_L_api_Val, t_L_api_Val]⟩⟩, some (some 24, false), false⟩,
   ⟨some 29, .unOp .not t_bool (.tmp 28), some (some 24, false), false⟩,
   ⟨some 30, .pick (.tmp 24) (.const (.bool true)) (.tmp 29), none, false⟩,
   ⟨some 31, .move (.tmp 30), none, false⟩,
   ⟨some 32, .move (.tmp 5), some (some 31, false), false⟩,
   ⟨some 33, .call ⟨.value (.func f_val_Names), ⟨[(.tmp 32)]⟩, ⟨[t_api_Val]⟩⟩, some (some 31, false), false⟩,
   ⟨some 34, .call ⟨.builtin .len, ⟨[(.tmp 33)]⟩, ⟨[t_L_string]⟩⟩, some (some 31, false), false⟩,
   ⟨some 35, .binOp .neq t_int (.tmp 34) (.const (.int .i64 0)) t_int, some (some 31, false), false⟩,
   ⟨some 36, .pick (.tmp 31) (.const (.bool true)) (.tmp 35), none, false⟩])
  (.cond (.tmp 36)
   (.seq (.reg [⟨some 4, .assign (.const (.bool false)), none, false⟩])
   .ret)
   .skip))
  (.seq (.reg [⟨some 37, .move (.tmp 0), none, false⟩,
   ⟨some 38, .call ⟨.value (.func f_val_Parts), ⟨[(.tmp 37)]⟩, ⟨[t_api_Val]⟩⟩, none, false⟩,
   ⟨some 6, .assign (.tmp 38), none, false⟩])
  (.seq (.seq (.reg [⟨some 7, .assign (.const (.int .i64 0)), none, false⟩])
  (.block 0 (.loop [true, false, false, false, false, false, true, true, false, false, false, false, false, false, false, false, false, false, false, false, false, false, false, false, false, false, false, false, false, false, false, false, false, false, false, false, false, false, false, false, false, false, false, false, false, false, false, false, false, false, false, false, false, false, false, false, false, false, false, false, false, false, false, false, false, false, false, false, false, false, false, false, false, false, false, false, false, false, false, false, false, false, false, false, false, false, false, false, false, false, false, false, false, false, false, false, false, false, false, false, false, false, false, false] none
   (.seq (.seq (.reg [⟨some 39, .move (.tmp 7), none, false⟩,
     ⟨some 40, .move (.tmp 6), none, false⟩,
     ⟨some 41, .call ⟨.builtin .len, ⟨[(.tmp 40)]⟩, ⟨[t_L_api_Val]⟩⟩, none, false⟩,
     ⟨some 42, .binOp .lss t_int (.tmp 39) (.tmp 41) t_int, none, false⟩])
    (.cond (.tmp 42)
     .skip
     (.exit 0)))
    (.seq (.block 1 (.seq (.reg [⟨some 45, .move (.tmp 6), none, false⟩,
      ⟨some 46, .move (.tmp 7), none, false⟩,
      ⟨some 47, .indexAddr t_L_api_Val (.tmp 45) (.tmp 46), none, false⟩,
      ⟨some 48, .load t_api_Val (.tmp 47), none, false⟩,
      ⟨some 49, .call ⟨.value (.func f_louperef02_Right), ⟨[(.tmp 48)]⟩, ⟨[t_api_Val]⟩⟩, none, false⟩,
      ⟨some 50, .unOp .not t_bool (.tmp 49), none, false⟩,
      ⟨some 51, .move (.tmp 50), none, false⟩,
      ⟨some 52, .move (.tmp 6), some (some 51, false), false⟩,
      ⟨some 53, .move (.tmp 7), some (some 51, false), false⟩,
      ⟨some 54, .indexAddr t_L_api_Val (.tmp 52) (.tmp 53), some (some 51, false), false⟩,
      ⟨some 55, .load t_api_Val (.tmp 54), some (some 51, false), false⟩,
      ⟨some 56, .call ⟨.value (.func f_val_Depth), ⟨[(.tmp 55)]⟩, ⟨[t_api_Val]⟩⟩, some (some 51, false), false⟩,
      ⟨some 57, .move (.tmp 0), some (some 51, false), false⟩,
      ⟨some 58, .call ⟨.value (.func f_val_Depth), ⟨[(.tmp 57)]⟩, ⟨[t_api_Val]⟩⟩, some (some 51, false), false⟩,
      ⟨some 59, .binOp .geq t_int (.tmp 56) (.tmp 58) t_int, some (some 51, false), false⟩,
      ⟨some 60, .pick (.tmp 51) (.const (.bool true)) (.tmp 59), none, false⟩])
     (.cond (.tmp 60)
      (.seq (.reg [⟨some 4, .assign (.const (.bool false)), none, false⟩])
      .ret)
      .skip)))
    (.reg [⟨some 43, .move (.tmp 7), none, false⟩,
     ⟨some 44, .binOp .add t_int (.tmp 43) (.const (.int .i64 1)) t_int, none, false⟩,
     ⟨some 7, .assign (.tmp 44), none, false⟩]))))))
  (.seq (.seq (.reg [⟨some 61, .move (.tmp 0), none, false⟩,
   ⟨some 62, .indexAddr t_api_Val (.tmp 61) (.const (.int .i64 0)), none, false⟩,
   ⟨some 63, .fieldAddr t_api_Node (.tmp 62) 0, none, false⟩,
   ⟨some 64, .load t_int (.tmp 63), none, false⟩])
  (.block 2 (.seq (.reg [⟨some 66, .binOp .eql t_int (.tmp 64) (.const (.int .i64 5)) t_int, none, false⟩,
    ⟨some 65, .assign (.tmp 66), none, false⟩])
   (.cond (.tmp 65)
    (.seq (.reg [⟨some 67, .call ⟨.value (.func f_loupelaw02_alive), ⟨[]⟩, ⟨[]⟩⟩, none, false⟩,
     ⟨some 68, .move (.tmp 67), none, false⟩,
     ⟨some 69, .move (.tmp 6), some (some 68, true), false⟩,
     ⟨some 70, .call ⟨.value (.func f_val_List), ⟨[(.tmp 69)]⟩, ⟨[t_L_api_Val]⟩⟩, some (some 68, true), false⟩,
     ⟨some 71, .move (.tmp 0), some (some 68, true), false⟩,
     ⟨some 72, .call ⟨.value (.func f_louperef02_Same), ⟨[(.tmp 70), (.tmp 71)]⟩, ⟨[t_api_Val, t_api_Val]⟩⟩, some (some 68, true), false⟩,
     ⟨some 73, .pick (.tmp 68) (.tmp 72) (.const (.bool false)), none, false⟩,
     ⟨some 4, .assign (.tmp 73), none, false⟩])
    .ret)
    (.seq (.reg [⟨some 75, .binOp .eql t_int (.tmp 64) (.const (.int .i64 6)) t_int, none, false⟩,
     ⟨some 74, .assign (.tmp 75), none, false⟩])
    (.cond (.tmp 74)
     (.seq (.reg [⟨some 77, .move (.tmp 0), none, false⟩,
      ⟨some 78, .call ⟨.value (.func f_val_Names), ⟨[(.tmp 77)]⟩, ⟨[t_api_Val]⟩⟩, none, false⟩,
      ⟨some 79, .move (.tmp 6), none, false⟩,
      ⟨some 80, .call ⟨.value (.func f_val_Object), ⟨[(.tmp 78), (.tmp 79)]⟩, ⟨[t_L_string, t_L_api_Val]⟩⟩, none, false⟩,
      ⟨some 76, .move (.tmp 80), none, false⟩,
      ⟨some 81, .extract (.tmp 76) 0, none, false⟩,
      ⟨some 82, .extract (.tmp 76) 1, none, false⟩,
      ⟨some 8, .assign (.tmp 81), none, false⟩,
      ⟨some 9, .assign (.tmp 82), none, false⟩])
     (.seq (.reg [⟨some 83, .call ⟨.value (.func f_loupelaw02_alive), ⟨[]⟩, ⟨[]⟩⟩, none, false⟩,
      ⟨some 84, .move (.tmp 83), none, false⟩,
      ⟨some 85, .move (.tmp 9), some (some 84, true), false⟩,
      ⟨some 86, .binOp .eql t_api_Errno (.tmp 85) (.const (.int .i64 0)) t_api_Errno, some (some 84, true), false⟩,
      ⟨some 87, .pick (.tmp 84) (.tmp 86) (.const (.bool false)), none, false⟩,
      ⟨some 88, .move (.tmp 87), none, false⟩,
      ⟨some 89, .move (.tmp 8), some (some 88, true), false⟩,
      ⟨some 90, .move (.tmp 0), some (some 88, true), false⟩,
      ⟨some 91, .call ⟨.value (.func f_louperef02_Same), ⟨[(.tmp 89), (.tmp 90)]⟩, ⟨[t_api_Val, t_api_Val]⟩⟩, some (some 88, true), false⟩,
      ⟨some 92, .pick (.tmp 88) (.tmp 91) (.const (.bool false)), none, false⟩,
      ⟨some 4, .assign (.tmp 92), none, false⟩])
     .ret))
     .skip))))))
  (.seq (.reg [⟨some 93, .call ⟨.value (.func f_loupelaw02_alive), ⟨[]⟩, ⟨[]⟩⟩, none, false⟩,
   ⟨some 94, .move (.tmp 93), none, false⟩,
   ⟨some 95, .move (.tmp 6), some (some 94, true), false⟩,
   ⟨some 96, .call ⟨.builtin .len, ⟨[(.tmp 95)]⟩, ⟨[t_L_api_Val]⟩⟩, some (some 94, true), false⟩,
   ⟨some 97, .binOp .eql t_int (.tmp 96) (.const (.int .i64 0)) t_int, some (some 94, true), false⟩,
   ⟨some 98, .pick (.tmp 94) (.tmp 97) (.const (.bool false)), none, false⟩,
   ⟨some 99, .move (.tmp 98), none, false⟩,
   ⟨some 100, .move (.tmp 0), some (some 99, true), false⟩,
   ⟨some 101, .call ⟨.value (.func f_val_Depth), ⟨[(.tmp 100)]⟩, ⟨[t_api_Val]⟩⟩, some (some 99, true), false⟩,
   ⟨some 102, .binOp .eql t_int (.tmp 101) (.const (.int .i64 0)) t_int, some (some 99, true), false⟩,
   ⟨some 103, .pick (.tmp 99) (.tmp 102) (.const (.bool false)), none, false⟩,
   ⟨some 4, .assign (.tmp 103), none, false⟩])
  .ret))))))))
theorem k_loupelaw02_ValBack : FnOk Tryd.prog f_loupelaw02_ValBack 104 [.tmp 4] c_loupelaw02_ValBack := ⟨_, _, Tryd.func6, by kernel_rfl, rfl, Tryd.ntmps6, rfl, by kernel_rfl⟩

end Lp

/-! LpV6 -/

namespace Lp
open Go

theorem skip_nxtV (L : Nat) : ∀ (v : Vl) (k c : Nat), skip v k = some c → c ≤ L → nxt L v k = some c
  | v, 0, c, h, _ => by cases v <;> simpa [nxt, skip] using h
  | [], k + 1, c, h, _ => by simp [skip] at h
  | n :: v, k + 1, c, h, hc => by
    obtain ⟨hm, c', rfl, h'⟩ := skip_step h
    have := skip_le _ _ _ h'
    rw [nxt, if_neg (by omega), skip_nxtV L v _ c' h' (by omega)]; rfl

theorem rt_rightB {v : Vl} (h : Rt v) : rightB v = true := by
  have h1 := skip_nxtV v.length v 1 _ h.one (Nat.le_refl _)
  have h2 : v.isEmpty = false := by
    cases v with
    | nil => exact absurd rfl h.one.ne
    | cons => rfl
  simp [rightB, h1, h2, h.name, (goodB_iff v).2 h.good]

theorem rightB_iff {v : Vl} : rightB v = true ↔ Rt v := ⟨rightB_rt, rt_rightB⟩

/-! ### Good values, one behind the other -/

theorem Good.app {p w : Vl} (hp : Good p) (hw : Good w) : Good (p ++ w) := by
  intro i n r hd
  rcases Nat.lt_or_ge i p.length with h | h
  · have hd' := List.drop_eq_getElem_cons h
    have e := drop_app (w := w) hd'
    obtain ⟨rfl, rfl⟩ := List.cons.inj (e.symm.trans hd)
    obtain ⟨h1, ps, h2, h3⟩ := hp i _ _ hd'
    exact ⟨h1, ps, parts_append _ _ w _ h2, h3⟩
  · have e : (p ++ w).drop i = w.drop (i - p.length) := by
      rw [List.drop_append, List.drop_eq_nil_of_le h, List.nil_append]
    exact hw (i - p.length) n r (by rw [← e]; exact hd)

theorem Good.nil : Good [] := fun i n r h => by simp at h

theorem Good.flat : ∀ (ps : List Vl), (∀ p ∈ ps, Good p) → Good ps.flatten
  | [], _ => Good.nil
  | p :: ps, h => by
    rw [List.flatten_cons]
    exact (h p (List.mem_cons_self ..)).app (Good.flat ps fun q hq => h q (List.mem_cons_of_mem _ hq))

theorem Good.of_clr {v : Vl} (h : Good (Lp.clr v)) : Good v := by
  cases v with
  | nil => exact h
  | cons n r =>
    intro i m s hd
    cases i with
    | zero =>
      simp only [List.drop_zero, List.cons.injEq] at hd
      obtain ⟨rfl, rfl⟩ := hd
      exact h 0 { n with name := [] } r rfl
    | succ i => exact h (i + 1) m s hd

theorem One.of_clr {v : Vl} (h : One (Lp.clr v)) : One v := by
  unfold One at *
  rw [skip_clr, clr_length] at h
  exact h

theorem Good.made {n : Nd} {ps : List Vl} (hn : plainB n = true) (hm : n.many = ps.length) (hr : risB n.kind ps = true) (h : ∀ p ∈ ps, One p ∧ Good p) : Good (n :: ps.flatten) := by
  intro i m s hd
  cases i with
  | zero =>
    simp only [List.drop_zero, List.cons.injEq] at hd
    obtain ⟨rfl, rfl⟩ := hd
    refine ⟨hn, ps, ?_, hr⟩
    rw [hm, Int.toNat_natCast]
    exact parts_flatten ps fun p hp => (h p hp).1
  | succ i => exact Good.flat ps (fun p hp => (h p hp).2) i m s (by simpa using hd)

theorem Rt.made {n : Nd} {ps : List Vl} (hn : plainB n = true) (hm : n.many = ps.length) (hname : n.name = []) (hr : risB n.kind ps = true) (h : ∀ p ∈ ps, One p ∧ Good p) : Rt (n :: ps.flatten) :=
  ⟨One.made hm fun p hp => (h p hp).1, hname, Good.made hn hm hr h⟩

theorem clr_id {v : Vl} (h : nameOf v = []) : clr v = v := by
  cases v with
  | nil => rfl
  | cons n r => cases n; simp only [nameOf] at h; subst h; rfl

theorem map_clr_id {l : List Vl} (h : ∀ p ∈ l, nameOf p = []) : l.map clr = l := by
  induction l with
  | nil => rfl
  | cons p l ih => rw [List.map_cons, clr_id (h p (List.mem_cons_self ..)), ih fun q hq => h q (List.mem_cons_of_mem _ hq)]

/-! ### Lists -/

def listV (l : List Vl) : Vl := ⟨5, l.length, [], [], false, 0⟩ :: l.flatten

theorem risB5 : ∀ ps : List Vl, (∀ p ∈ ps, nameOf p = []) → risB 5 ps = true
  | [], _ => rfl
  | [p], h => by
    have := h p (by simp)
    simp [risB, this]; decide
  | p :: q :: ps, h => by
    have := h p (by simp)
    have ih := risB5 (q :: ps) fun x hx => h x (List.mem_cons_of_mem _ hx)
    rw [risB, this, ih]; rfl

theorem rt_listV {l : List Vl} (h : ∀ p ∈ l, Rt p) : Rt (listV l) :=
  Rt.made (n := ⟨5, l.length, [], [], false, 0⟩) (by simp [plainB]) rfl rfl (risB5 l fun p hp => (h p hp).name) fun p hp => ⟨(h p hp).one, (h p hp).good⟩

theorem partsV_listV {l : List Vl} (h : ∀ p ∈ l, Rt p) : partsV (listV l) = l := by
  have : parts (l.length : Int).toNat l.flatten = some l := by rw [Int.toNat_natCast]; exact parts_flatten l fun p hp => (h p hp).one
  simp only [listV, partsV, (partsOf_eq (n := ⟨5, l.length, [], [], false, 0⟩) this).1]
  exact map_clr_id fun p hp => (h p hp).name

theorem plain_arr {n : Nd} (h : plainB n = true) (hk : n.kind = 5 ∨ n.kind = 6) : 0 ≤ n.many ∧ n.s = [] ∧ n.neg = false ∧ n.e = 0 := by
  unfold plainB at h
  rw [if_neg (by omega), if_neg (by omega), if_neg (by omega), if_pos hk] at h
  simpa [and_assoc] using h

theorem listV_parts {n : Nd} {r : Vl} (h : Rt (n :: r)) (hk : n.kind = 5) : listV (partsV (n :: r)) = n :: r := by
  obtain ⟨h1, h2, ps, h3, h4, h5, _, _⟩ := h.parts
  obtain ⟨_, e2, e3, e4⟩ := plain_arr h1 (.inl hk)
  have hn : n.name = [] := h.name
  have hc : ps.map clr = ps := map_clr_id fun p hp => by
    rw [hk] at h5
    have := risB_arr ps h5
    obtain ⟨i, hi, rfl⟩ := List.mem_iff_getElem.1 hp
    have := congrArg (fun l => l[i]?) this
    simpa [hi] using this
  have hl := parts_len _ _ _ h3
  simp only [partsV, (partsOf_eq h3).1, hc, listV, h4]
  obtain ⟨k, m, nm, s, g, e⟩ := n
  simp only at hk e2 e3 e4 hn hl h2
  subst hk; subst e2; subst e3; subst e4; subst hn
  congr 2
  omega

/-! ### Names that rise -/

abbrev Rise (l : List (List UInt8)) : Prop := l.Pairwise fun x y => Op.bytesLess x y = true

theorem risB6 : ∀ ps : List Vl, risB 6 ps = true ↔ (∀ p ∈ ps, utf (nameOf p) = true) ∧ Rise (ps.map nameOf)
  | [] => by simp [risB, Rise]
  | [p] => by simp [risB, Rise]
  | p :: q :: ps => by
    have ih := risB6 (q :: ps)
    have e : risB 6 (p :: q :: ps) = (utf (nameOf p) && Op.bytesLess (nameOf p) (nameOf q) && risB 6 (q :: ps)) := by
      rw [risB]; simp
    rw [e, Bool.and_eq_true, Bool.and_eq_true, ih]
    constructor
    · rintro ⟨⟨h1, h2⟩, h3, h4⟩
      refine ⟨?_, ?_⟩
      · intro x hx
        rcases List.mem_cons.1 hx with rfl | hx
        · exact h1
        · exact h3 x hx
      · rw [List.map_cons]
        refine List.pairwise_cons.2 ⟨fun x hx => ?_, h4⟩
        rw [List.map_cons] at hx h4
        rcases List.mem_cons.1 hx with rfl | hx
        · exact h2
        · exact bl_trans _ _ _ h2 ((List.pairwise_cons.1 h4).1 x hx)
    · rintro ⟨h1, h2⟩
      rw [List.map_cons] at h2
      obtain ⟨h3, h4⟩ := List.pairwise_cons.1 h2
      exact ⟨⟨h1 p (by simp), h3 _ (by simp)⟩, fun x hx => h1 x (List.mem_cons_of_mem _ hx), h4⟩

/-! ### Objects -/

def setN (nm : List UInt8) : Vl → Vl
  | [] => []
  | n :: r => { n with name := nm } :: r

theorem clr_setN (nm : List UInt8) (v : Vl) : clr (setN nm v) = clr v := by cases v <;> rfl
theorem setN_length (nm : List UInt8) (v : Vl) : (setN nm v).length = v.length := by cases v <;> rfl
theorem nameOf_setN (nm : List UInt8) {v : Vl} (h : v ≠ []) : nameOf (setN nm v) = nm := by
  cases v with
  | nil => exact absurd rfl h
  | cons n r => rfl
theorem setN_clr (v : Vl) : setN (nameOf v) (clr v) = v := by cases v <;> rfl
theorem One.setN {v : Vl} (h : One v) (nm : List UInt8) : One (Lp.setN nm v) := One.of_clr (by rw [clr_setN]; exact h.clr)
theorem Good.setN {v : Vl} (h : Good v) (nm : List UInt8) : Good (Lp.setN nm v) := Good.of_clr (by rw [clr_setN]; exact h.clr)

abbrev Prs := List (List UInt8 × Vl)

def layV (names : List (List UInt8)) (l : List Vl) : Vl := ⟨6, l.length, [], [], false, 0⟩ :: (List.zipWith setN names l).flatten

def mkO (l : Prs) : Vl := ⟨6, l.length, [], [], false, 0⟩ :: (l.map fun x => setN x.1 x.2).flatten

theorem layV_mkO : ∀ l : Prs, layV (l.map (·.1)) (l.map (·.2)) = mkO l := by
  intro l
  have : List.zipWith setN (l.map (·.1)) (l.map (·.2)) = l.map fun x => setN x.1 x.2 := by
    induction l with
    | nil => rfl
    | cons x l ih => simp only [List.map_cons, List.zipWith_cons_cons, ih]
  simp only [layV, mkO, this, List.length_map]

theorem layV_zip (names : List (List UInt8)) (l : List Vl) (h : names.length = l.length) : layV names l = mkO (names.zip l) := by
  rw [← layV_mkO, List.map_fst_zip (by omega), List.map_snd_zip (by omega)]

def prs (v : Vl) : Prs := (namesV v).zip (partsV v)

structure PairsOk (l : Prs) : Prop where
  rise : Rise (l.map (·.1))
  utf : ∀ x ∈ l, utf x.1 = true
  rt : ∀ x ∈ l, Rt x.2

theorem rt_mkO {l : Prs} (h : PairsOk l) : Rt (mkO l) := by
  refine Rt.made (n := ⟨6, l.length, [], [], false, 0⟩) (by simp [plainB]) (by simp) rfl ?_ ?_
  · show risB 6 _ = true
    rw [risB6]
    have e : (l.map fun x => setN x.1 x.2).map nameOf = l.map (·.1) := by
      rw [List.map_map]
      exact List.map_congr_left fun x hx => nameOf_setN _ (h.rt x hx).one.ne
    refine ⟨fun p hp => ?_, by rw [e]; exact h.rise⟩
    obtain ⟨x, hx, rfl⟩ := List.mem_map.1 hp
    rw [nameOf_setN _ (h.rt x hx).one.ne]
    exact h.utf x hx
  · intro p hp
    obtain ⟨x, hx, rfl⟩ := List.mem_map.1 hp
    exact ⟨(h.rt x hx).one.setN _, (h.rt x hx).good.setN _⟩

theorem parts_mkO {l : Prs} (h : ∀ x ∈ l, Rt x.2) : partsV (mkO l) = l.map (·.2) ∧ namesV (mkO l) = l.map (·.1) := by
  have hp : parts (l.length : Int).toNat (l.map fun x => setN x.1 x.2).flatten = some (l.map fun x => setN x.1 x.2) := by
    have := parts_flatten (l.map fun x => setN x.1 x.2) fun p hp => by
      obtain ⟨x, hx, rfl⟩ := List.mem_map.1 hp
      exact (h x hx).one.setN _
    rw [List.length_map] at this
    rw [Int.toNat_natCast]; exact this
  obtain ⟨e1, e2⟩ := partsOf_eq (n := ⟨6, l.length, [], [], false, 0⟩) hp
  refine ⟨?_, ?_⟩
  · simp only [mkO, partsV, e1, List.map_map]
    exact List.map_congr_left fun x hx => by simp only [Function.comp]; rw [clr_setN, clr_id (h x hx).name]
  · simp only [mkO, namesV, if_true, e2, List.map_map]
    exact List.map_congr_left fun x hx => nameOf_setN _ (h x hx).one.ne

theorem zip_map_self : ∀ l : Prs, (l.map (·.1)).zip (l.map (·.2)) = l
  | [] => rfl
  | x :: l => by simp [zip_map_self l]

theorem prs_mkO {l : Prs} (h : ∀ x ∈ l, Rt x.2) : prs (mkO l) = l := by
  obtain ⟨h1, h2⟩ := parts_mkO h
  rw [prs, h1, h2, zip_map_self]

theorem zip_maps : ∀ ps : List Vl, (ps.map nameOf).zip (ps.map clr) = ps.map fun p => (nameOf p, clr p)
  | [] => rfl
  | p :: ps => by simp [zip_maps ps]

/-- An object: its names and parts. -/
theorem prs_ok {n : Nd} {r : Vl} (h : Rt (n :: r)) (hk : n.kind = 6) : PairsOk (prs (n :: r)) ∧ mkO (prs (n :: r)) = n :: r ∧ namesV (n :: r) = (prs (n :: r)).map (·.1) ∧ partsV (n :: r) = (prs (n :: r)).map (·.2) := by
  obtain ⟨h1, h2, ps, h3, h4, h5, h6, h7⟩ := h.parts
  obtain ⟨_, e2, e3, e4⟩ := plain_arr h1 (.inr hk)
  have hn : n.name = [] := h.name
  obtain ⟨q1, q2⟩ := partsOf_eq h3
  have en : namesV (n :: r) = ps.map nameOf := by simp only [namesV, hk, if_true, q2]
  have ep : partsV (n :: r) = ps.map clr := by simp only [partsV, q1]
  have epr : prs (n :: r) = ps.map fun p => (nameOf p, clr p) := by
    rw [prs, en, ep]
    exact zip_maps ps
  rw [hk] at h5
  obtain ⟨u1, u2⟩ := (risB6 ps).1 h5
  have hl := parts_len _ _ _ h3
  refine ⟨⟨?_, ?_, ?_⟩, ?_, ?_, ?_⟩
  · rw [epr, List.map_map]; exact u2
  · rw [epr]; intro x hx
    obtain ⟨p, hp, rfl⟩ := List.mem_map.1 hx
    exact u1 p hp
  · rw [epr]; intro x hx
    obtain ⟨p, hp, rfl⟩ := List.mem_map.1 hx
    exact h7 p hp
  · rw [epr, mkO, List.map_map, List.length_map]
    have : ps.map ((fun x : List UInt8 × Vl => setN x.1 x.2) ∘ fun p => (nameOf p, clr p)) = ps := by
      conv => rhs; rw [← List.map_id ps]
      exact List.map_congr_left fun p _ => setN_clr p
    rw [this, h4]
    obtain ⟨k, m, nm, s, g, e⟩ := n
    simp only at hk e2 e3 e4 hn hl h2
    subst hk; subst e2; subst e3; subst e4; subst hn
    congr 2
    omega
  · rw [en, epr, List.map_map]; rfl
  · rw [ep, epr, List.map_map]; rfl

/-! ### Pairs -/

theorem rise_ext : ∀ a b : Prs, Rise (a.map (·.1)) → Rise (b.map (·.1)) → (∀ x, x ∈ a ↔ x ∈ b) → a = b
  | [], [], _, _, _ => rfl
  | [], y :: b, _, _, h => by have := (h y).2 (by simp); cases this
  | x :: a, [], _, _, h => by have := (h x).1 (by simp); cases this
  | x :: a, y :: b, ha, hb, h => by
    rw [List.map_cons] at ha hb
    obtain ⟨a1, a2⟩ := List.pairwise_cons.1 ha
    obtain ⟨b1, b2⟩ := List.pairwise_cons.1 hb
    have hxy : x = y := by
      rcases List.mem_cons.1 ((h x).1 (by simp)) with e | hx
      · exact e
      · rcases List.mem_cons.1 ((h y).2 (by simp)) with e | hy
        · exact e.symm
        · have g1 := b1 x.1 (List.mem_map.2 ⟨x, hx, rfl⟩)
          have g2 := a1 y.1 (List.mem_map.2 ⟨y, hy, rfl⟩)
          rw [bl_asymm _ _ g1] at g2; cases g2
    subst hxy
    have hno : ∀ c : Prs, (∀ z ∈ c.map (·.1), Op.bytesLess x.1 z = true) → x ∉ c := fun c hc hx => by
      have := hc x.1 (List.mem_map.2 ⟨x, hx, rfl⟩)
      rw [bl_irrefl] at this; cases this
    have : a = b := rise_ext a b a2 b2 fun z => by
      have hz := h z
      simp only [List.mem_cons] at hz
      constructor
      · intro hza
        rcases hz.1 (.inr hza) with rfl | hzb
        · exact absurd hza (hno a a1)
        · exact hzb
      · intro hzb
        rcases hz.2 (.inr hzb) with rfl | hza
        · exact absurd hzb (hno b b1)
        · exact hza
    rw [this]

theorem rise_nodup {l : List (List UInt8)} (h : Rise l) : l.Nodup := by
  refine h.imp fun {a b} hab e => ?_
  subst e
  rw [bl_irrefl] at hab; cases hab

def getP (l : Prs) (nm : List UInt8) : Option Vl := (l.find? fun x => decide (x.1 = nm)).map (·.2)
def delP (l : Prs) (nm : List UInt8) : Prs := l.filter fun x => !decide (x.1 = nm)
def putP (nm : List UInt8) (x : Vl) : Prs → Prs
  | [] => [(nm, x)]
  | y :: ys => if Op.bytesLess y.1 nm then y :: putP nm x ys else (nm, x) :: y :: ys

theorem mem_putP (nm : List UInt8) (x : Vl) : ∀ (l : Prs) (z : List UInt8 × Vl), z ∈ putP nm x l ↔ z = (nm, x) ∨ z ∈ l
  | [], z => by simp [putP]
  | y :: ys, z => by
    rw [putP]
    split
    · rw [List.mem_cons, mem_putP nm x ys z, List.mem_cons]
      constructor
      · rintro (h | h | h)
        · exact .inr (.inl h)
        · exact .inl h
        · exact .inr (.inr h)
      · rintro (h | h | h)
        · exact .inr (.inl h)
        · exact .inl h
        · exact .inr (.inr h)
    · rw [List.mem_cons]

theorem putP_rise (nm : List UInt8) (x : Vl) : ∀ l : Prs, Rise (l.map (·.1)) → nm ∉ l.map (·.1) → Rise ((putP nm x l).map (·.1))
  | [], _, _ => by simp [putP, Rise]
  | y :: ys, h, hn => by
    rw [List.map_cons] at h hn
    obtain ⟨h1, h2⟩ := List.pairwise_cons.1 h
    rw [List.mem_cons] at hn
    rw [putP]
    split
    · rename_i hlt
      rw [List.map_cons]
      refine List.pairwise_cons.2 ⟨fun z hz => ?_, putP_rise nm x ys h2 fun h => hn (.inr h)⟩
      obtain ⟨w, hw, rfl⟩ := List.mem_map.1 hz
      rcases (mem_putP nm x ys w).1 hw with rfl | hw
      · exact hlt
      · exact h1 _ (List.mem_map.2 ⟨w, hw, rfl⟩)
    · rename_i hlt
      have hlt2 : Op.bytesLess nm y.1 = true := by
        rcases bl_tri nm y.1 with h | h | h
        · exact h
        · exact absurd (.inl h) hn
        · exact absurd h hlt
      rw [List.map_cons, List.map_cons]
      refine List.pairwise_cons.2 ⟨fun z hz => ?_, h⟩
      rcases List.mem_cons.1 hz with rfl | hz
      · exact hlt2
      · exact bl_trans _ _ _ hlt2 (h1 z hz)

theorem putP_ok {nm : List UInt8} {x : Vl} {l : Prs} (h : PairsOk l) (hn : nm ∉ l.map (·.1)) (hu : utf nm = true) (hx : Rt x) : PairsOk (putP nm x l) := by
  refine ⟨putP_rise nm x l h.rise hn, fun z hz => ?_, fun z hz => ?_⟩
  · rcases (mem_putP nm x l z).1 hz with rfl | hz
    · exact hu
    · exact h.utf z hz
  · rcases (mem_putP nm x l z).1 hz with rfl | hz
    · exact hx
    · exact h.rt z hz

theorem putP_length (nm : List UInt8) (x : Vl) : ∀ l : Prs, (putP nm x l).length = l.length + 1
  | [] => rfl
  | y :: ys => by
    rw [putP]
    split
    · simp [putP_length nm x ys]
    · simp

theorem delP_ok {l : Prs} (h : PairsOk l) (nm : List UInt8) : PairsOk (delP l nm) := by
  have hs : ∀ x ∈ delP l nm, x ∈ l := fun x hx => (List.mem_filter.1 hx).1
  refine ⟨?_, fun x hx => h.utf x (hs x hx), fun x hx => h.rt x (hs x hx)⟩
  exact List.Pairwise.sublist (List.Sublist.map _ List.filter_sublist) h.rise

theorem delP_no (l : Prs) (nm : List UInt8) : nm ∉ (delP l nm).map (·.1) := by
  intro h
  obtain ⟨x, hx, rfl⟩ := List.mem_map.1 h
  have := (List.mem_filter.1 hx).2
  simp at this

theorem delP_id {l : Prs} {nm : List UInt8} (h : nm ∉ l.map (·.1)) : delP l nm = l := by
  refine List.filter_eq_self.2 fun x hx => ?_
  have : x.1 ≠ nm := fun e => h (List.mem_map.2 ⟨x, hx, e⟩)
  simp [this]

theorem getP_none {l : Prs} {nm : List UInt8} : getP l nm = none ↔ nm ∉ l.map (·.1) := by
  unfold getP
  rw [Option.map_eq_none_iff, List.find?_eq_none]
  constructor
  · intro h hm
    obtain ⟨x, hx, rfl⟩ := List.mem_map.1 hm
    have := h x hx
    simp at this
  · intro h x hx
    have : x.1 ≠ nm := fun e => h (List.mem_map.2 ⟨x, hx, e⟩)
    simp [this]

theorem getP_some {l : Prs} {nm : List UInt8} {x : Vl} (h : getP l nm = some x) : (nm, x) ∈ l := by
  unfold getP at h
  cases hf : l.find? fun x => decide (x.1 = nm) with
  | none => rw [hf] at h; cases h
  | some y =>
    rw [hf] at h
    simp only [Option.map_some, Option.some.injEq] at h
    have h1 := List.mem_of_find?_eq_some hf
    have h2 := List.find?_some hf
    simp only [decide_eq_true_eq] at h2
    rw [← h, ← h2]; exact h1

theorem mem_getP {l : Prs} {nm : List UInt8} {x : Vl} (hr : (l.map (·.1)).Nodup) (h : (nm, x) ∈ l) : getP l nm = some x := by
  cases hg : getP l nm with
  | none => exact absurd (List.mem_map.2 ⟨_, h, rfl⟩) (getP_none.1 hg)
  | some y =>
    have hy := getP_some hg
    congr 1
    clear hg
    induction l with
    | nil => cases h
    | cons z l ih =>
      rw [List.map_cons] at hr
      obtain ⟨h1, h2⟩ := List.nodup_cons.1 hr
      rcases List.mem_cons.1 h with e | h
      · rcases List.mem_cons.1 hy with e2 | hy
        · rw [← e] at e2; injection e2 with _ e2
        · rw [← e] at h1; exact absurd (List.mem_map.2 ⟨_, hy, rfl⟩) h1
      · rcases List.mem_cons.1 hy with e2 | hy
        · rw [← e2] at h1; exact absurd (List.mem_map.2 ⟨_, h, rfl⟩) h1
        · exact ih h2 h hy

theorem mem_delP {l : Prs} {nm : List UInt8} {z : List UInt8 × Vl} : z ∈ delP l nm ↔ z ∈ l ∧ z.1 ≠ nm := by
  unfold delP
  rw [List.mem_filter]
  simp

/-- What is put is found; the rest as it was. -/
theorem getP_putP {nm : List UInt8} {x : Vl} {l : Prs} (h : PairsOk l) (hn : nm ∉ l.map (·.1)) : getP (putP nm x l) nm = some x :=
  mem_getP (rise_nodup (putP_rise nm x l h.rise hn)) ((mem_putP nm x l _).2 (.inl rfl))

theorem getP_putP_ne {nm k : List UInt8} {x : Vl} {l : Prs} (h : PairsOk l) (hn : nm ∉ l.map (·.1)) (hk : k ≠ nm) : getP (putP nm x l) k = getP l k := by
  cases hg : getP l k with
  | none =>
    rw [getP_none] at hg ⊢
    intro hm
    obtain ⟨z, hz, rfl⟩ := List.mem_map.1 hm
    rcases (mem_putP nm x l z).1 hz with rfl | hz
    · exact hk rfl
    · exact hg (List.mem_map.2 ⟨z, hz, rfl⟩)
  | some y => exact mem_getP (rise_nodup (putP_rise nm x l h.rise hn)) ((mem_putP nm x l _).2 (.inr (getP_some hg)))

theorem getP_delP_ne {nm k : List UInt8} {l : Prs} (h : PairsOk l) (hk : k ≠ nm) : getP (delP l nm) k = getP l k := by
  cases hg : getP l k with
  | none =>
    rw [getP_none] at hg ⊢
    intro hm
    obtain ⟨z, hz, rfl⟩ := List.mem_map.1 hm
    exact hg (List.mem_map.2 ⟨z, (mem_delP.1 hz).1, rfl⟩)
  | some y => exact mem_getP (rise_nodup (delP_ok h nm).rise) (mem_delP.2 ⟨getP_some hg, hk⟩)

theorem delP_putP {nm : List UInt8} {x : Vl} {l : Prs} (h : PairsOk l) (hn : nm ∉ l.map (·.1)) (hu : utf nm = true) (hx : Rt x) : delP (putP nm x l) nm = l := by
  refine rise_ext _ _ (delP_ok (putP_ok h hn hu hx) nm).rise h.rise fun z => ?_
  rw [mem_delP, mem_putP]
  constructor
  · rintro ⟨rfl | h1, h2⟩
    · exact absurd rfl h2
    · exact h1
  · intro hz
    exact ⟨.inr hz, fun e => hn (List.mem_map.2 ⟨z, hz, e⟩)⟩

theorem putP_delP {nm : List UInt8} {x : Vl} {l : Prs} (h : PairsOk l) (hg : getP l nm = some x) : putP nm x (delP l nm) = l := by
  have hm := getP_some hg
  refine rise_ext _ _ (putP_rise _ _ _ (delP_ok h nm).rise (delP_no l nm)) h.rise fun z => ?_
  rw [mem_putP, mem_delP]
  constructor
  · rintro (rfl | ⟨h1, _⟩)
    · exact hm
    · exact h1
  · intro hz
    by_cases e : z.1 = nm
    · left
      obtain ⟨z1, z2⟩ := z
      simp only at e
      subst e
      have := mem_getP (rise_nodup h.rise) hz
      rw [hg] at this
      cases this; rfl
    · exact .inr ⟨hz, e⟩

/-- The object of some. -/
def srtP (l : Prs) : Prs := l.foldr (fun x acc => putP x.1 x.2 acc) []

theorem mem_srtP (l : Prs) (z : List UInt8 × Vl) : z ∈ srtP l ↔ z ∈ l := by
  induction l with
  | nil => rfl
  | cons x l ih =>
    show z ∈ putP x.1 x.2 (srtP l) ↔ _
    rw [mem_putP, ih, List.mem_cons]

theorem srtP_rise {l : Prs} (h : (l.map (·.1)).Nodup) : Rise ((srtP l).map (·.1)) := by
  induction l with
  | nil => exact List.Pairwise.nil
  | cons x l ih =>
    rw [List.map_cons] at h
    obtain ⟨h1, h2⟩ := List.nodup_cons.1 h
    refine putP_rise _ _ _ (ih h2) fun hm => h1 ?_
    obtain ⟨z, hz, e⟩ := List.mem_map.1 hm
    exact List.mem_map.2 ⟨z, (mem_srtP l z).1 hz, e⟩

theorem srtP_length (l : Prs) : (srtP l).length = l.length := by
  induction l with
  | nil => rfl
  | cons x l ih =>
    show (putP x.1 x.2 (srtP l)).length = _
    rw [putP_length, ih]; rfl

theorem putP_perm (nm : List UInt8) (x : Vl) : ∀ l : Prs, (putP nm x l).Perm ((nm, x) :: l)
  | [] => .refl _
  | y :: ys => by
    rw [putP]
    split
    · exact ((putP_perm nm x ys).cons y).trans (.swap ..)
    · exact .refl _

theorem srtP_perm : ∀ l : Prs, (srtP l).Perm l
  | [] => .refl _
  | x :: l => (putP_perm x.1 x.2 (srtP l)).trans ((srtP_perm l).cons x)

theorem flat_perm {a b : List Vl} (h : a.Perm b) : a.flatten.length = b.flatten.length := by
  rw [List.length_flatten, List.length_flatten]
  exact (h.map List.length).sum_nat

theorem srtP_flat {names : List (List UInt8)} {l : List Vl} (h : names.length = l.length) : ((srtP (names.zip l)).map (·.2)).flatten.length = l.flatten.length := by
  have := flat_perm ((srtP_perm (names.zip l)).map (·.2))
  rw [List.map_snd_zip (by omega)] at this
  exact this

/-- Which names may an object have? -/
def namesOk (names : List (List UInt8)) (k : Nat) : Bool := decide (names.length = k) && decide names.Nodup && names.all utf

def objVal (names : List (List UInt8)) (l : List Vl) : Vl := if namesOk names l.length then mkO (srtP (names.zip l)) else []
def objErr (names : List (List UInt8)) (l : List Vl) : Int := if namesOk names l.length then 0 else 4

theorem namesOk_iff {names : List (List UInt8)} {k : Nat} : namesOk names k = true ↔ names.length = k ∧ names.Nodup ∧ ∀ x ∈ names, utf x = true := by
  simp [namesOk, and_assoc]

theorem srt_ok {names : List (List UInt8)} {l : List Vl} (h : namesOk names l.length = true) (hl : ∀ p ∈ l, Rt p) : PairsOk (srtP (names.zip l)) := by
  obtain ⟨h1, h2, h3⟩ := namesOk_iff.1 h
  refine ⟨srtP_rise (by rw [List.map_fst_zip (by omega)]; exact h2), fun x hx => ?_, fun x hx => ?_⟩
  · have := (mem_srtP _ _).1 hx
    exact h3 _ (List.of_mem_zip this).1
  · have := (mem_srtP _ _).1 hx
    exact hl _ (List.of_mem_zip this).2

/-- Sorted names, with their parts: what the object is. -/
theorem srtP_unique {names : List (List UInt8)} {l : List Vl} (h : namesOk names l.length = true) {q : Prs} (hq : Rise (q.map (·.1))) (hm : ∀ x, x ∈ q ↔ x ∈ names.zip l) : q = srtP (names.zip l) := by
  obtain ⟨h1, h2, h3⟩ := namesOk_iff.1 h
  exact rise_ext _ _ hq (srtP_rise (by rw [List.map_fst_zip (by omega)]; exact h2)) fun x => by rw [hm, mem_srtP]

/-- An object hangs on no order. -/
theorem objVal_perm {names names' : List (List UInt8)} {l l' : List Vl} (h1 : names.length = l.length) (h1' : names'.length = l'.length) (hp : (names.zip l).Perm (names'.zip l')) : objVal names l = objVal names' l' ∧ objErr names l = objErr names' l' := by
  have hn : names.Perm names' := by
    have := hp.map (·.1)
    rwa [List.map_fst_zip (by omega), List.map_fst_zip (by omega)] at this
  have hok : namesOk names l.length = namesOk names' l'.length := by
    rw [Bool.eq_iff_iff, namesOk_iff, namesOk_iff, hn.nodup_iff]
    constructor
    · rintro ⟨_, a, b⟩; exact ⟨h1', a, fun x hx => b x (hn.mem_iff.2 hx)⟩
    · rintro ⟨_, a, b⟩; exact ⟨h1, a, fun x hx => b x (hn.mem_iff.1 hx)⟩
  refine ⟨?_, by unfold objErr; rw [hok]⟩
  unfold objVal
  rw [← hok]
  cases hh : namesOk names l.length with
  | false => simp
  | true =>
    rw [if_pos rfl, if_pos rfl]
    congr 1
    rw [hok] at hh
    obtain ⟨_, b2, _⟩ := namesOk_iff.1 hh
    have hh' := hh
    rw [← hok] at hh'
    obtain ⟨_, a2, _⟩ := namesOk_iff.1 hh'
    exact srtP_unique hh (srtP_rise (by rw [List.map_fst_zip (by omega)]; exact a2)) fun x => by rw [mem_srtP]; exact hp.mem_iff

theorem obj_parts {n : Nd} {r : Vl} (h : Rt (n :: r)) (hk : n.kind = 6) : objVal (namesV (n :: r)) (partsV (n :: r)) = n :: r ∧ objErr (namesV (n :: r)) (partsV (n :: r)) = 0 := by
  obtain ⟨h1, h2, h3, h4⟩ := prs_ok h hk
  have hok : namesOk (namesV (n :: r)) (partsV (n :: r)).length = true := by
    rw [namesOk_iff, h3, h4]
    refine ⟨by simp, rise_nodup h1.rise, fun x hx => ?_⟩
    obtain ⟨z, hz, rfl⟩ := List.mem_map.1 hx
    exact h1.utf z hz
  have e : srtP ((namesV (n :: r)).zip (partsV (n :: r))) = prs (n :: r) := (srtP_unique hok h1.rise fun x => Iff.rfl).symm
  rw [objVal, objErr, if_pos hok, if_pos hok, e, h2]
  exact ⟨rfl, rfl⟩

/-! ### Depth -/

def dpt : Nat → Vl → Nat
  | f + 1, n :: r => if n.kind = 5 ∨ n.kind = 6 then ((partsOf n r).map (dpt f)).foldl max 0 + 1 else 0
  | _, _ => 0

def depthV (v : Vl) : Nat := dpt v.length v

theorem dpt_fuel : ∀ (f g : Nat) (v : Vl), v.length ≤ f → v.length ≤ g → Rt v → dpt f v = dpt g v
  | 0, _, v, h, _, hr => by have := hr.one.ne; cases v <;> simp at h this
  | f + 1, 0, v, _, h, hr => by have := hr.one.ne; cases v <;> simp at h this
  | f + 1, g + 1, [], _, _, _ => rfl
  | f + 1, g + 1, n :: r, h1, h2, hr => by
    have hp := partsOf_len hr
    simp only [List.length_cons] at h1 h2
    have e : (partsOf n r).map (dpt f) = (partsOf n r).map (dpt g) := List.map_congr_left fun x hx => dpt_fuel f g x (by have := (hp x hx).1; omega) (by have := (hp x hx).1; omega) (hp x hx).2
    simp only [dpt, e]

theorem depthV_eq {n : Nd} {r : Vl} (h : Rt (n :: r)) : depthV (n :: r) = if n.kind = 5 ∨ n.kind = 6 then ((partsV (n :: r)).map depthV).foldl max 0 + 1 else 0 := by
  have hp := partsOf_len h
  have e : (partsOf n r).map (dpt r.length) = (partsOf n r).map depthV := List.map_congr_left fun x hx => dpt_fuel _ _ x (hp x hx).1 (Nat.le_refl _) (hp x hx).2
  simp only [depthV, List.length_cons, dpt, e, partsV]

theorem foldl_max_ge : ∀ (l : List Nat) (a : Nat), a ≤ l.foldl max a ∧ ∀ x ∈ l, x ≤ l.foldl max a
  | [], a => ⟨Nat.le_refl _, fun x hx => by cases hx⟩
  | y :: l, a => by
    obtain ⟨h1, h2⟩ := foldl_max_ge l (max a y)
    refine ⟨by simp only [List.foldl_cons]; omega, fun x hx => ?_⟩
    simp only [List.foldl_cons]
    rcases List.mem_cons.1 hx with rfl | hx
    · omega
    · exact h2 x hx

theorem foldl_max_le : ∀ (l : List Nat) (a b : Nat), a ≤ b → (∀ x ∈ l, x ≤ b) → l.foldl max a ≤ b
  | [], a, b, h, _ => h
  | y :: l, a, b, h, hl => by
    simp only [List.foldl_cons]
    exact foldl_max_le l _ b (by have := hl y (by simp); omega) fun x hx => hl x (List.mem_cons_of_mem _ hx)

theorem dpt_le : ∀ (f : Nat) (v : Vl), v.length ≤ f → Rt v → depthV v ≤ v.length
  | 0, v, h, hr => by have := hr.one.ne; cases v <;> simp at h this
  | f + 1, [], _, hr => absurd rfl hr.one.ne
  | f + 1, n :: r, h, hr => by
    rw [depthV_eq hr]
    have hp := partsOf_len hr
    simp only [List.length_cons] at h ⊢
    split
    · have : ((partsV (n :: r)).map depthV).foldl max 0 ≤ r.length := foldl_max_le _ _ _ (Nat.zero_le _) fun x hx => by
        obtain ⟨p, hpm, rfl⟩ := List.mem_map.1 hx
        have h1 := hp p hpm
        have := dpt_le f p (by omega) h1.2
        omega
      omega
    · omega

theorem depthV_le {v : Vl} (h : Rt v) : depthV v ≤ v.length := dpt_le _ v (Nat.le_refl _) h

theorem numB_many0 {n : Nd} (h : plainB n = true) (hk : ¬ (n.kind = 5 ∨ n.kind = 6)) : n.many = 0 := by
  unfold plainB at h
  split at h
  · simp only [Bool.and_eq_true, beq_iff_eq] at h; exact h.1.1.1
  · split at h
    · exact numB_many h
    · split at h
      · simp only [Bool.and_eq_true, beq_iff_eq] at h; exact h.1.1.2
      · cases h

theorem partsV_none {n : Nd} {r : Vl} (h : Rt (n :: r)) (hk : ¬ (n.kind = 5 ∨ n.kind = 6)) : partsV (n :: r) = [] ∧ r = [] := by
  obtain ⟨h1, _, ps, h3, h4, _, _, _⟩ := h.parts
  have := numB_many0 h1 hk
  rw [this] at h3
  have h3' : parts 0 r = some ps := h3
  simp only [parts, Option.some.injEq] at h3'
  subst h3'
  refine ⟨by simp [partsV, (partsOf_eq (by rw [this]; exact h3)).1], by simpa using h4.symm⟩

theorem depth_part {v p : Vl} (h : Rt v) (hp : p ∈ partsV v) : depthV p < depthV v := by
  obtain ⟨n, r, rfl, _⟩ := nameOf_nil h.name h.one.ne
  by_cases hk : n.kind = 5 ∨ n.kind = 6
  · rw [depthV_eq h, if_pos hk]
    have := (foldl_max_ge ((partsV (n :: r)).map depthV) 0).2 (depthV p) (List.mem_map.2 ⟨p, hp, rfl⟩)
    omega
  · rw [(partsV_none h hk).1] at hp; cases hp

theorem partsV_rt {v p : Vl} (h : Rt v) (hp : p ∈ partsV v) : Rt p ∧ p.length < v.length := by
  obtain ⟨n, r, rfl, _⟩ := nameOf_nil h.name h.one.ne
  have := partsOf_len h p hp
  exact ⟨this.2, by simp only [List.length_cons]; omega⟩

end Lp

/-! LpV7 -/

namespace Lp
open Go

structure Opn where
  kind : Int
  left : Int
  first : Bool
  last : List UInt8

def nameOkO (o : Opn) (nm : List UInt8) : Bool := if o.kind = 6 then utf nm && (o.first || Op.bytesLess o.last nm) else nm == []

/-- The stack's run: its top first. -/
def runR (L : Int) : List Opn → Vl → Bool
  | s, [] => !s.any fun o => decide (0 < o.left)
  | s, n :: r => match s.dropWhile (fun o => o.left == 0) with
    | [] => false
    | o :: t => plainB n && decide (n.many ≤ L) && nameOkO o n.name && runR L (⟨n.kind, n.many, true, []⟩ :: ⟨o.kind, o.left - 1, false, n.name⟩ :: t) r

def risF (o : Opn) : List Vl → Bool
  | [] => true
  | p :: ps => nameOkO o (nameOf p) && risF { o with first := false, last := nameOf p } ps

def Fit (L : Int) : List Opn → Vl → Prop
  | [], v => v = []
  | o :: t, v => ∃ (ps : List Vl) (w : Vl), v = ps.flatten ++ w ∧ (ps.length : Int) = o.left ∧ (∀ p ∈ ps, One p ∧ Good p ∧ ∀ n ∈ p, n.many ≤ L) ∧ risF o ps = true ∧ Fit L t w

theorem risF_left (o : Opn) (k : Int) : ∀ ps : List Vl, risF { o with left := k } ps = risF o ps
  | [] => rfl
  | p :: ps => by
    simp only [risF]
    rw [risF_left { o with first := false, last := nameOf p } k ps]; rfl

theorem risF6 : ∀ (o : Opn) (ps : List Vl), o.kind = 6 → (risF o ps = true ↔ (∀ p ∈ ps, utf (nameOf p) = true) ∧ Rise (ps.map nameOf) ∧ (o.first = false → ∀ p ∈ ps, Op.bytesLess o.last (nameOf p) = true))
  | o, [], _ => by simp [risF, Rise]
  | o, p :: ps, hk => by
    have ih := risF6 { o with first := false, last := nameOf p } ps hk
    have e : risF o (p :: ps) = ((utf (nameOf p) && (o.first || Op.bytesLess o.last (nameOf p))) && risF { o with first := false, last := nameOf p } ps) := by
      simp only [risF, nameOkO, hk, if_true]
    rw [e, Bool.and_eq_true, Bool.and_eq_true, Bool.or_eq_true, ih]
    simp only [forall_const]
    constructor
    · rintro ⟨⟨h1, h2⟩, h3, h4, h5⟩
      refine ⟨fun x hx => ?_, ?_, fun hf x hx => ?_⟩
      · rcases List.mem_cons.1 hx with rfl | hx
        · exact h1
        · exact h3 x hx
      · rw [List.map_cons]
        refine List.pairwise_cons.2 ⟨fun x hx => ?_, h4⟩
        obtain ⟨q, hq, rfl⟩ := List.mem_map.1 hx
        exact h5 q hq
      · have h2' := h2.resolve_left (by rw [hf]; simp)
        rcases List.mem_cons.1 hx with rfl | hx
        · exact h2'
        · exact bl_trans _ _ _ h2' (h5 x hx)
    · rintro ⟨h1, h2, h3⟩
      rw [List.map_cons] at h2
      obtain ⟨h4, h5⟩ := List.pairwise_cons.1 h2
      refine ⟨⟨h1 p (by simp), ?_⟩, fun x hx => h1 x (List.mem_cons_of_mem _ hx), h5, fun x hx => h4 _ (List.mem_map.2 ⟨x, hx, rfl⟩)⟩
      cases hf : o.first with
      | true => exact .inl rfl
      | false => exact .inr (h3 hf p (by simp))

theorem risF_other : ∀ (o : Opn) (ps : List Vl), o.kind ≠ 6 → (risF o ps = true ↔ ∀ p ∈ ps, nameOf p = [])
  | o, [], _ => by simp [risF]
  | o, p :: ps, hk => by
    have ih := risF_other { o with first := false, last := nameOf p } ps hk
    have e : risF o (p :: ps) = ((nameOf p == []) && risF { o with first := false, last := nameOf p } ps) := by
      simp only [risF, nameOkO, hk, if_false]
    rw [e, Bool.and_eq_true, ih]
    simp

/-- A node's parts: what is asked of their names. -/
theorem risF_risB {n : Nd} {ps : List Vl} (hp : plainB n = true) (hl : n.many = ps.length) (m : Int) : risF ⟨n.kind, m, true, []⟩ ps = risB n.kind ps := by
  rw [Bool.eq_iff_iff]
  by_cases h6 : n.kind = 6
  · rw [risF6 _ _ h6, h6, risB6]; simp
  by_cases h5 : n.kind = 5
  · rw [risF_other _ _ h6, h5]
    refine ⟨risB5 ps, fun h => ?_⟩
    have := risB_arr ps h
    intro p hp
    obtain ⟨i, hi, rfl⟩ := List.mem_iff_getElem.1 hp
    have := congrArg (fun l => l[i]?) this
    simpa [hi] using this
  · have := numB_many0 hp (by omega)
    have : ps = [] := List.eq_nil_of_length_eq_zero (by omega)
    subst this
    simp [risF, risB]

theorem fit_zero {L : Int} {o : Opn} {t : List Opn} {v : Vl} (h : o.left = 0) : Fit L (o :: t) v ↔ Fit L t v := by
  constructor
  · rintro ⟨ps, w, rfl, hl, _, _, hw⟩
    have : ps = [] := List.eq_nil_of_length_eq_zero (by omega)
    subst this
    simpa using hw
  · intro hw
    exact ⟨[], v, by simp, by simp [h], by simp, rfl, hw⟩

theorem fit_drop {L : Int} {v : Vl} : ∀ s : List Opn, Fit L s v ↔ Fit L (s.dropWhile fun o => o.left == 0) v
  | [] => Iff.rfl
  | o :: t => by
    by_cases h : o.left = 0
    · rw [List.dropWhile_cons_of_pos (by simpa using h), ← fit_drop t, fit_zero h]
    · rw [List.dropWhile_cons_of_neg (by simpa using h)]

theorem fit_nil {L : Int} : ∀ s : List Opn, (∀ o ∈ s, 0 ≤ o.left) → (Fit L s [] ↔ ∀ o ∈ s, o.left = 0)
  | [], _ => by simp [Fit]
  | o :: t, h => by
    have ih := fit_nil (L := L) t fun x hx => h x (List.mem_cons_of_mem _ hx)
    constructor
    · rintro ⟨ps, w, he, hl, hp, _, hw⟩
      have he' := he.symm
      rw [List.append_eq_nil_iff] at he'
      obtain ⟨e1, rfl⟩ := he'
      have hps : ps = [] := by
        cases ps with
        | nil => rfl
        | cons p ps =>
          rw [List.flatten_cons, List.append_eq_nil_iff] at e1
          exact absurd e1.1 (hp p (by simp)).1.ne
      subst hps
      intro x hx
      rcases List.mem_cons.1 hx with rfl | hx
      · simpa using hl.symm
      · exact ih.1 hw x hx
    · intro hz
      rw [fit_zero (hz o (by simp)), ih]
      exact fun x hx => hz x (List.mem_cons_of_mem _ hx)

theorem fit_step {L : Int} {o : Opn} {t : List Opn} {n : Nd} {r : Vl} (h0 : 0 ≤ o.left) (h1 : o.left ≠ 0) :
    Fit L (o :: t) (n :: r) ↔ plainB n = true ∧ n.many ≤ L ∧ nameOkO o n.name = true ∧ Fit L (⟨n.kind, n.many, true, []⟩ :: ⟨o.kind, o.left - 1, false, n.name⟩ :: t) r := by
  constructor
  · rintro ⟨ps, w, he, hl, hp, hr, hw⟩
    cases ps with
    | nil => simp only [List.length_nil] at hl; omega
    | cons p ps =>
      obtain ⟨ho, hg, hm⟩ := hp p (by simp)
      cases p with
      | nil => exact absurd rfl ho.ne
      | cons n' q =>
        simp only [List.flatten_cons, List.cons_append, List.cons.injEq] at he
        obtain ⟨rfl, rfl⟩ := he
        obtain ⟨hm0, qs, hq, hqf, hqo⟩ := ho.parts
        obtain ⟨hpl, qs', hq', hrb⟩ := hg 0 n q rfl
        rw [hq] at hq'
        cases hq'
        have hql := parts_len _ _ _ hq
        have hgq : Good qs.flatten := by rw [hqf]; exact (show Good ([n] ++ q) from hg).suf
        simp only [risF, Bool.and_eq_true] at hr
        refine ⟨hpl, hm n (by simp), hr.1, qs, ps.flatten ++ w, by rw [hqf, List.append_assoc], by show (qs.length : Int) = n.many; omega, fun x hx => ⟨hqo x hx, Good.of_flatten qs hqo hgq x hx, fun y hy => hm y ?_⟩, ?_, ps, w, rfl, ?_, fun x hx => hp x (List.mem_cons_of_mem _ hx), ?_, hw⟩
        · rw [← hqf]
          exact List.mem_cons_of_mem _ (List.mem_flatten.2 ⟨x, hx, hy⟩)
        · rw [risF_risB hpl (by omega)]; exact hrb
        · show (ps.length : Int) = o.left - 1
          simp only [List.length_cons] at hl; omega
        · have := hr.2
          rw [← risF_left _ (o.left - 1)] at this
          exact this
  · rintro ⟨hpl, hm, hn, qs, w1, rfl, hql, hqp, hqr, ps, w, rfl, hl, hp, hr, hw⟩
    have hrb : risB n.kind qs = true := by rw [← risF_risB hpl (by simp only at hql; omega)]; exact hqr
    refine ⟨(n :: qs.flatten) :: ps, w, by simp, ?_, fun x hx => ?_, ?_, hw⟩
    · simp only [List.length_cons] at hl ⊢; omega
    · rcases List.mem_cons.1 hx with rfl | hx
      · refine ⟨One.made (by simp only at hql; omega) fun p hp => (hqp p hp).1, Good.made hpl (by simp only at hql; omega) hrb fun p hp => ⟨(hqp p hp).1, (hqp p hp).2.1⟩, fun y hy => ?_⟩
        rcases List.mem_cons.1 hy with rfl | hy
        · exact hm
        · obtain ⟨q, hq, hyq⟩ := List.mem_flatten.1 hy
          exact (hqp q hq).2.2 y hyq
      · exact hp x hx
    · simp only [risF, Bool.and_eq_true]
      refine ⟨hn, ?_⟩
      have := hr
      rw [← risF_left _ o.left] at this
      exact this

theorem runR_fit (L : Int) : ∀ (v : Vl) (s : List Opn), (∀ o ∈ s, 0 ≤ o.left) → (runR L s v = true ↔ Fit L s v)
  | [], s, h => by
    rw [fit_nil s h]
    simp only [runR, Bool.not_eq_true', List.any_eq_false, decide_eq_true_eq]
    constructor
    · intro g o ho
      have := g o ho
      have := h o ho
      omega
    · intro g o ho
      have := g o ho
      omega
  | n :: r, s, h => by
    rw [fit_drop s]
    have hd : ∀ o ∈ s.dropWhile (fun o => o.left == 0), 0 ≤ o.left := fun o ho => h o ((List.dropWhile_sublist _).subset ho)
    have hh : ∀ o t, s.dropWhile (fun o => o.left == 0) = o :: t → o.left ≠ 0 := fun o t e => by
      have := List.head?_dropWhile_not (fun o : Opn => o.left == 0) s
      rw [e] at this
      simpa using this
    rw [runR]
    generalize s.dropWhile (fun o => o.left == 0) = s' at hd hh
    cases s' with
    | nil => simp [Fit]
    | cons o t =>
      simp only
      have h0 := hd o (by simp)
      have h1 := hh o t rfl
      rw [fit_step h0 h1]
      simp only [Bool.and_eq_true, decide_eq_true_eq, and_assoc]
      constructor
      · rintro ⟨g1, g2, g3, g4⟩
        refine ⟨g1, g2, g3, (runR_fit L r _ ?_).1 g4⟩
        have hm : 0 ≤ n.many := by
          by_cases hk : n.kind = 5 ∨ n.kind = 6
          · exact (plain_arr g1 hk).1
          · rw [numB_many0 g1 hk]; exact Int.le_refl 0
        intro x hx
        rcases List.mem_cons.1 hx with rfl | hx
        · exact hm
        · rcases List.mem_cons.1 hx with rfl | hx
          · simp only; omega
          · exact hd x (List.mem_cons_of_mem _ hx)
      · rintro ⟨g1, g2, g3, g4⟩
        refine ⟨g1, g2, g3, (runR_fit L r _ ?_).2 g4⟩
        have hm : 0 ≤ n.many := by
          by_cases hk : n.kind = 5 ∨ n.kind = 6
          · exact (plain_arr g1 hk).1
          · rw [numB_many0 g1 hk]; exact Int.le_refl 0
        intro x hx
        rcases List.mem_cons.1 hx with rfl | hx
        · exact hm
        · rcases List.mem_cons.1 hx with rfl | hx
          · simp only; omega
          · exact hd x (List.mem_cons_of_mem _ hx)

theorem One.many_le {v : Vl} (h : One v) : ∀ n ∈ v, n.many ≤ (v.length : Int) := by
  intro n hn
  obtain ⟨i, hi, rfl⟩ := List.mem_iff_getElem.1 hn
  obtain ⟨h0, ps, hp⟩ := h.partsAt hi
  have := parts_le _ _ _ hp
  simp only [List.length_drop] at this
  omega

theorem runR_right (v : Vl) : runR v.length [⟨5, 1, false, []⟩] v = rightB v := by
  rw [Bool.eq_iff_iff, runR_fit _ _ _ (by simp), rightB_iff]
  constructor
  · rintro ⟨ps, w, rfl, hl, hp, hr, hw⟩
    simp only [Fit] at hw
    subst hw
    match ps, hl with
    | [p], _ =>
      obtain ⟨h1, h2, _⟩ := hp p (by simp)
      rw [risF_other _ _ (by decide)] at hr
      simp only [List.flatten_cons, List.flatten_nil, List.append_nil]
      exact ⟨h1, hr p (by simp), h2⟩
    | [], hl => simp at hl
    | _ :: _ :: _, hl => simp at hl; omega
  · intro h
    refine ⟨[v], [], by simp, by simp, fun p hp => ?_, ?_, rfl⟩
    · simp only [List.mem_singleton] at hp
      subst hp
      exact ⟨h.one, h.good, h.one.many_le⟩
    · rw [risF_other _ _ (by decide)]
      simp [h.name]

end Lp

/-! LpV8 -/

namespace Lp
open Go

structure Atm where
  n : Int
  c : Nd
  deriving DecidableEq

/-- A node of a value without parts, right, without name. -/
def scalB (n : Nd) : Bool := decide (n.kind < 5) && rightB [n]

def rightA (a : Atm) : Bool := decide (0 ≤ a.n) && decide (a.n ≤ 5) && scalB a.c

def saysI (how c : Int) : Bool :=
  if how = 0 then decide (c = 0) else if how = 1 then !decide (c = 0) else if how = 2 then decide (c < 0) else if how = 3 then decide (c ≤ 0) else if how = 4 then decide (0 < c) else decide (0 ≤ c)

def holdsA (a : Atm) (n : Nd) : Bool := saysI a.n (cmpV 1 [n] [a.c])

def letsB (mask kind : Int) : Bool := (mask.toNat / 2 ^ kind.toNat) % 2 == 1

def memberA (mask : Int) (l : List Atm) (n : Nd) : Bool := scalB n && letsB mask n.kind && l.all fun a => holdsA a n

def turnI (how : Int) : Int := if how = 0 then 1 else if how = 1 then 0 else if how = 2 then 5 else if how = 3 then 4 else if how = 4 then 3 else if how = 5 then 2 else 0

theorem scalB_plain {n : Nd} (h : scalB n = true) : plainB n = true ∧ n.name = [] ∧ 0 ≤ n.kind ∧ n.kind < 5 ∧ Rt [n] := by
  simp only [scalB, Bool.and_eq_true, decide_eq_true_eq] at h
  have hr := rightB_rt h.2
  obtain ⟨h1, _, _⟩ := hr.parts
  refine ⟨h1, hr.name, ?_, h.1, hr⟩
  unfold plainB at h1
  rcases Int.lt_or_le n.kind 0 with hk | hk
  · rw [if_neg (by omega), if_neg (by omega), if_neg (by omega), if_neg (by omega)] at h1; cases h1
  · exact hk

theorem turn_says (how c : Int) (h0 : 0 ≤ how) (h5 : how ≤ 5) : saysI (turnI how) c = !saysI how c := by
  have : how = 0 ∨ how = 1 ∨ how = 2 ∨ how = 3 ∨ how = 4 ∨ how = 5 := by omega
  have key : ∀ p q : Prop, [Decidable p] → [Decidable q] → (p ↔ ¬ q) → decide p = !decide q := by
    intro p q _ _ h
    by_cases hq : q
    · simp [hq, h]
    · simp [hq, h]
  rcases this with rfl | rfl | rfl | rfl | rfl | rfl <;> simp [saysI, turnI] <;> exact key _ _ (by omega)

theorem turn_turn (how : Int) (h0 : 0 ≤ how) (h5 : how ≤ 5) : turnI (turnI how) = how := by
  have : how = 0 ∨ how = 1 ∨ how = 2 ∨ how = 3 ∨ how = 4 ∨ how = 5 := by omega
  rcases this with rfl | rfl | rfl | rfl | rfl | rfl <;> rfl

theorem turn_rng (how : Int) (h0 : 0 ≤ how) (h5 : how ≤ 5) : 0 ≤ turnI how ∧ turnI how ≤ 5 := by
  have : how = 0 ∨ how = 1 ∨ how = 2 ∨ how = 3 ∨ how = 4 ∨ how = 5 := by omega
  rcases this with rfl | rfl | rfl | rfl | rfl | rfl <;> decide

end Lp

/-! LpV9 -/

namespace Lp
open Go Go.Lib

def zeroN : Nd := ⟨0, 0, [], [], false, 0⟩

def isPow (many e : Int) : Bool := decide (-1000 ≤ e) && decide (e ≤ 1000) && decide (many + e ≤ 1000)

/-- A number of figures and a power; an error's number. -/
def makeN (neg : Bool) (f : List UInt8) (e : Int) : Nd × Int :=
  if figs f = false then (zeroN, 4)
  else if trimLeftB f 48 = [] then (⟨3, 0, [], [], false, 0⟩, 0)
  else if e < -100000000 ∨ 100000000 < e then (zeroN, 2)
  else if 100 < (trimRightB (trimLeftB f 48) 48).length ∨ isPow (trimRightB (trimLeftB f 48) 48).length (e + ((trimLeftB f 48).length - (trimRightB (trimLeftB f 48) 48).length)) = false then (zeroN, 2)
  else (⟨3, 0, [], trimRightB (trimLeftB f 48) 48, neg, e + ((trimLeftB f 48).length - (trimRightB (trimLeftB f 48) 48).length)⟩, 0)

def upS (s : List UInt8) : List UInt8 :=
  if (trimRightB s 57).length = 0 then 49 :: List.replicate s.length 48
  else s.take ((trimRightB s 57).length - 1) ++ (s.getD ((trimRightB s 57).length - 1) 0 + 1) :: List.replicate (s.length - (trimRightB s 57).length) 48

def downS (s : List UInt8) : List UInt8 :=
  s.take ((trimRightB s 48).length - 1) ++ (s.getD ((trimRightB s 48).length - 1) 0 - 1) :: List.replicate (s.length - (trimRightB s 48).length) 57

/-- Of how fine a figure a step is. -/
def fineE (n : Nd) (above : Bool) : Int := max ((if n.neg = above ∧ n.s = [49] then n.s.length + n.e - 1 else n.s.length + n.e) - 100) (-1000)

def padS (n : Nd) (e : Int) : List UInt8 := n.s ++ List.replicate (n.e - e).toNat 48

def besideN (n : Nd) (above : Bool) : Nd × Bool :=
  if n.s = [] then (⟨3, 0, [], [49], !above, -1000⟩, true)
  else ((makeN n.neg ((if n.neg = above then downS else upS) (padS n (fineE n above))) (fineE n above)).1,
        decide ((makeN n.neg ((if n.neg = above then downS else upS) (padS n (fineE n above))) (fineE n above)).2 = 0))

/-- The candidates of atoms: of the numbers; of the texts. -/
def candN : List Atm → List Nd
  | [] => []
  | a :: l => (if a.c.kind = 3 then a.c :: ((if (besideN a.c true).2 then [(besideN a.c true).1] else []) ++ if (besideN a.c false).2 then [(besideN a.c false).1] else []) else []) ++ candN l

def candS : List Atm → List Nd
  | [] => []
  | a :: l => (if a.c.kind = 4 then [a.c, ⟨4, 0, [], a.c.s ++ [0], false, 0⟩] else []) ++ candS l

def candA (l : List Atm) : List Nd := [⟨0, 0, [], [], false, 0⟩, ⟨1, 0, [], [], false, 0⟩, ⟨2, 0, [], [], false, 0⟩, ⟨3, 0, [], [], false, 0⟩] ++ candN l ++ ⟨4, 0, [], [], false, 0⟩ :: candS l

def leastA (mask : Int) (l : List Atm) : Nd × Bool :=
  match (candA l).find? fun n => memberA mask l n with
  | some n => (n, true)
  | none => (zeroN, false)

end Lp
