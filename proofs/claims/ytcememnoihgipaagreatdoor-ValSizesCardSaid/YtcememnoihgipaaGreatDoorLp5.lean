/-
  Part 5 of what the statement rests on: LpD12, LpX2, LpD7, LpD8, LpD13, LpD3, LpRd, LpMf, LpC6, LpC7, LpX3, LpB1, LpIns0, LpInsS, LpInsV, LpX4, LpTie, LpM5, LpM6, LpM7, LpRdS, LpJn. No condition.
-/
import Derived.Test.YtcememnoihgipaaGreatDoorLp4
import Derived.Laws.CopyRow
import Derived.Shelf.Spec.SlicesInsertGrow
import Derived.Lib.Overlaps
import Derived.Lib.JoinLaws
import Derived.Lib.AppendZeros
import Derived.Laws.LoneSync
import Derived.Lib.LaidIn
import Derived.Lib.LaidU8T
import Derived.Deep.DeepHandedRow
import Derived.Deep.DeepWitnessRowRef
import Derived.ProofKit
import Derived.SizedLaws
import Derived.JoinedCond
import Derived.OpenShut
import Derived.JoinedOf

set_option linter.all false

/-! LpD12 -/

namespace Lp
open Go Go.Proofs
set_option maxHeartbeats 4000000
set_option maxRecDepth 20000
set_option linter.unusedSimpArgs false
def encP (x : List UInt8 × Vl) : PV := .agg [.str x.1, encV x.2]
def mapO (q : Prs) : Obj := ⟨MT, 2, q.map encP, true, 1⟩
theorem opsM (P : Program) (D : TypeId → TInfo) (T : Know) (w pt : Bool) (ev : Operand → PV) (objs : List Obj) (K : KT) :
    (∀ t x ix ok, opT P D T w pt ev objs (.lookup t x ix ok) K = q24 D t (ev x) (ev ix) ok objs K) ∧
    (∀ t x y z, opT P D T w pt ev objs (.mapUpdate t x y z) K = q1h D t (ev x) (ev y) (ev z) objs K) ∧
    (∀ t, opT P D T w pt ev objs (.makeMap t none) K = q2f D t objs K) := ⟨fun _ _ _ _ => rfl, fun _ _ _ _ => rfl, fun _ => rfl⟩
theorem foundR (ti : TInfo) : (∀ i v, found ti (some (i, v)) true = .tup [v, .bool true]) ∧ (∀ i v, found ti (some (i, v)) false = v) ∧ (found ti none true = .tup [q05 ti, .bool false]) ∧ (found ti none false = q05 ti) := ⟨fun _ _ => rfl, fun _ _ => rfl, rfl, rfl⟩
theorem q82 {nm : List UInt8} : ∀ (q : Prs) (i : Nat), nm ∉ q.map (·.1) → mfind .str (.str nm) (q.map encP) i = some none
  | [], _, _ => rfl
  | x :: q, i, h => by
    simp only [List.map_cons, List.mem_cons, not_or] at h
    have : keq .str (.str nm) (.str x.1) = some false := by simp [keq, h.1]
    simp only [List.map_cons, encP, mfind, this]
    exact q82 q (i + 1) h.2
theorem q83 {nm : List UInt8} {v : Vl} : ∀ (q : Prs) (i : Nat), getP q nm = some v → ∃ j, mfind .str (.str nm) (q.map encP) i = some (some (j, encV v))
  | [], _, h => by simp [getP] at h
  | x :: q, i, h => by
    by_cases e : x.1 = nm
    · have hk : keq .str (.str nm) (.str x.1) = some true := by simp [keq, e]
      have hv : x.2 = v := by simpa [getP, e] using h
      refine ⟨i, ?_⟩
      simp only [List.map_cons, encP, mfind, hk, hv]
    · have hk : keq .str (.str nm) (.str x.1) = some false := by simp [keq]; exact fun h => e h.symm
      have h' : getP q nm = some v := by simpa [getP, e] using h
      obtain ⟨j, hj⟩ := q83 q (i + 1) h'
      refine ⟨j, ?_⟩
      simp only [List.map_cons, encP, mfind, hk]
      exact hj
theorem srt_lookup {names : List (List UInt8)} {l : List Vl} (h : q2q names l.length = true) : ((sortS names).map fun nm => (nm, (getP (names.zip l) nm).getD [])) = srtP (names.zip l) ∧ ∀ nm ∈ names, ∃ v, getP (names.zip l) nm = some v ∧ v ∈ l := by
  obtain ⟨h1, h2, h3⟩ := namesOk_iff.1 h
  have hfst : (names.zip l).map (·.1) = names := List.map_fst_zip (by omega)
  have hget : ∀ nm ∈ names, ∃ v, getP (names.zip l) nm = some v ∧ v ∈ l := fun nm hm => by
    cases hg : getP (names.zip l) nm with
    | none => rw [getP_none, hfst] at hg; exact absurd hm hg
    | some v => exact ⟨v, rfl, (List.of_mem_zip (q56 hg)).2⟩
  refine ⟨qaa h ?_ fun x => ?_, hget⟩
  · rw [List.map_map]
    have : (Prod.fst ∘ fun nm => (nm, (getP (names.zip l) nm).getD [])) = id := rfl
    show Rise (List.map (Prod.fst ∘ fun nm => (nm, (getP (names.zip l) nm).getD [])) (sortS names))
    rw [this, List.map_id]
    exact sortS_rise h2
  · constructor
    · intro hx
      obtain ⟨nm, hn, rfl⟩ := List.mem_map.1 hx
      obtain ⟨v, hv, _⟩ := hget nm ((q5q names).mem_iff.1 hn)
      rw [hv]
      exact q56 hv
    · intro hx
      have hg := mem_getP (by rw [hfst]; exact h2) hx
      refine List.mem_map.2 ⟨x.1, (q5q names).mem_iff.2 (by rw [← hfst]; exact List.mem_map.2 ⟨x, hx, rfl⟩), ?_⟩
      rw [hg]; rfl
theorem valObject_bad (names : List (List UInt8)) (l : List Vl) (hbad : q2q names l.length = false) (hn : names.length ≤ 1000000) (htx : ∀ s ∈ names, s.length ≤ 4611686018427387904) : FnSpec Tryz.prog f_val_Object [encT names, encL l] [] (.tup [.sl 0 [] (some true), .int .i64 4]) [] := by
  by_cases hp : names.length = l.length
  rotate_left 1
  · skip
    refine k_val_Object.pureG2 (T := tabL Tryz.prog []) 1 hD (q0g q0d) hmix (by decide) (by decide) fun Q hQ => ?_
    try simp only [F_all]
    have hl' : ((names.length : Int) = (l.length : Int)) = False := eq_false (by omega)
    simp (maxSteps := 400000) only [↓preZ, postZ, coreZ, ↓preU, postU, D_all, F_all, unR, outL, onePV, binS, ↓binS, q03, ↓q03, q01, ↓q01, boxR, q0b, newObj, q05, q00, q07, q09, q0a, St.freeze, q02, q08, q04, BEq.rfl, reduceIte, reduceCtorEq, Nat.reduceLT, Nat.reduceAdd, Nat.reduceSub, Nat.reduceMul, Nat.reduceBEq, Nat.reduceLeDiff, Int.reduceToNat, Int.reduceLE, hQ, q3g, hl']
  have hl' : ((names.length : Int) = (l.length : Int)) = True := eq_true (by omega)
  refine k_val_Object.pureG2 (T := tabL Tryz.prog [(f_unicode_utf8_ValidString, q0l)]) 1 hD (q0g (q0c q3i q0d)) hmix (by decide) (by decide) fun Q hQ => ?_
  try simp only [F_all]
  simp (maxSteps := 400000) only [↓preZ, postZ, coreZ, ↓preU, postU, D_all, F_all, unR, outL, onePV, binS, ↓binS, q03, ↓q03, q01, ↓q01, boxR, q0b, newObj, q05, q00, q07, q09, q0a, St.freeze, q02, q08, q04, BEq.rfl, reduceIte, reduceCtorEq, Nat.reduceLT, Nat.reduceAdd, Nat.reduceSub, Nat.reduceMul, Nat.reduceBEq, Nat.reduceLeDiff, Int.reduceToNat, Int.reduceLE, hQ, q3g, hl', ↓opsM, q2f]
  refine q0t (fun m S => ∃ i : Nat, i + m = names.length ∧ (names.take i).Nodup ∧ (∀ x ∈ names.take i, utf x = true) ∧ S = ⟨tmA 66 [(0, encT names), (1, encL l), (6, .omp 0 1), (21, encT names), (22, .int .i64 names.length), (23, .int .i64 i)], [mapO ((names.zip l).take i)]⟩) names.length ⟨0, by omega, by simp, by simp, ?_⟩ ?_
  · simp only [normR, keepR, Nat.reduceAdd, lkR, Nat.reduceBEq, F_all, List.map_nil]
    rfl
  rintro m S ⟨i, him, hnd, hut, rfl⟩
  rcases Nat.lt_or_ge i names.length with h | h
  · have hlt : ((i : Int) < (names.length : Int)) = True := eq_true (by omega)
    have zi : (0 ≤ (i : Int)) = True := eq_true (by omega)
    have hgi := List.getElem?_eq_getElem h
    have hgl : l[i]? = some (l[i]'(by omega)) := List.getElem?_eq_getElem _
    have hx := htx _ (List.getElem_mem h)
    generalize names[i] = nm at hgi hx
    generalize l[i]'(by omega) = v at hgl
    have hgz : (names.zip l)[i]? = some (nm, v) := by rw [List.getElem?_zip_eq_some]; exact ⟨hgi, hgl⟩
    have htk : names.take (i + 1) = names.take i ++ [nm] := by rw [List.take_add_one, hgi]; rfl
    have htz : (names.zip l).take (i + 1) = (names.zip l).take i ++ [(nm, v)] := by rw [List.take_add_one, hgz]; rfl
    have hfst : ((names.zip l).take i).map (·.1) = names.take i := by rw [List.map_take, List.map_fst_zip (by omega)]
    by_cases hin : nm ∈ names.take i
    · skip
      obtain ⟨v', hv'⟩ : ∃ v', getP ((names.zip l).take i) nm = some v' := by
        cases hg : getP ((names.zip l).take i) nm with
        | none => rw [getP_none, hfst] at hg; exact absurd hin hg
        | some v' => exact ⟨v', rfl⟩
      obtain ⟨j, hj⟩ := q83 _ 0 hv'
      unfold mapO
      simp (maxSteps := 400000) only [↓preZ, postZ, coreZ, ↓preU, postU, D_all, F_all, unR, outL, onePV, binS, ↓binS, q03, ↓q03, q01, ↓q01, boxR, q0b, newObj, q05, q00, q07, q09, q0a, St.freeze, q02, q08, q04, BEq.rfl, reduceIte, reduceCtorEq, Nat.reduceLT, Nat.reduceAdd, Nat.reduceSub, Nat.reduceMul, Nat.reduceBEq, Nat.reduceLeDiff, Int.reduceToNat, Int.reduceLE, hQ, hlt, zi, hgi, ↓opsM, q24, hj, foundR, q17, true_or]
    · have hmf := q82 ((names.zip l).take i) 0 (by rw [hfst]; exact hin)
      cases hu : utf nm
      · unfold mapO
        simp (maxSteps := 400000) only [↓preZ, postZ, coreZ, ↓preU, postU, D_all, F_all, unR, outL, onePV, binS, ↓binS, q03, ↓q03, q01, ↓q01, boxR, q0b, newObj, q05, q00, q07, q09, q0a, St.freeze, q02, q08, q04, BEq.rfl, reduceIte, reduceCtorEq, Nat.reduceLT, Nat.reduceAdd, Nat.reduceSub, Nat.reduceMul, Nat.reduceBEq, Nat.reduceLeDiff, Int.reduceToNat, Int.reduceLE, hQ, hlt, zi, hgi, ↓q0l, hu, ↓opsM, q24, hmf, foundR, q17, true_or]
        exact hx
      · unfold mapO
        simp (maxSteps := 400000) only [↓preZ, postZ, coreZ, ↓preU, postU, D_all, F_all, unR, outL, onePV, binS, ↓binS, q03, ↓q03, q01, ↓q01, boxR, q0b, newObj, q05, q00, q07, q09, q0a, St.freeze, q02, q08, q04, BEq.rfl, reduceIte, reduceCtorEq, Nat.reduceLT, Nat.reduceAdd, Nat.reduceSub, Nat.reduceMul, Nat.reduceBEq, Nat.reduceLeDiff, Int.reduceToNat, Int.reduceLE, hQ, hlt, zi, hgi, hgl, ↓q0l, hu, ↓opsM, q24, q1h, hmf, foundR, q17, true_or, mput]
        refine ⟨hx, ⟨by omega, by omega⟩, m - 1, by omega, i + 1, by omega, ?_, fun x hx => ?_, ?_⟩
        · rw [htk, List.nodup_append]
          refine ⟨hnd, by simp, fun a ha b hb => ?_⟩
          simp only [List.mem_singleton] at hb
          subst hb
          rintro rfl; exact hin ha
        · rw [htk] at hx
          rcases List.mem_append.1 hx with hx | hx
          · exact hut x hx
          · simp only [List.mem_singleton] at hx
            subst hx; exact hu
        · rw [htz, List.map_append]; rfl
  rw [List.take_of_length_le h] at hnd hut
  rw [namesOk_iff.2 ⟨hp, hnd, hut⟩] at hbad
  cases hbad
theorem qay (names : List (List UInt8)) (l : List Vl) (hok : q2q names l.length = true) (hn : names.length ≤ 1000000) (hb : l.flatten.length ≤ 1000000) (hne : ∀ v ∈ l, v ≠ []) (htx : ∀ s ∈ names, s.length ≤ 4611686018427387904) : FnSpec Tryz.prog f_val_Object [encT names, encL l] [] (.tup [.osl 0 0, .int .i64 0]) [nodO (q58 names l) 0] := by
  obtain ⟨hp, hnd, hut⟩ := namesOk_iff.1 hok
  have hl' : ((names.length : Int) = (l.length : Int)) = True := eq_true (by omega)
  obtain ⟨hsrt, hget⟩ := srt_lookup hok
  have hsl : (sortS names).length = names.length := q3j names
  have hsm : ∀ nm ∈ sortS names, nm ∈ names := fun nm h => (q5q names).mem_iff.1 h
  refine k_val_Object.madeNG (qs := [.int .i64 0]) (T := tabL Tryz.prog [(f_unicode_utf8_ValidString, q0l), (f_slices_Values_L_string_string_, q7c), (f_slices_Sorted_string_, q7e), (f_val_laid, q2i)]) 1 hD (q0g (q0c q3i (q0c ctrValues_ok (q0c ctrSorted_ok (q0c q6k q0d))))) hmix (by decide) fun Q hQ => ?_
  try simp only [F_all]
  simp (maxSteps := 400000) only [↓preZ, postZ, coreZ, ↓preU, postU, D_all, F_all, unR, outL, onePV, binS, ↓binS, q03, ↓q03, q01, ↓q01, boxR, q0b, newObj, q05, q00, q07, q09, q0a, St.freeze, q02, q08, q04, BEq.rfl, reduceIte, reduceCtorEq, Nat.reduceLT, Nat.reduceAdd, Nat.reduceSub, Nat.reduceMul, Nat.reduceBEq, Nat.reduceLeDiff, Int.reduceToNat, Int.reduceLE, hQ, q3g, hl', ↓opsM, q2f]
  refine q0t (fun m S => ∃ i : Nat, i + m = names.length ∧ S = ⟨tmA 66 [(0, encT names), (1, encL l), (6, .omp 0 1), (21, encT names), (22, .int .i64 names.length), (23, .int .i64 i)], [mapO ((names.zip l).take i)]⟩) names.length ⟨0, by omega, ?_⟩ ?_
  · simp only [normR, keepR, Nat.reduceAdd, lkR, Nat.reduceBEq, F_all, List.map_nil]
    rfl
  rintro m S ⟨i, him, rfl⟩
  rcases Nat.lt_or_ge i names.length with h | h
  · have hlt : ((i : Int) < (names.length : Int)) = True := eq_true (by omega)
    have zi : (0 ≤ (i : Int)) = True := eq_true (by omega)
    have hgi := List.getElem?_eq_getElem h
    have hgl : l[i]? = some (l[i]'(by omega)) := List.getElem?_eq_getElem _
    have hx := htx _ (List.getElem_mem h)
    have hu := hut _ (List.getElem_mem h)
    generalize names[i] = nm at hgi hx hu
    generalize l[i]'(by omega) = v at hgl
    have hgz : (names.zip l)[i]? = some (nm, v) := by rw [List.getElem?_zip_eq_some]; exact ⟨hgi, hgl⟩
    have htz : (names.zip l).take (i + 1) = (names.zip l).take i ++ [(nm, v)] := by rw [List.take_add_one, hgz]; rfl
    have hfst : ((names.zip l).take i).map (·.1) = names.take i := by rw [List.map_take, List.map_fst_zip (by omega)]
    have hin : nm ∉ names.take i := fun hin => by
      have htk : names.take (i + 1) = names.take i ++ [nm] := by rw [List.take_add_one, hgi]; rfl
      have h2 : (names.take (i + 1)).Nodup := List.Pairwise.sublist (List.take_sublist _ _) hnd
      rw [htk, List.nodup_append] at h2
      exact absurd rfl (h2.2.2 nm hin nm (by simp))
    have hmf := q82 ((names.zip l).take i) 0 (by rw [hfst]; exact hin)
    unfold mapO
    simp (maxSteps := 400000) only [↓preZ, postZ, coreZ, ↓preU, postU, D_all, F_all, unR, outL, onePV, binS, ↓binS, q03, ↓q03, q01, ↓q01, boxR, q0b, newObj, q05, q00, q07, q09, q0a, St.freeze, q02, q08, q04, BEq.rfl, reduceIte, reduceCtorEq, Nat.reduceLT, Nat.reduceAdd, Nat.reduceSub, Nat.reduceMul, Nat.reduceBEq, Nat.reduceLeDiff, Int.reduceToNat, Int.reduceLE, hQ, hlt, zi, hgi, hgl, ↓q0l, hu, ↓opsM, q24, q1h, hmf, foundR, q17, true_or, mput]
    exact ⟨hx, ⟨by omega, by omega⟩, m - 1, by omega, i + 1, by omega, by rw [htz, List.map_append]; rfl⟩
  have hlt : ((i : Int) < (names.length : Int)) = False := eq_false (by omega)
  have htz : (names.zip l).take i = names.zip l := List.take_of_length_le (by simp; omega)
  rw [htz]
  unfold mapO
  simp (maxSteps := 400000) only [↓preZ, postZ, coreZ, ↓preU, postU, D_all, F_all, unR, outL, onePV, binS, ↓binS, q03, ↓q03, q01, ↓q01, boxR, q0b, newObj, q05, q00, q07, q09, q0a, St.freeze, q02, q08, q04, BEq.rfl, reduceIte, reduceCtorEq, Nat.reduceLT, Nat.reduceAdd, Nat.reduceSub, Nat.reduceMul, Nat.reduceBEq, Nat.reduceLeDiff, Int.reduceToNat, Int.reduceLE, hQ, hlt, ↓q7c, ↓q7e, seqB]
  refine ⟨by omega, ?_⟩
  generalize sortS names = ss at *
  obtain ⟨P, hP⟩ : ∃ P : List UInt8 → Vl, P = fun nm => (getP (names.zip l) nm).getD [] := ⟨_, rfl⟩
  refine q0t (fun m S => ∃ j : Nat, j + m = names.length ∧ ((j = 0 ∧ S = ⟨tmA 66 [(6, .omp 0 1), (11, encT ss), (12, .sl 0 [] (some true)), (50, encT ss), (51, .int .i64 ss.length), (52, .int .i64 j)], [mapO (names.zip l)]⟩) ∨
    (0 < j ∧ ∃ ver, S = ⟨tmA 66 [(6, .omp 0 1), (11, encT ss), (12, .osl 1 ver), (50, encT ss), (51, .int .i64 ss.length), (52, .int .i64 j)], [mapO (names.zip l), ⟨t_api_Val, 1, ((ss.take j).map P).map encV, true, ver⟩]⟩))) names.length ⟨0, by omega, .inl ⟨rfl, ?_⟩⟩ ?_
  · simp only [normR, keepR, Nat.reduceAdd, lkR, Nat.reduceBEq, F_all, List.map_nil]
    rfl
  rintro m' S ⟨j, hjm, hS⟩
  rcases Nat.lt_or_ge j ss.length with h' | h'
  · have hlt : ((j : Int) < (ss.length : Int)) = True := eq_true (by omega)
    have zj : (0 ≤ (j : Int)) = True := eq_true (by omega)
    have hgj := List.getElem?_eq_getElem h'
    have hm := hsm _ (List.getElem_mem h')
    generalize ss[j] = nm at hgj hm
    have htk : ss.take (j + 1) = ss.take j ++ [nm] := by rw [List.take_add_one, hgj]; rfl
    obtain ⟨v, hv, hvl⟩ := hget nm hm
    obtain ⟨j2, hj2⟩ := q83 _ 0 hv
    have hPv : P nm = v := by rw [hP]; simp [hv]
    rcases hS with ⟨rfl, rfl⟩ | ⟨h0, ver, rfl⟩
    · unfold mapO
      simp (maxSteps := 400000) only [↓preZ, postZ, coreZ, ↓preU, postU, D_all, F_all, unR, outL, onePV, binS, ↓binS, q03, ↓q03, q01, ↓q01, boxR, q0b, newObj, q05, q00, q07, q09, q0a, St.freeze, q02, q08, q04, BEq.rfl, reduceIte, reduceCtorEq, Nat.reduceLT, Nat.reduceAdd, Nat.reduceSub, Nat.reduceMul, Nat.reduceBEq, Nat.reduceLeDiff, Int.reduceToNat, Int.reduceLE, hQ, hlt, zj, hgj, ↓opsM, q24, hj2, foundR, true_or]
      refine ⟨⟨by omega, by omega⟩, m' - 1, by omega, 1, by omega, .inr ⟨by omega, 1, ?_⟩⟩
      rw [show ss.take 1 = [nm] from htk, List.map_cons, hPv]
      rfl
    · unfold mapO
      simp (maxSteps := 400000) only [↓preZ, postZ, coreZ, ↓preU, postU, D_all, F_all, unR, outL, onePV, binS, ↓binS, q03, ↓q03, q01, ↓q01, boxR, q0b, newObj, q05, q00, q07, q09, q0a, St.freeze, q02, q08, q04, BEq.rfl, reduceIte, reduceCtorEq, Nat.reduceLT, Nat.reduceAdd, Nat.reduceSub, Nat.reduceMul, Nat.reduceBEq, Nat.reduceLeDiff, Int.reduceToNat, Int.reduceLE, hQ, hlt, zj, hgj, ↓opsM, q24, hj2, foundR, true_or]
      have := List.length_take_le j ss
      refine ⟨by omega, by omega, ⟨by omega, by omega⟩, m' - 1, by omega, j + 1, by omega, .inr ⟨by omega, ver + 1, ?_⟩⟩
      rw [htk, List.map_append (f := P), List.map_append, List.map_cons, hPv]
      rfl
  have hlt : ((j : Int) < (ss.length : Int)) = False := eq_false (by omega)
  have hq : (ss.map fun nm => (nm, P nm)) = srtP (names.zip l) := by rw [hP]; exact hsrt
  have e : layV ss (ss.map P) = q58 names l := by
    have e : layV ss (ss.map P) = mkO (ss.map fun nm => (nm, P nm)) := by
      rw [← layV_mkO, List.map_map, List.map_map]
      congr 1
      exact (List.map_id ss).symm
    rw [e, hq]
    simp [q58, hok]
  have hsn : ss.map P = (srtP (names.zip l)).map (·.2) := by
    rw [← hq, List.map_map]; rfl
  have hfl : (ss.map P).flatten.length ≤ 1000000 := by rw [hsn, srtP_flat hp]; exact hb
  have hnp : ∀ v ∈ ss.map P, v ≠ [] := fun v hv => by
    obtain ⟨nm, hn, rfl⟩ := List.mem_map.1 hv
    obtain ⟨v, hv, hvl⟩ := hget nm (hsm nm hn)
    have hPv : P nm = v := by rw [hP]; simp [hv]
    rw [hPv]
    exact hne v hvl
  have hlp : (ss.map P).length ≤ 1000000 := by rw [List.length_map]; omega
  rcases hS with ⟨hj0, rfl⟩ | ⟨h0, ver, rfl⟩
  · have hs0 : ss.length = 0 := by omega
    have hl0 : layV ss [] = q58 names l := by
      rw [← e]
      have : ss = [] := List.length_eq_zero_iff.1 hs0
      rw [this]; rfl
    simp (maxSteps := 400000) only [↓preZ, postZ, coreZ, ↓preU, postU, D_all, F_all, unR, outL, onePV, binS, ↓binS, q03, ↓q03, q01, ↓q01, boxR, q0b, newObj, q05, q00, q07, q09, q0a, St.freeze, q02, q08, q04, BEq.rfl, reduceIte, reduceCtorEq, Nat.reduceLT, Nat.reduceAdd, Nat.reduceSub, Nat.reduceMul, Nat.reduceBEq, Nat.reduceLeDiff, Int.reduceToNat, Int.reduceLE, hQ, hlt]
    refine q4a _ (Weak.freeze 1 0 (Nat.zero_le _) _) ?_
    simp (maxSteps := 400000) only [↓preZ, postZ, coreZ, ↓preU, postU, D_all, F_all, unR, outL, onePV, binS, ↓binS, q03, ↓q03, q01, ↓q01, boxR, q0b, newObj, q05, q00, q07, q09, q0a, St.freeze, q02, q08, q04, BEq.rfl, reduceIte, reduceCtorEq, Nat.reduceLT, Nat.reduceAdd, Nat.reduceSub, Nat.reduceMul, Nat.reduceBEq, Nat.reduceLeDiff, Int.reduceToNat, Int.reduceLE, hQ, ↓q2i, rowB, ofRB]
    exact ⟨hs0, by simp, by simp, endNT (k := 0) (by decide) (by decide) rfl rfl rfl rfl (by rw [← hl0]; simp only [outO1, nodO, q7z]) (q7b _ 0) rfl⟩
  simp (maxSteps := 400000) only [↓preZ, postZ, coreZ, ↓preU, postU, D_all, F_all, unR, outL, onePV, binS, ↓binS, q03, ↓q03, q01, ↓q01, boxR, q0b, newObj, q05, q00, q07, q09, q0a, St.freeze, q02, q08, q04, BEq.rfl, reduceIte, reduceCtorEq, Nat.reduceLT, Nat.reduceAdd, Nat.reduceSub, Nat.reduceMul, Nat.reduceBEq, Nat.reduceLeDiff, Int.reduceToNat, Int.reduceLE, hQ, hlt]
  refine q4a _ (Weak.freeze 1 0 (Nat.zero_le _) _) ?_
  have f2 : ∀ x : Obj, frz 1 0 [x, ⟨t_api_Val, 1, List.map encV ((ss.take j).map P), true, ver⟩] (.osl 1 ver) = encL (ss.map P) := fun x => by
    simp only [frz, Nat.not_lt_zero, if_false, frzI, List.getElem?_cons_succ, List.getElem?_cons_zero, Nat.zero_le, decide_true, Bool.true_and, beq_self_eq_true, if_true]
    rw [q45 encV fun _ => rfl, List.take_of_length_le h']; rfl
  simp (maxSteps := 400000) only [↓preZ, postZ, coreZ, ↓preU, postU, D_all, F_all, unR, outL, onePV, binS, ↓binS, q03, ↓q03, q01, ↓q01, boxR, q0b, newObj, q05, q00, q07, q09, q0a, St.freeze, q02, q08, q04, BEq.rfl, reduceIte, reduceCtorEq, Nat.reduceLT, Nat.reduceAdd, Nat.reduceSub, Nat.reduceMul, Nat.reduceBEq, Nat.reduceLeDiff, Int.reduceToNat, Int.reduceLE, hQ, ↓q2i, rowB, ofRB, f2]
  exact ⟨by rw [List.length_map] at hlp; exact hlp, hfl, hnp, endNT (k := 0) (by decide) (by decide) rfl rfl rfl rfl (by rw [← e]; simp only [outO1, nodO, q7z]) (q7b _ 0) rfl⟩
theorem qaz (names : List (List UInt8)) (l : List Vl) (hn : names.length ≤ 1000000) (hb : l.flatten.length ≤ 1000000) (hne : ∀ v ∈ l, v ≠ []) (htx : ∀ s ∈ names, s.length ≤ 4611686018427387904) : FnSpec Tryz.prog f_val_Object [encT names, encL l] [] (objR names l) [] := by
  cases hok : q2q names l.length with
  | false => rw [show objR names l = _ from by simp only [objR, hok]; rfl]; exact valObject_bad names l hok hn htx
  | true =>
    have h := (qay names l hok hn hb hne htx).froze2 rfl rfl rfl (q7b _ 0)
    rw [show objR names l = .tup [encV (q58 names l), .int .i64 0] from by simp only [objR, hok]; rfl]
    exact h
theorem qah (names : List (List UInt8)) (l : List Vl) (hn : names.length ≤ 1000000) (hb : l.flatten.length ≤ 1000000) (hne : ∀ v ∈ l, v ≠ []) (htx : ∀ s ∈ names, s.length ≤ 4611686018427387904) :
    FnSpec Tryz.prog f_val_Object [encT names, encL l] [] (.tup [encV (q58 names l), .int .i64 (objErr names l)]) [] :=
  (qaz names l hn hb hne htx).res (objR_tells names l)
def q3k : Ctr := fun args objs K => match args with
  | [a0, a1] => ofE encT a0 (HK.mk : HK fun names => ofE encL a1 (HK.mk : HK fun l => (names.length ≤ 1000000) ∧ (l.flatten.length ≤ 1000000) ∧ (∀ v ∈ l, v ≠ []) ∧ (∀ s ∈ names, s.length ≤ 4611686018427387904) ∧ K (.tup [encV (q58 names l), .int .i64 (objErr names l)]) objs 0))
  | _ => False
theorem qai : CtrOk Tryz.prog f_val_Object (q3k) := by
  intro args objs K h
  unfold q3k at h
  split at h
  · rename_i a0 a1
    obtain ⟨names, rfl, l, rfl, h1, h2, h3, h4, hk⟩ := h
    exact ⟨_, _, _, .pure _ rfl (qah names l h1 h2 h3 h4), hk⟩
  · exact h.elim
end Lp

/-! LpX2 -/

namespace Lp
open Go Go.Proofs
set_option maxHeartbeats 4000000
set_option maxRecDepth 20000
set_option linter.unusedSimpArgs false
structure HKT (K : KT) : Type where
end Lp

/-! LpD7 -/

namespace Lp
open Go Go.Proofs
set_option maxHeartbeats 4000000
set_option maxRecDepth 20000
set_option linter.unusedSimpArgs false
def powB (m e : Int) : Bool := decide (-1000 ≤ e) && decide (e ≤ 1000) && decide (m + e ≤ 1000)
theorem isPower_spec (m e : Int) (hm : 0 ≤ m ∧ m ≤ 1000000) : FnSpec Tryz.prog f_num_isPower [.int .i64 m, .int .i64 e] [] (.bool (powB m e)) [] := by
  refine k_num_isPower.pureG (T := tabL Tryz.prog []) 0 hD (q0g q0d) hmix (by decide) fun Q hQ => ?_
  try simp only [F_all]
  rcases tf (-1000 ≤ e) with h1 | h1
  rotate_left 1
  · have hr : powB m e = false := by have : ¬ (-1000 ≤ e) := fun h => by rw [h1] at h; exact h
                                     simp [powB, this]
    simp (maxSteps := 400000) only [↓preZ, postZ, coreZ, ↓preU, postU, D_all, F_all, unR, outL, onePV, binS, ↓binS, q03, ↓q03, q01, ↓q01, boxR, q0b, newObj, q05, q00, q07, q09, q0a, St.freeze, q02, q08, q04, BEq.rfl, reduceIte, reduceCtorEq, Nat.reduceLT, Nat.reduceAdd, Nat.reduceSub, Nat.reduceMul, Nat.reduceBEq, Nat.reduceLeDiff, Int.reduceToNat, Int.reduceLE, hQ, q2u, h1, hr]
  rcases tf (e ≤ 1000) with h2 | h2
  rotate_left 1
  · have hr : powB m e = false := by have : ¬ (e ≤ 1000) := fun h => by rw [h2] at h; exact h
                                     simp [powB, this]
    simp (maxSteps := 400000) only [↓preZ, postZ, coreZ, ↓preU, postU, D_all, F_all, unR, outL, onePV, binS, ↓binS, q03, ↓q03, q01, ↓q01, boxR, q0b, newObj, q05, q00, q07, q09, q0a, St.freeze, q02, q08, q04, BEq.rfl, reduceIte, reduceCtorEq, Nat.reduceLT, Nat.reduceAdd, Nat.reduceSub, Nat.reduceMul, Nat.reduceBEq, Nat.reduceLeDiff, Int.reduceToNat, Int.reduceLE, hQ, q2u, h1, h2, hr]
  have h1' := of_eq_true h1
  have h2' := of_eq_true h2
  have hr : powB m e = decide (m + e ≤ 1000) := by simp [powB, h1', h2']
  simp (maxSteps := 400000) only [↓preZ, postZ, coreZ, ↓preU, postU, D_all, F_all, unR, outL, onePV, binS, ↓binS, q03, ↓q03, q01, ↓q01, boxR, q0b, newObj, q05, q00, q07, q09, q0a, St.freeze, q02, q08, q04, BEq.rfl, reduceIte, reduceCtorEq, Nat.reduceLT, Nat.reduceAdd, Nat.reduceSub, Nat.reduceMul, Nat.reduceBEq, Nat.reduceLeDiff, Int.reduceToNat, Int.reduceLE, hQ, q2u, h1, h2, hr]
  exact ⟨by omega, by omega⟩
def q2d : Ctr := fun args objs K => match args with
  | [.int .i64 m, .int .i64 e] => (0 ≤ m ∧ m ≤ 1000000) ∧ K (.bool (powB m e)) objs 0
  | _ => False
theorem ctrIsPower_ok : CtrOk Tryz.prog f_num_isPower (q2d) := by
  intro args objs K h
  unfold q2d at h
  split at h
  · rename_i m e
    obtain ⟨h1, hk⟩ := h
    exact ⟨_, _, _, .pure _ rfl (isPower_spec m e h1), hk⟩
  · exact h.elim
theorem qb0 (s : List UInt8) (hs : s.length ≤ 4611686018427387904) : FnSpec Tryz.prog f_num_isFigures [.str s] [] (.bool (figs s)) [] := by
  refine k_num_isFigures.pureG (T := tabL Tryz.prog [(f_strings_TrimFunc, q5p)]) 0 hD (q0g (q0c ctrTrimFig_ok q0d)) hmix (by decide) fun Q hQ => ?_
  try simp only [F_all]
  have hf := trimF_figs s
  simp (maxSteps := 400000) only [↓preZ, postZ, coreZ, ↓preU, postU, D_all, F_all, unR, outL, onePV, binS, ↓binS, q03, ↓q03, q01, ↓q01, boxR, q0b, newObj, q05, q00, q07, q09, q0a, St.freeze, q02, q08, q04, BEq.rfl, reduceIte, reduceCtorEq, Nat.reduceLT, Nat.reduceAdd, Nat.reduceSub, Nat.reduceMul, Nat.reduceBEq, Nat.reduceLeDiff, Int.reduceToNat, Int.reduceLE, hQ, q54, ↓q5p]
  refine ⟨hs, ?_⟩
  rw [Bool.eq_iff_iff, ← hf, decide_eq_true_iff]
  constructor
  · intro h; rw [h]
  · intro h
    generalize Lib.trimF figP ⟨⟨s⟩⟩ = t at h
    obtain ⟨⟨t⟩⟩ := t
    have h' : t = [] := h
    rw [h']
def q23 : Ctr := fun args objs K => match args with
  | [.str s] => (s.length ≤ 4611686018427387904) ∧ K (.bool (figs s)) objs 0
  | _ => False
theorem qaj : CtrOk Tryz.prog f_num_isFigures (q23) := by
  intro args objs K h
  unfold q23 at h
  split at h
  · rename_i s
    obtain ⟨h1, hk⟩ := h
    exact ⟨_, _, _, .pure _ rfl (qb0 s h1), hk⟩
  · exact h.elim
theorem numR_spec (n : Nd) (hk : n.kind = 3) (hn : n.name = []) (hs : n.s.length ≤ 4611686018427387904) : FnSpec Tryz.prog f_num_Right [encN n] [] (.bool (numB n)) [] := by
  refine k_num_Right.pureG (T := tabL Tryz.prog [(f_num_isPower, q2d), (f_num_isFigures, q23), (f_strings_Trim, q93)]) 0 hD (q0g (q0c ctrIsPower_ok (q0c qaj (q0c ctrTrim0_ok q0d)))) hmix (by decide) fun Q hQ => ?_
  try simp only [F_all]
  simp (maxSteps := 400000) only [↓preZ, postZ, coreZ, ↓preU, postU, D_all, F_all, unR, outL, onePV, binS, ↓binS, q03, ↓q03, q01, ↓q01, boxR, q0b, newObj, q05, q00, q07, q09, q0a, St.freeze, q02, q08, q04, BEq.rfl, reduceIte, reduceCtorEq, Nat.reduceLT, Nat.reduceAdd, Nat.reduceSub, Nat.reduceMul, Nat.reduceBEq, Nat.reduceLeDiff, Int.reduceToNat, Int.reduceLE, hQ, qa6]
  refine q4a _ (Weak.freeze 1 0 (Nat.le_refl _) _) ?_
  have key := q8y n
  have hpw : ∀ b, powB n.s.length n.e = b → (b = true ↔ -1000 ≤ n.e ∧ n.e ≤ 1000 ∧ n.s.length + n.e ≤ 1000) := fun b hb => by
    rw [← hb]; simp [powB, and_assoc]
  cases hp : powB n.s.length n.e
  · have hr : numB n = false := q22 fun h => by
      have g := (hpw _ hp).2 ⟨(key.1 h).2.2.2.1, (key.1 h).2.2.2.2.1, (key.1 h).2.2.2.2.2.1⟩
      cases g
    simp (maxSteps := 400000) only [↓preZ, postZ, coreZ, ↓preU, postU, D_all, F_all, unR, outL, onePV, binS, ↓binS, q03, ↓q03, q01, ↓q01, boxR, q0b, newObj, q05, q00, q07, q09, q0a, St.freeze, q02, q08, q04, BEq.rfl, reduceIte, reduceCtorEq, Nat.reduceLT, Nat.reduceAdd, Nat.reduceSub, Nat.reduceMul, Nat.reduceBEq, Nat.reduceLeDiff, Int.reduceToNat, Int.reduceLE, hQ, frzC0, ↓q2d, hk, hn, Int.reduceEq, hp, hr]
    refine fun h0 h1 => ⟨by omega, by omega⟩
  have hpw' := (hpw _ hp).1 rfl
  cases hf : figs n.s
  · have hr : numB n = false := q22 fun h => by have := (key.1 h).2.1; rw [hf] at this; cases this
    simp (maxSteps := 400000) only [↓preZ, postZ, coreZ, ↓preU, postU, D_all, F_all, unR, outL, onePV, binS, ↓binS, q03, ↓q03, q01, ↓q01, boxR, q0b, newObj, q05, q00, q07, q09, q0a, St.freeze, q02, q08, q04, BEq.rfl, reduceIte, reduceCtorEq, Nat.reduceLT, Nat.reduceAdd, Nat.reduceSub, Nat.reduceMul, Nat.reduceBEq, Nat.reduceLeDiff, Int.reduceToNat, Int.reduceLE, hQ, frzC0, ↓q2d, ↓q23, hk, hn, Int.reduceEq, hp, hf, hr]
    refine fun h0 h1 => ⟨⟨by omega, by omega⟩, hs⟩
  by_cases hz : n.s = []
  · rw [if_pos hz] at key
    have hf0 : figs [] = true := rfl
    rw [hz] at hp key
    have hp0 : powB ((0 : Nat) : Int) n.e = true := hp
    simp (maxSteps := 400000) only [↓preZ, postZ, coreZ, ↓preU, postU, D_all, F_all, unR, outL, onePV, binS, ↓binS, q03, ↓q03, q01, ↓q01, boxR, q0b, newObj, q05, q00, q07, q09, q0a, St.freeze, q02, q08, q04, BEq.rfl, reduceIte, reduceCtorEq, Nat.reduceLT, Nat.reduceAdd, Nat.reduceSub, Nat.reduceMul, Nat.reduceBEq, Nat.reduceLeDiff, Int.reduceToNat, Int.reduceLE, hQ, frzC0, ↓q2d, ↓q23, hk, hn, Int.reduceEq, hp0, hf0, hz]
    refine ⟨fun h0 => ⟨fun h => absurd h (by omega), fun _ => ⟨⟨by omega, by omega⟩, fun hng => ?_, fun hng => ?_⟩⟩, fun h0 => q22 fun hb => h0 (key.1 hb).1⟩
    · exact q22 fun hb => by have := (key.1 hb).2.2.2.2.2.2.1; rw [hng] at this; cases this
    · rw [Bool.eq_iff_iff, decide_eq_true_iff, key]
      refine ⟨fun h => h.2.2.2.2.2.2.2, fun h => ⟨h0, rfl, by simp, hpw'.1, hpw'.2.1, by simp; omega, by simpa using hng, h⟩⟩
  · rw [if_neg hz] at key
    have htr := trimB_self n.s 48
    have hz' : (n.s = []) = False := eq_false hz
    simp (maxSteps := 400000) only [↓preZ, postZ, coreZ, ↓preU, postU, D_all, F_all, unR, outL, onePV, binS, ↓binS, q03, ↓q03, q01, ↓q01, boxR, q0b, newObj, q05, q00, q07, q09, q0a, St.freeze, q02, q08, q04, BEq.rfl, reduceIte, reduceCtorEq, Nat.reduceLT, Nat.reduceAdd, Nat.reduceSub, Nat.reduceMul, Nat.reduceBEq, Nat.reduceLeDiff, Int.reduceToNat, Int.reduceLE, hQ, frzC0, ↓q2d, ↓q23, ↓q93, hk, hn, Int.reduceEq, hp, hf, hz']
    refine ⟨fun h0 => ⟨fun h => q22 fun hb => ?_, fun h1 => ⟨⟨by omega, by omega⟩, hs, hs, ?_⟩⟩, fun h0 => q22 fun hb => h0 (key.1 hb).1⟩
    · have := key.1 hb; omega
    · rw [Bool.eq_iff_iff, decide_eq_true_iff, key, htr]
      exact ⟨fun h => h.2.2.2.2.2.2, fun h => ⟨h0, hf, by omega, hpw'.1, hpw'.2.1, hpw'.2.2, h⟩⟩
def q38 : Ctr := fun args objs K => match args with
  | [a0] => ofE encN a0 (HK.mk : HK fun n => (n.kind = 3) ∧ (n.name = []) ∧ (n.s.length ≤ 4611686018427387904) ∧ K (.bool (numB n)) objs 0)
  | _ => False
theorem ctrNumR_ok : CtrOk Tryz.prog f_num_Right (q38) := by
  intro args objs K h
  unfold q38 at h
  split at h
  · rename_i a0
    obtain ⟨n, rfl, h1, h2, h3, hk⟩ := h
    exact ⟨_, _, _, .pure _ rfl (numR_spec n h1 h2 h3), hk⟩
  · exact h.elim
theorem isPlain_spec (n : Nd) (hl : n.s.length ≤ 4611686018427387904) : FnSpec Tryz.prog f_val_isPlain [encN n] [] (.bool (q0m n)) [] := by
  refine k_val_isPlain.pureG (T := tabL Tryz.prog [(f_unicode_utf8_ValidString, q0l), (f_num_Right, q38)]) 0 hD (q0g (q0c q3i (q0c ctrNumR_ok q0d))) hmix (by decide) fun Q hQ => ?_
  try simp only [F_all]
  simp (maxSteps := 400000) only [↓preZ, postZ, coreZ, ↓preU, postU, D_all, F_all, unR, outL, onePV, binS, ↓binS, q03, ↓q03, q01, ↓q01, boxR, q0b, newObj, q05, q00, q07, q09, q0a, St.freeze, q02, q08, q04, BEq.rfl, reduceIte, reduceCtorEq, Nat.reduceLT, Nat.reduceAdd, Nat.reduceSub, Nat.reduceMul, Nat.reduceBEq, Nat.reduceLeDiff, Int.reduceToNat, Int.reduceLE, hQ, q74, nmP, enc6]
  refine q4a _ (Weak.freeze 1 0 (Nat.le_refl _) _) ?_
  have hn0 : ∀ h, frz 1 0 [⟨t_api_Node, 6, [encN { kind := n.kind, many := n.many, name := [], s := n.s, neg := n.neg, e := n.e }], true, 1⟩] (.optr 0 1 0 0) = h → .addr (encN ⟨n.kind, n.many, [], n.s, n.neg, n.e⟩) = h := fun _ h => h
  have h8 : n.kind = 0 ∨ n.kind = 1 ∨ n.kind = 2 ∨ n.kind = 3 ∨ n.kind = 4 ∨ n.kind = 5 ∨ n.kind = 6 ∨ (n.kind ≠ 0 ∧ n.kind ≠ 1 ∧ n.kind ≠ 2 ∧ n.kind ≠ 3 ∧ n.kind ≠ 4 ∧ n.kind ≠ 5 ∧ n.kind ≠ 6) := by omega
  rcases h8 with hk | hk | hk | hk | hk | hk | hk | ⟨k0, k1, k2, k3, k4, k5, k6⟩
  · simp (maxSteps := 400000) only [↓preZ, postZ, coreZ, ↓preU, postU, D_all, F_all, unR, outL, onePV, binS, ↓binS, q03, ↓q03, q01, ↓q01, boxR, q0b, newObj, q05, q00, q07, q09, q0a, St.freeze, q02, q08, q04, BEq.rfl, reduceIte, reduceCtorEq, Nat.reduceLT, Nat.reduceAdd, Nat.reduceSub, Nat.reduceMul, Nat.reduceBEq, Nat.reduceLeDiff, Int.reduceToNat, Int.reduceLE, hQ, frzC0, ↓q0l, ↓q38, hk, Int.reduceEq]
    rw [Bool.eq_iff_iff]
    simp [q0m, hk, and_assoc]
  · simp (maxSteps := 400000) only [↓preZ, postZ, coreZ, ↓preU, postU, D_all, F_all, unR, outL, onePV, binS, ↓binS, q03, ↓q03, q01, ↓q01, boxR, q0b, newObj, q05, q00, q07, q09, q0a, St.freeze, q02, q08, q04, BEq.rfl, reduceIte, reduceCtorEq, Nat.reduceLT, Nat.reduceAdd, Nat.reduceSub, Nat.reduceMul, Nat.reduceBEq, Nat.reduceLeDiff, Int.reduceToNat, Int.reduceLE, hQ, frzC0, ↓q0l, ↓q38, hk, Int.reduceEq]
    rw [Bool.eq_iff_iff]
    simp [q0m, hk, and_assoc]
  · simp (maxSteps := 400000) only [↓preZ, postZ, coreZ, ↓preU, postU, D_all, F_all, unR, outL, onePV, binS, ↓binS, q03, ↓q03, q01, ↓q01, boxR, q0b, newObj, q05, q00, q07, q09, q0a, St.freeze, q02, q08, q04, BEq.rfl, reduceIte, reduceCtorEq, Nat.reduceLT, Nat.reduceAdd, Nat.reduceSub, Nat.reduceMul, Nat.reduceBEq, Nat.reduceLeDiff, Int.reduceToNat, Int.reduceLE, hQ, frzC0, ↓q0l, ↓q38, hk, Int.reduceEq]
    rw [Bool.eq_iff_iff]
    simp [q0m, hk, and_assoc]
  · simp (maxSteps := 400000) only [↓preZ, postZ, coreZ, ↓preU, postU, D_all, F_all, unR, outL, onePV, binS, ↓binS, q03, ↓q03, q01, ↓q01, boxR, q0b, newObj, q05, q00, q07, q09, q0a, St.freeze, q02, q08, q04, BEq.rfl, reduceIte, reduceCtorEq, Nat.reduceLT, Nat.reduceAdd, Nat.reduceSub, Nat.reduceMul, Nat.reduceBEq, Nat.reduceLeDiff, Int.reduceToNat, Int.reduceLE, hQ, frzC0, ↓q0l, ↓q38, hk, Int.reduceEq]
    refine ⟨hl, ?_⟩
    simp [q0m, hk, numB]
  · simp (maxSteps := 400000) only [↓preZ, postZ, coreZ, ↓preU, postU, D_all, F_all, unR, outL, onePV, binS, ↓binS, q03, ↓q03, q01, ↓q01, boxR, q0b, newObj, q05, q00, q07, q09, q0a, St.freeze, q02, q08, q04, BEq.rfl, reduceIte, reduceCtorEq, Nat.reduceLT, Nat.reduceAdd, Nat.reduceSub, Nat.reduceMul, Nat.reduceBEq, Nat.reduceLeDiff, Int.reduceToNat, Int.reduceLE, hQ, frzC0, ↓q0l, ↓q38, hk, Int.reduceEq]
    refine ⟨hl, ?_⟩
    cases hu : utf n.s
    · simp [ifP, q0m, hk, hu]
    · simp only [ifR]
      rw [Bool.eq_iff_iff]
      simp [q0m, hk, hu, and_assoc]
  · simp (maxSteps := 400000) only [↓preZ, postZ, coreZ, ↓preU, postU, D_all, F_all, unR, outL, onePV, binS, ↓binS, q03, ↓q03, q01, ↓q01, boxR, q0b, newObj, q05, q00, q07, q09, q0a, St.freeze, q02, q08, q04, BEq.rfl, reduceIte, reduceCtorEq, Nat.reduceLT, Nat.reduceAdd, Nat.reduceSub, Nat.reduceMul, Nat.reduceBEq, Nat.reduceLeDiff, Int.reduceToNat, Int.reduceLE, hQ, frzC0, ↓q0l, ↓q38, hk, Int.reduceEq]
    refine ⟨fun hm => ?_, fun hm => ?_⟩
    · rw [Bool.eq_iff_iff]
      simp [q0m, hk, hm, and_assoc]
    · simp [q0m, hk, hm]
  · simp (maxSteps := 400000) only [↓preZ, postZ, coreZ, ↓preU, postU, D_all, F_all, unR, outL, onePV, binS, ↓binS, q03, ↓q03, q01, ↓q01, boxR, q0b, newObj, q05, q00, q07, q09, q0a, St.freeze, q02, q08, q04, BEq.rfl, reduceIte, reduceCtorEq, Nat.reduceLT, Nat.reduceAdd, Nat.reduceSub, Nat.reduceMul, Nat.reduceBEq, Nat.reduceLeDiff, Int.reduceToNat, Int.reduceLE, hQ, frzC0, ↓q0l, ↓q38, hk, Int.reduceEq]
    refine ⟨fun hm => ?_, fun hm => ?_⟩
    · rw [Bool.eq_iff_iff]
      simp [q0m, hk, hm, and_assoc]
    · simp [q0m, hk, hm]
  · simp (maxSteps := 400000) only [↓preZ, postZ, coreZ, ↓preU, postU, D_all, F_all, unR, outL, onePV, binS, ↓binS, q03, ↓q03, q01, ↓q01, boxR, q0b, newObj, q05, q00, q07, q09, q0a, St.freeze, q02, q08, q04, BEq.rfl, reduceIte, reduceCtorEq, Nat.reduceLT, Nat.reduceAdd, Nat.reduceSub, Nat.reduceMul, Nat.reduceBEq, Nat.reduceLeDiff, Int.reduceToNat, Int.reduceLE, hQ, frzC0, ↓q0l, ↓q38, k0, k1, k2, k3, k4, k5, k6]
    simp [q0m, k0, k1, k2, k3, k4, k5, k6]
def q16 : Ctr := fun args objs K => match args with
  | [a0] => ofE encN a0 (HK.mk : HK fun n => (n.s.length ≤ 4611686018427387904) ∧ K (.bool (q0m n)) objs 0)
  | _ => False
theorem ctrIsPlain_ok : CtrOk Tryz.prog f_val_isPlain (q16) := by
  intro args objs K h
  unfold q16 at h
  split at h
  · rename_i a0
    obtain ⟨n, rfl, h1, hk⟩ := h
    exact ⟨_, _, _, .pure _ rfl (isPlain_spec n h1), hk⟩
  · exact h.elim
end Lp

/-! LpD8 -/

namespace Lp
open Go Go.Proofs
set_option maxHeartbeats 4000000
set_option maxRecDepth 20000
set_option linter.unusedSimpArgs false
def encO (o : Opn) : PV := .agg [.int .i64 o.kind, .int .i64 o.left, .bool o.first, .str o.last]
def encOs (l : List Opn) : PV := .sl 4 (l.map encO) none
theorem encO_inj : ∀ a b, encO a = encO b → a = b := by
  intro a b h
  cases a; cases b
  simp only [encO, PV.agg.injEq, List.cons.injEq, PV.int.injEq, PV.str.injEq, PV.bool.injEq, true_and, and_true] at h
  obtain ⟨rfl, rfl, rfl, rfl⟩ := h
  rfl
theorem opnC :
    (∀ o, (encO o).cells = [.int .i64 o.kind, .int .i64 o.left, .bool o.first, .str o.last]) ∧ (∀ o, (encO o).isAgg = true) ∧ (∀ o, (encO o).pure = true) ∧ (∀ d m O o, frz d m O (encO o) = encO o) ∧ (∀ d m O o, frzT d m O (encO o) = encO o) ∧ type_of% (q0p encO_inj) :=
  ⟨fun _ => rfl, fun _ => rfl, fun _ => rfl, fun _ _ _ _ => rfl, fun _ _ _ _ => rfl, q0p encO_inj⟩
theorem hO : ∀ l, encOs l = .sl 4 (l.map encO) none := fun _ => rfl
theorem encOs_inj : ∀ a b, encOs a = encOs b → a = b := q7t hO encO_inj
theorem inO : Inert encO := by intro d n o x; cases d <;> rfl
theorem opnB : type_of% opnC ∧ type_of% (rowR hO) ∧ type_of% (rowS hO) ∧ type_of% (rowC hO) ∧ type_of% (q0p encOs_inj) ∧ type_of% (q4s hO inO) :=
  ⟨opnC, rowR hO, rowS hO, rowC hO, q0p encOs_inj, q4s hO inO⟩
def openP (o : Opn) : Bool := decide (0 < o.left)
theorem openR_spec (o : Opn) : FnSpec Tryz.prog f_val_Right_1 [encO o] [] (.bool (openP o)) [] := by
  unfold openP
  refine k_val_Right_1.pureG (T := tabL Tryz.prog []) 0 hD (q0g q0d) hmix (by decide) fun Q hQ => ?_
  try simp only [F_all]
  simp (maxSteps := 400000) only [↓preZ, postZ, coreZ, ↓preU, postU, D_all, F_all, unR, outL, onePV, binS, ↓binS, q03, ↓q03, q01, ↓q01, boxR, q0b, newObj, q05, q00, q07, q09, q0a, St.freeze, q02, q08, q04, BEq.rfl, reduceIte, reduceCtorEq, Nat.reduceLT, Nat.reduceAdd, Nat.reduceSub, Nat.reduceMul, Nat.reduceBEq, Nat.reduceLeDiff, Int.reduceToNat, Int.reduceLE, hQ, q75, encO]
def q7f : Ctr := fun args objs K => match args with
  | [a0] => ofE encO a0 (HK.mk : HK fun o => K (.bool (openP o)) objs 0)
  | _ => False
theorem ctrOpenR_ok : CtrOk Tryz.prog f_val_Right_1 (q7f) := by
  intro args objs K h
  unfold q7f at h
  split at h
  · rename_i a0
    obtain ⟨o, rfl, hk⟩ := h
    exact ⟨_, _, _, .pure _ rfl (openR_spec o), hk⟩
  · exact h.elim
def idxOf {α : Type} (p : α → Bool) (l : List α) : Int := match l.findIdx? p with
  | some i => i
  | none => -1
theorem idxOf_hit {α : Type} {p : α → Bool} {l : List α} {i : Nat} {x : α} (h : l[i]? = some x) (hx : p x = true) (hb : ∀ (j : Nat) y, j < i → l[j]? = some y → p y = false) : idxOf p l = i := by
  have : l.findIdx? p = some i := by
    rw [List.findIdx?_eq_some_iff_getElem]
    obtain ⟨hi, he⟩ := List.getElem?_eq_some_iff.1 h
    refine ⟨hi, by rw [he]; exact hx, fun j hj => ?_⟩
    have := hb j _ hj (List.getElem?_eq_getElem (by omega))
    simp [this]
  simp [idxOf, this]
theorem idxOf_none {α : Type} {p : α → Bool} {l : List α} (hb : ∀ (j : Nat) y, l[j]? = some y → p y = false) : idxOf p l = -1 := by
  have : l.findIdx? p = none := by
    rw [List.findIdx?_eq_none_iff]
    intro x hx
    obtain ⟨i, hi⟩ := List.mem_iff_getElem?.1 hx
    exact hb i x hi
  simp [idxOf, this]
theorem idxOf_any {α : Type} (p : α → Bool) (l : List α) : decide (0 ≤ idxOf p l) = l.any p := by
  rw [Bool.eq_iff_iff, decide_eq_true_iff]
  cases h : l.findIdx? p with
  | none =>
    rw [List.findIdx?_eq_none_iff] at h
    have : l.any p = false := by rw [List.any_eq_false]; intro x hx; simp [h x hx]
    simp [idxOf, List.findIdx?_eq_none_iff.2 h, this]
  | some i =>
    have h' := h
    rw [List.findIdx?_eq_some_iff_getElem] at h'
    obtain ⟨hi, hp, _⟩ := h'
    have : l.any p = true := List.any_eq_true.2 ⟨_, List.getElem_mem hi, hp⟩
    simp [idxOf, h, this]
theorem idxOpen_spec (l : List Opn) (hl : l.length ≤ 4611686018427387904) : FnSpec Tryz.prog f_slices_IndexFunc_L_val_open_val_open_ [encOs l, .fn f_val_Right_1 [] []] [] (.int .i64 (idxOf openP l)) [] := by
  refine k_slices_IndexFunc_L_val_open_val_open_.pureG (T := tabL Tryz.prog [(f_val_Right_1, q7f)]) 0 hD (q0g (q0c ctrOpenR_ok q0d)) hmix (by decide) fun Q hQ => ?_
  try simp only [F_all]
  simp (maxSteps := 400000) only [↓preZ, postZ, coreZ, ↓preU, postU, D_all, F_all, unR, outL, onePV, binS, ↓binS, q03, ↓q03, q01, ↓q01, boxR, q0b, newObj, q05, q00, q07, q09, q0a, St.freeze, q02, q08, q04, BEq.rfl, reduceIte, reduceCtorEq, Nat.reduceLT, Nat.reduceAdd, Nat.reduceSub, Nat.reduceMul, Nat.reduceBEq, Nat.reduceLeDiff, Int.reduceToNat, Int.reduceLE, hQ, q0y, opnB]
  refine q0t (fun m S => ∃ i : Nat, i + m = l.length ∧ (∀ (j : Nat) y, j < i → l[j]? = some y → openP y = false) ∧ S = ⟨tmA 19 [(0, encOs l), (1, .fn f_val_Right_1 [] []), (7, .int .i64 l.length), (8, .int .i64 i)], []⟩) l.length ⟨0, by omega, fun j y h => absurd h (Nat.not_lt_zero j), ?_⟩ ?_
  · simp only [normR, keepR, Nat.reduceAdd, lkR, Nat.reduceBEq, F_all, List.map_nil]
    rfl
  rintro m S ⟨i, him, hb, rfl⟩
  rcases Nat.lt_or_ge i l.length with h | h
  rotate_left 1
  · have hlt : ((i : Int) < (l.length : Int)) = False := eq_false (by omega)
    have hr := idxOf_none (l := l) fun j y hj => hb j y (by have := (List.getElem?_eq_some_iff.1 hj).1; omega) hj
    simp (maxSteps := 400000) only [↓preZ, postZ, coreZ, ↓preU, postU, D_all, F_all, unR, outL, onePV, binS, ↓binS, q03, ↓q03, q01, ↓q01, boxR, q0b, newObj, q05, q00, q07, q09, q0a, St.freeze, q02, q08, q04, BEq.rfl, reduceIte, reduceCtorEq, Nat.reduceLT, Nat.reduceAdd, Nat.reduceSub, Nat.reduceMul, Nat.reduceBEq, Nat.reduceLeDiff, Int.reduceToNat, Int.reduceLE, hQ, hlt, hr]
  have hlt : ((i : Int) < (l.length : Int)) = True := eq_true (by omega)
  have zi : (0 ≤ (i : Int)) = True := eq_true (by omega)
  have hgi := List.getElem?_eq_getElem h
  generalize l[i] = o at hgi
  cases hp : openP o
  rotate_left 1
  · have hr : idxOf openP l = i := idxOf_hit hgi hp hb
    simp (maxSteps := 400000) only [↓preZ, postZ, coreZ, ↓preU, postU, D_all, F_all, unR, outL, onePV, binS, ↓binS, q03, ↓q03, q01, ↓q01, boxR, q0b, newObj, q05, q00, q07, q09, q0a, St.freeze, q02, q08, q04, BEq.rfl, reduceIte, reduceCtorEq, Nat.reduceLT, Nat.reduceAdd, Nat.reduceSub, Nat.reduceMul, Nat.reduceBEq, Nat.reduceLeDiff, Int.reduceToNat, Int.reduceLE, hQ, hlt, zi, opnB, hgi, ↓q7f, hp, hr]
  · simp (maxSteps := 400000) only [↓preZ, postZ, coreZ, ↓preU, postU, D_all, F_all, unR, outL, onePV, binS, ↓binS, q03, ↓q03, q01, ↓q01, boxR, q0b, newObj, q05, q00, q07, q09, q0a, St.freeze, q02, q08, q04, BEq.rfl, reduceIte, reduceCtorEq, Nat.reduceLT, Nat.reduceAdd, Nat.reduceSub, Nat.reduceMul, Nat.reduceBEq, Nat.reduceLeDiff, Int.reduceToNat, Int.reduceLE, hQ, hlt, zi, opnB, hgi, ↓q7f, hp]
    refine ⟨⟨by omega, by omega⟩, m - 1, by omega, i + 1, by omega, fun j y hj hy => ?_, rfl⟩
    rcases Nat.lt_or_ge j i with g | g
    · exact hb j y g hy
    · have : j = i := by omega
      subst this
      rw [hgi] at hy; cases hy
      exact hp
def q5s : Ctr := fun args objs K => match args with
  | [a0, a1] => ofE encOs a0 (HK.mk : HK fun l => a1 = (.fn f_val_Right_1 [] []) ∧ (l.length ≤ 4611686018427387904) ∧ K (.int .i64 (idxOf openP l)) objs 0)
  | _ => False
theorem ctrIdxOpen_ok : CtrOk Tryz.prog f_slices_IndexFunc_L_val_open_val_open_ (q5s) := by
  intro args objs K h
  unfold q5s at h
  split at h
  · rename_i a0 a1
    obtain ⟨l, rfl, rfl, h1, hk⟩ := h
    exact ⟨_, _, _, .pure _ rfl (idxOpen_spec l h1), hk⟩
  · exact h.elim
theorem anyOpen_spec (l : List Opn) (hl : l.length ≤ 4611686018427387904) : FnSpec Tryz.prog f_slices_ContainsFunc_L_val_open_val_open_ [encOs l, .fn f_val_Right_1 [] []] [] (.bool (l.any openP)) [] := by
  refine k_slices_ContainsFunc_L_val_open_val_open_.pureG (T := tabL Tryz.prog [(f_slices_IndexFunc_L_val_open_val_open_, q5s)]) 0 hD (q0g (q0c ctrIdxOpen_ok q0d)) hmix (by decide) fun Q hQ => ?_
  try simp only [F_all]
  simp (maxSteps := 400000) only [↓preZ, postZ, coreZ, ↓preU, postU, D_all, F_all, unR, outL, onePV, binS, ↓binS, q03, ↓q03, q01, ↓q01, boxR, q0b, newObj, q05, q00, q07, q09, q0a, St.freeze, q02, q08, q04, BEq.rfl, reduceIte, reduceCtorEq, Nat.reduceLT, Nat.reduceAdd, Nat.reduceSub, Nat.reduceMul, Nat.reduceBEq, Nat.reduceLeDiff, Int.reduceToNat, Int.reduceLE, hQ, q0u, opnB, ↓q5s, idxOf_any]
  exact hl
def q5t : Ctr := fun args objs K => match args with
  | [a0, a1] => ofE encOs a0 (HK.mk : HK fun l => a1 = (.fn f_val_Right_1 [] []) ∧ (l.length ≤ 4611686018427387904) ∧ K (.bool (l.any openP)) objs 0)
  | _ => False
theorem ctrAnyOpen_ok : CtrOk Tryz.prog f_slices_ContainsFunc_L_val_open_val_open_ (q5t) := by
  intro args objs K h
  unfold q5t at h
  split at h
  · rename_i a0 a1
    obtain ⟨l, rfl, rfl, h1, hk⟩ := h
    exact ⟨_, _, _, .pure _ rfl (anyOpen_spec l h1), hk⟩
  · exact h.elim
theorem q3l (objs : List Obj) (K : KT) :
    (∀ k m, q1p D t_val_open [(0, .int .i64 k), (1, .int .i64 m)] objs K = K (encO ⟨k, m, false, []⟩) objs 0) ∧
    (∀ k m b, q1p D t_val_open [(0, .int .i64 k), (1, .int .i64 m), (2, .bool b)] objs K = K (encO ⟨k, m, b, []⟩) objs 0) := by
  have z : q05 (D t_val_open) = encO ⟨0, 0, false, []⟩ := by kernel_rfl
  have a : (D t_val_open).agg = true := by kernel_rfl
  simp only [D_all] at z a
  refine ⟨fun k m => ?_, fun k m b => ?_⟩
  all_goals
    simp [q1p, q9b, a, z, D_all, fillR, encO, PV.isAgg, partOk, PV.cells, PV.storable, PV.solid, PV.pure]
theorem zOl : (PV.ofV (Value.agg { toList := [Value.int IntKind.i64 0, Value.int IntKind.i64 0, Value.bool false, Value.string { data := { toList := [] } }] })).cells.length = 4 := rfl
theorem zOs : (PV.ofV (Value.agg { toList := [Value.int IntKind.i64 0, Value.int IntKind.i64 0, Value.bool false, Value.string { data := { toList := [] } }] })).cells.all PV.storable = true := rfl
def stkO (s : List Opn) (ver : Nat) : Obj := ⟨t_val_open, 4, s.reverse.map encO, true, ver⟩
theorem qak : (∀ (o : Opn) (m : Int), (encO o).putCells 1 [.int .i64 m] = encO { o with left := m }) ∧ (∀ (o : Opn) (b : Bool), (encO o).putCells 2 [.bool b] = encO { o with first := b }) ∧ (∀ (o : Opn) (t : List UInt8), (encO o).putCells 3 [.str t] = encO { o with last := t }) := ⟨fun _ _ => rfl, fun _ _ => rfl, fun _ _ => rfl⟩
theorem frzO_opn (d n : Nat) (O : List Obj) (t : TypeId) (sz : Nat) (l : List Opn) (ver : Nat) : frzO d n O ⟨t, sz, l.map encO, true, ver⟩ = ⟨t, sz, l.map encO, true, ver⟩ := by
  have : (l.map encO).map (PV.mapCells (frz d n O)) = l.map encO := by
    rw [List.map_map]
    exact List.map_congr_left fun x _ => rfl
  simp only [frzO, this]
theorem q7g (v : Vl) (hs : Small v) : FnSpec Tryz.prog f_val_Right [encV v] [] (.bool (q0x v)) [] := by
  have hl := hs.len
  refine k_val_Right.pureG (T := tabL Tryz.prog [(f_val_isPlain, q16), (f_unicode_utf8_ValidString, q0l), (f_slices_ContainsFunc_L_val_open_val_open_, q5t)]) 1 hD (q0g (q0c ctrIsPlain_ok (q0c q3i (q0c ctrAnyOpen_ok q0d)))) hmix (by decide) fun Q hQ => ?_
  try simp only [F_all]
  simp (maxSteps := 400000) only [↓preZ, postZ, coreZ, ↓preU, postU, D_all, F_all, unR, outL, onePV, binS, ↓binS, q03, ↓q03, q01, ↓q01, boxR, q0b, newObj, q05, q00, q07, q09, q0a, St.freeze, q02, q08, q04, BEq.rfl, reduceIte, reduceCtorEq, Nat.reduceLT, Nat.reduceAdd, Nat.reduceSub, Nat.reduceMul, Nat.reduceBEq, Nat.reduceLeDiff, Int.reduceToNat, Int.reduceLE, hQ, qa7, zNl, zNs, q3l, zOl, zOs, opnC]
  refine q0t (fun m S => ∃ (s : List Opn) (i ver : Nat), i + m = v.length ∧ runR v.length s (v.drop i) = q0x v ∧ s.length ≤ i + 1 ∧ (∀ o ∈ s, 0 ≤ o.left ∧ o.left ≤ 1000000) ∧ S = ⟨tmA 123 [(0, encV v), (3, .osl 0 ver), (10, encV v), (11, .int .i64 v.length), (12, .int .i64 i)], [stkO s ver]⟩) v.length
    ⟨[⟨5, 1, false, []⟩], 0, 1, by omega, runR_right v, by simp, by simp, ?_⟩ ?_ (hz := Nat.zero_le _)
  · simp only [normR, keepR, Nat.reduceAdd, lkR, Nat.reduceBEq, F_all, List.map_nil]
    rfl
  rintro m S ⟨s, i, ver, him, hrun, hsl, hle, rfl⟩
  rcases Nat.lt_or_ge i v.length with h | h
  rotate_left 1
  · have hlt : ((i : Int) < (v.length : Int)) = False := eq_false (by omega)
    have hr : q0x v = Bool.not (s.any openP) := by
      rw [← hrun, List.drop_eq_nil_of_le h, runR]; rfl
    have hf : frz 1 0 [⟨t_val_open, 4, s.reverse.map encO, true, ver⟩] (.osl 0 ver) = encOs s.reverse := by
      simp only [frz, Nat.not_lt_zero, if_false, frzI, List.getElem?_cons_zero, Nat.le_refl, decide_true, Bool.true_and, beq_self_eq_true, if_true]
      rw [List.map_map]
      rfl
    unfold stkO
    simp (maxSteps := 400000) only [↓preZ, postZ, coreZ, ↓preU, postU, D_all, F_all, unR, outL, onePV, binS, ↓binS, q03, ↓q03, q01, ↓q01, boxR, q0b, newObj, q05, q00, q07, q09, q0a, St.freeze, q02, q08, q04, BEq.rfl, reduceIte, reduceCtorEq, Nat.reduceLT, Nat.reduceAdd, Nat.reduceSub, Nat.reduceMul, Nat.reduceBEq, Nat.reduceLeDiff, Int.reduceToNat, Int.reduceLE, hQ, hlt]
    refine q4a _ (Weak.freeze 1 0 (Nat.zero_le _) _) ?_
    rcases Nat.eq_zero_or_pos v.length with h0 | h0
    · have h0' : ((0 : Int) < (v.length : Int)) = False := eq_false (by omega)
      have hrf : q0x v = false := by
        have : v = [] := List.length_eq_zero_iff.1 h0
        rw [this]; rfl
      simp (maxSteps := 400000) only [↓preZ, postZ, coreZ, ↓preU, postU, D_all, F_all, unR, outL, onePV, binS, ↓binS, q03, ↓q03, q01, ↓q01, boxR, q0b, newObj, q05, q00, q07, q09, q0a, St.freeze, q02, q08, q04, BEq.rfl, reduceIte, reduceCtorEq, Nat.reduceLT, Nat.reduceAdd, Nat.reduceSub, Nat.reduceMul, Nat.reduceBEq, Nat.reduceLeDiff, Int.reduceToNat, Int.reduceLE, hQ, h0', hrf]
    · have h0' : ((0 : Int) < (v.length : Int)) = True := eq_true (by omega)
      simp (maxSteps := 400000) only [↓preZ, postZ, coreZ, ↓preU, postU, D_all, F_all, unR, outL, onePV, binS, ↓binS, q03, ↓q03, q01, ↓q01, boxR, q0b, newObj, q05, q00, q07, q09, q0a, St.freeze, q02, q08, q04, BEq.rfl, reduceIte, reduceCtorEq, Nat.reduceLT, Nat.reduceAdd, Nat.reduceSub, Nat.reduceMul, Nat.reduceBEq, Nat.reduceLeDiff, Int.reduceToNat, Int.reduceLE, hQ, h0', hf, opnB, ↓q5t]
      exact ⟨by rw [List.length_reverse]; omega, by rw [hr, List.any_reverse]⟩
  have hlt : ((i : Int) < (v.length : Int)) = True := eq_true (by omega)
  have zi : (0 ≤ (i : Int)) = True := eq_true (by omega)
  have hgi := List.getElem?_eq_getElem h
  have hdi := List.drop_eq_getElem_cons h
  have htx := hs.txt _ (List.getElem_mem h)
  generalize v[i] = n at hgi hdi htx
  simp (maxSteps := 400000) only [↓preZ, postZ, coreZ, ↓preU, postU, D_all, F_all, unR, outL, onePV, binS, ↓binS, q03, ↓q03, q01, ↓q01, boxR, q0b, newObj, q05, q00, q07, q09, q0a, St.freeze, q02, q08, q04, BEq.rfl, reduceIte, reduceCtorEq, Nat.reduceLT, Nat.reduceAdd, Nat.reduceSub, Nat.reduceMul, Nat.reduceBEq, Nat.reduceLeDiff, Int.reduceToNat, Int.reduceLE, hQ, hlt, zi, hgi, zNl, zNs, nodeZ, nodeW]
  rw [hdi] at hrun
  have hll : (n.many ≤ (v.length : Int)) = (n.many ≤ (v.length : Int)) := rfl
  refine q0t (fun m' S => ∃ (s' : List Opn) (ver' : Nat), s'.length = m' ∧ s'.dropWhile (fun o => o.left == 0) = s.dropWhile (fun o => o.left == 0) ∧ s'.length ≤ i + 1 ∧ (∀ o ∈ s', 0 ≤ o.left ∧ o.left ≤ 1000000) ∧
    S = ⟨tmA 123 [(0, encV v), (3, .osl 0 ver'), (5, .optr 1 1 0 0), (10, encV v), (11, .int .i64 v.length), (12, .int .i64 i)], [stkO s' ver', ⟨t_api_Node, 6, [encN n], true, 1⟩]⟩) s.length ⟨s, ver, rfl, rfl, hsl, hle, ?_⟩ ?_
  · simp only [normR, keepR, Nat.reduceAdd, lkR, Nat.reduceBEq, F_all, List.map_nil]
  rintro m' S ⟨s', ver', hm', hdw, hsl', hle', rfl⟩
  cases s' with
  | nil =>
    have h00 : ((0 : Int) < ((0 : Nat) : Int)) = False := eq_false (by omega)
    have h01 : (((0 : Nat) : Int) = 0) = True := eq_true rfl
    have hr : q0x v = false := by rw [← hrun, runR, ← hdw]; rfl
    unfold stkO
    simp (maxSteps := 400000) only [↓preZ, postZ, coreZ, ↓preU, postU, D_all, F_all, unR, outL, onePV, binS, ↓binS, q03, ↓q03, q01, ↓q01, boxR, q0b, newObj, q05, q00, q07, q09, q0a, St.freeze, q02, q08, q04, BEq.rfl, reduceIte, reduceCtorEq, Nat.reduceLT, Nat.reduceAdd, Nat.reduceSub, Nat.reduceMul, Nat.reduceBEq, Nat.reduceLeDiff, Int.reduceToNat, Int.reduceLE, hQ, h00, h01, hr, List.reverse_nil]
  | cons o t =>
  have hst : ∀ w, stkO (o :: t) w = ⟨t_val_open, 4, t.reverse.map encO ++ [encO o], true, w⟩ := fun w => by simp [stkO]
  have hget : ∀ x : PV, (t.reverse.map encO ++ [x])[t.length]? = some x := fun x => by rw [List.getElem?_append_right (by simp)]; simp
  have hset : ∀ x y : PV, (t.reverse.map encO ++ [x]).set t.length y = t.reverse.map encO ++ [y] := fun x y => by rw [List.set_append_right _ _ (by simp)]; simp
  have hpos : ((0 : Int) < ((t.length + 1 : Nat) : Int)) = True := eq_true (by omega)
  have hne0 : (((t.length + 1 : Nat) : Int) = 0) = False := eq_false (by omega)
  have t1 : (((t.length + 1 : Nat) : Int) - 1).toNat = t.length := by omega
  have z1 : (0 ≤ ((t.length + 1 : Nat) : Int) - 1) = True := eq_true (by omega)
  have lt1 : (((t.length + 1 : Nat) : Int) - 1 < ((t.length + 1 : Nat) : Int)) = True := eq_true (by omega)
  have le1 : (((t.length + 1 : Nat) : Int) - 1 ≤ ((t.length + 1 : Nat) : Int)) = True := eq_true (by omega)
  simp only [List.length_cons] at hsl' hm'
  have i1 : (-9223372036854775808 ≤ ((t.length + 1 : Nat) : Int) - 1 ∧ ((t.length + 1 : Nat) : Int) - 1 ≤ 9223372036854775807) = True := eq_true ⟨by omega, by omega⟩
  have hlo := hle' o (by simp)
  by_cases h0 : o.left = 0
  · have h0' : (o.left = 0) = True := eq_true h0
    rw [hst]
    simp (maxSteps := 400000) only [↓preZ, postZ, coreZ, ↓preU, postU, D_all, F_all, unR, outL, onePV, binS, ↓binS, q03, ↓q03, q01, ↓q01, boxR, q0b, newObj, q05, q00, q07, q09, q0a, St.freeze, q02, q08, q04, BEq.rfl, reduceIte, reduceCtorEq, Nat.reduceLT, Nat.reduceAdd, Nat.reduceSub, Nat.reduceMul, Nat.reduceBEq, Nat.reduceLeDiff, Int.reduceToNat, Int.reduceLE, hQ, hpos, t1, z1, lt1, le1, i1, hget, hset, h0', opnC, List.length_reverse]
    refine ⟨m' - 1, by omega, t, ver' + 1, by omega, ?_, by omega, fun x hx => hle' x (List.mem_cons_of_mem _ hx), ?_⟩
    · rw [← hdw]; exact (List.dropWhile_cons_of_pos (by simpa using h0)).symm
    · rw [List.take_left' (by simp)]; rfl
  have h0' : (o.left = 0) = False := eq_false h0
  have hdw' : s.dropWhile (fun o => o.left == 0) = o :: t := by rw [← hdw]; exact List.dropWhile_cons_of_neg (by simpa using h0)
  have hstep : q0x v = (q0m n && decide (n.many ≤ v.length) && q1b o n.name && runR v.length (⟨n.kind, n.many, true, []⟩ :: ⟨o.kind, o.left - 1, false, n.name⟩ :: t) (v.drop (i + 1))) := by
    rw [← hrun, runR, hdw']
  rw [hst]
  cases hpl : q0m n
  · have hr : q0x v = false := by rw [hstep, hpl]; rfl
    simp (maxSteps := 400000) only [↓preZ, postZ, coreZ, ↓preU, postU, D_all, F_all, unR, outL, onePV, binS, ↓binS, q03, ↓q03, q01, ↓q01, boxR, q0b, newObj, q05, q00, q07, q09, q0a, St.freeze, q02, q08, q04, BEq.rfl, reduceIte, reduceCtorEq, Nat.reduceLT, Nat.reduceAdd, Nat.reduceSub, Nat.reduceMul, Nat.reduceBEq, Nat.reduceLeDiff, Int.reduceToNat, Int.reduceLE, hQ, hpos, hne0, t1, z1, lt1, le1, i1, hget, hset, h0', opnC, List.length_reverse, ↓q16, hpl, hr]
    exact htx.1
  by_cases hmL : n.many ≤ v.length
  rotate_left 1
  · have hmL' : ((v.length : Int) < n.many) = True := eq_true (by omega)
    have hr : q0x v = false := by rw [hstep, decide_eq_false hmL]; simp
    simp (maxSteps := 400000) only [↓preZ, postZ, coreZ, ↓preU, postU, D_all, F_all, unR, outL, onePV, binS, ↓binS, q03, ↓q03, q01, ↓q01, boxR, q0b, newObj, q05, q00, q07, q09, q0a, St.freeze, q02, q08, q04, BEq.rfl, reduceIte, reduceCtorEq, Nat.reduceLT, Nat.reduceAdd, Nat.reduceSub, Nat.reduceMul, Nat.reduceBEq, Nat.reduceLeDiff, Int.reduceToNat, Int.reduceLE, hQ, hpos, hne0, t1, z1, lt1, le1, i1, hget, hset, h0', opnC, List.length_reverse, ↓q16, hpl, hmL', hr]
    exact htx.1
  have hmL' : ((v.length : Int) < n.many) = False := eq_false (by omega)
  have hm0 : 0 ≤ n.many := by
    by_cases hk : n.kind = 5 ∨ n.kind = 6
    · exact (q76 hpl hk).1
    · rw [q5m hpl hk]; exact Int.le_refl 0
  have hA : ∀ x y : Opn, t.reverse.map encO ++ [encO x] ++ [encO y] = (t.reverse ++ [x, y]).map encO := fun x y => by simp
  have fin : ∀ hn : q1b o n.name = true, ∃ m'_1, m'_1 < m ∧ ∃ (s : List Opn) (i_1 ver : Nat), i_1 + m'_1 = v.length ∧ runR v.length s (v.drop i_1) = q0x v ∧ s.length ≤ i_1 + 1 ∧ (∀ o ∈ s, 0 ≤ o.left ∧ o.left ≤ 1000000) ∧
      (⟨tmA 123 [(0, encV v), (3, .osl 0 (ver' + 1)), (10, encV v), (11, .int .i64 v.length), (12, .int .i64 ((i : Int) + 1))], [⟨t_val_open, 4, t.reverse.map encO ++ [encO ⟨o.kind, o.left - 1, false, n.name⟩] ++ [encO ⟨n.kind, n.many, true, []⟩], true, ver' + 1⟩]⟩ : St) =
      ⟨tmA 123 [(0, encV v), (3, .osl 0 ver), (10, encV v), (11, .int .i64 v.length), (12, .int .i64 i_1)], [stkO s ver]⟩ := fun hn => by
    refine ⟨m - 1, by omega, ⟨n.kind, n.many, true, []⟩ :: ⟨o.kind, o.left - 1, false, n.name⟩ :: t, i + 1, ver' + 1, by omega, ?_, by simp only [List.length_cons]; omega, fun x hx => ?_, ?_⟩
    · rw [hstep, hpl, hn, decide_eq_true hmL]; simp
    · rcases List.mem_cons.1 hx with rfl | hx
      · exact ⟨hm0, by simp only; omega⟩
      · rcases List.mem_cons.1 hx with rfl | hx
        · simp only; omega
        · exact hle' x (List.mem_cons_of_mem _ hx)
    · simp [stkO]
  by_cases k6 : o.kind = 6
  rotate_left 1
  · have k6' : (o.kind = 6) = False := eq_false k6
    by_cases hnm : n.name = []
    rotate_left 1
    · have hnm' : (n.name = []) = False := eq_false hnm
      have hr : q0x v = false := by
        have : q1b o n.name = false := by simp [q1b, k6, hnm]
        rw [hstep, this]; simp
      simp (maxSteps := 400000) only [↓preZ, postZ, coreZ, ↓preU, postU, D_all, F_all, unR, outL, onePV, binS, ↓binS, q03, ↓q03, q01, ↓q01, boxR, q0b, newObj, q05, q00, q07, q09, q0a, St.freeze, q02, q08, q04, BEq.rfl, reduceIte, reduceCtorEq, Nat.reduceLT, Nat.reduceAdd, Nat.reduceSub, Nat.reduceMul, Nat.reduceBEq, Nat.reduceLeDiff, Int.reduceToNat, Int.reduceLE, hQ, hpos, hne0, t1, z1, lt1, le1, i1, hget, hset, h0', opnC, List.length_reverse, ↓q16, hpl, hmL', k6', q0q, qak, q3l, zOl, zOs, hnm', hr]
      exact htx.1
    · have hnm' : (n.name = []) = True := eq_true hnm
      simp (maxSteps := 400000) only [↓preZ, postZ, coreZ, ↓preU, postU, D_all, F_all, unR, outL, onePV, binS, ↓binS, q03, ↓q03, q01, ↓q01, boxR, q0b, newObj, q05, q00, q07, q09, q0a, St.freeze, q02, q08, q04, BEq.rfl, reduceIte, reduceCtorEq, Nat.reduceLT, Nat.reduceAdd, Nat.reduceSub, Nat.reduceMul, Nat.reduceBEq, Nat.reduceLeDiff, Int.reduceToNat, Int.reduceLE, hQ, hpos, hne0, t1, z1, lt1, le1, i1, hget, hset, h0', opnC, List.length_reverse, ↓q16, hpl, hmL', k6', q0q, qak, q3l, zOl, zOs, hnm']
      have hn : q1b o n.name = true := by simp [q1b, k6, hnm]
      obtain ⟨m1, e0, s1, j1, w1, e1, e2, e3, e4, e5⟩ := fin hn
      refine ⟨htx.1, ⟨by omega, by omega⟩, rfl, by omega, by omega, ⟨by omega, by omega⟩, m1, e0, s1, j1, w1, e1, e2, e3, e4, ?_⟩
      rw [← e5]
      simp only [hA, List.take_succ_cons, List.take_zero, List.map_cons (f := frzO _ _ _), List.map_nil, frzO_opn]
      rfl
  have k6' : (o.kind = 6) = True := eq_true k6
  cases hu : utf n.name
  · have hr : q0x v = false := by
      have : q1b o n.name = false := by simp [q1b, k6, hu]
      rw [hstep, this]; simp
    simp (maxSteps := 400000) only [↓preZ, postZ, coreZ, ↓preU, postU, D_all, F_all, unR, outL, onePV, binS, ↓binS, q03, ↓q03, q01, ↓q01, boxR, q0b, newObj, q05, q00, q07, q09, q0a, St.freeze, q02, q08, q04, BEq.rfl, reduceIte, reduceCtorEq, Nat.reduceLT, Nat.reduceAdd, Nat.reduceSub, Nat.reduceMul, Nat.reduceBEq, Nat.reduceLeDiff, Int.reduceToNat, Int.reduceLE, hQ, hpos, hne0, t1, z1, lt1, le1, i1, hget, hset, h0', opnC, List.length_reverse, ↓q16, hpl, hmL', k6', q0q, qak, q3l, zOl, zOs, ↓q0l, hu, hr]
    exact ⟨htx.1, htx.2⟩
  cases hfst : o.first
  rotate_left 1
  · have hn : q1b o n.name = true := by simp [q1b, k6, hu, hfst]
    simp (maxSteps := 400000) only [↓preZ, postZ, coreZ, ↓preU, postU, D_all, F_all, unR, outL, onePV, binS, ↓binS, q03, ↓q03, q01, ↓q01, boxR, q0b, newObj, q05, q00, q07, q09, q0a, St.freeze, q02, q08, q04, BEq.rfl, reduceIte, reduceCtorEq, Nat.reduceLT, Nat.reduceAdd, Nat.reduceSub, Nat.reduceMul, Nat.reduceBEq, Nat.reduceLeDiff, Int.reduceToNat, Int.reduceLE, hQ, hpos, hne0, t1, z1, lt1, le1, i1, hget, hset, h0', opnC, List.length_reverse, ↓q16, hpl, hmL', k6', q0q, qak, q3l, zOl, zOs, ↓q0l, hu, hfst]
    obtain ⟨m1, e0, s1, j1, w1, e1, e2, e3, e4, e5⟩ := fin hn
    refine ⟨htx.1, htx.2, ⟨by omega, by omega⟩, rfl, by omega, by omega, ⟨by omega, by omega⟩, m1, e0, s1, j1, w1, e1, e2, e3, e4, ?_⟩
    rw [← e5]
    simp only [hA, List.take_succ_cons, List.take_zero, List.map_cons (f := frzO _ _ _), List.map_nil, frzO_opn]
    rfl
  cases hbl : Op.bytesLess n.name o.last
  rotate_left 1
  · have hr : q0x v = false := by
      have : q1b o n.name = false := by simp [q1b, k6, hu, hfst, bl_asymm _ _ hbl]
      rw [hstep, this]; simp
    simp (maxSteps := 400000) only [↓preZ, postZ, coreZ, ↓preU, postU, D_all, F_all, unR, outL, onePV, binS, ↓binS, q03, ↓q03, q01, ↓q01, boxR, q0b, newObj, q05, q00, q07, q09, q0a, St.freeze, q02, q08, q04, BEq.rfl, reduceIte, reduceCtorEq, Nat.reduceLT, Nat.reduceAdd, Nat.reduceSub, Nat.reduceMul, Nat.reduceBEq, Nat.reduceLeDiff, Int.reduceToNat, Int.reduceLE, hQ, hpos, hne0, t1, z1, lt1, le1, i1, hget, hset, h0', opnC, List.length_reverse, ↓q16, hpl, hmL', k6', q0q, qak, q3l, zOl, zOs, ↓q0l, hu, hfst, hbl, hr]
    exact ⟨htx.1, htx.2⟩
  by_cases heq : n.name = o.last
  · have heq' : (n.name = o.last) = True := eq_true heq
    have hr : q0x v = false := by
      have : q1b o n.name = false := by simp [q1b, k6, hu, hfst, heq, q40]
      rw [hstep, this]; simp
    simp (maxSteps := 400000) only [↓preZ, postZ, coreZ, ↓preU, postU, D_all, F_all, unR, outL, onePV, binS, ↓binS, q03, ↓q03, q01, ↓q01, boxR, q0b, newObj, q05, q00, q07, q09, q0a, St.freeze, q02, q08, q04, BEq.rfl, reduceIte, reduceCtorEq, Nat.reduceLT, Nat.reduceAdd, Nat.reduceSub, Nat.reduceMul, Nat.reduceBEq, Nat.reduceLeDiff, Int.reduceToNat, Int.reduceLE, hQ, hpos, hne0, t1, z1, lt1, le1, i1, hget, hset, h0', opnC, List.length_reverse, ↓q16, hpl, hmL', k6', q0q, qak, q3l, zOl, zOs, ↓q0l, hu, hfst, hbl, heq', hr]
    exact ⟨htx.1, htx.2⟩
  · have heq' : (n.name = o.last) = False := eq_false heq
    have hn : q1b o n.name = true := by
      have : Op.bytesLess o.last n.name = true := by
        rcases bl_tri o.last n.name with g | g | g
        · exact g
        · exact absurd g.symm heq
        · rw [g] at hbl; cases hbl
      simp [q1b, k6, hu, this]
    simp (maxSteps := 400000) only [↓preZ, postZ, coreZ, ↓preU, postU, D_all, F_all, unR, outL, onePV, binS, ↓binS, q03, ↓q03, q01, ↓q01, boxR, q0b, newObj, q05, q00, q07, q09, q0a, St.freeze, q02, q08, q04, BEq.rfl, reduceIte, reduceCtorEq, Nat.reduceLT, Nat.reduceAdd, Nat.reduceSub, Nat.reduceMul, Nat.reduceBEq, Nat.reduceLeDiff, Int.reduceToNat, Int.reduceLE, hQ, hpos, hne0, t1, z1, lt1, le1, i1, hget, hset, h0', opnC, List.length_reverse, ↓q16, hpl, hmL', k6', q0q, qak, q3l, zOl, zOs, ↓q0l, hu, hfst, hbl, heq']
    obtain ⟨m1, e0, s1, j1, w1, e1, e2, e3, e4, e5⟩ := fin hn
    refine ⟨htx.1, htx.2, ⟨by omega, by omega⟩, rfl, by omega, by omega, ⟨by omega, by omega⟩, m1, e0, s1, j1, w1, e1, e2, e3, e4, ?_⟩
    rw [← e5]
    simp only [hA, List.take_succ_cons, List.take_zero, List.map_cons (f := frzO _ _ _), List.map_nil, frzO_opn]
    rfl
end Lp

/-! LpD13 -/

namespace Lp
open Go Go.Proofs
set_option maxHeartbeats 4000000
set_option maxRecDepth 20000
set_option linter.unusedSimpArgs false
def oneT2 : Vl := [⟨2, 0, [], [], false, 0⟩]
def twoT2 : Vl := listV [oneT2, oneT2]
def objT2 : Vl := [⟨6, 2, [], [], false, 0⟩, ⟨2, 0, [97], [], false, 0⟩, ⟨5, 2, [98], [], false, 0⟩, ⟨2, 0, [], [], false, 0⟩, ⟨2, 0, [], [], false, 0⟩]
theorem valRightNil : FnSpec Tryz.prog f_val_Right [.sl 0 [] (some true)] [] (.bool (q0x [])) [] :=
  (q7g [] ⟨by simp, by simp⟩).arg rfl fun i p q hp hq => by
    match i, hp, hq with
    | 0, hp, hq => cases hp; cases hq; exact q53 0 6
    | _ + 1, hp, _ => simp at hp
def qal : Ctr := fun args objs K => ∃ v : Vl, (args = [encV v] ∨ (v = [] ∧ args = [.sl 0 [] (some true)])) ∧ Small v ∧ K (.bool (q0x v)) objs 0
theorem ctrRightN_ok : CtrOk Tryz.prog f_val_Right qal := by
  rintro args objs K ⟨v, rfl | ⟨rfl, rfl⟩, hs, hk⟩
  · exact ⟨_, _, _, .pure _ rfl (q7g v hs), hk⟩
  · exact ⟨_, _, _, .pure _ rfl valRightNil, hk⟩
theorem obj_t1 : q58 [[98], [97]] [twoT2, oneT2] = objT2 ∧ objErr [[98], [97]] [twoT2, oneT2] = 0 ∧ objErr [[98], [98]] [oneT2, oneT2] = 4 ∧ q2n objT2 [98] = twoT2 ∧ hasV objT2 [98] = true ∧ q2m objT2 = 2 ∧ q0x objT2 = true := by
  refine ⟨?_, ?_, ?_, ?_, ?_, ?_, ?_⟩ <;> decide +kernel
theorem alive_spec : FnSpec Tryz.prog f_loupelaw02_alive [] [] (.bool true) [] := by
  refine k_loupelaw02_alive.pureG (T := tabL Tryz.prog [(f_val_List, q2b), (f_val_Object, q3k), (f_val_Field, q2c), (f_val_Same, q5o), (f_val_Depth, q4i), (f_val_Right, qal)]) 0 hD (q0g (q0c q7a (q0c qai (q0c q62 (q0c ctrValSame_ok (q0c qas (q0c ctrRightN_ok q0d))))))) hmix (by decide) fun Q hQ => ?_
  try simp only [F_all]
  obtain ⟨t1, t2, t3, t4, t5, t6, t7⟩ := obj_t1
  have e1 : ∀ x, listV [[⟨2, 0, [], [], false, 0⟩], [⟨2, 0, [], [], false, 0⟩]] = x → twoT2 = x := fun _ h => h
  have e0 : [(⟨2, 0, [], [], false, 0⟩ : Nd)] = oneT2 := rfl
  have e2 : listV [oneT2, oneT2] = twoT2 := rfl
  have hl : ((twoT2.length : Nat) : Int) = 3 := by decide
  have hl5 : ((objT2.length : Nat) : Int) = 5 := by decide
  have g1 : objT2[1]? = some ⟨2, 0, [97], [], false, 0⟩ := rfl
  have z1 : (0 ≤ (1 : Int)) = True := eq_true (by decide)
  have n1 : Int.toNat 1 = 1 := rfl
  have hr := q6z t7
  simp (maxSteps := 400000) only [↓preZ, postZ, coreZ, ↓preU, postU, D_all, F_all, unR, outL, onePV, binS, ↓binS, q03, ↓q03, q01, ↓q01, boxR, q0b, newObj, q05, q00, q07, q09, q0a, St.freeze, q02, q08, q04, BEq.rfl, reduceIte, reduceCtorEq, Nat.reduceLT, Nat.reduceAdd, Nat.reduceSub, Nat.reduceMul, Nat.reduceBEq, Nat.reduceLeDiff, Int.reduceToNat, Int.reduceLE, hQ, q3h, ↓q2b, ↓q3k, ↓q2c, ↓q5o, ↓q4i, q17, e0, e2, t1, t2, t3, t4, t5, t6, hl, hl5, zNl, zNs, g1, z1, n1, ↓qal]
  have sm : Small objT2 := ⟨by decide, by decide⟩
  refine ⟨by decide, by decide, by decide, by decide, by decide, by decide, by decide, hr, by decide, by decide, by decide, hr, by decide, fun _ => ⟨objT2, .inl rfl, sm, ?_⟩, fun h => h rfl⟩
  rw [t7]
  simp only [ifR]
  exact ⟨[], .inr rfl, ⟨by simp, by simp⟩, rfl⟩
def q1w : Ctr := fun args objs K => match args with
  | [] => K (.bool true) objs 0
  | _ => False
theorem ctrAlive2_ok : CtrOk Tryz.prog f_loupelaw02_alive (q1w) := by
  intro args objs K h
  unfold q1w at h
  split at h
  · skip
    have hk := h
    exact ⟨_, _, _, .pure _ rfl (alive_spec), hk⟩
  · exact h.elim
end Lp

/-! LpD3 -/

namespace Lp
open Go Go.Proofs
set_option maxHeartbeats 4000000
set_option maxRecDepth 20000
theorem namesV_spec (v : Vl) (hl : v.length ≤ 1099511627776) (ho : One v) : FnSpec Tryz.prog f_val_Names [encV v] [] (encT (q1l v)) [] := by
  cases v with
  | nil => exact absurd rfl ho.ne
  | cons n r =>
    obtain ⟨hm, ps, h1, _, _⟩ := ho.parts
    have := names_spec (n :: r) n r ps rfl hl hm h1
    rw [namesOf] at this
    rw [q1l, encT, (q21 h1).2]
    exact this
def q96 : Ctr := fun args objs K => match args with
  | [a0] => ofE encV a0 (HK.mk : HK fun v => (v.length ≤ 1099511627776) ∧ (One v) ∧ K (encT (q1l v)) objs 0)
  | _ => False
theorem ctrNames_ok : CtrOk Tryz.prog f_val_Names (q96) := by
  intro args objs K h
  unfold q96 at h
  split at h
  · rename_i a0
    obtain ⟨v, rfl, h1, h2, hk⟩ := h
    exact ⟨_, _, _, .pure _ rfl (namesV_spec v h1 h2), hk⟩
  · exact h.elim
end Lp

/-! LpRd -/

namespace Lp
open Go Go.Proofs
set_option maxHeartbeats 2000000
set_option maxRecDepth 20000
instance : Inhabited Nd := ⟨⟨0, 0, [], [], false, 0⟩⟩
structure BigN (n : Nd) : Prop where
  kind : inR .i64 n.kind
  many : inR .i64 n.many
  name : n.name.length ≤ reachBytes
  s : n.s.length ≤ reachBytes
  e : inR .i64 n.e
theorem q5u {t : TypeId} (hc : Tryz.prog.cellsOf t = 1) {cs : List Value} {off : Nat} {v : Value} (h : cs[off]? = some v) : (cs.drop off).take (Tryz.prog.cellsOf t) = [v] := by
  rw [hc]
  have hl := (List.getElem?_eq_some_iff.1 h).1
  rw [show (cs.drop off) = cs[off] :: cs.drop (off + 1) from List.drop_eq_getElem_cons hl]
  rw [List.getElem?_eq_getElem hl] at h
  cases h
  rw [List.take_succ_cons, List.take_zero]
theorem u_int : Tryz.prog.underlying t_int = some (.int .i64) := by kernel_rfl
theorem q97 : Tryz.prog.underlying t_string = some .string := by kernel_rfl
theorem u_bool : Tryz.prog.underlying t_bool = some .bool := by kernel_rfl
theorem u_val : Tryz.prog.underlying t_api_Val = some (.slice t_api_Node) := by kernel_rfl
theorem u_vals : Tryz.prog.underlying t_L_api_Val = some (.slice t_api_Val) := by kernel_rfl
theorem c_int : Tryz.prog.cellsOf t_int = 1 := by kernel_rfl
theorem c_string : Tryz.prog.cellsOf t_string = 1 := by kernel_rfl
theorem c_bool : Tryz.prog.cellsOf t_bool = 1 := by kernel_rfl
theorem u_node : ∃ fs : Array Field, Tryz.prog.underlying t_api_Node = some (.struct fs) ∧ fs.toList.map (fun f => (f.offset, f.type)) = [(0, t_int), (1, t_int), (2, t_string), (3, t_string), (4, t_bool), (5, t_int)] :=
  ⟨Tryz.prog.fieldsOf t_api_Node, by kernel_rfl, by kernel_rfl⟩
theorem rd_node : Rd Tryz.prog t_api_Node encN BigN := by
  intro H eh w fuel cs x h hw
  obtain ⟨fs, ht, hfs⟩ := u_node
  obtain ⟨hl, hp⟩ := struct_parts ht h hw
  rw [hfs] at hp
  have hc : Tryz.prog.cellsOf t_api_Node = 6 := by kernel_rfl
  rw [hc] at hl
  match cs, hl with
  | [v0, v1, v2, v3, v4, v5], _ =>
    obtain ⟨n0, y0, a0, b0⟩ := hp 0 0 t_int rfl
    obtain ⟨n1, y1, a1, b1⟩ := hp 1 1 t_int rfl
    obtain ⟨n2, y2, a2, b2⟩ := hp 2 2 t_string rfl
    obtain ⟨n3, y3, a3, b3⟩ := hp 3 3 t_string rfl
    obtain ⟨n4, y4, a4, b4⟩ := hp 4 4 t_bool rfl
    obtain ⟨n5, y5, a5, b5⟩ := hp 5 5 t_int rfl
    rw [q5u c_int (v := v0) rfl] at a0
    rw [q5u c_int (v := v1) rfl] at a1
    rw [q5u c_string (v := v2) rfl] at a2
    rw [q5u c_string (v := v3) rfl] at a3
    rw [q5u c_bool (v := v4) rfl] at a4
    rw [q5u c_int (v := v5) rfl] at a5
    obtain ⟨k, g0, r0⟩ := Rd.int u_int eh w n0 _ _ a0 b0
    obtain ⟨m, g1, r1⟩ := Rd.int u_int eh w n1 _ _ a1 b1
    obtain ⟨nm, g2, r2⟩ := Rd.str q97 eh w n2 _ _ a2 b2
    obtain ⟨s, g3, r3⟩ := Rd.str q97 eh w n3 _ _ a3 b3
    obtain ⟨g, _, r4⟩ := Rd.bool u_bool eh w n4 _ _ a4 b4
    obtain ⟨e, g5, r5⟩ := Rd.int u_int eh w n5 _ _ a5 b5
    refine ⟨⟨k, m, nm, s, g, e⟩, ⟨g0, g1, g2, g3, g5⟩, rfl, fun i p v h1 h2 => ?_⟩
    match i with
    | 0 => simp [encN, PV.cells] at h1 h2; subst h1; subst h2; exact r0.2 0 _ _ rfl rfl
    | 1 => simp [encN, PV.cells] at h1 h2; subst h1; subst h2; exact r1.2 0 _ _ rfl rfl
    | 2 => simp [encN, PV.cells] at h1 h2; subst h1; subst h2; exact r2.2 0 _ _ rfl rfl
    | 3 => simp [encN, PV.cells] at h1 h2; subst h1; subst h2; exact r3.2 0 _ _ rfl rfl
    | 4 => simp [encN, PV.cells] at h1 h2; subst h1; subst h2; exact r4.2 0 _ _ rfl rfl
    | 5 => simp [encN, PV.cells] at h1 h2; subst h1; subst h2; exact r5.2 0 _ _ rfl rfl
    | i + 6 => simp [encN, PV.cells] at h1
structure Big (v : Vl) : Prop where
  len : v.length ≤ 1152921504606846976
  txt : ∀ n ∈ v, n.s.length ≤ 4611686018427387904 ∧ n.name.length ≤ 4611686018427387904
  nd : ∀ n ∈ v, BigN n
theorem rd_val : Rd Tryz.prog t_api_Val encV Big := by
  intro H eh w fuel cs x h hw
  obtain ⟨v, ⟨h1, h2⟩, h3⟩ := Rd.slice (sz := 6) u_val rd_node (by kernel_rfl) (by decide) (fun _ => rfl) eh w fuel cs x h hw
  have hb : Tryz.prog.bytesOf t_api_Node = 64 := by kernel_rfl
  rw [hb, reachBytes] at h1
  refine ⟨v, ⟨by omega, fun n hn => ?_, h2⟩, h3⟩
  have g := h2 n hn
  have g1 := g.name
  have g2 := g.s
  rw [reachBytes] at g1 g2
  exact ⟨by omega, by omega⟩
structure BigL (l : List Vl) : Prop where
  len : l.length ≤ 1152921504606846976
  all : ∀ v ∈ l, Big v
theorem rd_vals : Rd Tryz.prog t_L_api_Val encL BigL := by
  intro H eh w fuel cs x h hw
  obtain ⟨l, ⟨h1, h2⟩, h3⟩ := Rd.slice (sz := 1) u_vals rd_val (by kernel_rfl) (by decide) (fun _ => rfl) eh w fuel cs x h hw
  have hb : Tryz.prog.bytesOf t_api_Val = 24 := by kernel_rfl
  rw [hb, reachBytes] at h1
  exact ⟨l, ⟨by omega, h2⟩, h3⟩
theorem rd_arg {t e : TypeId} {α : Type} {enc : α → PV} {good : α → Prop} (hu : Tryz.prog.underlying t = some (.slice e)) (hr : Rd Tryz.prog t enc good) (h1 : ∀ a, (enc a).cells = [enc a]) {H : Type} {eh : TypeId × Value → H} {w : World} {base : Nat} {v : Value} {d : DataW H} {p : List MemPlace}
    (hv : Value.okWide Tryz.prog w .any base t v) (h : DataW.Trod eh Tryz.prog w 0 (fun _ => true) true t v d p) (hw : ∀ n ∈ DataW.weights Tryz.prog t d, n ≤ reachBytes) : ∃ a : α, good a ∧ Rep w (fun _ => True) (enc a) v := by
  obtain ⟨ad, len, cap, rfl⟩ := Go.WideShapes.okWide_slice hu hv
  obtain ⟨fuel, h⟩ := h
  obtain ⟨a, g, r⟩ := hr eh w fuel _ _ h hw
  rw [h1 a] at r
  exact ⟨a, g, r.2 0 _ _ rfl rfl⟩
theorem repL_cons {R : PV → Value → Prop} {p : PV} {ps : List PV} {v : Value} {vs : List Value} (h : R p v) (hs : RepL R ps vs) : RepL R (p :: ps) (v :: vs) :=
  ⟨by simp [hs.1], fun i q u h1 h2 => by
    cases i with
    | zero => simp at h1 h2; subst h1; subst h2; exact h
    | succ i => exact hs.2 i q u (by simpa using h1) (by simpa using h2)⟩
theorem repL_nil {R : PV → Value → Prop} : RepL R [] [] := ⟨rfl, fun i q u h1 => by simp at h1⟩
end Lp

/-! LpMf -/

namespace Lp
open Go Go.Proofs
set_option maxHeartbeats 4000000
set_option maxRecDepth 20000
set_option linter.unusedSimpArgs false
theorem q5c {v : Vl} (hr : Rt v) : (q1k v).length ≤ v.length ∧ (q1l v).length ≤ v.length ∧ (q1k v).flatten.length ≤ v.length ∧ ∀ p ∈ q1k v, p.length ≤ v.length := by
  obtain ⟨n, r, rfl, _⟩ := q1n hr.name hr.one.ne
  obtain ⟨h1, h2, ps, h3, h4, h5, h6, h7⟩ := hr.parts
  obtain ⟨q1, q2⟩ := q21 h3
  have h8 := q1u _ _ _ h3
  have h9 := q3d _ _ _ h3
  have hfl : (ps.map clr).flatten.length = r.length := by
    rw [← h4, List.length_flatten, List.length_flatten, List.map_map]
    congr 1
    exact List.map_congr_left fun p _ => q5i p
  refine ⟨?_, ?_, ?_, fun p hp => Nat.le_of_lt (partsV_rt hr hp).2⟩
  · simp only [q1k, q1, List.length_map, List.length_cons]; omega
  · simp only [q1l, q2]
    split
    · simp only [List.length_map, List.length_cons]; omega
    · simp
  · simp only [q1k, q1, hfl, List.length_cons]; omega
theorem allB_facts {l : List Vl} {k : Nat} (h : allB l k = true) : l.length ≤ k ∧ l.flatten.length ≤ k ∧ (∀ v ∈ l, Rt v) ∧ (∀ v ∈ l, v.length ≤ k) ∧ (∀ v ∈ l, v ≠ []) := by
  simp only [allB, Bool.and_eq_true, decide_eq_true_eq, List.all_eq_true] at h
  obtain ⟨h1, h2⟩ := h
  have hN : ∀ q : List Vl, allN q = q.length + q.flatten.length := by
    intro q
    induction q with
    | nil => rfl
    | cons x q ih => simp only [allN, ih, List.length_cons, List.flatten_cons, List.length_append]; omega
  have h3 := hN l
  have hr : ∀ v ∈ l, Rt v := fun v hv => by
    have := h2 v hv
    simp only [fewB, Bool.and_eq_true] at this
    exact q6z this.2
  refine ⟨by omega, by omega, hr, fun v hv => ?_, fun v hv => (hr v hv).one.ne⟩
  have := q51 hv
  omega
theorem fewB_facts {v : Vl} {k : Nat} (h : fewB v k = true) : Rt v ∧ v.length ≤ k := by
  simp only [fewB, Bool.and_eq_true, decide_eq_true_eq] at h
  exact ⟨q6z h.2, h.1.1⟩
theorem BigL.txt {l : List Vl} (h : BigL l) : ∀ v ∈ l, v.length ≤ 1152921504606846976 ∧ ∀ n ∈ v, n.s.length ≤ 4611686018427387904 ∧ n.name.length ≤ 4611686018427387904 := fun v hv => ⟨(h.all v hv).len, (h.all v hv).txt⟩
def q8l : Ctr := fun args objs K => match args with
  | [a0, .int .i64 k] => ofE encL a0 (HK.mk : HK fun l => (0 ≤ k ∧ k ≤ 1000000) ∧ (l.length ≤ 1152921504606846976) ∧ (∀ v ∈ l, v.length ≤ 1152921504606846976 ∧ ∀ n ∈ v, n.s.length ≤ 4611686018427387904 ∧ n.name.length ≤ 4611686018427387904) ∧ K (.bool (allB l k.toNat)) objs 0)
  | _ => False
theorem ctrAll_ok : CtrOk Tryz.prog f_louperef02_All (q8l) := by
  intro args objs K h
  unfold q8l at h
  split at h
  · rename_i a0 k
    obtain ⟨l, rfl, h1, h2, h3, hk⟩ := h
    exact ⟨_, _, _, .pure _ rfl ((by have := all_spec l k.toNat (by omega) h2 h3; rwa [Int.toNat_of_nonneg h1.1] at this)), hk⟩
  · exact h.elim
theorem listV_len (l : List Vl) : (listV l).length = l.flatten.length + 1 := rfl
end Lp

/-! LpC6 -/

namespace Lp
open Go Go.Proofs
end Lp

/-! LpC7 -/

namespace Lp
open Go Go.Proofs
def q0z : LC :=
  (.seq (.reg [⟨some 4, .assign (.const (.int .i64 0)), none, false⟩,
   ⟨some 5, .assign (.const (.bool false)), none, false⟩])
  (.seq (.reg [⟨some 10, .move (.tmp 0), none, false⟩,
   ⟨some 11, .call ⟨.builtin .len, ⟨[(.tmp 10)]⟩, ⟨[t_L_string]⟩⟩, none, false⟩,
   ⟨some 6, .assign (.tmp 11), none, false⟩])
  (.seq (.reg [⟨some 12, .move (.tmp 6), none, false⟩,
   ⟨some 7, .assign (.const (.int .i64 0)), none, false⟩,
   ⟨some 8, .assign (.tmp 12), none, false⟩])
  (.seq (.block 0 (.loop [true, true, false, false, false, false, true, true, true, false, false, false, false, false, false, false, false, false, false, false, false, false, false, false, false, false, false, false, false, false, false, false, false, false, false, false, false, false, false, false, false, false, false, false, false, false, false, false, false, false, false, false, false, false] none
   (.seq (.seq (.reg [⟨some 13, .move (.tmp 7), none, false⟩,
     ⟨some 14, .move (.tmp 8), none, false⟩,
     ⟨some 15, .binOp .lss t_int (.tmp 13) (.tmp 14) t_int, none, false⟩])
    (.cond (.tmp 15)
     .skip
     (.exit 0)))
    (.block 1 (.seq (.reg [⟨some 16, .move (.tmp 7), none, false⟩,
      ⟨some 17, .move (.tmp 8), none, false⟩,
      ⟨some 18, .binOp .add t_int (.tmp 16) (.tmp 17) t_int, none, false⟩,
      ⟨some 19, .convert t_int t_uint (.tmp 18), none, false⟩,
      ⟨some 20, .binOp .shr t_uint (.tmp 19) (.const (.int .u64 1)) t_uint, none, false⟩,
      ⟨some 21, .convert t_uint t_int (.tmp 20), none, false⟩,
      ⟨some 9, .assign (.tmp 21), none, false⟩])
     (.seq (.reg [⟨some 22, .move (.tmp 0), none, false⟩,
      ⟨some 23, .move (.tmp 9), none, false⟩,
      ⟨some 24, .indexAddr t_L_string (.tmp 22) (.tmp 23), none, false⟩,
      ⟨some 25, .load t_string (.tmp 24), none, false⟩,
      ⟨some 26, .move (.tmp 1), none, false⟩,
      ⟨some 27, .call ⟨.value (.func f_cmp_Less_string_), ⟨[(.tmp 25), (.tmp 26)]⟩, ⟨[t_string, t_string]⟩⟩, none, false⟩])
     (.cond (.tmp 27)
      (.reg [⟨some 28, .move (.tmp 9), none, false⟩,
       ⟨some 29, .binOp .add t_int (.tmp 28) (.const (.int .i64 1)) t_int, none, false⟩,
       ⟨some 7, .assign (.tmp 29), none, false⟩])
      (.reg [⟨some 30, .move (.tmp 9), none, false⟩,
       ⟨some 8, .assign (.tmp 30), none, false⟩]))))))))
  (.seq (.reg [⟨some 31, .move (.tmp 7), none, false⟩,
   ⟨some 32, .move (.tmp 7), none, false⟩,
   ⟨some 33, .move (.tmp 6), none, false⟩,
   ⟨some 34, .binOp .lss t_int (.tmp 32) (.tmp 33) t_int, none, false⟩,
   ⟨some 35, .move (.tmp 34), none, false⟩,
   ⟨some 36, .move (.tmp 0), some (some 35, true), false⟩,
   ⟨some 37, .move (.tmp 7), some (some 35, true), false⟩,
   ⟨some 38, .indexAddr t_L_string (.tmp 36) (.tmp 37), some (some 35, true), false⟩,
   ⟨some 39, .load t_string (.tmp 38), some (some 35, true), false⟩,
   ⟨some 40, .move (.tmp 1), some (some 35, true), false⟩,
   ⟨some 41, .binOp .eql t_string (.tmp 39) (.tmp 40) t_string, some (some 35, true), false⟩,
   ⟨some 42, .move (.tmp 41), some (some 35, true), false⟩,
   ⟨some 43, .move (.tmp 0), some (some 42, false), false⟩,
   ⟨some 44, .move (.tmp 7), some (some 42, false), false⟩,
   ⟨some 45, .indexAddr t_L_string (.tmp 43) (.tmp 44), some (some 42, false), false⟩,
   ⟨some 46, .load t_string (.tmp 45), some (some 42, false), false⟩,
   ⟨some 47, .call ⟨.value (.func f_slices_isNaN_string_), ⟨[(.tmp 46)]⟩, ⟨[t_string]⟩⟩, some (some 42, false), false⟩,
   ⟨some 48, .move (.tmp 47), some (some 42, false), false⟩,
   ⟨some 49, .move (.tmp 1), some (some 48, true), false⟩,
   ⟨some 50, .call ⟨.value (.func f_slices_isNaN_string_), ⟨[(.tmp 49)]⟩, ⟨[t_string]⟩⟩, some (some 48, true), false⟩,
   ⟨some 51, .pick (.tmp 48) (.tmp 50) (.const (.bool false)), some (some 42, false), false⟩,
   ⟨some 52, .pick (.tmp 42) (.const (.bool true)) (.tmp 51), some (some 35, true), false⟩,
   ⟨some 53, .pick (.tmp 35) (.tmp 52) (.const (.bool false)), none, false⟩,
   ⟨some 4, .assign (.tmp 31), none, false⟩,
   ⟨some 5, .assign (.tmp 53), none, false⟩])
  .ret)))))
theorem k_slices_BinarySearch_L_string_string_ : FnOk Tryz.prog f_slices_BinarySearch_L_string_string_ 54 [.tmp 4, .tmp 5] q0z := ⟨_, _, Tryz.func100, by kernel_rfl, rfl, Tryz.ntmps100, rfl, by kernel_rfl⟩
def q27 : LC :=
  (.seq (.reg [⟨some 2, .assign (.const (.bool false)), none, false⟩])
  (.seq (.reg [⟨some 3, .move (.tmp 0), none, false⟩,
   ⟨some 4, .move (.tmp 0), none, false⟩,
   ⟨some 5, .binOp .neq t_string (.tmp 3) (.tmp 4) t_string, none, false⟩,
   ⟨some 2, .assign (.tmp 5), none, false⟩])
  .ret))
theorem k_slices_isNaN_string_ : FnOk Tryz.prog f_slices_isNaN_string_ 6 [.tmp 2] q27 := ⟨_, _, Tryz.func179, by kernel_rfl, rfl, Tryz.ntmps179, rfl, by kernel_rfl⟩
def q3m : LC :=
  (.seq (.reg [⟨some 4, .assign (.const (.bool false)), none, false⟩])
  (.seq (.reg [⟨some 5, .move (.tmp 0), none, false⟩,
   ⟨some 6, .call ⟨.value (.func f_cmp_isNaN_string_), ⟨[(.tmp 5)]⟩, ⟨[t_string]⟩⟩, none, false⟩,
   ⟨some 7, .move (.tmp 6), none, false⟩,
   ⟨some 8, .move (.tmp 1), some (some 7, true), false⟩,
   ⟨some 9, .call ⟨.value (.func f_cmp_isNaN_string_), ⟨[(.tmp 8)]⟩, ⟨[t_string]⟩⟩, some (some 7, true), false⟩,
   ⟨some 10, .unOp .not t_bool (.tmp 9), some (some 7, true), false⟩,
   ⟨some 11, .pick (.tmp 7) (.tmp 10) (.const (.bool false)), none, false⟩,
   ⟨some 12, .move (.tmp 11), none, false⟩,
   ⟨some 13, .move (.tmp 0), some (some 12, false), false⟩,
   ⟨some 14, .move (.tmp 1), some (some 12, false), false⟩,
   ⟨some 15, .binOp .lss t_string (.tmp 13) (.tmp 14) t_string, some (some 12, false), false⟩,
   ⟨some 16, .pick (.tmp 12) (.const (.bool true)) (.tmp 15), none, false⟩,
   ⟨some 4, .assign (.tmp 16), none, false⟩])
  .ret))
theorem k_cmp_Less_string_ : FnOk Tryz.prog f_cmp_Less_string_ 17 [.tmp 4] q3m := ⟨_, _, Tryz.func178, by kernel_rfl, rfl, Tryz.ntmps178, rfl, by kernel_rfl⟩
def q7h : LC :=
  (.seq (.reg [⟨some 3, .box t_string (.tmp 1), none, false⟩,
   ⟨some 4, .assign (.const (.slice none 0 0)), none, false⟩])
  (.seq (.reg [⟨some 5, .alloc t_L_string, none, false⟩])
  (.seq (.reg [⟨some 6, .alloc t_L_api_Val, none, false⟩])
  (.seq (.seq (.reg [⟨some 9, .move (.tmp 0), none, false⟩,
   ⟨some 10, .call ⟨.value (.func f_val_each), ⟨[(.tmp 9)]⟩, ⟨[t_api_Val]⟩⟩, none, false⟩])
  (.block 0 (.rf (.tmp 10) [11, 12] none
    (.seq (.reg [⟨some 7, .assign (.tmp 11), none, false⟩])
    (.reg [⟨some 8, .assign (.tmp 12), none, false⟩]))
    (.block 1 (.seq (.reg [⟨some 13, .move (.tmp 7), none, false⟩,
      ⟨some 14, .load t_string (.tmp 3), none, false⟩,
      ⟨some 15, .binOp .neq t_string (.tmp 13) (.tmp 14) t_string, none, false⟩])
     (.cond (.tmp 15)
      (.draw [⟨some 16, .load t_L_string (.tmp 5), none, false⟩,
       ⟨some 17, .move (.tmp 7), none, false⟩,
       ⟨some 18, .buildSlice t_L_string 1 ⟨[(0, (.tmp 17))]⟩, none, false⟩,
       ⟨some 19, .call ⟨.builtin .append, ⟨[(.tmp 16), (.tmp 18)]⟩, ⟨[t_L_string, t_L_string]⟩⟩, none, false⟩,
       ⟨some 20, .load t_L_api_Val (.tmp 6), none, false⟩,
       ⟨some 21, .move (.tmp 8), none, false⟩,
       ⟨some 22, .buildSlice t_L_api_Val 1 ⟨[(0, (.tmp 21))]⟩, none, false⟩,
       ⟨some 23, .call ⟨.builtin .append, ⟨[(.tmp 20), (.tmp 22)]⟩, ⟨[t_L_api_Val, t_L_api_Val]⟩⟩, none, false⟩,
       ⟨none, .store t_L_string (.tmp 5) (.tmp 19), none, false⟩,
       ⟨none, .store t_L_api_Val (.tmp 6) (.tmp 23), none, false⟩]
      [0, 1, 1, 0, 15, 31, 31, 0, 0, 0])
      .skip))))))
  (.seq (.reg [⟨some 24, .load t_L_string (.tmp 5), none, false⟩,
   ⟨some 25, .load t_L_api_Val (.tmp 6), none, false⟩,
   ⟨some 26, .call ⟨.value (.func f_val_laid), ⟨[(.tmp 24), (.tmp 25)]⟩, ⟨[t_L_string, t_L_api_Val]⟩⟩, none, false⟩,
   ⟨some 4, .assign (.tmp 26), none, false⟩])
  .ret)))))
theorem k_val_Without : FnOk Tryz.prog f_val_Without 27 [.tmp 4] q7h := ⟨_, _, Tryz.func40, by kernel_rfl, rfl, Tryz.ntmps40, rfl, by kernel_rfl⟩
def c_val_With : LC :=
  (.seq (.reg [⟨some 6, .assign (.const (.slice none 0 0)), none, false⟩])
  (.seq (.reg [⟨some 12, .move (.tmp 0), none, false⟩,
   ⟨some 13, .move (.tmp 1), none, false⟩,
   ⟨some 14, .call ⟨.value (.func f_val_Without), ⟨[(.tmp 12), (.tmp 13)]⟩, ⟨[t_api_Val, t_string]⟩⟩, none, false⟩,
   ⟨some 7, .assign (.tmp 14), none, false⟩])
  (.seq (.reg [⟨some 15, .move (.tmp 7), none, false⟩,
   ⟨some 16, .call ⟨.value (.func f_val_Names), ⟨[(.tmp 15)]⟩, ⟨[t_api_Val]⟩⟩, none, false⟩,
   ⟨some 17, .move (.tmp 7), none, false⟩,
   ⟨some 18, .call ⟨.value (.func f_val_Parts), ⟨[(.tmp 17)]⟩, ⟨[t_api_Val]⟩⟩, none, false⟩,
   ⟨some 8, .assign (.tmp 16), none, false⟩,
   ⟨some 9, .assign (.tmp 18), none, false⟩])
  (.seq (.reg [⟨some 20, .move (.tmp 8), none, false⟩,
   ⟨some 21, .move (.tmp 1), none, false⟩,
   ⟨some 22, .call ⟨.value (.func f_slices_BinarySearch_L_string_string_), ⟨[(.tmp 20), (.tmp 21)]⟩, ⟨[t_L_string, t_string]⟩⟩, none, false⟩,
   ⟨some 19, .move (.tmp 22), none, false⟩,
   ⟨some 23, .extract (.tmp 19) 0, none, false⟩,
   ⟨some 24, .extract (.tmp 19) 1, none, false⟩,
   ⟨some 10, .assign (.tmp 23), none, false⟩,
   ⟨some 11, .assign (.tmp 24), none, false⟩])
  (.seq (.reg [⟨some 25, .move (.tmp 8), none, false⟩,
   ⟨some 26, .move (.tmp 10), none, false⟩,
   ⟨some 27, .move (.tmp 1), none, false⟩,
   ⟨some 28, .buildSlice t_L_string 1 ⟨[(0, (.tmp 27))]⟩, none, true⟩,
   ⟨some 29, .call ⟨.value (.func f_slices_Insert_L_string_string_), ⟨[(.tmp 25), (.tmp 26), (.tmp 28)]⟩, ⟨[t_L_string, t_int, t_L_string]⟩⟩, none, false⟩,
   ⟨some 30, .move (.tmp 9), none, false⟩,
   ⟨some 31, .move (.tmp 10), none, false⟩,
   ⟨some 32, .move (.tmp 2), none, false⟩,
   ⟨some 33, .buildSlice t_L_api_Val 1 ⟨[(0, (.tmp 32))]⟩, none, true⟩,
   ⟨some 34, .call ⟨.value (.func f_slices_Insert_L_api_Val_api_Val_), ⟨[(.tmp 30), (.tmp 31), (.tmp 33)]⟩, ⟨[t_L_api_Val, t_int, t_L_api_Val]⟩⟩, none, false⟩,
   ⟨some 35, .call ⟨.value (.func f_val_laid), ⟨[(.tmp 29), (.tmp 34)]⟩, ⟨[t_L_string, t_L_api_Val]⟩⟩, none, false⟩,
   ⟨some 6, .assign (.tmp 35), none, false⟩])
  .ret)))))
theorem k_val_With : FnOk Tryz.prog f_val_With 36 [.tmp 6] c_val_With := ⟨_, _, Tryz.func38, by kernel_rfl, rfl, Tryz.ntmps38, rfl, by kernel_rfl⟩
def q0o : LC :=
  (.seq (.reg [⟨some 6, .assign (.const (.bool false)), none, false⟩])
  (.seq (.seq (.reg [⟨some 14, .move (.tmp 0), none, false⟩,
   ⟨some 15, .call ⟨.value (.func f_louperef02_All), ⟨[(.tmp 14), (.const (.int .i64 60))]⟩, ⟨[t_L_api_Val, t_int]⟩⟩, none, false⟩,
   ⟨some 16, .unOp .not t_bool (.tmp 15), none, false⟩,
   ⟨some 17, .move (.tmp 16), none, false⟩,
   ⟨some 18, .move (.tmp 1), some (some 17, false), false⟩,
   ⟨some 19, .call ⟨.value (.func f_louperef02_Few), ⟨[(.tmp 18), (.const (.int .i64 60))]⟩, ⟨[t_api_Val, t_int]⟩⟩, some (some 17, false), false⟩,
   ⟨some 20, .unOp .not t_bool (.tmp 19), some (some 17, false), false⟩,
   ⟨some 21, .pick (.tmp 17) (.const (.bool true)) (.tmp 20), none, false⟩,
   ⟨some 22, .move (.tmp 21), none, false⟩,
   ⟨some 23, .move (.tmp 1), some (some 22, false), false⟩,
   ⟨some 24, .indexAddr t_api_Val (.tmp 23) (.const (.int .i64 0)), some (some 22, false), false⟩,
   ⟨some 25, .fieldAddr t_api_Node (.tmp 24) 0, some (some 22, false), false⟩,
   ⟨some 26, .load t_int (.tmp 25), some (some 22, false), false⟩,
   ⟨some 27, .binOp .neq t_int (.tmp 26) (.const (.int .i64 6)) t_int, some (some 22, false), false⟩,
   ⟨some 28, .pick (.tmp 22) (.const (.bool true)) (.tmp 27), none, false⟩,
   ⟨some 29, .move (.tmp 28), none, false⟩,
   ⟨some 30, .move (.tmp 2), some (some 29, false), false⟩,
   ⟨some 31, .call ⟨.value (.func f_louperef02_Utf), ⟨[(.tmp 30)]⟩, ⟨[t_string]⟩⟩, some (some 29, false), false⟩,
   ⟨some 32, .unOp .not t_bool (.tmp 31), some (some 29, false), false⟩,
   ⟨some 33, .pick (.tmp 29) (.const (.bool true)) (.tmp 32), none, false⟩])
  (.cond (.tmp 33)
   (.seq (.reg [⟨some 34, .call ⟨.value (.func f_loupelaw02_alive), ⟨[]⟩, ⟨[]⟩⟩, none, false⟩,
    ⟨some 6, .assign (.tmp 34), none, false⟩])
   .ret)
   .skip))
  (.seq (.reg [⟨some 7, .assign (.const (.int .i64 1)), none, false⟩])
  (.seq (.seq (.reg [⟨some 8, .assign (.const (.int .i64 0)), none, false⟩])
  (.block 0 (.loop [true, true, true, false, false, false, false, true, true, false, false, false, false, false, false, false, false, false, false, false, false, false, false, false, false, false, false, false, false, false, false, false, false, false, false, false, false, false, false, false, false, false, false, false, false, false, false, false, false, false, false, false, false, false, false, false, false, false, false, false, false, false, false, false, false, false, false, false, false, false, false, false, false, false, false, false, false, false, false, false, false, false, false, false, false, false, false, false, false, false, false, false, false, false, false, false, false, false, false, false, false, false, false, false, false, false, false, false, false, false, false, false, false, false, false, false, false, false, false] none
   (.seq (.seq (.reg [⟨some 35, .move (.tmp 8), none, false⟩,
     ⟨some 36, .move (.tmp 0), none, false⟩,
     ⟨some 37, .call ⟨.builtin .len, ⟨[(.tmp 36)]⟩, ⟨[t_L_api_Val]⟩⟩, none, false⟩,
     ⟨some 38, .binOp .lss t_int (.tmp 35) (.tmp 37) t_int, none, false⟩])
    (.cond (.tmp 38)
     .skip
     (.exit 0)))
    (.seq (.block 1 (.reg [⟨some 41, .move (.tmp 7), none, false⟩,
      ⟨some 42, .move (.tmp 0), none, false⟩,
      ⟨some 43, .move (.tmp 8), none, false⟩,
      ⟨some 44, .indexAddr t_L_api_Val (.tmp 42) (.tmp 43), none, false⟩,
      ⟨some 45, .load t_api_Val (.tmp 44), none, false⟩,
      ⟨some 46, .call ⟨.builtin .len, ⟨[(.tmp 45)]⟩, ⟨[t_api_Val]⟩⟩, none, false⟩,
      ⟨some 47, .binOp .add t_int (.tmp 41) (.tmp 46) t_int, none, false⟩,
      ⟨some 7, .assign (.tmp 47), none, false⟩]))
    (.reg [⟨some 39, .move (.tmp 8), none, false⟩,
     ⟨some 40, .binOp .add t_int (.tmp 39) (.const (.int .i64 1)) t_int, none, false⟩,
     ⟨some 8, .assign (.tmp 40), none, false⟩]))))))
  (.seq (.reg [⟨some 49, .move (.tmp 1), none, false⟩,
   ⟨some 50, .move (.tmp 2), none, false⟩,
   ⟨some 51, .call ⟨.value (.func f_val_Field), ⟨[(.tmp 49), (.tmp 50)]⟩, ⟨[t_api_Val, t_string]⟩⟩, none, false⟩,
   ⟨some 48, .move (.tmp 51), none, false⟩,
   ⟨some 52, .extract (.tmp 48) 0, none, false⟩,
   ⟨some 53, .extract (.tmp 48) 1, none, false⟩,
   ⟨some 9, .assign (.tmp 52), none, false⟩,
   ⟨some 10, .assign (.tmp 53), none, false⟩])
  (.seq (.reg [⟨some 54, .move (.tmp 1), none, false⟩,
   ⟨some 55, .move (.tmp 2), none, false⟩,
   ⟨some 56, .call ⟨.value (.func f_val_Without), ⟨[(.tmp 54), (.tmp 55)]⟩, ⟨[t_api_Val, t_string]⟩⟩, none, false⟩,
   ⟨some 11, .assign (.tmp 56), none, false⟩])
  (.seq (.reg [⟨some 57, .move (.tmp 1), none, false⟩,
   ⟨some 58, .move (.tmp 2), none, false⟩,
   ⟨some 59, .move (.tmp 1), none, false⟩,
   ⟨some 60, .call ⟨.value (.func f_val_With), ⟨[(.tmp 57), (.tmp 58), (.tmp 59)]⟩, ⟨[t_api_Val, t_string, t_api_Val]⟩⟩, none, false⟩,
   ⟨some 61, .call ⟨.value (.func f_val_Names), ⟨[(.tmp 60)]⟩, ⟨[t_api_Val]⟩⟩, none, false⟩,
   ⟨some 12, .assign (.tmp 61), none, false⟩])
  (.seq (.seq (.reg [⟨some 13, .assign (.const (.int .i64 1)), none, false⟩])
  (.block 2 (.loop [true, true, true, false, false, false, false, true, false, true, true, true, true, true, false, false, false, false, false, false, false, false, false, false, false, false, false, false, false, false, false, false, false, false, false, false, false, false, false, false, false, false, false, false, false, false, false, false, false, false, false, false, false, false, false, false, false, false, false, false, false, false, false, false, false, false, false, false, false, false, false, false, false, false, false, false, false, false, false, false, false, false, false, false, false, false, false, false, false, false, false, false, false, false, false, false, false, false, false, false, false, false, false, false, false, false, false, false, false, false, false, false, false, false, false, false, false, false, false] none
   (.seq (.seq (.reg [⟨some 62, .move (.tmp 13), none, false⟩,
     ⟨some 63, .move (.tmp 12), none, false⟩,
     ⟨some 64, .call ⟨.builtin .len, ⟨[(.tmp 63)]⟩, ⟨[t_L_string]⟩⟩, none, false⟩,
     ⟨some 65, .binOp .lss t_int (.tmp 62) (.tmp 64) t_int, none, false⟩])
    (.cond (.tmp 65)
     .skip
     (.exit 2)))
    (.seq (.block 3 (.seq (.draw [⟨some 68, .move (.tmp 12), none, false⟩,
      ⟨some 69, .move (.tmp 13), none, false⟩,
      ⟨some 70, .binOp .sub t_int (.tmp 69) (.const (.int .i64 1)) t_int, none, false⟩,
      ⟨some 71, .indexAddr t_L_string (.tmp 68) (.tmp 70), none, false⟩,
      ⟨some 72, .load t_string (.tmp 71), none, false⟩,
      ⟨some 73, .move (.tmp 12), none, false⟩,
      ⟨some 74, .move (.tmp 13), none, false⟩,
      ⟨some 75, .indexAddr t_L_string (.tmp 73) (.tmp 74), none, false⟩,
      ⟨some 76, .load t_string (.tmp 75), none, false⟩,
      ⟨some 77, .binOp .geq t_string (.tmp 72) (.tmp 76) t_string, none, false⟩]
     [0, 1, 1, 0, 0, 31, 63, 31, 31, 0])
     (.cond (.tmp 77)
      (.seq (.reg [⟨some 6, .assign (.const (.bool false)), none, false⟩])
      .ret)
      .skip)))
    (.reg [⟨some 66, .move (.tmp 13), none, false⟩,
     ⟨some 67, .binOp .add t_int (.tmp 66) (.const (.int .i64 1)) t_int, none, false⟩,
     ⟨some 13, .assign (.tmp 67), none, false⟩]))))))
  (.seq (.seq (.reg [⟨some 78, .move (.tmp 0), none, false⟩,
   ⟨some 79, .call ⟨.value (.func f_val_List), ⟨[(.tmp 78)]⟩, ⟨[t_L_api_Val]⟩⟩, none, false⟩,
   ⟨some 80, .call ⟨.builtin .len, ⟨[(.tmp 79)]⟩, ⟨[t_api_Val]⟩⟩, none, false⟩,
   ⟨some 81, .move (.tmp 7), none, false⟩,
   ⟨some 82, .binOp .neq t_int (.tmp 80) (.tmp 81) t_int, none, false⟩,
   ⟨some 83, .move (.tmp 82), none, false⟩,
   ⟨some 84, .move (.tmp 11), some (some 83, false), false⟩,
   ⟨some 85, .call ⟨.builtin .len, ⟨[(.tmp 84)]⟩, ⟨[t_api_Val]⟩⟩, some (some 83, false), false⟩,
   ⟨some 86, .move (.tmp 9), some (some 83, false), false⟩,
   ⟨some 87, .call ⟨.builtin .len, ⟨[(.tmp 86)]⟩, ⟨[t_api_Val]⟩⟩, some (some 83, false), false⟩,
   ⟨some 88, .binOp .add t_int (.tmp 85) (.tmp 87) t_int, some (some 83, false), false⟩,
   ⟨some 89, .move (.tmp 1), some (some 83, false), false⟩,
   ⟨some 90, .call ⟨.builtin .len, ⟨[(.tmp 89)]⟩, ⟨[t_api_Val]⟩⟩, some (some 83, false), false⟩,
   ⟨some 91, .binOp .neq t_int (.tmp 88) (.tmp 90) t_int, some (some 83, false), false⟩,
   ⟨some 92, .pick (.tmp 83) (.const (.bool true)) (.tmp 91), none, false⟩,
   ⟨some 93, .move (.tmp 92), none, false⟩,
   ⟨some 94, .move (.tmp 10), some (some 93, false), false⟩,
   ⟨some 95, .move (.tmp 9), some (some 93, false), false⟩,
   ⟨some 96, .call ⟨.builtin .len, ⟨[(.tmp 95)]⟩, ⟨[t_api_Val]⟩⟩, some (some 93, false), false⟩,
   ⟨some 97, .binOp .gtr t_int (.tmp 96) (.const (.int .i64 0)) t_int, some (some 93, false), false⟩,
   ⟨some 98, .binOp .neq t_bool (.tmp 94) (.tmp 97) t_bool, some (some 93, false), false⟩,
   ⟨some 99, .pick (.tmp 93) (.const (.bool true)) (.tmp 98), none, false⟩])
  (.cond (.tmp 99)
   (.seq (.reg [⟨some 6, .assign (.const (.bool false)), none, false⟩])
   .ret)
   .skip))
  (.seq (.reg [⟨some 100, .call ⟨.value (.func f_loupelaw02_alive), ⟨[]⟩, ⟨[]⟩⟩, none, false⟩,
   ⟨some 101, .move (.tmp 100), none, false⟩,
   ⟨some 102, .move (.tmp 1), some (some 101, true), false⟩,
   ⟨some 103, .move (.tmp 2), some (some 101, true), false⟩,
   ⟨some 104, .move (.tmp 1), some (some 101, true), false⟩,
   ⟨some 105, .call ⟨.value (.func f_val_With), ⟨[(.tmp 102), (.tmp 103), (.tmp 104)]⟩, ⟨[t_api_Val, t_string, t_api_Val]⟩⟩, some (some 101, true), false⟩,
   ⟨some 106, .call ⟨.builtin .len, ⟨[(.tmp 105)]⟩, ⟨[t_api_Val]⟩⟩, some (some 101, true), false⟩,
   ⟨some 107, .move (.tmp 11), some (some 101, true), false⟩,
   ⟨some 108, .call ⟨.builtin .len, ⟨[(.tmp 107)]⟩, ⟨[t_api_Val]⟩⟩, some (some 101, true), false⟩,
   ⟨some 109, .move (.tmp 1), some (some 101, true), false⟩,
   ⟨some 110, .call ⟨.builtin .len, ⟨[(.tmp 109)]⟩, ⟨[t_api_Val]⟩⟩, some (some 101, true), false⟩,
   ⟨some 111, .binOp .add t_int (.tmp 108) (.tmp 110) t_int, some (some 101, true), false⟩,
   ⟨some 112, .binOp .eql t_int (.tmp 106) (.tmp 111) t_int, some (some 101, true), false⟩,
   ⟨some 113, .pick (.tmp 101) (.tmp 112) (.const (.bool false)), none, false⟩,
   ⟨some 114, .move (.tmp 113), none, false⟩,
   ⟨some 115, .move (.tmp 12), some (some 114, true), false⟩,
   ⟨some 116, .call ⟨.builtin .len, ⟨[(.tmp 115)]⟩, ⟨[t_L_string]⟩⟩, some (some 114, true), false⟩,
   ⟨some 117, .binOp .gtr t_int (.tmp 116) (.const (.int .i64 0)) t_int, some (some 114, true), false⟩,
   ⟨some 118, .pick (.tmp 114) (.tmp 117) (.const (.bool false)), none, false⟩,
   ⟨some 6, .assign (.tmp 118), none, false⟩])
  .ret))))))))))
theorem k_loupelaw02_ValSizes : FnOk Tryz.prog f_loupelaw02_ValSizes 119 [.tmp 6] q0o := ⟨_, _, Tryz.func7, by kernel_rfl, rfl, Tryz.ntmps7, rfl, by kernel_rfl⟩
end Lp

/-! LpX3 -/

namespace Lp
open Go Go.Proofs
set_option maxHeartbeats 4000000
set_option maxRecDepth 20000
set_option linter.unusedSimpArgs false
def q1e (v : Vl) (nm : List UInt8) : Vl := mkO (delP (prs v) nm)
def withV (v : Vl) (nm : List UInt8) (x : Vl) : Vl := mkO (putP nm x (delP (prs v) nm))
theorem q84 {v : Vl} (hr : Rt v) (hk : kindV v = 6) : PairsOk (prs v) ∧ mkO (prs v) = v ∧ q1l v = (prs v).map (·.1) ∧ q1k v = (prs v).map (·.2) := by
  obtain ⟨n, r, rfl, _⟩ := q1n hr.name hr.one.ne
  exact prs_ok hr hk
theorem q6m (l : Prs) : (mkO l).length = (l.map (·.2)).flatten.length + 1 := by
  have h2 : ∀ q : Prs, (q.map fun x => setN x.1 x.2).flatten.length = (q.map (·.2)).flatten.length := by
    intro q
    induction q with
    | nil => rfl
    | cons x q ih => simp only [List.map_cons, List.flatten_cons, List.length_append, qa8, ih]
  simp only [mkO, List.length_cons, h2]
theorem q98 (l : Prs) (nm : List UInt8) : (delP l nm).length ≤ l.length ∧ ((delP l nm).map (·.2)).flatten.length ≤ (l.map (·.2)).flatten.length := by
  unfold delP
  refine ⟨List.length_filter_le _ _, ?_⟩
  induction l with
  | nil => simp
  | cons x l ih =>
    rw [List.filter_cons]
    split
    · simp only [List.map_cons, List.flatten_cons, List.length_append]; omega
    · simp only [List.map_cons, List.flatten_cons, List.length_append]; omega
theorem delP_take {q : Prs} {i : Nat} {x : List UInt8 × Vl} (h : q[i]? = some x) (nm : List UInt8) : delP (q.take (i + 1)) nm = delP (q.take i) nm ++ (if x.1 = nm then [] else [x]) := by
  rw [List.take_add_one, h]
  unfold delP
  rw [List.filter_append]
  by_cases e : x.1 = nm <;> simp [e]
theorem q85 {v : Vl} (nm : List UInt8) (hr : Rt v) (hk : kindV v = 6) : Rt (q1e v nm) ∧ kindV (q1e v nm) = 6 ∧ (q1e v nm).length ≤ v.length ∧ prs (q1e v nm) = delP (prs v) nm := by
  obtain ⟨hq, hmk, hN, hP⟩ := q84 hr hk
  have hd := delP_ok hq nm
  refine ⟨rt_mkO hd, rfl, ?_, prs_mkO hd.rt⟩
  have h1 := q6m (prs v)
  rw [hmk] at h1
  have h2 := (q98 (prs v) nm).2
  rw [q1e, q6m]
  omega
end Lp

/-! LpB1 -/

namespace Lp
open Go Go.Proofs
set_option maxHeartbeats 4000000
set_option maxRecDepth 20000
set_option linter.unusedSimpArgs false
def lowB (names : List (List UInt8)) (nm : List UInt8) : Nat := (names.takeWhile fun s => Op.bytesLess s nm).length
theorem lowB_le (names : List (List UInt8)) (nm : List UInt8) : lowB names nm ≤ names.length := by
  induction names with
  | nil => exact Nat.le_refl _
  | cons s t ih =>
    unfold lowB at *
    rw [List.takeWhile_cons]
    split
    · simp only [List.length_cons]; omega
    · simp
theorem lowB_lt {names : List (List UInt8)} {nm : List UInt8} (hr : Rise names) : ∀ {j : Nat} {s : List UInt8}, names[j]? = some s → (Op.bytesLess s nm = true ↔ j < lowB names nm) := by
  induction names with
  | nil => intro j s h; simp at h
  | cons x t ih =>
    obtain ⟨h1, h2⟩ := List.pairwise_cons.1 hr
    intro j s h
    unfold lowB
    rw [List.takeWhile_cons]
    cases hx : Op.bytesLess x nm with
    | true =>
      cases j with
      | zero => simp at h; subst h; simp [hx]
      | succ j =>
        have := ih h2 (j := j) (s := s) (by simpa using h)
        unfold lowB at this
        simp only [if_true, List.length_cons]
        rw [this]; omega
    | false =>
      simp only [Bool.false_eq_true, if_false, List.length_nil, Nat.not_lt_zero, iff_false]
      intro hs
      cases j with
      | zero => simp at h; subst h; rw [hx] at hs; cases hs
      | succ j =>
        have h3 := h1 s (List.mem_of_getElem? (by simpa using h))
        rw [q3e _ _ _ h3 hs] at hx; cases hx
theorem putP_split (nm : List UInt8) (x : Vl) : ∀ l : Prs, putP nm x l = l.take (lowB (l.map (·.1)) nm) ++ (nm, x) :: l.drop (lowB (l.map (·.1)) nm)
  | [] => rfl
  | y :: ys => by
    have ih := putP_split nm x ys
    unfold lowB at *
    rw [putP, List.map_cons, List.takeWhile_cons]
    split
    · rename_i h; simp only [h, if_true, List.length_cons, List.take_succ_cons, List.drop_succ_cons, List.cons_append]; rw [← ih]
    · rename_i h; simp [h]
theorem isNaN_s_spec (x : List UInt8) : FnSpec Tryz.prog f_cmp_isNaN_string_ [.str x] [] (.bool false) [] := by
  refine k_cmp_isNaN_string_.pureG (T := tabL Tryz.prog []) 0 hD (q0g q0d) hmix (by decide) fun Q hQ => ?_
  try simp only [F_all]
  simp (maxSteps := 400000) only [↓preZ, postZ, coreZ, ↓preU, postU, D_all, F_all, unR, outL, onePV, binS, ↓binS, q03, ↓q03, q01, ↓q01, boxR, q0b, newObj, q05, q00, q07, q09, q0a, St.freeze, q02, q08, q04, BEq.rfl, reduceIte, reduceCtorEq, Nat.reduceLT, Nat.reduceAdd, Nat.reduceSub, Nat.reduceMul, Nat.reduceBEq, Nat.reduceLeDiff, Int.reduceToNat, Int.reduceLE, hQ, q36]
def ctrNaNs : Ctr := fun args objs K => match args with
  | [.str _x] => K (.bool false) objs 0
  | _ => False
theorem ctrNaNs_ok : CtrOk Tryz.prog f_cmp_isNaN_string_ (ctrNaNs) := by
  intro args objs K h
  unfold ctrNaNs at h
  split at h
  · rename_i _x
    have hk := h
    exact ⟨_, _, _, .pure _ rfl (isNaN_s_spec _x), hk⟩
  · exact h.elim
theorem isNaN_sl_spec (x : List UInt8) : FnSpec Tryz.prog f_slices_isNaN_string_ [.str x] [] (.bool false) [] := by
  refine k_slices_isNaN_string_.pureG (T := tabL Tryz.prog []) 0 hD (q0g q0d) hmix (by decide) fun Q hQ => ?_
  try simp only [F_all]
  simp (maxSteps := 400000) only [↓preZ, postZ, coreZ, ↓preU, postU, D_all, F_all, unR, outL, onePV, binS, ↓binS, q03, ↓q03, q01, ↓q01, boxR, q0b, newObj, q05, q00, q07, q09, q0a, St.freeze, q02, q08, q04, BEq.rfl, reduceIte, reduceCtorEq, Nat.reduceLT, Nat.reduceAdd, Nat.reduceSub, Nat.reduceMul, Nat.reduceBEq, Nat.reduceLeDiff, Int.reduceToNat, Int.reduceLE, hQ, q27]
def qam : Ctr := fun args objs K => match args with
  | [.str _x] => K (.bool false) objs 0
  | _ => False
theorem ctrNaNl_ok : CtrOk Tryz.prog f_slices_isNaN_string_ (qam) := by
  intro args objs K h
  unfold qam at h
  split at h
  · rename_i _x
    have hk := h
    exact ⟨_, _, _, .pure _ rfl (isNaN_sl_spec _x), hk⟩
  · exact h.elim
theorem cvU (objs : List Obj) (K : KT) : (∀ x, convO D t_int t_uint (.int .i64 x) objs K = K (.int .u64 (IntKind.u64.wrap x)) objs 0) ∧ (∀ x, convO D t_uint t_int (.int .u64 x) objs K = K (.int .i64 (IntKind.i64.wrap x)) objs 0) := by
  refine ⟨fun x => ?_, fun x => ?_⟩
  all_goals simp [convO, convR, D_all]
theorem shU (a : Int) (K : PV → Prop) : binI .shr .u64 .u64 a 1 K = K (.int .u64 (a.fdiv 2)) := by
  have : min 1 IntKind.u64.bits = 1 := rfl
  simp [binI, this]
theorem less_str_spec (x y : List UInt8) : FnSpec Tryz.prog f_cmp_Less_string_ [.str x, .str y] [] (.bool (Op.bytesLess x y)) [] := by
  refine k_cmp_Less_string_.pureG (T := tabL Tryz.prog [(f_cmp_isNaN_string_, ctrNaNs)]) 0 hD (q0g (q0c ctrNaNs_ok q0d)) hmix (by decide) fun Q hQ => ?_
  try simp only [F_all]
  simp (maxSteps := 400000) only [↓preZ, postZ, coreZ, ↓preU, postU, D_all, F_all, unR, outL, onePV, binS, ↓binS, q03, ↓q03, q01, ↓q01, boxR, q0b, newObj, q05, q00, q07, q09, q0a, St.freeze, q02, q08, q04, BEq.rfl, reduceIte, reduceCtorEq, Nat.reduceLT, Nat.reduceAdd, Nat.reduceSub, Nat.reduceMul, Nat.reduceBEq, Nat.reduceLeDiff, Int.reduceToNat, Int.reduceLE, hQ, q3m, ↓ctrNaNs]
def q7i : Ctr := fun args objs K => match args with
  | [.str x, .str y] => K (.bool (Op.bytesLess x y)) objs 0
  | _ => False
theorem ctrLessS_ok : CtrOk Tryz.prog f_cmp_Less_string_ (q7i) := by
  intro args objs K h
  unfold q7i at h
  split at h
  · rename_i x y
    have hk := h
    exact ⟨_, _, _, .pure _ rfl (less_str_spec x y), hk⟩
  · exact h.elim
theorem bsearch_spec (names : List (List UInt8)) (nm : List UInt8) (hr : Rise names) (hl : names.length ≤ 1000000) : FnSpec Tryz.prog f_slices_BinarySearch_L_string_string_ [encT names, .str nm] [] (.tup [.int .i64 (lowB names nm), .bool (decide (names[lowB names nm]? = some nm))]) [] := by
  refine k_slices_BinarySearch_L_string_string_.pureG2 (T := tabL Tryz.prog [(f_cmp_Less_string_, q7i), (f_slices_isNaN_string_, qam)]) 0 hD (q0g (q0c ctrLessS_ok (q0c ctrNaNl_ok q0d))) hmix (by decide) (by decide) fun Q hQ => ?_
  try simp only [F_all]
  have hle := lowB_le names nm
  simp (maxSteps := 400000) only [↓preZ, postZ, coreZ, ↓preU, postU, D_all, F_all, unR, outL, onePV, binS, ↓binS, q03, ↓q03, q01, ↓q01, boxR, q0b, newObj, q05, q00, q07, q09, q0a, St.freeze, q02, q08, q04, BEq.rfl, reduceIte, reduceCtorEq, Nat.reduceLT, Nat.reduceAdd, Nat.reduceSub, Nat.reduceMul, Nat.reduceBEq, Nat.reduceLeDiff, Int.reduceToNat, Int.reduceLE, hQ, q0z]
  refine q0t (fun m S => ∃ i j : Nat, i + m = j ∧ i ≤ lowB names nm ∧ lowB names nm ≤ j ∧ j ≤ names.length ∧ S = ⟨tmA 54 [(0, encT names), (1, .str nm), (6, .int .i64 names.length), (7, .int .i64 i), (8, .int .i64 j)], []⟩) names.length ⟨0, names.length, by omega, Nat.zero_le _, hle, Nat.le_refl _, ?_⟩ ?_
  · simp only [normR, keepR, Nat.reduceAdd, lkR, Nat.reduceBEq, F_all, List.map_nil]
    rfl
  rintro m S ⟨i, j, him, h1, h2, h3, rfl⟩
  rcases Nat.lt_or_ge i j with h | h
  · have hlt : ((i : Int) < (j : Int)) = True := eq_true (by omega)
    obtain ⟨h, hh⟩ : ∃ h, h = (i + j) / 2 := ⟨_, rfl⟩
    have hhl : h < names.length := by omega
    have w1 : IntKind.u64.wrap ((i : Int) + j) = (i : Int) + j := by rw [IntKind.wrap_u64]; omega
    have w2 : ((i : Int) + j).fdiv 2 = (h : Int) := by
      rw [Int.fdiv_eq_ediv_of_nonneg _ (by omega), hh]; omega
    have w3 : IntKind.i64.wrap (h : Int) = (h : Int) := by rw [IntKind.wrap_i64]; omega
    have zh : (0 ≤ (h : Int)) = True := eq_true (by omega)
    have hgh := List.getElem?_eq_getElem hhl
    have hiff := lowB_lt (nm := nm) hr hgh
    generalize names[h] = s at hgh hiff
    cases hb : Op.bytesLess s nm
    · simp (maxSteps := 400000) only [↓preZ, postZ, coreZ, ↓preU, postU, D_all, F_all, unR, outL, onePV, binS, ↓binS, q03, ↓q03, q01, ↓q01, boxR, q0b, newObj, q05, q00, q07, q09, q0a, St.freeze, q02, q08, q04, BEq.rfl, reduceIte, reduceCtorEq, Nat.reduceLT, Nat.reduceAdd, Nat.reduceSub, Nat.reduceMul, Nat.reduceBEq, Nat.reduceLeDiff, Int.reduceToNat, Int.reduceLE, hQ, hlt, ↓q7i, ↓cvU, ↓shU, w1, w2, w3, zh, hgh, hb]
      have hnb : ¬ h < lowB names nm := fun e => by rw [hiff.2 e] at hb; cases hb
      exact ⟨⟨by omega, by omega⟩, h - i, by omega, i, h, by omega, h1, by omega, by omega, rfl⟩
    · simp (maxSteps := 400000) only [↓preZ, postZ, coreZ, ↓preU, postU, D_all, F_all, unR, outL, onePV, binS, ↓binS, q03, ↓q03, q01, ↓q01, boxR, q0b, newObj, q05, q00, q07, q09, q0a, St.freeze, q02, q08, q04, BEq.rfl, reduceIte, reduceCtorEq, Nat.reduceLT, Nat.reduceAdd, Nat.reduceSub, Nat.reduceMul, Nat.reduceBEq, Nat.reduceLeDiff, Int.reduceToNat, Int.reduceLE, hQ, hlt, ↓q7i, ↓cvU, ↓shU, w1, w2, w3, zh, hgh, hb]
      have hnb : h < lowB names nm := hiff.1 hb
      exact ⟨⟨by omega, by omega⟩, ⟨by omega, by omega⟩, j - (h + 1), by omega, h + 1, j, by omega, by omega, h2, h3, rfl⟩
  · have hlt : ((i : Int) < (j : Int)) = False := eq_false (by omega)
    have hij : lowB names nm = i := by omega
    rcases Nat.lt_or_ge i names.length with h | h
    · have hlt2 : ((i : Int) < (names.length : Int)) = True := eq_true (by omega)
      have zi : (0 ≤ (i : Int)) = True := eq_true (by omega)
      have hgi := List.getElem?_eq_getElem h
      generalize names[i] = s at hgi
      rcases tf (s = nm) with he | he
      · simp (maxSteps := 400000) only [↓preZ, postZ, coreZ, ↓preU, postU, D_all, F_all, unR, outL, onePV, binS, ↓binS, q03, ↓q03, q01, ↓q01, boxR, q0b, newObj, q05, q00, q07, q09, q0a, St.freeze, q02, q08, q04, BEq.rfl, reduceIte, reduceCtorEq, Nat.reduceLT, Nat.reduceAdd, Nat.reduceSub, Nat.reduceMul, Nat.reduceBEq, Nat.reduceLeDiff, Int.reduceToNat, Int.reduceLE, hQ, hlt, hlt2, zi, hgi, he, ↓qam]
        rw [hij, hgi]; simp [he]
      · simp (maxSteps := 400000) only [↓preZ, postZ, coreZ, ↓preU, postU, D_all, F_all, unR, outL, onePV, binS, ↓binS, q03, ↓q03, q01, ↓q01, boxR, q0b, newObj, q05, q00, q07, q09, q0a, St.freeze, q02, q08, q04, BEq.rfl, reduceIte, reduceCtorEq, Nat.reduceLT, Nat.reduceAdd, Nat.reduceSub, Nat.reduceMul, Nat.reduceBEq, Nat.reduceLeDiff, Int.reduceToNat, Int.reduceLE, hQ, hlt, hlt2, zi, hgi, he, ↓qam]
        rw [hij, hgi]
        have : decide (some s = some nm) = false := decide_eq_false fun e => (of_eq_false he) (Option.some.inj e)
        rw [this]
    · have hlt2 : ((i : Int) < (names.length : Int)) = False := eq_false (by omega)
      simp (maxSteps := 400000) only [↓preZ, postZ, coreZ, ↓preU, postU, D_all, F_all, unR, outL, onePV, binS, ↓binS, q03, ↓q03, q01, ↓q01, boxR, q0b, newObj, q05, q00, q07, q09, q0a, St.freeze, q02, q08, q04, BEq.rfl, reduceIte, reduceCtorEq, Nat.reduceLT, Nat.reduceAdd, Nat.reduceSub, Nat.reduceMul, Nat.reduceBEq, Nat.reduceLeDiff, Int.reduceToNat, Int.reduceLE, hQ, hlt, hlt2]
      rw [hij, List.getElem?_eq_none h]; rfl
def q5v : Ctr := fun args objs K => match args with
  | [a, .str nm] => rowX .str 1 a objs (HK.mk : HK fun names => Rise names ∧ names.length ≤ 1000000 ∧ K (.tup [.int .i64 (lowB names nm), .bool (decide (names[lowB names nm]? = some nm))]) objs 1)
  | _ => False
theorem ctrBSearch_ok : CtrOk Tryz.prog f_slices_BinarySearch_L_string_string_ q5v := by
  intro args objs K h
  unfold q5v at h
  split at h
  · rename_i a nm
    obtain ⟨names, a', l1, t1, h1, h2, h3⟩ := q80 strCells h
    exact ⟨_, _, _, .lent _ [a', .str nm] ⟨l1, ⟨rfl, rfl⟩, trivial⟩ rfl ((bsearch_spec names nm h1 h2).arg rfl (tells_two t1 (.refl _))), h3⟩
  · exact h.elim
end Lp

/-! LpIns0 -/

namespace Lp
open Go Go.Proofs Go.Lib Go.RowKit
set_option maxHeartbeats 1000000
section
variable {P : Program}
def spl (cur : Array Value) (o : Nat) (vs : List Value) : Array Value := (cur.toList.take o ++ vs ++ cur.toList.drop (o + vs.length)).toArray
def mid (cur : Array Value) (i n z : Nat) : List Value := (cur.toList.take (n * z)).drop (i * z)
theorem spl_get {cur : Array Value} {o : Nat} {vs : List Value} (hl : o + vs.length ≤ cur.size) (q : Nat) :
    (spl cur o vs)[q]? = if q < o then cur[q]? else if q < o + vs.length then vs[q - o]? else cur[q]? := by
  have hlen : (cur.toList.take o).length = o := by simp; omega
  simp only [spl, List.getElem?_toArray, List.append_assoc]
  rw [List.getElem?_append, hlen]
  split
  · rename_i h; rw [List.getElem?_take, if_pos h]; simp
  · rename_i h
    rw [List.getElem?_append]
    split
    · rename_i h2; rw [if_pos (by omega)]
    · rename_i h2
      rw [if_neg (by omega), List.getElem?_drop, show o + vs.length + (q - o - vs.length) = q by omega]; simp
theorem q3n {cur : Array Value} {o : Nat} {vs : List Value} (hl : o + vs.length ≤ cur.size) : (spl cur o vs).size = cur.size := by
  simp [spl]; omega
theorem q1a (w : World) (dT sT ty elem : TypeId) (inf : TypeInfo) (g o dLen dCap : Nat) (a : Addr) (sLen sCap n : Nat) (cur : Array Value) (t : TypeId) (cs : List Value)
    (hu : P.underlying dT = some (.slice elem)) (hi : P.info? elem = some inf) (hg : w.heap[g]? = some (.cells cur t (0, 0))) (hn : n = Nat.min sLen dLen) (hl : cs.length = n * inf.size)
    (hsrc : ∀ j v, cs[j]? = some v → w.cell? (a.add j) = some v) (hfit : o + cs.length ≤ cur.size) (h1 : ∀ v ∈ cs, v.oneCell' = true) :
    (Builtin.copy_ #[dT, sT] ty #[.slice (some ⟨g, o, none⟩) dLen dCap, .slice (some a) sLen sCap]).run P w =
      .ok (goInt n) (w.setRow g (spl cur o cs)) := by
  have h2 := run_loadCells_list (P := P) w a cs hsrc
  have hst := run_storeCells_at P g o t cs 0 cur w hg (by simpa using hfit) h1
  rw [hl] at h2
  rw [hn] at h2
  simp only [Nat.min_def] at h2
  simp [Builtin.copy_, run_underlying hu, Builtin.lenOf, Builtin.firstCells, Go.sizeOf, typeInfo, hi, hn, Nat.min_def, h2, hst, spl]
theorem q4m {w : World} {g : Nat} {cur : Array Value} {t : TypeId} (hg : w.heap[g]? = some (.cells cur t (0, 0))) (o : Nat) : w.frozen? ⟨g, o, none⟩ = false := by
  simp [World.frozen?, hg]
theorem get_insZ {α : Type} (xs : List α) (x : α) (i m : Nat) (hi : i ≤ xs.length) : (xs.take i ++ [x] ++ xs.drop i)[m]? = if m < i then xs[m]? else if m = i then some x else xs[m - 1]? := by
  have ht : (xs.take i).length = i := by simp; omega
  rw [List.append_assoc, List.getElem?_append, ht]
  split
  · rename_i h; rw [List.getElem?_take, if_pos h]
  · rename_i h
    rw [List.getElem?_append]
    split
    · rename_i h2
      have : m = i := by simp at h2; omega
      rw [if_pos this, this]; simp
    · rename_i h2
      simp at h2
      rw [if_neg (by omega), List.getElem?_drop]
      congr 1; simp; omega
theorem CellsOk.insZ {R : PV → Value → Prop} {z : Nat} {xs : List PV} {c c' : Array Value} {x : PV} {s : List Value} {i : Nat} (h : CellsOk R z c xs) (hs : CellsOk R z ⟨s⟩ [x]) (hi : i ≤ xs.length)
    (h1 : ∀ q, q < i * z → c'[q]? = c[q]?) (h2 : ∀ q, q < z → c'[i * z + q]? = s[q]?) (h3 : ∀ q, i * z ≤ q → q < xs.length * z → c'[q + z]? = c[q]?) :
    CellsOk R z c' (xs.take i ++ [x] ++ xs.drop i) := by
  intro m y hy
  rw [get_insZ xs x i m hi] at hy
  have hlt : ∀ {u : PV} {j : Nat} {p : PV}, u.cells.length = z → u.cells[j]? = some p → j < z := fun h1 h2 => by rw [← h1]; exact (List.getElem?_eq_some_iff.1 h2).1
  split at hy
  · rename_i hm
    obtain ⟨z1, z2⟩ := h m y hy
    refine ⟨z1, fun j p hp => ?_⟩
    have hj := hlt z1 hp
    have hmz : (m + 1) * z ≤ i * z := Nat.mul_le_mul_right _ hm
    rw [Nat.succ_mul] at hmz
    obtain ⟨v, u1, u2⟩ := z2 j p hp
    exact ⟨v, by rw [h1 _ (by omega)]; exact u1, u2⟩
  · split at hy
    · rename_i hm
      cases hy
      obtain ⟨z1, z2⟩ := hs 0 x rfl
      refine ⟨z1, fun j p hp => ?_⟩
      have hj := hlt z1 hp
      obtain ⟨v, u1, u2⟩ := z2 j p hp
      rw [Nat.zero_mul, Nat.zero_add] at u1
      exact ⟨v, by rw [hm, h2 _ hj]; simpa using u1, u2⟩
    · rename_i hm1 hm2
      obtain ⟨z1, z2⟩ := h (m - 1) y hy
      have hml : m - 1 < xs.length := (List.getElem?_eq_some_iff.1 hy).1
      refine ⟨z1, fun j p hp => ?_⟩
      have hj := hlt z1 hp
      obtain ⟨v, u1, u2⟩ := z2 j p hp
      have e0 : m = (m - 1) + 1 := by omega
      have e : m * z + j = ((m - 1) * z + j) + z := by rw [e0, Nat.succ_mul, Nat.add_sub_cancel]; omega
      have g1 : i * z ≤ (m - 1) * z := Nat.mul_le_mul_right _ (by omega)
      have g2 : (m - 1 + 1) * z ≤ xs.length * z := Nat.mul_le_mul_right _ hml
      rw [Nat.succ_mul] at g2
      exact ⟨v, by rw [e, h3 _ (by omega) (by omega)]; exact u1, u2⟩
structure InsW (P : Program) (f : FuncId) (sT ty : TypeId) (z by' : Nat) : Prop where
  ent : Enters P f
  shift : ∀ (g n c i vb voff vc : Nat) (cur curv : Array Value) (tv : TypeId) (ss : List Value) (w : World), i < n → n + 1 ≤ c → c ≤ 9223372036854775807 →
    w.heap[g]? = some (.cells cur ty (0, 0)) → cur.size = c * z → w.heap[vb]? = some (.cells curv tv (0, 0)) → vb ≠ g → ss.length = z →
    (∀ j v, ss[j]? = some v → w.cell? ⟨vb, voff + j, none⟩ = some v) → (∀ v ∈ ss, v.oneCell' = true) → (∀ v ∈ mid cur i n z, v.oneCell' = true) →
    Calls P f #[.slice (some ⟨g, 0, none⟩) n c, .int .i64 i, .slice (some ⟨vb, voff, none⟩) 1 vc] w fun e w' =>
      e = .returned (.slice (some ⟨g, 0, none⟩) (n + 1) c) ∧ w' = (w.drew.setRow g (spl cur ((i + 1) * z) (mid cur i n z))).setRow g (spl (spl cur ((i + 1) * z) (mid cur i n z)) (i * z) ss)
  fin : ∀ (base : Option Addr) (n c vb voff vc : Nat) (w w' : World) (v' : Value), (base = none → n = 0 ∧ c = 0) → n ≤ c → c ≤ 9223372036854775807 →
    (∀ ty', (Builtin.append_ #[sT, sT] ty' #[.slice base n c, .slice (some ⟨vb, voff, none⟩) 1 vc]).run P w = .ok v' w') →
    Calls P f #[.slice base n c, .int .i64 n, .slice (some ⟨vb, voff, none⟩) 1 vc] w fun e w1 => e = .returned v' ∧ w1 = w'
  grow : ∀ (g n c i vb voff vc : Nat) (cur : Array Value) (ss : List Value) (w : World), i < n → n ≤ c → c < n + 1 → (n + 1) * by' ≤ 140737488355328 →
    w.heap[g]? = some (.cells cur ty (0, 0)) → cur.size = c * z → vb < w.heap.size → ss.length = z →
    (∀ j v, ss[j]? = some v → w.cell? ⟨vb, voff + j, none⟩ = some v) → (∀ v ∈ ss, v.oneCell' = true) → (∀ v ∈ mid cur i n z, v.oneCell' = true) →
    ∃ row : Array Value, row.size = grownCap w (n + 1) c ty * z ∧ (∀ q, q < i * z → row[q]? = cur[q]?) ∧
      Calls P f #[.slice (some ⟨g, 0, none⟩) n c, .int .i64 i, .slice (some ⟨vb, voff, none⟩) 1 vc] w fun e w' =>
        e = .returned (.slice (some ⟨w.heap.size, 0, none⟩) (n + 1) (grownCap w (n + 1) c ty)) ∧
        w' = ((((w.drew.alloc (.cells row ty)).setRow w.heap.size (spl row (i * z) ss)).drew).setRow w.heap.size (spl (spl row (i * z) ss) ((i + 1) * z) (mid cur i n z)))
variable {base prot : Nat → Prop} {w0 : Wz} {blk : Nat → Option Nat} {a : Act} {w : World}
structure LeftZ (ty : TypeId) (z : Nat) (R : PV → Value → Prop) (old : Option Nat) (w : World) (ys : List PV) (v' : Value) (w' : World) (gb : Nat) : Prop where
  size : w.heap.size ≤ w'.heap.size
  sm : Sm w w'
  kept : ∀ b y, old ≠ some b → w.heap[b]? = some y → w'.heap[b]? = some y
  at' : old = some gb ∨ w.heap.size ≤ gb
  cells : ∃ cap c, v' = .slice (some ⟨gb, 0, none⟩) ys.length cap ∧ w'.heap[gb]? = some (.cells c ty (0, 0)) ∧ ys.length ≤ cap ∧ cap ≤ maxLen ∧ c.size = cap * z ∧ CellsOk R z c ys
theorem LeftZ.rel {tmps : List PV} {objs : List Obj} {k ver : Nat} {ob : Obj} {ys : List PV} {v' : Value} {w' : World} {gb : Nat} (R : Rel base prot w0 ⟨tmps, objs⟩ blk a w) (h1 : objs[k]? = some ob) (h2 : ob.live = true) (h3 : ob.ver = ver)
    (hM : ob.ty ≠ MT) (L : LeftZ ob.ty ob.sz (RepS w (okL base objs blk) objs blk) (blk k) w ys v' w' gb) :
    Rel base prot w0 ⟨tmps, objs.set k { ob with xs := ys, ver := ver + 1 }⟩ (q0f blk k (some gb)) a w' ∧
    RepT w' (okL base (objs.set k { ob with xs := ys, ver := ver + 1 }) (q0f blk k (some gb))) (objs.set k { ob with xs := ys, ver := ver + 1 }) (q0f blk k (some gb)) (.osl k (ver + 1)) v' := by
  obtain ⟨cap, c, hv, z1, z2, z3, z4, z5⟩ := L.cells
  have hb : q0f blk k (some gb) k = some gb := by unfold q0f; rw [if_pos rfl]
  constructor
  · refine R.setObj L.sm (o' := { ob with xs := ys, ver := ver + 1 }) h1 h2 h2 L.size L.kept (fun g hg => by cases hg; exact L.at') (by simp; omega) (fun hv => by simp at hv; omega) (fun hr => ?_)
    refine objRep_of (gb := some gb) (R := RepS w (okL base objs blk) objs blk) hb ?_ hM hr
    exact ⟨cap, c, z1, z2, z4, z5⟩
  · refine ⟨by rw [hv]; rfl, { ob with xs := ys, ver := ver + 1 }, ?_, Nat.le_refl _, fun _ _ => ⟨hM, ?_⟩⟩
    · rw [List.getElem?_set]; simp [(List.getElem?_eq_some_iff.1 h1).1]
    · unfold Hdr
      rw [hb]
      exact ⟨cap, c, hv, z1, z2, z3, z4⟩
theorem threeZ {R : PV → Value → Prop} {p q r : PV} {vs : List Value} (h : RepL R [p, q, r] vs) : ∃ u v x, vs = [u, v, x] ∧ R p u ∧ R q v ∧ R r x := by
  obtain ⟨hl, h⟩ := h
  match vs, hl with
  | [u, v, x], _ => exact ⟨u, v, x, rfl, h 0 _ _ rfl rfl, h 1 _ _ rfl rfl, h 2 _ _ rfl rfl⟩
theorem opt_orZ {α : Type} (x : Option α) : x = none ∨ ∃ g, x = some g := by cases x with
  | none => exact .inl rfl
  | some g => exact .inr ⟨g, rfl⟩
def ofSz (z : Nat) (x : PV) : Prop := x.cells.length = z ∧ x.cells.all PV.storable = true
theorem insZ_left {f : FuncId} {sT : TypeId} {ti : TInfo} {by' : Nat} {objs : List Obj} {k ver : Nat} {ob : Obj} {x : PV} {k2 ver2 : Nat} {ob2 : Obj} {i : Nat} {tmps : List PV} (W : InsW P f sT ob.ty ob.sz by') (hu : P.underlying sT = some (.slice ob.ty)) (hD : TOk P ob.ty ti) (hk : ti.kind ≠ .none)
    (hzl : (q05 ti).cells.length = ti.size) (hzs : (q05 ti).cells.all PV.storable = true) (hsz : ti.size = ob.sz) (hby : ti.bytes = by')
    (R : Rel base prot w0 ⟨tmps, objs⟩ blk a w) (h1 : objs[k]? = some ob) (h2 : ob.live = true) (h3 : ob.ver = ver)
    (g1 : objs[k2]? = some ob2) (g2 : ob2.live = true) (g3 : ob2.ver = ver2) (g4 : ob2.sz = ob.sz) (g5 : ob2.xs = [x]) (hkk : k2 ≠ k)
    (hall : ∀ y ∈ ob.xs, ofSz ob.sz y) (hx : ofSz ob.sz x) (hi : i ≤ ob.xs.length) (hb : (ob.xs.length + 1) * by' ≤ 140737488355328) (hbm : ob.xs.length + 1 ≤ 1000000000) {v0 v2 : Value}
    (r0 : RepT w (okL base objs blk) objs blk (.osl k ver) v0) (r2 : RepT w (okL base objs blk) objs blk (.osl k2 ver2) v2) :
    Calls P f #[v0, .int .i64 i, v2] w fun e w' => ∃ v' gb, e = .returned v' ∧ LeftZ ob.ty ob.sz (RepS w (okL base objs blk) objs blk) (blk k) w (ob.xs.take i ++ [x] ++ ob.xs.drop i) v' w' gb := by
  have hty := r0.osl_ty h1 h2 h3
  have hty2 := r2.osl_ty g1 g2 g3
  have hh := r0.osl h1 h2 h3
  have hone : ∀ y, ofSz ob.sz y → ∀ p ∈ y.cells, ∀ v, RepS w (okL base objs blk) objs blk p v → v.oneCell' = true := fun y hy p hp v hv => (q2j hv (List.all_eq_true.1 hy.2 p hp)).1
  obtain ⟨vb, vc, curv, rfl, hgv, hbk2, hvs, hvc, hcs⟩ : ∃ vb vc curv, v2 = .slice (some ⟨vb, 0, none⟩) 1 vc ∧ w.heap[vb]? = some (.cells curv ob2.ty (0, 0)) ∧ blk k2 = some vb ∧ curv.size = vc * ob.sz ∧ 1 ≤ vc ∧ CellsOk (RepS w (okL base objs blk) objs blk) ob.sz curv [x] := by
    have hr := r2.osl g1 g2 g3
    unfold Hdr at hr
    rcases opt_orZ (blk k2) with hbk | ⟨g, hbk⟩
    · rw [hbk] at hr; rw [g5] at hr; exact absurd hr.2 (by simp)
    · rw [hbk] at hr
      obtain ⟨cap, c, rfl, x1, x2, x3, x4⟩ := hr
      obtain ⟨c', y1, y2, y3⟩ := q2k R g1 g2 hbk hty2
      rw [x1] at y1; cases y1
      rw [g4] at x4 y3
      rw [g5] at y3 x2 ⊢
      exact ⟨g, cap, c, rfl, x1, hbk, x4, x2, y3⟩
  have hvlt : vb < w.heap.size := (Array.getElem?_eq_some_iff.1 hgv).1
  obtain ⟨ss, hss⟩ : ∃ ss, ss = curv.toList.take ob.sz := ⟨_, rfl⟩
  have hssl : ss.length = ob.sz := by
    rw [hss, List.length_take, Array.length_toList, hvs]
    have := Nat.mul_le_mul_right ob.sz hvc
    rw [Nat.one_mul] at this
    omega
  have hcell : ∀ j v, ss[j]? = some v → w.cell? ⟨vb, 0 + j, none⟩ = some v := fun j v hj => by
    rw [hss, List.getElem?_take] at hj
    split at hj
    · simp only [World.cell?, hgv, Nat.zero_add]
      simpa using hj
    · cases hj
  have hcx : CellsOk (RepS w (okL base objs blk) objs blk) ob.sz ⟨ss⟩ [x] := by
    have := CellsOk.take hcs
    rw [show [x].length * ob.sz = ob.sz from Nat.one_mul _, ← hss] at this
    exact this
  have hso : ∀ v ∈ ss, v.oneCell' = true := q4w hcx (by rw [hssl]; exact (Nat.one_mul _).symm) (fun y hy => hone y (by rw [List.mem_singleton.1 hy]; exact hx))
  by_cases hin : i = ob.xs.length
  · subst hin
    have hfin : ob.xs.take ob.xs.length ++ [x] ++ ob.xs.drop ob.xs.length = ob.xs ++ [x] := by simp
    rw [hfin]
    obtain ⟨v', w', gb, q1, q2, q3, q4, q5⟩ := q65 (ty := sT) (R := RepS w (okL base objs blk) objs blk) (gOld := blk k) (v := v0) (x := .slice (some ⟨vb, 0, none⟩) 1 vc) (xs := ob.xs) (ys := [x]) (news := ss) hu hD hk hzl hzs (by
      unfold Hdr at hh
      rcases opt_orZ (blk k) with hbk | ⟨g, hbk⟩
      · rw [hbk] at hh ⊢; exact hh
      · rw [hbk] at hh ⊢
        obtain ⟨cap, c, hv, x1, x2, x3, x4⟩ := hh
        obtain ⟨c', y1, y2, y3⟩ := q2k R h1 h2 hbk hty
        rw [x1] at y1; cases y1
        exact ⟨cap, c, hv, x1, x2, x3, by rw [hsz]; exact x4, by rw [hsz]; exact y3⟩) (by rw [hsz]; exact Src.ofSlice w hu ⟨vb, 0, none⟩ 1 vc ss (by rw [hssl]; exact (Nat.one_mul _).symm) (fun j u hj => by rw [Addr.add_lit]; exact hcell j u hj) hso) (by rw [hsz]; exact hcx) (by rw [hby]; exact hb) (by simp; omega)
    have hnn : ob.xs ++ [x] ≠ [] := by simp
    have hL : ∃ gb, LeftZ ob.ty ob.sz (RepS w (okL base objs blk) objs blk) (blk k) w (ob.xs ++ [x]) v' w' gb := by
      cases gb with
      | none => exact absurd q5.2 hnn
      | some g => exact ⟨g, q2.1, q2.2, q3, q4 g rfl, by rw [hsz] at q5; exact q5⟩
    obtain ⟨gb', hL⟩ := hL
    have fin : ∀ base' n c, v0 = .slice base' n c → n = ob.xs.length → (base' = none → n = 0 ∧ c = 0) → n ≤ c → c ≤ 9223372036854775807 →
        Calls P f #[v0, .int .i64 ob.xs.length, .slice (some ⟨vb, 0, none⟩) 1 vc] w fun e w' => ∃ v' gb, e = .returned v' ∧ LeftZ ob.ty ob.sz (RepS w (okL base objs blk) objs blk) (blk k) w (ob.xs ++ [x]) v' w' gb := by
      intro base' n c ev en hn hnc hc
      subst ev; subst en
      refine (W.fin base' _ c vb 0 vc w w' v' hn hnc hc fun ty' => q1).mono fun e w1 ⟨e1, e2⟩ => ?_
      subst e2
      exact ⟨v', gb', e1, hL⟩
    unfold Hdr at hh
    rcases opt_orZ (blk k) with hbk | ⟨g, hbk⟩
    · rw [hbk] at hh; exact fin none 0 0 hh.1 (by rw [hh.2]; rfl) (fun _ => ⟨rfl, rfl⟩) (Nat.le_refl _) (by decide)
    · rw [hbk] at hh
      obtain ⟨cap, c, hv, x1, x2, x3, x4⟩ := hh
      exact fin _ _ _ hv rfl (fun h => by cases h) x2 (by unfold maxLen at x3; omega)
  · have hlt : i < ob.xs.length := by omega
    unfold Hdr at hh
    rcases opt_orZ (blk k) with hbk | ⟨g, hbk⟩
    · rw [hbk] at hh; rw [hh.2] at hlt; simp at hlt
    · rw [hbk] at hh
      obtain ⟨cap, c, rfl, x1, x2, x3, x4⟩ := hh
      obtain ⟨c', y1, y2, y3⟩ := q2k R h1 h2 hbk hty
      rw [x1] at y1; cases y1
      have hc63 : cap ≤ 9223372036854775807 := by unfold maxLen at x3; omega
      have hvg : vb ≠ g := fun e => R.objs.dis k2 k ob2 ob vb hkk g1 g2 h1 h2 hbk2 (by rw [hbk, e])
      have m1 : (i + 1) * ob.sz ≤ ob.xs.length * ob.sz := Nat.mul_le_mul_right _ hlt
      have m2 : ob.xs.length * ob.sz ≤ cap * ob.sz := Nat.mul_le_mul_right _ x2
      have e1 := Nat.succ_mul i ob.sz
      have e2 := Nat.succ_mul ob.xs.length ob.sz
      rw [e1] at m1
      have hml : (mid c i ob.xs.length ob.sz).length = ob.xs.length * ob.sz - i * ob.sz := by
        unfold mid
        rw [List.length_drop, List.length_take, Array.length_toList, x4]
        omega
      have hoc : ∀ v ∈ c.toList.take (ob.xs.length * ob.sz), v.oneCell' = true := by
        refine q4w (CellsOk.take y3) ?_ (fun y hy => hone y (hall y hy))
        rw [List.length_take, Array.length_toList, x4]
        omega
      have hoc' : ∀ v ∈ mid c i ob.xs.length ob.sz, v.oneCell' = true := fun v hv => hoc v (List.mem_of_mem_drop hv)
      have hdg : ∀ q, i * ob.sz ≤ q → q < ob.xs.length * ob.sz → (mid c i ob.xs.length ob.sz)[q - i * ob.sz]? = c[q]? := fun q hq1 hq2 => by
        unfold mid
        rw [List.getElem?_drop, List.getElem?_take, show i * ob.sz + (q - i * ob.sz) = q by omega, if_pos hq2]; simp
      have hyl : (ob.xs.take i ++ [x] ++ ob.xs.drop i).length = ob.xs.length + 1 := by simp; omega
      have hmax : ob.xs.length + 1 ≤ maxLen := by unfold maxLen; omega
      by_cases hroom : ob.xs.length + 1 ≤ cap
      · have m3 : (ob.xs.length + 1) * ob.sz ≤ cap * ob.sz := Nat.mul_le_mul_right _ hroom
        rw [e2] at m3
        refine (W.shift g ob.xs.length cap i vb 0 vc c curv ob2.ty ss w hlt hroom hc63 x1 x4 hgv hvg hssl hcell hso hoc').mono fun e w' ⟨he, hw⟩ => ?_
        refine ⟨_, g, he, ?_⟩
        rw [e1] at hw
        have hf1 : i * ob.sz + ob.sz + (mid c i ob.xs.length ob.sz).length ≤ c.size := by rw [hml, x4]; omega
        generalize hcur1 : spl c (i * ob.sz + ob.sz) (mid c i ob.xs.length ob.sz) = cur1 at hw
        have hs1 : cur1.size = c.size := by rw [← hcur1]; exact q3n hf1
        have hg1 := fun q => hcur1 ▸ spl_get hf1 q
        have hf2 : i * ob.sz + ss.length ≤ cur1.size := by rw [hs1, x4, hssl]; omega
        generalize hcur2 : spl cur1 (i * ob.sz) ss = cur2 at hw
        have hs2 : cur2.size = cur1.size := by rw [← hcur2]; exact q3n hf2
        have hg2 := fun q => hcur2 ▸ spl_get hf2 q
        subst hw
        have hgd : w.drew.heap[g]? = some (.cells c ob.ty (0, 0)) := x1
        have hh1 : (w.drew.setRow g cur1).heap[g]? = some (.cells cur1 ob.ty (0, 0)) := setRow_heap w.drew g c cur1 ob.ty (0, 0) hgd
        refine ⟨by rw [setRow_size, setRow_size]; exact Nat.le_refl _, ⟨rfl, rfl⟩, fun b y hb hy => ?_, .inl hbk, cap, cur2, by rw [hyl], setRow_heap _ g cur1 cur2 ob.ty (0, 0) hh1, by rw [hyl]; exact hroom, x3, by rw [hs2, hs1, x4], ?_⟩
        · have hbg : b ≠ g := fun e => hb (by rw [hbk, e])
          rw [setRow_other _ g b _ hbg, setRow_other _ g b _ hbg]; exact hy
        · refine CellsOk.insZ y3 hcx hi (fun q hq => ?_) (fun q hq => ?_) (fun q hq1 hq2 => ?_)
          · rw [hg2, if_pos hq, hg1, if_pos (by omega)]
          · rw [hg2, if_neg (by omega), if_pos (by omega), Nat.add_sub_cancel_left]
          · rw [hg2, if_neg (by omega), if_neg (by omega), hg1, if_neg (by omega), if_pos (by omega)]
            rw [← hdg q hq1 hq2]; congr 1; omega
      · obtain ⟨row, hrs, hrg, hC⟩ := W.grow g ob.xs.length cap i vb 0 vc c ss w hlt x2 (by omega) hb x1 x4 hvlt hssl hcell hso hoc'
        refine hC.mono fun e w' ⟨he, hw⟩ => ?_
        refine ⟨_, w.heap.size, he, ?_⟩
        have hGn := grownCap_ge w (ob.xs.length + 1) cap ob.ty
        have hGm := grownCap_le_maxLen w (ob.xs.length + 1) cap ob.ty hmax
        generalize grownCap w (ob.xs.length + 1) cap ob.ty = G at hrs hGn hGm ⊢
        have m3 : (ob.xs.length + 1) * ob.sz ≤ G * ob.sz := Nat.mul_le_mul_right _ hGn
        rw [e2] at m3
        rw [e1] at hw
        have hf1 : i * ob.sz + ss.length ≤ row.size := by rw [hrs, hssl]; omega
        generalize hcur1 : spl row (i * ob.sz) ss = cur1 at hw
        have hs1 : cur1.size = row.size := by rw [← hcur1]; exact q3n hf1
        have hg1 := fun q => hcur1 ▸ spl_get hf1 q
        have hf2 : i * ob.sz + ob.sz + (mid c i ob.xs.length ob.sz).length ≤ cur1.size := by rw [hml, hs1, hrs]; omega
        generalize hcur2 : spl cur1 (i * ob.sz + ob.sz) (mid c i ob.xs.length ob.sz) = cur2 at hw
        have hs2 : cur2.size = cur1.size := by rw [← hcur2]; exact q3n hf2
        have hg2 := fun q => hcur2 ▸ spl_get hf2 q
        subst hw
        have hN : (w.drew.alloc (.cells row ob.ty)).heap[w.heap.size]? = some (.cells row ob.ty (0, 0)) := heap_alloc_new w.drew _
        have hN1 : (((w.drew.alloc (.cells row ob.ty)).setRow w.heap.size cur1).drew).heap[w.heap.size]? = some (.cells cur1 ob.ty (0, 0)) := setRow_heap _ w.heap.size row cur1 ob.ty (0, 0) hN
        have hgr : Grew w (w.drew.alloc (.cells row ob.ty)) := .push rfl
        refine ⟨by rw [setRow_size]; show w.heap.size ≤ ((w.drew.alloc (.cells row ob.ty)).setRow w.heap.size cur1).heap.size; rw [setRow_size]; exact hgr.1, hgr.2.2, fun b y hb hy => ?_, .inr (Nat.le_refl _), G, cur2, by rw [hyl], setRow_heap _ w.heap.size cur1 cur2 ob.ty (0, 0) hN1, by rw [hyl]; exact hGn, hGm, by rw [hs2, hs1, hrs], ?_⟩
        · have hbs : b ≠ w.heap.size := by have := (Array.getElem?_eq_some_iff.1 hy).1; omega
          rw [setRow_other _ w.heap.size b _ hbs]
          show ((w.drew.alloc (.cells row ob.ty)).setRow w.heap.size cur1).heap[b]? = some y
          rw [setRow_other _ w.heap.size b _ hbs]
          exact hgr.2.1 b y hy
        · refine CellsOk.insZ y3 hcx hi (fun q hq => ?_) (fun q hq => ?_) (fun q hq1 hq2 => ?_)
          · rw [hg2, if_pos (by omega), hg1, if_pos hq, hrg q hq]
          · rw [hg2, if_pos (by omega), hg1, if_neg (by omega), if_pos (by omega), Nat.add_sub_cancel_left]
          · rw [hg2, if_neg (by omega), if_pos (by omega), ← hdg q hq1 hq2]
            congr 1; omega
theorem insZ_use {f : FuncId} {sT : TypeId} {ti : TInfo} {by' : Nat} {objs : List Obj} {k ver : Nat} {ob : Obj} {x : PV} {k2 ver2 : Nat} {ob2 : Obj} {i : Nat} (W : InsW P f sT ob.ty ob.sz by') (hu : P.underlying sT = some (.slice ob.ty)) (hD : TOk P ob.ty ti) (hk : ti.kind ≠ .none)
    (hzl : (q05 ti).cells.length = ti.size) (hzs : (q05 ti).cells.all PV.storable = true) (hsz : ti.size = ob.sz) (hby : ti.bytes = by')
    (h1 : objs[k]? = some ob) (h2 : ob.live = true) (h3 : ob.ver = ver)
    (g1 : objs[k2]? = some ob2) (g2 : ob2.live = true) (g3 : ob2.ver = ver2) (g4 : ob2.sz = ob.sz) (g5 : ob2.xs = [x]) (hkk : k2 ≠ k)
    (hall : ∀ y ∈ ob.xs, ofSz ob.sz y) (hx : ofSz ob.sz x) (hi : i ≤ ob.xs.length) (hb : (ob.xs.length + 1) * by' ≤ 140737488355328) (hbm : ob.xs.length + 1 ≤ 1000000000) :
    FnUse P f [.osl k ver, .int .i64 i, .osl k2 ver2] objs (.osl k (ver + 1)) (objs.set k { ob with xs := ob.xs.take i ++ [x] ++ ob.xs.drop i, ver := ver + 1 }) := by
  refine ⟨W.ent, by simp, fun base prot w0 tmps blk a w vs R hargs => ?_⟩
  obtain ⟨v0, v1, v2, rfl, r0, r1, r2⟩ := threeZ hargs
  have e1 := r1.int
  subst e1
  refine (insZ_left W hu hD hk hzl hzs hsz hby R h1 h2 h3 g1 g2 g3 g4 g5 hkk hall hx hi hb hbm r0 r2).mono fun e w' ⟨v', gb, he, L⟩ => ?_
  obtain ⟨e3, e4⟩ := L.rel R h1 h2 h3 (r0.osl_ty h1 h2 h3)
  exact ⟨v', _, he, e3, e4⟩
end
end Lp

/-! LpInsS -/

namespace Lp
open Go Go.Proofs Go.Lib Go.RowKit
set_option maxHeartbeats 4000000
set_option maxRecDepth 100000
theorem undS : Tryz.prog.underlying 50 = some (.slice 9) := by kernel_rfl
theorem infS : ∃ inf, Tryz.prog.info? 9 = some inf ∧ inf.zero = some (Value.string ⟨#[]⟩) ∧ inf.size = 1 ∧ inf.bytes = 16 := ⟨_, rfl, rfl, rfl, rfl⟩
theorem shiftS (g n c i vb voff vc : Nat) (cur curv : Array Value) (tv : TypeId) (ss : List Value) (w : World) (hi : i < n) (hroom : n + 1 ≤ c) (hc63 : c ≤ 9223372036854775807)
    (hg : w.heap[g]? = some (.cells cur 9 (0, 0))) (hcur : cur.size = c * 1) (hgv : w.heap[vb]? = some (.cells curv tv (0, 0))) (hvb : vb ≠ g) (hsl : ss.length = 1)
    (hx : ∀ j v, ss[j]? = some v → w.cell? ⟨vb, voff + j, none⟩ = some v) (os : ∀ v ∈ ss, v.oneCell' = true) (oc : ∀ v ∈ mid cur i n 1, v.oneCell' = true) :
    Calls Tryz.prog 102 #[.slice (some ⟨g, 0, none⟩) n c, .int .i64 i, .slice (some ⟨vb, voff, none⟩) 1 vc] w fun e w' =>
      e = .returned (.slice (some ⟨g, 0, none⟩) (n + 1) c) ∧ w' = (w.drew.setRow g (spl cur ((i + 1) * 1) (mid cur i n 1))).setRow g (spl (spl cur ((i + 1) * 1) (mid cur i n 1)) (i * 1) ss) := by
  have mixed : Tryz.prog.follows .mixedOrders = true := by kernel_rfl
  have hml : (mid cur i n 1).length = (n - i) * 1 := by simp [mid, hcur]; omega
  have hz2 : ¬ ((i : Int) = (n : Int)) := by omega
  simp only [Nat.mul_one] at *
  have hov : ∀ off lb cb, (callFunc 180 #[.slice (some ⟨vb, voff, none⟩) 1 vc, .slice (some ⟨g, off, none⟩) lb cb]).run Tryz.prog w = .ok (.value (.bool false)) w := fun off lb cb => by
    rw [run_callFunc_extern Tryz.func180 (by kernel_rfl) (by kernel_rfl) (by kernel_rfl) (e := Extern.SlicesOverlaps.overlaps #[50, 50] #[4]) (by kernel_rfl),
      Lib.run_overlaps_apart w 50 4 9 undS 1 Tryz.sizeOf9 ⟨vb, voff, none⟩ ⟨g, off, none⟩ 1 vc lb cb hvb tv 9 curv.size cur.size (by simp [World.shape?, hgv]) (by simp [World.shape?, hg]) (by omega) (q4m hgv _) (q4m hgv _)]
    rfl
  obtain ⟨inf, hi0, hz0, hzs, hzb⟩ := infS
  have hg' : w.drew.heap[g]? = some (.cells cur 9 (0, 0)) := hg
  have hcp1 : ∀ ty dc sc, (Builtin.copy_ #[50, 50] ty #[.slice (some ⟨g, i + 1, none⟩) (n - i) dc, .slice (some ⟨g, i, none⟩) (n + 1 - i) sc]).run Tryz.prog w.drew = .ok (goInt (n - i : Nat)) (w.drew.setRow g (spl cur (i + 1) (mid cur i n 1))) := fun ty dc sc => by
    refine q1a w.drew 50 50 ty 9 inf g (i + 1) (n - i) dc ⟨g, i, none⟩ (n + 1 - i) sc (n - i) cur 9 _ undS hi0 hg' (by simp only [Nat.min_def]; split <;> omega) (by rw [hzs]; omega) (fun j v hj => ?_) (by omega) oc
    rw [Addr.add_lit]
    simp only [World.cell?, hg']
    unfold mid at hj
    rw [List.getElem?_drop, List.getElem?_take] at hj
    split at hj
    · simpa using hj
    · cases hj
  have hc1s : (spl cur (i + 1) (mid cur i n 1)).size = c * 1 := by rw [q3n (by omega)]; omega
  generalize spl cur (i + 1) (mid cur i n 1) = cur1 at hcp1 hc1s ⊢
  have hg1 : (w.drew.setRow g cur1).heap[g]? = some (.cells cur1 9 (0, 0)) := setRow_heap w.drew g cur cur1 9 (0, 0) hg'
  have hcp2 : ∀ ty dc, (Builtin.copy_ #[50, 50] ty #[.slice (some ⟨g, i, none⟩) (n + 1 - i) dc, .slice (some ⟨vb, voff, none⟩) 1 vc]).run Tryz.prog (w.drew.setRow g cur1) = .ok (goInt (1 : Nat)) ((w.drew.setRow g cur1).setRow g (spl cur1 (i) ss)) := fun ty dc => by
    refine q1a _ 50 50 ty 9 inf g (i) (n + 1 - i) dc ⟨vb, voff, none⟩ 1 vc 1 cur1 9 ss undS hi0 hg1 (by simp only [Nat.min_def]; split <;> omega) (by rw [hzs]; omega) (fun j v hj => ?_) (by omega) os
    rw [Addr.add_lit]
    have e : (w.drew.setRow g cur1).heap[vb]? = w.heap[vb]? := setRow_other w.drew g vb cur1 hvb
    have : (w.drew.setRow g cur1).cell? ⟨vb, voff + j, none⟩ = w.cell? ⟨vb, voff + j, none⟩ := by simp only [World.cell?, e]
    rw [this]
    exact hx j v hj
  generalize spl cur1 (i) ss = cur2 at hcp2 ⊢
  have hw1 : IntKind.i64.wrap ((i : Int) + 1) = (i : Int) + 1 := by rw [IntKind.wrap_i64]; omega
  have hb1 : (0 : Int) ≤ (i : Int) + 1 := by omega
  have hin : i ≤ n := by omega
  have htn : ((i : Int) + 1).toNat = i + 1 := by omega
  have hb2 : ¬ (c = i + 1) := by omega
  have hb3 : (i : Int) ≤ (n : Int) + 1 := by omega
  have hb4 : ¬ (c = i) := by omega
  have hb5 : n + 1 - (i + 1) = n - i := by omega
  clear hml hc1s hsl
  go_enter Tryz.func102, Tryz.ntmps102
  go_wp2_with (simp only [hov])
  go_region_law_o (refine step_copy_runI rfl _ _ 50 50 rfl _ _ (by simp [Act.eval, Act.put]) (by simp [Act.eval, Act.put]) (hcp1 _ _ _) ?_)
  go_wp2_with (at_builtin; refine wpList_copy_runI _ rfl _ _ 50 50 rfl _ _ rfl rfl (hcp2 _ _) ?_)
  go_ret
  exact ⟨rfl, rfl⟩
theorem finS (base : Option Addr) (n c vb voff vc : Nat) (w w' : World) (v' : Value) (hnil : base = none → n = 0 ∧ c = 0) (hnc : n ≤ c) (hc63 : c ≤ 9223372036854775807)
    (hrun : ∀ ty, (Builtin.append_ #[50, 50] ty #[.slice base n c, .slice (some ⟨vb, voff, none⟩) 1 vc]).run Tryz.prog w = .ok v' w') :
    Calls Tryz.prog 102 #[.slice base n c, .int .i64 n, .slice (some ⟨vb, voff, none⟩) 1 vc] w fun e w1 => e = .returned v' ∧ w1 = w' := by
  have mixed : Tryz.prog.follows .mixedOrders = true := by kernel_rfl
  cases base with
  | none =>
    obtain ⟨rfl, rfl⟩ := hnil rfl
    go_enter Tryz.func102, Tryz.ntmps102
    go_wp2_with (at_builtin; refine Lib.wpList_append_run _ rfl _ _ _ _ rfl _ _ rfl rfl _ _ (hrun _) ?_)
    go_ret
    exact ⟨rfl, rfl⟩
  | some a =>
    obtain ⟨ab, ao, asp⟩ := a
    clear hnil
    go_enter Tryz.func102, Tryz.ntmps102
    go_wp2_with (at_builtin; refine Lib.wpList_append_run _ rfl _ _ _ _ rfl _ _ rfl rfl _ _ (hrun _) ?_)
    all_goals (go_ret; exact ⟨rfl, rfl⟩)
theorem growS (g n c i vb voff vc : Nat) (cur : Array Value) (ss : List Value) (w : World) (hi : i < n) (hnc : n ≤ c) (hroom : c < n + 1) (hbig : (n + 1) * 16 ≤ 140737488355328)
    (hg : w.heap[g]? = some (.cells cur 9 (0, 0))) (hcur : cur.size = c * 1) (hvb : vb < w.heap.size) (hsl : ss.length = 1)
    (hx : ∀ j v, ss[j]? = some v → w.cell? ⟨vb, voff + j, none⟩ = some v) (os : ∀ v ∈ ss, v.oneCell' = true) (oc : ∀ v ∈ mid cur i n 1, v.oneCell' = true) :
    ∃ row : Array Value, row.size = grownCap w (n + 1) c 9 * 1 ∧ (∀ q, q < i * 1 → row[q]? = cur[q]?) ∧
      Calls Tryz.prog 102 #[.slice (some ⟨g, 0, none⟩) n c, .int .i64 i, .slice (some ⟨vb, voff, none⟩) 1 vc] w fun e w' =>
        e = .returned (.slice (some ⟨w.heap.size, 0, none⟩) (n + 1) (grownCap w (n + 1) c 9)) ∧
        w' = ((((w.drew.alloc (.cells row 9)).setRow w.heap.size (spl row (i * 1) ss)).drew).setRow w.heap.size (spl (spl row (i * 1) ss) ((i + 1) * 1) (mid cur i n 1))) := by
  have mixed : Tryz.prog.follows .mixedOrders = true := by kernel_rfl
  obtain ⟨inf, hi0, hz0, hzs, hzb⟩ := infS
  have hgw : g < w.heap.size := (Array.getElem?_eq_some_iff.1 hg).1
  have hz2 : ¬ ((i : Int) = (n : Int)) := by omega
  have hz3 : (c : Int) < (n : Int) + 1 := by omega
  have hik : i + (n + 1 - i) = n + 1 := by omega
  have hkk : (n : Int) + 1 - (i : Int) = ((n + 1 - i : Nat) : Int) := by omega
  have hold : (Builtin.firstCells inf.size i (.slice (some ⟨g, 0, none⟩) i c)).run Tryz.prog w.drew = .ok (cur.toList.take (i * 1)).toArray w.drew := by
    rw [hzs]
    refine run_firstCells_some w.drew 1 i ⟨g, 0, none⟩ i c (cur.toList.take (i * 1)) (by rw [List.length_take, Array.length_toList, hcur]; omega) (fun j v hj => ?_)
    rw [List.getElem?_take] at hj
    split at hj
    · rw [add_lit]
      have : (w.drew.heap)[g]? = some (.cells cur 9 (0, 0)) := hg
      simp only [World.cell?, this]
      simpa using hj
    · cases hj
  have hGn : n + 1 ≤ grownCap w (n + 1) c 9 := grownCap_ge w _ _ _
  have hG63 : grownCap w (n + 1) c 9 ≤ 9223372036854775807 := by
    have := grownCap_le_maxLen w (n + 1) c 9 (by unfold maxLen; omega)
    unfold maxLen at this
    omega
  have hrz : ∀ ty, (Builtin.append_ #[50, 3] ty #[.slice (some ⟨g, 0, none⟩) i c, .int .i64 ((n : Int) + 1 - (i : Int))]).run Tryz.prog w =
      .ok (.slice (some ⟨w.heap.size, 0, none⟩) (n + 1) (grownCap w (n + 1) c 9)) (w.drew.alloc (.cells ((cur.toList.take (i * 1)).toArray ++ Builtin.zeroCells (Value.string ⟨#[]⟩).cells (n + 1 - i) ++ Builtin.zeroCells (Value.string ⟨#[]⟩).cells (grownCap w (n + 1) c 9 - (n + 1))) 9)) := fun ty => by
    have h := Lib.run_append_grow_zeros (P := Tryz.prog) w 50 3 ty 9 inf _ .i64 .i64 undS (by kernel_rfl) hi0 hz0 (some ⟨g, 0, none⟩) i c (cur.toList.take (i * 1)) hold (n + 1 - i) (by omega) (by omega) (by omega) (by omega) (by rw [hzb]; omega) (by rw [hzb, hik]; exact growslice_fits hroom hbig)
    rw [hik] at h
    rw [hkk]
    exact h
  generalize grownCap w (n + 1) c 9 = G at *
  have hrg : ∀ q, q < i * 1 → ((cur.toList.take (i * 1)).toArray ++ Builtin.zeroCells (Value.string ⟨#[]⟩).cells (n + 1 - i) ++ Builtin.zeroCells (Value.string ⟨#[]⟩).cells (G - (n + 1)))[q]? = cur[q]? := fun q hq => by
    rw [Array.getElem?_append_left (by simp [Builtin.zeroCells, Value.cells, hcur]; omega), Array.getElem?_append_left (by simp [hcur]; omega)]
    rw [List.getElem?_toArray, List.getElem?_take, if_pos hq]; simp
  have hrs : ((cur.toList.take (i * 1)).toArray ++ Builtin.zeroCells (Value.string ⟨#[]⟩).cells (n + 1 - i) ++ Builtin.zeroCells (Value.string ⟨#[]⟩).cells (G - (n + 1))).size = G * 1 := by
    simp [Builtin.zeroCells, Value.cells, hcur]
    omega
  generalize (cur.toList.take (i * 1)).toArray ++ Builtin.zeroCells (Value.string ⟨#[]⟩).cells (n + 1 - i) ++ Builtin.zeroCells (Value.string ⟨#[]⟩).cells (G - (n + 1)) = row at hrz hrg hrs
  refine ⟨row, hrs, hrg, ?_⟩
  have hml : (mid cur i n 1).length = (n - i) * 1 := by simp [mid, hcur]; omega
  obtain ⟨W1, hW1⟩ : ∃ W1, W1 = w.drew.alloc (.cells row 9) := ⟨_, rfl⟩
  have hN : W1.heap[w.heap.size]? = some (.cells row 9 (0, 0)) := by rw [hW1]; exact heap_alloc_new w.drew _
  have hO : ∀ b, b < w.heap.size → W1.heap[b]? = w.heap[b]? := fun b hb => by
    rw [hW1]
    show (w.drew.heap.push _)[b]? = _
    rw [Array.getElem?_push, if_neg (show ¬ b = w.drew.heap.size from by show ¬ b = w.heap.size; omega)]
    rfl
  rw [← hW1] at hrz ⊢
  simp only [Nat.mul_one] at *
  have hcpA : ∀ ty dc, (Builtin.copy_ #[50, 50] ty #[.slice (some ⟨w.heap.size, i, none⟩) (n + 1 - i) dc, .slice (some ⟨vb, voff, none⟩) 1 vc]).run Tryz.prog W1 = .ok (goInt (1 : Nat)) (W1.setRow w.heap.size (spl row (i) ss)) := fun ty dc => by
    refine q1a _ 50 50 ty 9 inf w.heap.size (i) (n + 1 - i) dc ⟨vb, voff, none⟩ 1 vc 1 row 9 ss undS hi0 hN (by simp only [Nat.min_def]; split <;> omega) (by rw [hzs]; omega) (fun j v hj => ?_) (by omega) os
    rw [Addr.add_lit]
    have : W1.cell? ⟨vb, voff + j, none⟩ = w.cell? ⟨vb, voff + j, none⟩ := by simp only [World.cell?, hO vb hvb]
    rw [this]
    exact hx j v hj
  have hc1s : (spl row (i) ss).size = G * 1 := by rw [q3n (by omega)]; omega
  generalize spl row (i) ss = cur1 at hcpA hc1s ⊢
  have hN1 : ((W1.setRow w.heap.size cur1).drew).heap[w.heap.size]? = some (.cells cur1 9 (0, 0)) := setRow_heap W1 w.heap.size row cur1 9 (0, 0) hN
  have hcpB : ∀ ty dc sc, (Builtin.copy_ #[50, 50] ty #[.slice (some ⟨w.heap.size, i + 1, none⟩) (n - i) dc, .slice (some ⟨g, i, none⟩) (n - i) sc]).run Tryz.prog ((W1.setRow w.heap.size cur1).drew) = .ok (goInt (n - i : Nat)) (((W1.setRow w.heap.size cur1).drew).setRow w.heap.size (spl cur1 (i + 1) (mid cur i n 1))) := fun ty dc sc => by
    refine q1a _ 50 50 ty 9 inf w.heap.size (i + 1) (n - i) dc ⟨g, i, none⟩ (n - i) sc (n - i) cur1 9 _ undS hi0 hN1 (by simp) (by rw [hzs]; omega) (fun j v hj => ?_) (by omega) oc
    rw [Addr.add_lit]
    have e : ((W1.setRow w.heap.size cur1).drew).heap[g]? = some (.cells cur 9 (0, 0)) := by
      have : ((W1.setRow w.heap.size cur1).drew).heap[g]? = W1.heap[g]? := setRow_other W1 w.heap.size g cur1 (by omega)
      rw [this, hO g hgw]; exact hg
    simp only [World.cell?, e]
    unfold mid at hj
    rw [List.getElem?_drop, List.getElem?_take] at hj
    split at hj
    · simpa using hj
    · cases hj
  generalize spl cur1 (i + 1) (mid cur i n 1) = cur2 at hcpB ⊢
  have hGi : ¬ (G = i) := by omega
  have hGim : ¬ (G = i + 1) := by omega
  have hci : ¬ (c = i) := by omega
  have hw1 : IntKind.i64.wrap ((i : Int) + 1) = (i : Int) + 1 := by rw [IntKind.wrap_i64]; omega
  have hw2 : IntKind.i64.wrap ((n : Int) + 1) = (n : Int) + 1 := by rw [IntKind.wrap_i64]; omega
  have hw3 : IntKind.i64.wrap ((n : Int) + 1 - (i : Int)) = (n : Int) + 1 - (i : Int) := by rw [IntKind.wrap_i64]; omega
  have hb1 : (0 : Int) ≤ (i : Int) + 1 := by omega
  have hin : i ≤ n := by omega
  have htn : ((i : Int) + 1).toNat = i + 1 := by omega
  have hb3 : (i : Int) ≤ (n : Int) := by omega
  have hb5 : n + 1 - (i + 1) = n - i := by omega
  clear hkk hik hold hrs hrg hml hc1s hW1 hN hN1 hO hsl
  go_enter Tryz.func102, Tryz.ntmps102
  go_wp2_with (first
    | (at_builtin; refine Lib.wpList_append_run _ rfl _ _ _ _ rfl _ _ rfl rfl _ _ (hrz _) ?_)
    | (at_builtin; refine wpList_copy_runI _ rfl _ _ 50 50 rfl _ _ rfl rfl (hcpA _ _) ?_))
  go_region_law_o (refine step_copy_runI rfl _ _ 50 50 rfl _ _ (by simp [Act.eval, Act.put]) (by simp [Act.eval, Act.put]) (hcpB _ _ _) ?_)
  go_wp2
  go_ret
  exact ⟨rfl, rfl⟩
theorem insWS : InsW Tryz.prog f_slices_Insert_L_string_string_ t_L_string t_string 1 16 := ⟨⟨_, Tryz.func102, by kernel_rfl, by kernel_rfl⟩, shiftS, finS, growS⟩
end Lp

/-! LpInsV -/

namespace Lp
open Go Go.Proofs Go.Lib Go.RowKit
set_option maxHeartbeats 4000000
set_option maxRecDepth 100000
theorem undV : Tryz.prog.underlying 48 = some (.slice 36) := by kernel_rfl
theorem infV : ∃ inf, Tryz.prog.info? 36 = some inf ∧ inf.zero = some (Value.slice none 0 0) ∧ inf.size = 1 ∧ inf.bytes = 24 := ⟨_, rfl, rfl, rfl, rfl⟩
theorem shiftV (g n c i vb voff vc : Nat) (cur curv : Array Value) (tv : TypeId) (ss : List Value) (w : World) (hi : i < n) (hroom : n + 1 ≤ c) (hc63 : c ≤ 9223372036854775807)
    (hg : w.heap[g]? = some (.cells cur 36 (0, 0))) (hcur : cur.size = c * 1) (hgv : w.heap[vb]? = some (.cells curv tv (0, 0))) (hvb : vb ≠ g) (hsl : ss.length = 1)
    (hx : ∀ j v, ss[j]? = some v → w.cell? ⟨vb, voff + j, none⟩ = some v) (os : ∀ v ∈ ss, v.oneCell' = true) (oc : ∀ v ∈ mid cur i n 1, v.oneCell' = true) :
    Calls Tryz.prog 103 #[.slice (some ⟨g, 0, none⟩) n c, .int .i64 i, .slice (some ⟨vb, voff, none⟩) 1 vc] w fun e w' =>
      e = .returned (.slice (some ⟨g, 0, none⟩) (n + 1) c) ∧ w' = (w.drew.setRow g (spl cur ((i + 1) * 1) (mid cur i n 1))).setRow g (spl (spl cur ((i + 1) * 1) (mid cur i n 1)) (i * 1) ss) := by
  have mixed : Tryz.prog.follows .mixedOrders = true := by kernel_rfl
  have hml : (mid cur i n 1).length = (n - i) * 1 := by simp [mid, hcur]; omega
  have hz2 : ¬ ((i : Int) = (n : Int)) := by omega
  simp only [Nat.mul_one] at *
  have hov : ∀ off lb cb, (callFunc 182 #[.slice (some ⟨vb, voff, none⟩) 1 vc, .slice (some ⟨g, off, none⟩) lb cb]).run Tryz.prog w = .ok (.value (.bool false)) w := fun off lb cb => by
    rw [run_callFunc_extern Tryz.func182 (by kernel_rfl) (by kernel_rfl) (by kernel_rfl) (e := Extern.SlicesOverlaps.overlaps #[48, 48] #[4]) (by kernel_rfl),
      Lib.run_overlaps_apart w 48 4 36 undV 1 Tryz.sizeOf36 ⟨vb, voff, none⟩ ⟨g, off, none⟩ 1 vc lb cb hvb tv 36 curv.size cur.size (by simp [World.shape?, hgv]) (by simp [World.shape?, hg]) (by omega) (q4m hgv _) (q4m hgv _)]
    rfl
  obtain ⟨inf, hi0, hz0, hzs, hzb⟩ := infV
  have hg' : w.drew.heap[g]? = some (.cells cur 36 (0, 0)) := hg
  have hcp1 : ∀ ty dc sc, (Builtin.copy_ #[48, 48] ty #[.slice (some ⟨g, i + 1, none⟩) (n - i) dc, .slice (some ⟨g, i, none⟩) (n + 1 - i) sc]).run Tryz.prog w.drew = .ok (goInt (n - i : Nat)) (w.drew.setRow g (spl cur (i + 1) (mid cur i n 1))) := fun ty dc sc => by
    refine q1a w.drew 48 48 ty 36 inf g (i + 1) (n - i) dc ⟨g, i, none⟩ (n + 1 - i) sc (n - i) cur 36 _ undV hi0 hg' (by simp only [Nat.min_def]; split <;> omega) (by rw [hzs]; omega) (fun j v hj => ?_) (by omega) oc
    rw [Addr.add_lit]
    simp only [World.cell?, hg']
    unfold mid at hj
    rw [List.getElem?_drop, List.getElem?_take] at hj
    split at hj
    · simpa using hj
    · cases hj
  have hc1s : (spl cur (i + 1) (mid cur i n 1)).size = c * 1 := by rw [q3n (by omega)]; omega
  generalize spl cur (i + 1) (mid cur i n 1) = cur1 at hcp1 hc1s ⊢
  have hg1 : (w.drew.setRow g cur1).heap[g]? = some (.cells cur1 36 (0, 0)) := setRow_heap w.drew g cur cur1 36 (0, 0) hg'
  have hcp2 : ∀ ty dc, (Builtin.copy_ #[48, 48] ty #[.slice (some ⟨g, i, none⟩) (n + 1 - i) dc, .slice (some ⟨vb, voff, none⟩) 1 vc]).run Tryz.prog (w.drew.setRow g cur1) = .ok (goInt (1 : Nat)) ((w.drew.setRow g cur1).setRow g (spl cur1 (i) ss)) := fun ty dc => by
    refine q1a _ 48 48 ty 36 inf g (i) (n + 1 - i) dc ⟨vb, voff, none⟩ 1 vc 1 cur1 36 ss undV hi0 hg1 (by simp only [Nat.min_def]; split <;> omega) (by rw [hzs]; omega) (fun j v hj => ?_) (by omega) os
    rw [Addr.add_lit]
    have e : (w.drew.setRow g cur1).heap[vb]? = w.heap[vb]? := setRow_other w.drew g vb cur1 hvb
    have : (w.drew.setRow g cur1).cell? ⟨vb, voff + j, none⟩ = w.cell? ⟨vb, voff + j, none⟩ := by simp only [World.cell?, e]
    rw [this]
    exact hx j v hj
  generalize spl cur1 (i) ss = cur2 at hcp2 ⊢
  have hw1 : IntKind.i64.wrap ((i : Int) + 1) = (i : Int) + 1 := by rw [IntKind.wrap_i64]; omega
  have hb1 : (0 : Int) ≤ (i : Int) + 1 := by omega
  have hin : i ≤ n := by omega
  have htn : ((i : Int) + 1).toNat = i + 1 := by omega
  have hb2 : ¬ (c = i + 1) := by omega
  have hb3 : (i : Int) ≤ (n : Int) + 1 := by omega
  have hb4 : ¬ (c = i) := by omega
  have hb5 : n + 1 - (i + 1) = n - i := by omega
  clear hml hc1s hsl
  go_enter Tryz.func103, Tryz.ntmps103
  go_wp2_with (simp only [hov])
  go_region_law_o (refine step_copy_runI rfl _ _ 48 48 rfl _ _ (by simp [Act.eval, Act.put]) (by simp [Act.eval, Act.put]) (hcp1 _ _ _) ?_)
  go_wp2_with (at_builtin; refine wpList_copy_runI _ rfl _ _ 48 48 rfl _ _ rfl rfl (hcp2 _ _) ?_)
  go_ret
  exact ⟨rfl, rfl⟩
theorem finV (base : Option Addr) (n c vb voff vc : Nat) (w w' : World) (v' : Value) (hnil : base = none → n = 0 ∧ c = 0) (hnc : n ≤ c) (hc63 : c ≤ 9223372036854775807)
    (hrun : ∀ ty, (Builtin.append_ #[48, 48] ty #[.slice base n c, .slice (some ⟨vb, voff, none⟩) 1 vc]).run Tryz.prog w = .ok v' w') :
    Calls Tryz.prog 103 #[.slice base n c, .int .i64 n, .slice (some ⟨vb, voff, none⟩) 1 vc] w fun e w1 => e = .returned v' ∧ w1 = w' := by
  have mixed : Tryz.prog.follows .mixedOrders = true := by kernel_rfl
  cases base with
  | none =>
    obtain ⟨rfl, rfl⟩ := hnil rfl
    go_enter Tryz.func103, Tryz.ntmps103
    go_wp2_with (at_builtin; refine Lib.wpList_append_run _ rfl _ _ _ _ rfl _ _ rfl rfl _ _ (hrun _) ?_)
    go_ret
    exact ⟨rfl, rfl⟩
  | some a =>
    obtain ⟨ab, ao, asp⟩ := a
    clear hnil
    go_enter Tryz.func103, Tryz.ntmps103
    go_wp2_with (at_builtin; refine Lib.wpList_append_run _ rfl _ _ _ _ rfl _ _ rfl rfl _ _ (hrun _) ?_)
    all_goals (go_ret; exact ⟨rfl, rfl⟩)
theorem growV (g n c i vb voff vc : Nat) (cur : Array Value) (ss : List Value) (w : World) (hi : i < n) (hnc : n ≤ c) (hroom : c < n + 1) (hbig : (n + 1) * 24 ≤ 140737488355328)
    (hg : w.heap[g]? = some (.cells cur 36 (0, 0))) (hcur : cur.size = c * 1) (hvb : vb < w.heap.size) (hsl : ss.length = 1)
    (hx : ∀ j v, ss[j]? = some v → w.cell? ⟨vb, voff + j, none⟩ = some v) (os : ∀ v ∈ ss, v.oneCell' = true) (oc : ∀ v ∈ mid cur i n 1, v.oneCell' = true) :
    ∃ row : Array Value, row.size = grownCap w (n + 1) c 36 * 1 ∧ (∀ q, q < i * 1 → row[q]? = cur[q]?) ∧
      Calls Tryz.prog 103 #[.slice (some ⟨g, 0, none⟩) n c, .int .i64 i, .slice (some ⟨vb, voff, none⟩) 1 vc] w fun e w' =>
        e = .returned (.slice (some ⟨w.heap.size, 0, none⟩) (n + 1) (grownCap w (n + 1) c 36)) ∧
        w' = ((((w.drew.alloc (.cells row 36)).setRow w.heap.size (spl row (i * 1) ss)).drew).setRow w.heap.size (spl (spl row (i * 1) ss) ((i + 1) * 1) (mid cur i n 1))) := by
  have mixed : Tryz.prog.follows .mixedOrders = true := by kernel_rfl
  obtain ⟨inf, hi0, hz0, hzs, hzb⟩ := infV
  have hgw : g < w.heap.size := (Array.getElem?_eq_some_iff.1 hg).1
  have hz2 : ¬ ((i : Int) = (n : Int)) := by omega
  have hz3 : (c : Int) < (n : Int) + 1 := by omega
  have hik : i + (n + 1 - i) = n + 1 := by omega
  have hkk : (n : Int) + 1 - (i : Int) = ((n + 1 - i : Nat) : Int) := by omega
  have hold : (Builtin.firstCells inf.size i (.slice (some ⟨g, 0, none⟩) i c)).run Tryz.prog w.drew = .ok (cur.toList.take (i * 1)).toArray w.drew := by
    rw [hzs]
    refine run_firstCells_some w.drew 1 i ⟨g, 0, none⟩ i c (cur.toList.take (i * 1)) (by rw [List.length_take, Array.length_toList, hcur]; omega) (fun j v hj => ?_)
    rw [List.getElem?_take] at hj
    split at hj
    · rw [add_lit]
      have : (w.drew.heap)[g]? = some (.cells cur 36 (0, 0)) := hg
      simp only [World.cell?, this]
      simpa using hj
    · cases hj
  have hGn : n + 1 ≤ grownCap w (n + 1) c 36 := grownCap_ge w _ _ _
  have hG63 : grownCap w (n + 1) c 36 ≤ 9223372036854775807 := by
    have := grownCap_le_maxLen w (n + 1) c 36 (by unfold maxLen; omega)
    unfold maxLen at this
    omega
  have hrz : ∀ ty, (Builtin.append_ #[48, 3] ty #[.slice (some ⟨g, 0, none⟩) i c, .int .i64 ((n : Int) + 1 - (i : Int))]).run Tryz.prog w =
      .ok (.slice (some ⟨w.heap.size, 0, none⟩) (n + 1) (grownCap w (n + 1) c 36)) (w.drew.alloc (.cells ((cur.toList.take (i * 1)).toArray ++ Builtin.zeroCells (Value.slice none 0 0).cells (n + 1 - i) ++ Builtin.zeroCells (Value.slice none 0 0).cells (grownCap w (n + 1) c 36 - (n + 1))) 36)) := fun ty => by
    have h := Lib.run_append_grow_zeros (P := Tryz.prog) w 48 3 ty 36 inf _ .i64 .i64 undV (by kernel_rfl) hi0 hz0 (some ⟨g, 0, none⟩) i c (cur.toList.take (i * 1)) hold (n + 1 - i) (by omega) (by omega) (by omega) (by omega) (by rw [hzb]; omega) (by rw [hzb, hik]; exact growslice_fits hroom hbig)
    rw [hik] at h
    rw [hkk]
    exact h
  generalize grownCap w (n + 1) c 36 = G at *
  have hrg : ∀ q, q < i * 1 → ((cur.toList.take (i * 1)).toArray ++ Builtin.zeroCells (Value.slice none 0 0).cells (n + 1 - i) ++ Builtin.zeroCells (Value.slice none 0 0).cells (G - (n + 1)))[q]? = cur[q]? := fun q hq => by
    rw [Array.getElem?_append_left (by simp [Builtin.zeroCells, Value.cells, hcur]; omega), Array.getElem?_append_left (by simp [hcur]; omega)]
    rw [List.getElem?_toArray, List.getElem?_take, if_pos hq]; simp
  have hrs : ((cur.toList.take (i * 1)).toArray ++ Builtin.zeroCells (Value.slice none 0 0).cells (n + 1 - i) ++ Builtin.zeroCells (Value.slice none 0 0).cells (G - (n + 1))).size = G * 1 := by
    simp [Builtin.zeroCells, Value.cells, hcur]
    omega
  generalize (cur.toList.take (i * 1)).toArray ++ Builtin.zeroCells (Value.slice none 0 0).cells (n + 1 - i) ++ Builtin.zeroCells (Value.slice none 0 0).cells (G - (n + 1)) = row at hrz hrg hrs
  refine ⟨row, hrs, hrg, ?_⟩
  have hml : (mid cur i n 1).length = (n - i) * 1 := by simp [mid, hcur]; omega
  obtain ⟨W1, hW1⟩ : ∃ W1, W1 = w.drew.alloc (.cells row 36) := ⟨_, rfl⟩
  have hN : W1.heap[w.heap.size]? = some (.cells row 36 (0, 0)) := by rw [hW1]; exact heap_alloc_new w.drew _
  have hO : ∀ b, b < w.heap.size → W1.heap[b]? = w.heap[b]? := fun b hb => by
    rw [hW1]
    show (w.drew.heap.push _)[b]? = _
    rw [Array.getElem?_push, if_neg (show ¬ b = w.drew.heap.size from by show ¬ b = w.heap.size; omega)]
    rfl
  rw [← hW1] at hrz ⊢
  simp only [Nat.mul_one] at *
  have hcpA : ∀ ty dc, (Builtin.copy_ #[48, 48] ty #[.slice (some ⟨w.heap.size, i, none⟩) (n + 1 - i) dc, .slice (some ⟨vb, voff, none⟩) 1 vc]).run Tryz.prog W1 = .ok (goInt (1 : Nat)) (W1.setRow w.heap.size (spl row (i) ss)) := fun ty dc => by
    refine q1a _ 48 48 ty 36 inf w.heap.size (i) (n + 1 - i) dc ⟨vb, voff, none⟩ 1 vc 1 row 36 ss undV hi0 hN (by simp only [Nat.min_def]; split <;> omega) (by rw [hzs]; omega) (fun j v hj => ?_) (by omega) os
    rw [Addr.add_lit]
    have : W1.cell? ⟨vb, voff + j, none⟩ = w.cell? ⟨vb, voff + j, none⟩ := by simp only [World.cell?, hO vb hvb]
    rw [this]
    exact hx j v hj
  have hc1s : (spl row (i) ss).size = G * 1 := by rw [q3n (by omega)]; omega
  generalize spl row (i) ss = cur1 at hcpA hc1s ⊢
  have hN1 : ((W1.setRow w.heap.size cur1).drew).heap[w.heap.size]? = some (.cells cur1 36 (0, 0)) := setRow_heap W1 w.heap.size row cur1 36 (0, 0) hN
  have hcpB : ∀ ty dc sc, (Builtin.copy_ #[48, 48] ty #[.slice (some ⟨w.heap.size, i + 1, none⟩) (n - i) dc, .slice (some ⟨g, i, none⟩) (n - i) sc]).run Tryz.prog ((W1.setRow w.heap.size cur1).drew) = .ok (goInt (n - i : Nat)) (((W1.setRow w.heap.size cur1).drew).setRow w.heap.size (spl cur1 (i + 1) (mid cur i n 1))) := fun ty dc sc => by
    refine q1a _ 48 48 ty 36 inf w.heap.size (i + 1) (n - i) dc ⟨g, i, none⟩ (n - i) sc (n - i) cur1 36 _ undV hi0 hN1 (by simp) (by rw [hzs]; omega) (fun j v hj => ?_) (by omega) oc
    rw [Addr.add_lit]
    have e : ((W1.setRow w.heap.size cur1).drew).heap[g]? = some (.cells cur 36 (0, 0)) := by
      have : ((W1.setRow w.heap.size cur1).drew).heap[g]? = W1.heap[g]? := setRow_other W1 w.heap.size g cur1 (by omega)
      rw [this, hO g hgw]; exact hg
    simp only [World.cell?, e]
    unfold mid at hj
    rw [List.getElem?_drop, List.getElem?_take] at hj
    split at hj
    · simpa using hj
    · cases hj
  generalize spl cur1 (i + 1) (mid cur i n 1) = cur2 at hcpB ⊢
  have hGi : ¬ (G = i) := by omega
  have hGim : ¬ (G = i + 1) := by omega
  have hci : ¬ (c = i) := by omega
  have hw1 : IntKind.i64.wrap ((i : Int) + 1) = (i : Int) + 1 := by rw [IntKind.wrap_i64]; omega
  have hw2 : IntKind.i64.wrap ((n : Int) + 1) = (n : Int) + 1 := by rw [IntKind.wrap_i64]; omega
  have hw3 : IntKind.i64.wrap ((n : Int) + 1 - (i : Int)) = (n : Int) + 1 - (i : Int) := by rw [IntKind.wrap_i64]; omega
  have hb1 : (0 : Int) ≤ (i : Int) + 1 := by omega
  have hin : i ≤ n := by omega
  have htn : ((i : Int) + 1).toNat = i + 1 := by omega
  have hb3 : (i : Int) ≤ (n : Int) := by omega
  have hb5 : n + 1 - (i + 1) = n - i := by omega
  clear hkk hik hold hrs hrg hml hc1s hW1 hN hN1 hO hsl
  go_enter Tryz.func103, Tryz.ntmps103
  go_wp2_with (first
    | (at_builtin; refine Lib.wpList_append_run _ rfl _ _ _ _ rfl _ _ rfl rfl _ _ (hrz _) ?_)
    | (at_builtin; refine wpList_copy_runI _ rfl _ _ 48 48 rfl _ _ rfl rfl (hcpA _ _) ?_))
  go_region_law_o (refine step_copy_runI rfl _ _ 48 48 rfl _ _ (by simp [Act.eval, Act.put]) (by simp [Act.eval, Act.put]) (hcpB _ _ _) ?_)
  go_wp2
  go_ret
  exact ⟨rfl, rfl⟩
theorem insWV : InsW Tryz.prog f_slices_Insert_L_api_Val_api_Val_ t_L_api_Val t_api_Val 1 24 := ⟨⟨_, Tryz.func103, by kernel_rfl, by kernel_rfl⟩, shiftV, finV, growV⟩
end Lp

/-! LpX4 -/

namespace Lp
open Go Go.Proofs
set_option maxHeartbeats 4000000
set_option maxRecDepth 20000
set_option linter.unusedSimpArgs false
theorem FnSpec.nilM {f : FuncId} {args : List PV} {ty : TypeId} {sz s : Nat} (h : FnSpec Tryz.prog f args [] (.sl s [] (some true)) []) (hty : ty ≠ MT) : FnSpec Tryz.prog f args [] (.osl 0 0) [⟨ty, sz, [], true, 0⟩] := by
  refine ⟨h.1, fun w blk vs base hb R ha => (h.2 w blk vs base hb R ha).mono ?_⟩
  rintro e w' ⟨v, blk', h1, h2, h3, h4⟩
  have hv : v = .slice none 0 0 := by
    have := q5h h3
    cases this with
    | slnil _ _ _ => rfl
    | slz _ _ hq => exact absurd rfl hq
    | sl _ _ _ hq => exact absurd rfl hq
  subst hv
  refine ⟨_, fun _ => none, h1, ⟨fun k o ho _ => ?_, fun k k' o o' g _ _ _ _ _ hx => (by cases hx), fun k o g _ _ hx => (by cases hx)⟩, ⟨rfl, _, rfl, Nat.le_refl _, fun _ _ => ⟨hty, rfl, rfl⟩⟩, h4⟩
  match k, ho with
  | 0, ho => cases ho; rfl
  | _ + 1, ho => simp at ho
def ownV (done : List Vl) (O : List Obj) : Prop := (done = [] ∧ O = [⟨t_L_api_Val, 1, [.sl 0 [] (some true)], true, 1⟩]) ∨ (done ≠ [] ∧ ∃ ver, O = [⟨t_L_api_Val, 1, [.osl 1 ver], true, 1⟩, ⟨t_api_Val, 1, done.map encV, true, ver⟩])
def ownS (done : List (List UInt8)) (O : List Obj) : Prop := (done = [] ∧ O = [⟨t_L_string, 1, [.sl 0 [] (some true)], true, 1⟩]) ∨ (done ≠ [] ∧ ∃ ver, O = [⟨t_L_string, 1, [.osl 1 ver], true, 1⟩, ⟨t_string, 1, done.map .str, true, ver⟩])
theorem ownV_lt {done : List Vl} {O : List Obj} (h : ownV done O) : 1 ≤ O.length ∧ q31 O := by
  rcases h with ⟨_, rfl⟩ | ⟨_, ver, rfl⟩
  · refine ⟨by simp, fun o ho x hx c hc => ?_⟩
    simp only [List.mem_singleton] at ho; subst ho
    simp only [List.mem_singleton] at hx; subst hx
    simp only [PV.cells, List.mem_singleton] at hc; subst hc; rfl
  · refine ⟨by simp, fun o ho x hx c hc => ?_⟩
    simp only [List.mem_cons, List.not_mem_nil, or_false] at ho
    rcases ho with rfl | rfl
    · simp only [List.mem_singleton] at hx; subst hx
      simp only [PV.cells, List.mem_singleton] at hc; subst hc; rfl
    · obtain ⟨y, _, rfl⟩ := List.mem_map.1 hx
      simp only [encV, PV.cells, List.mem_singleton] at hc; subst hc; rfl
theorem ownS_lt {done : List (List UInt8)} {O : List Obj} (h : ownS done O) : 1 ≤ O.length ∧ q31 O := by
  rcases h with ⟨_, rfl⟩ | ⟨_, ver, rfl⟩
  · refine ⟨by simp, fun o ho x hx c hc => ?_⟩
    simp only [List.mem_singleton] at ho; subst ho
    simp only [List.mem_singleton] at hx; subst hx
    simp only [PV.cells, List.mem_singleton] at hc; subst hc; rfl
  · refine ⟨by simp, fun o ho x hx c hc => ?_⟩
    simp only [List.mem_cons, List.not_mem_nil, or_false] at ho
    rcases ho with rfl | rfl
    · simp only [List.mem_singleton] at hx; subst hx
      simp only [PV.cells, List.mem_singleton] at hc; subst hc; rfl
    · obtain ⟨y, _, rfl⟩ := List.mem_map.1 hx
      simp only [PV.cells, List.mem_singleton] at hc; subst hc; rfl
theorem q7j {α β : Type} {f : α → β} {l : List α} {i : Nat} {x : α} (h : l[i]? = some x) : (l.take (i + 1)).map f = (l.take i).map f ++ [f x] := by
  rw [List.take_add_one, h]; simp
theorem parts_made (v : Vl) (hr : Rt v) (hl : v.length ≤ 1000000) : FnSpec Tryz.prog f_val_Parts [encV v] [] (.osl 0 0) [valO (q1k v) 0] := by
  obtain ⟨ps, hP, hprt, hpl, hnm, hgv⟩ := q44 v hr hl
  by_cases h0 : ps = []
  · obtain ⟨n, r, hv, _⟩ := q1n hr.name hr.one.ne
    subst hv
    obtain ⟨h1, h2, ps', h3, _, _, _, _⟩ := hr.parts
    have hp' : ps' = [] := by
      have e : q1k (n :: r) = ps'.map clr := by simp only [q1k, (q21 h3).1]
      rw [hP, h0] at e
      exact List.map_eq_nil_iff.1 e.symm
    have h := parts_spec0 (n :: r) n r ps' rfl (by omega) h2 h3
    rw [if_pos hp'] at h
    rw [hP, h0]
    exact h.nilM (by decide)
  refine k_val_Parts.madeG (T := tabL Tryz.prog [(f_val_each, q1o)]) 2 hD (q0g (q0c q37 q0d)) hmix fun Q hQ => ?_
  try simp only [F_all]
  simp (maxSteps := 400000) only [↓preZ, postZ, coreZ, ↓preU, postU, D_all, F_all, unR, outL, onePV, binS, ↓binS, q03, ↓q03, q01, ↓q01, boxR, q0b, newObj, q05, q00, q07, q09, q0a, St.freeze, q02, q08, q04, BEq.rfl, reduceIte, reduceCtorEq, Nat.reduceLT, Nat.reduceAdd, Nat.reduceSub, Nat.reduceMul, Nat.reduceBEq, Nat.reduceLeDiff, Int.reduceToNat, Int.reduceLE, hQ, q6f, ↓q1o]
  refine q8f f_val_each_1 [.addr (encV v)] (ps.map rowOf) (fun i O => ownV ((ps.take i).map clr) O ∧ i ≤ ps.length) rfl rfl rfl trivial hgv (q59 ps) ⟨.inl ⟨by simp, rfl⟩, Nat.zero_le _⟩ (fun i O h => ownV_lt h.1) ?_ ?_
  · rintro i args O ⟨hO, hi⟩ ha
    obtain ⟨p, hpi, rfl⟩ := q5a ha
    have hil := (List.getElem?_eq_some_iff.1 hpi).1
    have htk := q7j (f := clr) hpi
    have hkl : ((ps.take i).map clr).length ≤ i := by simp; omega
    generalize (ps.take i).map clr = kept at *
    rcases hO with ⟨rfl, rfl⟩ | ⟨h1, ver, rfl⟩
    · simp (maxSteps := 400000) only [↓preZ, postZ, coreZ, ↓preU, postU, D_all, F_all, unR, outL, onePV, binS, ↓binS, q03, ↓q03, q01, ↓q01, boxR, q0b, newObj, q05, q00, q07, q09, q0a, St.freeze, q02, q08, q04, BEq.rfl, reduceIte, reduceCtorEq, Nat.reduceLT, Nat.reduceAdd, Nat.reduceSub, Nat.reduceMul, Nat.reduceBEq, Nat.reduceLeDiff, Int.reduceToNat, Int.reduceLE, hQ, setL, knI]
      exact ⟨.inr ⟨by rw [htk]; simp, 1, by rw [htk]; rfl⟩, by omega⟩
    · simp (maxSteps := 400000) only [↓preZ, postZ, coreZ, ↓preU, postU, D_all, F_all, unR, outL, onePV, binS, ↓binS, q03, ↓q03, q01, ↓q01, boxR, q0b, newObj, q05, q00, q07, q09, q0a, St.freeze, q02, q08, q04, BEq.rfl, reduceIte, reduceCtorEq, Nat.reduceLT, Nat.reduceAdd, Nat.reduceSub, Nat.reduceMul, Nat.reduceBEq, Nat.reduceLeDiff, Int.reduceToNat, Int.reduceLE, hQ, setL, knI]
      exact ⟨by omega, by omega, .inr ⟨by rw [htk]; simp, ver + 1, by rw [htk, List.map_append]; rfl⟩, by omega⟩
  · rintro O ⟨hO, _⟩
    rw [List.length_map, List.take_length] at hO
    rcases hO with ⟨h1, rfl⟩ | ⟨h1, ver, rfl⟩
    · exact absurd (List.map_eq_nil_iff.1 h1) h0
    · simp (maxSteps := 400000) only [↓preZ, postZ, coreZ, ↓preU, postU, D_all, F_all, unR, outL, onePV, binS, ↓binS, q03, ↓q03, q01, ↓q01, boxR, q0b, newObj, q05, q00, q07, q09, q0a, St.freeze, q02, q08, q04, BEq.rfl, reduceIte, reduceCtorEq, Nat.reduceLT, Nat.reduceAdd, Nat.reduceSub, Nat.reduceMul, Nat.reduceBEq, Nat.reduceLeDiff, Int.reduceToNat, Int.reduceLE, hQ]
      rw [hP]
      exact endM (k := 1) (ver := ver) rfl rfl rfl rfl (congrArg (fun o : Obj => { o with ver := 0 }) (frzO_vals 2 2 _ t_api_Val 1 _ ver)) (valO_refs _ 0)
theorem names_made (v : Vl) (hr : Rt v) (hk : kindV v = 6) (hl : v.length ≤ 1000000) : FnSpec Tryz.prog f_val_Names [encV v] [] (.osl 0 0) [strO (q1l v) 0] := by
  obtain ⟨ps, hP, hprt, hpl, hnm, hgv⟩ := q44 v hr hl
  obtain ⟨n, r, hv, _⟩ := q1n hr.name hr.one.ne
  have hk6 : n.kind = 6 := by rw [hv] at hk; exact hk
  have hN : q1l v = ps.map nameOf := by
    rcases hnm with h | ⟨n', r', h1, h2⟩
    · exact h
    · rw [hv] at h1; cases h1; exact absurd hk6 h2
  by_cases h0 : ps = []
  · subst hv
    obtain ⟨h1, h2, ps', h3, _, _, _, _⟩ := hr.parts
    have hp' : ps' = [] := by
      have e : q1k (n :: r) = ps'.map clr := by simp only [q1k, (q21 h3).1]
      rw [hP, h0] at e
      exact List.map_eq_nil_iff.1 e.symm
    have h := qa1 (n :: r) n r ps' rfl (by omega) h2 h3
    rw [if_neg (fun h => h.2 hp')] at h
    rw [hN, h0]
    exact h.nilM (by decide)
  have hg0 : v[0]? = some n := by rw [hv]; rfl
  have k6 : (n.kind = 6) = True := eq_true hk6
  refine k_val_Names.madeG (T := tabL Tryz.prog [(f_val_each, q1o)]) 2 hD (q0g (q0c q37 q0d)) hmix fun Q hQ => ?_
  try simp only [F_all]
  simp (maxSteps := 400000) only [↓preZ, postZ, coreZ, ↓preU, postU, D_all, F_all, unR, outL, onePV, binS, ↓binS, q03, ↓q03, q01, ↓q01, boxR, q0b, newObj, q05, q00, q07, q09, q0a, St.freeze, q02, q08, q04, BEq.rfl, reduceIte, reduceCtorEq, Nat.reduceLT, Nat.reduceAdd, Nat.reduceSub, Nat.reduceMul, Nat.reduceBEq, Nat.reduceLeDiff, Int.reduceToNat, Int.reduceLE, hQ, q6e, hg0, k6, ↓q1o]
  refine q8f f_val_each_1 [.addr (encV v)] (ps.map rowOf) (fun i O => ownS ((ps.take i).map nameOf) O ∧ i ≤ ps.length) rfl rfl rfl trivial hgv (q59 ps) ⟨.inl ⟨by simp, rfl⟩, Nat.zero_le _⟩ (fun i O h => ownS_lt h.1) ?_ ?_
  · rintro i args O ⟨hO, hi⟩ ha
    obtain ⟨p, hpi, rfl⟩ := q5a ha
    have hil := (List.getElem?_eq_some_iff.1 hpi).1
    have htk := q7j (f := nameOf) hpi
    have hkl : ((ps.take i).map nameOf).length ≤ i := by simp; omega
    generalize (ps.take i).map nameOf = kept at *
    rcases hO with ⟨rfl, rfl⟩ | ⟨h1, ver, rfl⟩
    · simp (maxSteps := 400000) only [↓preZ, postZ, coreZ, ↓preU, postU, D_all, F_all, unR, outL, onePV, binS, ↓binS, q03, ↓q03, q01, ↓q01, boxR, q0b, newObj, q05, q00, q07, q09, q0a, St.freeze, q02, q08, q04, BEq.rfl, reduceIte, reduceCtorEq, Nat.reduceLT, Nat.reduceAdd, Nat.reduceSub, Nat.reduceMul, Nat.reduceBEq, Nat.reduceLeDiff, Int.reduceToNat, Int.reduceLE, hQ, setL, knI]
      exact ⟨.inr ⟨by rw [htk]; simp, 1, by rw [htk]; rfl⟩, by omega⟩
    · simp (maxSteps := 400000) only [↓preZ, postZ, coreZ, ↓preU, postU, D_all, F_all, unR, outL, onePV, binS, ↓binS, q03, ↓q03, q01, ↓q01, boxR, q0b, newObj, q05, q00, q07, q09, q0a, St.freeze, q02, q08, q04, BEq.rfl, reduceIte, reduceCtorEq, Nat.reduceLT, Nat.reduceAdd, Nat.reduceSub, Nat.reduceMul, Nat.reduceBEq, Nat.reduceLeDiff, Int.reduceToNat, Int.reduceLE, hQ, setL, knI]
      exact ⟨by omega, by omega, .inr ⟨by rw [htk]; simp, ver + 1, by rw [htk, List.map_append]; rfl⟩, by omega⟩
  · rintro O ⟨hO, _⟩
    rw [List.length_map, List.take_length] at hO
    rcases hO with ⟨h1, rfl⟩ | ⟨h1, ver, rfl⟩
    · exact absurd (List.map_eq_nil_iff.1 h1) h0
    · simp (maxSteps := 400000) only [↓preZ, postZ, coreZ, ↓preU, postU, D_all, F_all, unR, outL, onePV, binS, ↓binS, q03, ↓q03, q01, ↓q01, boxR, q0b, newObj, q05, q00, q07, q09, q0a, St.freeze, q02, q08, q04, BEq.rfl, reduceIte, reduceCtorEq, Nat.reduceLT, Nat.reduceAdd, Nat.reduceSub, Nat.reduceMul, Nat.reduceBEq, Nat.reduceLeDiff, Int.reduceToNat, Int.reduceLE, hQ]
      rw [hN]
      exact endM (k := 1) (ver := ver) rfl rfl rfl rfl (congrArg (fun o : Obj => { o with ver := 0 }) (frzO_strs 2 2 _ t_string 1 _ ver)) (strO_refs _ 0)
def q7k : Ctr := fun args objs K => match args with
  | [a] => ofE encV a (HK.mk : HK fun v => Rt v ∧ kindV v = 6 ∧ v.length ≤ 1000000 ∧ K (.osl objs.length 0) (objs ++ [strO (q1l v) 0]) 2)
  | _ => False
theorem ctrNamesM_ok : CtrOk Tryz.prog f_val_Names q7k := by
  intro args objs K h
  unfold q7k at h
  split at h
  · obtain ⟨v, rfl, h1, h2, h3, h4⟩ := h
    exact ⟨_, _, _, .made (.osl 0 0) _ rfl (strO_refs _ 0) (names_made v h1 h2 h3), by simpa [PV.shift, PV.shiftS] using h4⟩
  · exact h.elim
def q7l : Ctr := fun args objs K => match args with
  | [a] => ofE encV a (HK.mk : HK fun v => Rt v ∧ v.length ≤ 1000000 ∧ K (.osl objs.length 0) (objs ++ [valO (q1k v) 0]) 2)
  | _ => False
theorem ctrPartsM_ok : CtrOk Tryz.prog f_val_Parts q7l := by
  intro args objs K h
  unfold q7l at h
  split at h
  · obtain ⟨v, rfl, h1, h3, h4⟩ := h
    exact ⟨_, _, _, .made (.osl 0 0) _ rfl (valO_refs _ 0) (parts_made v h1 h3), by simpa [PV.shift, PV.shiftS] using h4⟩
  · exact h.elim
def ownW (nm : List UInt8) (kept : Prs) (O : List Obj) : Prop := (kept = [] ∧ O = [⟨t_string, 1, [.str nm], true, 1⟩, ⟨t_L_string, 1, [.sl 0 [] (some true)], true, 1⟩, ⟨t_L_api_Val, 1, [.sl 0 [] (some true)], true, 1⟩]) ∨
  (kept ≠ [] ∧ ∃ v1 v2, O = [⟨t_string, 1, [.str nm], true, 1⟩, ⟨t_L_string, 1, [.osl 3 v1], true, 1⟩, ⟨t_L_api_Val, 1, [.osl 4 v2], true, 1⟩, ⟨t_string, 1, (kept.map (·.1)).map .str, true, v1⟩, ⟨t_api_Val, 1, (kept.map (·.2)).map encV, true, v2⟩])
theorem ownW_lt {nm : List UInt8} {kept : Prs} {O : List Obj} (h : ownW nm kept O) : 3 ≤ O.length ∧ q31 O := by
  rcases h with ⟨_, rfl⟩ | ⟨_, v1, v2, rfl⟩
  · refine ⟨by simp, fun o ho x hx c hc => ?_⟩
    simp only [List.mem_cons, List.not_mem_nil, or_false] at ho
    rcases ho with rfl | rfl | rfl
    all_goals
      simp only [List.mem_singleton] at hx; subst hx
      simp only [PV.cells, List.mem_singleton] at hc; subst hc; rfl
  · refine ⟨by simp, fun o ho x hx c hc => ?_⟩
    simp only [List.mem_cons, List.not_mem_nil, or_false] at ho
    rcases ho with rfl | rfl | rfl | rfl | rfl
    · simp only [List.mem_singleton] at hx; subst hx
      simp only [PV.cells, List.mem_singleton] at hc; subst hc; rfl
    · simp only [List.mem_singleton] at hx; subst hx
      simp only [PV.cells, List.mem_singleton] at hc; subst hc; rfl
    · simp only [List.mem_singleton] at hx; subst hx
      simp only [PV.cells, List.mem_singleton] at hc; subst hc; rfl
    · obtain ⟨y, _, rfl⟩ := List.mem_map.1 hx
      simp only [PV.cells, List.mem_singleton] at hc; subst hc; rfl
    · obtain ⟨y, _, rfl⟩ := List.mem_map.1 hx
      simp only [encV, PV.cells, List.mem_singleton] at hc; subst hc; rfl
theorem frz_nodk {objs : List Obj} {k : Nat} {v : Vl} (h : objs[k]? = some (nodO v 0)) : frz 1 0 objs (.osl k 0) = encV v := by
  simp only [frz, Nat.not_lt_zero, if_false, frzI, h, Nat.zero_le, decide_true, Bool.true_and, beq_self_eq_true, if_true, nodO]
  rw [q45 encN fun _ => rfl]; rfl
theorem without_spec (v : Vl) (nm : List UInt8) (hr : Rt v) (hk : kindV v = 6) (hl : v.length ≤ 1000000) : FnSpec Tryz.prog f_val_Without [encV v, .str nm] [] (encV (q1e v nm)) [] := by
  obtain ⟨ps, hP, hprt, hpl, hnm, hgv⟩ := q44 v hr hl
  obtain ⟨n, r, hv, _⟩ := q1n hr.name hr.one.ne
  obtain ⟨p1, p2, p3, p4⟩ := q5c hr
  have hk6 : n.kind = 6 := by rw [hv] at hk; exact hk
  have hN : q1l v = ps.map nameOf := by
    rcases hnm with h | ⟨n', r', h1, h2⟩
    · exact h
    · rw [hv] at h1; cases h1; exact absurd hk6 h2
  have hprs : prs v = ps.map fun p => (nameOf p, clr p) := by rw [prs, hN, hP, q91]
  obtain ⟨hq, _, _, hP2⟩ := q84 hr hk
  obtain ⟨q, hqe⟩ : ∃ q, q = prs v := ⟨_, rfl⟩
  rw [← hqe] at hprs hq hP2
  rw [hP2] at p3
  have hql : q.length = ps.length := by rw [hprs, List.length_map]
  have hlay : layV ((delP q nm).map (·.1)) ((delP q nm).map (·.2)) = q1e v nm := by rw [layV_mkO, q1e, hqe]
  refine k_val_Without.pureG (T := tabL Tryz.prog [(f_val_each, q1o), (f_val_laid, q2i)]) 1 hD (q0g (q0c q37 (q0c q6k q0d))) hmix (by decide) fun Q hQ => ?_
  try simp only [F_all]
  simp (maxSteps := 400000) only [↓preZ, postZ, coreZ, ↓preU, postU, D_all, F_all, unR, outL, onePV, binS, ↓binS, q03, ↓q03, q01, ↓q01, boxR, q0b, newObj, q05, q00, q07, q09, q0a, St.freeze, q02, q08, q04, BEq.rfl, reduceIte, reduceCtorEq, Nat.reduceLT, Nat.reduceAdd, Nat.reduceSub, Nat.reduceMul, Nat.reduceBEq, Nat.reduceLeDiff, Int.reduceToNat, Int.reduceLE, hQ, q7h, ↓q1o]
  refine q8f f_val_each_1 [.addr (encV v)] (ps.map rowOf) (fun i O => ownW nm (delP (q.take i) nm) O ∧ i ≤ ps.length) rfl rfl rfl trivial hgv (q59 ps) ⟨.inl ⟨by simp [delP], rfl⟩, Nat.zero_le _⟩ (fun i O h => ownW_lt h.1) ?_ ?_
  · rintro i args O ⟨hO, hi⟩ ha
    obtain ⟨p, hpi, rfl⟩ := q5a ha
    have hil := (List.getElem?_eq_some_iff.1 hpi).1
    have hqi : q[i]? = some (nameOf p, clr p) := by rw [hprs, List.getElem?_map, hpi]; rfl
    have hdt := delP_take hqi nm
    have hkl : (delP (q.take i) nm).length ≤ i := by have := (q98 (q.take i) nm).1; rw [List.length_take] at this; omega
    generalize delP (q.take i) nm = kept at *
    rcases tf (nameOf p = nm) with he | he
    · rw [if_pos (of_eq_true he), List.append_nil] at hdt
      rcases hO with ⟨rfl, rfl⟩ | ⟨h1, v1, v2, rfl⟩
      · simp (maxSteps := 400000) only [↓preZ, postZ, coreZ, ↓preU, postU, D_all, F_all, unR, outL, onePV, binS, ↓binS, q03, ↓q03, q01, ↓q01, boxR, q0b, newObj, q05, q00, q07, q09, q0a, St.freeze, q02, q08, q04, BEq.rfl, reduceIte, reduceCtorEq, Nat.reduceLT, Nat.reduceAdd, Nat.reduceSub, Nat.reduceMul, Nat.reduceBEq, Nat.reduceLeDiff, Int.reduceToNat, Int.reduceLE, hQ, setL, knI, he]
        exact ⟨.inl ⟨hdt, rfl⟩, by omega⟩
      · simp (maxSteps := 400000) only [↓preZ, postZ, coreZ, ↓preU, postU, D_all, F_all, unR, outL, onePV, binS, ↓binS, q03, ↓q03, q01, ↓q01, boxR, q0b, newObj, q05, q00, q07, q09, q0a, St.freeze, q02, q08, q04, BEq.rfl, reduceIte, reduceCtorEq, Nat.reduceLT, Nat.reduceAdd, Nat.reduceSub, Nat.reduceMul, Nat.reduceBEq, Nat.reduceLeDiff, Int.reduceToNat, Int.reduceLE, hQ, setL, knI, he]
        exact ⟨.inr ⟨by rw [hdt]; exact h1, v1, v2, by rw [hdt]; rfl⟩, by omega⟩
    · rw [if_neg (of_eq_false he)] at hdt
      rcases hO with ⟨rfl, rfl⟩ | ⟨h1, v1, v2, rfl⟩
      · simp (maxSteps := 400000) only [↓preZ, postZ, coreZ, ↓preU, postU, D_all, F_all, unR, outL, onePV, binS, ↓binS, q03, ↓q03, q01, ↓q01, boxR, q0b, newObj, q05, q00, q07, q09, q0a, St.freeze, q02, q08, q04, BEq.rfl, reduceIte, reduceCtorEq, Nat.reduceLT, Nat.reduceAdd, Nat.reduceSub, Nat.reduceMul, Nat.reduceBEq, Nat.reduceLeDiff, Int.reduceToNat, Int.reduceLE, hQ, setL, knI, he]
        exact ⟨by decide, .inr ⟨by rw [hdt]; simp, 1, 1, by rw [hdt]; rfl⟩, by omega⟩
      · simp (maxSteps := 400000) only [↓preZ, postZ, coreZ, ↓preU, postU, D_all, F_all, unR, outL, onePV, binS, ↓binS, q03, ↓q03, q01, ↓q01, boxR, q0b, newObj, q05, q00, q07, q09, q0a, St.freeze, q02, q08, q04, BEq.rfl, reduceIte, reduceCtorEq, Nat.reduceLT, Nat.reduceAdd, Nat.reduceSub, Nat.reduceMul, Nat.reduceBEq, Nat.reduceLeDiff, Int.reduceToNat, Int.reduceLE, hQ, setL, knI, he]
        exact ⟨by omega, by omega, by omega, by omega, by decide, .inr ⟨by rw [hdt]; simp, v1 + 1, v2 + 1, by rw [hdt]; simp only [List.map_append, List.map_cons, List.map_nil]; rfl⟩, by omega⟩
  · rintro O ⟨hO, _⟩
    rw [List.length_map, List.take_of_length_le (by omega)] at hO
    have hd := q98 q nm
    have hne : ∀ p ∈ (delP q nm).map (·.2), p ≠ [] := fun p hp => by
      obtain ⟨x, hx, rfl⟩ := List.mem_map.1 hp
      exact (hq.rt x (mem_delP.1 hx).1).one.ne
    rcases hO with ⟨h1, rfl⟩ | ⟨h1, v1, v2, rfl⟩
    · simp (maxSteps := 400000) only [↓preZ, postZ, coreZ, ↓preU, postU, D_all, F_all, unR, outL, onePV, binS, ↓binS, q03, ↓q03, q01, ↓q01, boxR, q0b, newObj, q05, q00, q07, q09, q0a, St.freeze, q02, q08, q04, BEq.rfl, reduceIte, reduceCtorEq, Nat.reduceLT, Nat.reduceAdd, Nat.reduceSub, Nat.reduceMul, Nat.reduceBEq, Nat.reduceLeDiff, Int.reduceToNat, Int.reduceLE, hQ, ↓q2i, rowB, ofRB]
      exact ⟨by simp, by simp, by rw [← hlay, h1]; exact (frz_nodk rfl).symm⟩
    · simp (maxSteps := 400000) only [↓preZ, postZ, coreZ, ↓preU, postU, D_all, F_all, unR, outL, onePV, binS, ↓binS, q03, ↓q03, q01, ↓q01, boxR, q0b, newObj, q05, q00, q07, q09, q0a, St.freeze, q02, q08, q04, BEq.rfl, reduceIte, reduceCtorEq, Nat.reduceLT, Nat.reduceAdd, Nat.reduceSub, Nat.reduceMul, Nat.reduceBEq, Nat.reduceLeDiff, Int.reduceToNat, Int.reduceLE, hQ, ↓q2i, rowB, ofRB]
      exact ⟨by omega, by omega, hne, by rw [hlay]; exact (frz_nodk rfl).symm⟩
def q2x : Ctr := fun args objs K => match args with
  | [a0, .str nm] => ofE encV a0 (HK.mk : HK fun v => (Rt v) ∧ (kindV v = 6) ∧ (v.length ≤ 1000000) ∧ K (encV (q1e v nm)) objs 0)
  | _ => False
theorem q7m : CtrOk Tryz.prog f_val_Without (q2x) := by
  intro args objs K h
  unfold q2x at h
  split at h
  · rename_i a0 nm
    obtain ⟨v, rfl, h1, h2, h3, hk⟩ := h
    exact ⟨_, _, _, .pure _ rfl (without_spec v nm h1 h2 h3), hk⟩
  · exact h.elim
def ctrInsS : Ctr := fun args objs K => match args with
  | [.osl k ver, .int .i64 i, .osl k2 ver2] => ∃ o, objs[k]? = some o ∧ o.live = true ∧ o.ver = ver ∧ o.sz = 1 ∧ o.ty = t_string ∧ ofR .str o.xs (HK.mk : HK fun l => ∃ o2, objs[k2]? = some o2 ∧ o2.live = true ∧ o2.ver = ver2 ∧ o2.sz = 1 ∧ ¬ k2 = k ∧ ofR .str o2.xs (HK.mk : HK fun fs => ∃ f, fs = [f] ∧
      0 ≤ i ∧ i.toNat ≤ l.length ∧ l.length ≤ 1000000 ∧ K (.osl k (ver + 1)) (objs.set k ⟨t_string, 1, (l.take i.toNat ++ [f] ++ l.drop i.toNat).map .str, true, ver + 1⟩) 2))
  | _ => False
def ctrInsV : Ctr := fun args objs K => match args with
  | [.osl k ver, .int .i64 i, .osl k2 ver2] => ∃ o, objs[k]? = some o ∧ o.live = true ∧ o.ver = ver ∧ o.sz = 1 ∧ o.ty = t_api_Val ∧ ofR encV o.xs (HK.mk : HK fun l => ∃ o2, objs[k2]? = some o2 ∧ o2.live = true ∧ o2.ver = ver2 ∧ o2.sz = 1 ∧ ¬ k2 = k ∧ ofR encV o2.xs (HK.mk : HK fun fs => ∃ f, fs = [f] ∧
      0 ≤ i ∧ i.toNat ≤ l.length ∧ l.length ≤ 1000000 ∧ K (.osl k (ver + 1)) (objs.set k ⟨t_api_Val, 1, (l.take i.toNat ++ [f] ++ l.drop i.toNat).map encV, true, ver + 1⟩) 2))
  | _ => False
theorem ctrInsS_ok : CtrOk Tryz.prog f_slices_Insert_L_string_string_ ctrInsS := by
  intro args objs K h
  unfold ctrInsS at h
  split at h
  · rename_i k ver i k2 ver2
    obtain ⟨o, h1, h2, h3, h4, h5, l, h6, o2, g1, g2, g3, g4, hkk, fs, g5, f, rfl, h7, h8, h9, h10⟩ := h
    obtain ⟨n, rfl⟩ : ∃ n : Nat, i = n := ⟨i.toNat, by omega⟩
    rw [Int.toNat_natCast] at h8 h10
    obtain ⟨ty, sz, xs, live, vr⟩ := o
    simp only [] at h2 h3 h4 h5 h6
    subst h2; subst h3; subst h4; subst h5; subst h6
    have hu := insZ_use (x := .str f) (i := n) (ti := D t_string) (by' := 16) insWS undS (hD _) (by intro h; cases h) rfl rfl rfl rfl h1 rfl rfl g1 g2 g3 g4 g5 hkk (fun y hy => by obtain ⟨s, _, rfl⟩ := List.mem_map.1 hy; exact ⟨rfl, rfl⟩) ⟨rfl, rfl⟩ (by simpa using h8) (by rw [List.length_map]; omega) (by rw [List.length_map]; omega)
    refine ⟨_, _, _, .used _ _ hu, ?_⟩
    have e : (l.map PV.str).take n ++ [.str f] ++ (l.map PV.str).drop n = (l.take n ++ [f] ++ l.drop n).map .str := by simp
    rw [e]
    exact h10
  · exact h.elim
theorem ctrInsV_ok : CtrOk Tryz.prog f_slices_Insert_L_api_Val_api_Val_ ctrInsV := by
  intro args objs K h
  unfold ctrInsV at h
  split at h
  · rename_i k ver i k2 ver2
    obtain ⟨o, h1, h2, h3, h4, h5, l, h6, o2, g1, g2, g3, g4, hkk, fs, g5, f, rfl, h7, h8, h9, h10⟩ := h
    obtain ⟨n, rfl⟩ : ∃ n : Nat, i = n := ⟨i.toNat, by omega⟩
    rw [Int.toNat_natCast] at h8 h10
    obtain ⟨ty, sz, xs, live, vr⟩ := o
    simp only [] at h2 h3 h4 h5 h6
    subst h2; subst h3; subst h4; subst h5; subst h6
    have hu := insZ_use (x := encV f) (i := n) (ti := D t_api_Val) (by' := 24) insWV undV (hD _) (by intro h; cases h) rfl rfl rfl rfl h1 rfl rfl g1 g2 g3 g4 g5 hkk (fun y hy => by obtain ⟨s, _, rfl⟩ := List.mem_map.1 hy; exact ⟨rfl, rfl⟩) ⟨rfl, rfl⟩ (by simpa using h8) (by rw [List.length_map]; omega) (by rw [List.length_map]; omega)
    refine ⟨_, _, _, .used _ _ hu, ?_⟩
    have e : (l.map encV).take n ++ [encV f] ++ (l.map encV).drop n = (l.take n ++ [f] ++ l.drop n).map encV := by simp
    rw [e]
    exact h10
  · exact h.elim
theorem ofR1 : (∀ (K : List (List UInt8) → Prop) a, ofR .str [.str a] (HK.mk : HK K) = K [a]) ∧ (∀ (K : List Vl → Prop) a, ofR encV [encV a] (HK.mk : HK K) = K [a]) := ⟨fun K a => ofR_eq str_inj K [a], fun K a => ofR_eq q4g K [a]⟩
theorem with_spec (v : Vl) (nm : List UInt8) (x : Vl) (hr : Rt v) (hk : kindV v = 6) (hl : v.length ≤ 100000) (hu : utf nm = true) (hx : Rt x) (hxl : x.length ≤ 100000) : FnSpec Tryz.prog f_val_With [encV v, .str nm, encV x] [] (encV (withV v nm x)) [] := by
  refine k_val_With.pureG (T := tabL Tryz.prog [(f_val_Without, q2x), (f_val_Names, q7k), (f_val_Parts, q7l), (f_slices_BinarySearch_L_string_string_, q5v), (f_slices_Insert_L_string_string_, ctrInsS), (f_slices_Insert_L_api_Val_api_Val_, ctrInsV), (f_val_laid, q2i)]) 1 hD (q0g (q0c q7m (q0c ctrNamesM_ok (q0c ctrPartsM_ok (q0c ctrBSearch_ok (q0c ctrInsS_ok (q0c ctrInsV_ok (q0c q6k q0d)))))))) hmix (by decide) fun Q hQ => ?_
  try simp only [F_all]
  obtain ⟨h1, h2, h3, h4⟩ := q85 nm hr hk
  obtain ⟨hq, hmk, hN, hP⟩ := q84 h1 h2
  obtain ⟨p1, p2, p3, p4⟩ := q5c h1
  rw [h4] at hq hN hP
  have hput := putP_ok hq (delP_no _ nm) hu hx
  rw [hN] at p2; rw [hP] at p1 p3
  have hlb := lowB_le ((delP (prs v) nm).map (·.1)) nm
  rw [List.length_map] at p1 p2 hlb
  have hsp := putP_split nm x (delP (prs v) nm)
  have hw : withV v nm x = mkO (putP nm x (delP (prs v) nm)) := rfl
  have hris := hq.rise
  generalize delP (prs v) nm = q at *
  generalize hlo : lowB (q.map (·.1)) nm = k at *
  simp (maxSteps := 400000) only [↓preZ, postZ, coreZ, ↓preU, postU, D_all, F_all, unR, outL, onePV, binS, ↓binS, q03, ↓q03, q01, ↓q01, boxR, q0b, newObj, q05, q00, q07, q09, q0a, St.freeze, q02, q08, q04, BEq.rfl, reduceIte, reduceCtorEq, Nat.reduceLT, Nat.reduceAdd, Nat.reduceSub, Nat.reduceMul, Nat.reduceBEq, Nat.reduceLeDiff, Int.reduceToNat, Int.reduceLE, hQ, c_val_With, ↓q2x, ↓q7k, ↓q7l, hN, hP, strO, valO, ↓q5v, rowB, ofRB, hlo, ↓ctrInsS, ↓ctrInsV, ↓q2i, q17, ofR1]
  have e1 : (q.map (·.1)).take k ++ [nm] ++ (q.map (·.1)).drop k = (putP nm x q).map (·.1) := by rw [hsp]; simp
  have e2 : (q.map (·.2)).take k ++ [x] ++ (q.map (·.2)).drop k = (putP nm x q).map (·.2) := by rw [hsp]; simp
  have hfl : ((putP nm x q).map (·.2)).flatten.length ≤ 1000000 := by
    have := q57 ((q43 nm x q).map (·.2))
    rw [this]
    simp only [List.map_cons, List.flatten_cons, List.length_append]
    omega
  have hne : ∀ p ∈ (putP nm x q).map (·.2), p ≠ [] := fun p hp => by
    obtain ⟨y, hy, rfl⟩ := List.mem_map.1 hp
    exact (hput.rt y hy).one.ne
  refine ⟨hr, hk, by omega, h1, h2, by omega, h1, by omega, hris, by omega, nm, rfl, by omega, by omega, by omega, by decide, x, rfl, by omega, by omega, by omega, by simp, by simp; omega, ?_, ?_, ?_⟩
  · rw [e2]; exact hfl
  · rw [e2]; exact hne
  · rw [e1, e2, layV_mkO, hw]; exact (frz_nodk rfl).symm
def q2y : Ctr := fun args objs K => match args with
  | [a0, .str nm, a2] => ofE encV a0 (HK.mk : HK fun v => ofE encV a2 (HK.mk : HK fun x => (Rt v) ∧ (kindV v = 6) ∧ (v.length ≤ 100000) ∧ (utf nm = true) ∧ (Rt x) ∧ (x.length ≤ 100000) ∧ K (encV (withV v nm x)) objs 0))
  | _ => False
theorem ctrValWith_ok : CtrOk Tryz.prog f_val_With (q2y) := by
  intro args objs K h
  unfold q2y at h
  split at h
  · rename_i a0 nm a2
    obtain ⟨v, rfl, x, rfl, h1, h2, h3, h4, h5, h6, hk⟩ := h
    exact ⟨_, _, _, .pure _ rfl (with_spec v nm x h1 h2 h3 h4 h5 h6), hk⟩
  · exact h.elim
end Lp

/-! LpTie -/

namespace Lp
open Go Go.Proofs Go.Shelf Go.RowKit Go.Lib Go.ChangeAt
set_option maxRecDepth 100000
set_option maxHeartbeats 2000000
def laidL : List (String × DataW Unit) := [("unicode/utf8.acceptRanges", Lib.acceptData), ("unicode/utf8.first", Lib.firstData)]
noncomputable def laidWorld (os : Os) : World :=
  let w0 := World.holding Tryz.prog os ⟨#[], #[], []⟩
  let put (h : Array Go.Obj) (g : Nat) (cs : Array Value) : Array Go.Obj := h.modify g fun
    | .cells _ t frozen => .cells cs t frozen
    | o => o
  let h1 := put w0.heap 0 (Lib.firstTab.map fun z => Value.int .u8 z).toArray
  let h2 := put h1 1 ((List.range 16).flatMap fun i => [Value.int .u8 (Lib.accLo i), Value.int .u8 (Lib.accHi i)]).toArray
  { w0 with heap := h2 }
theorem laid_met (os : Os) (args : Array Value) : laidMet Tryz.prog laidL ((laidWorld os).forCall (fun _ _ => 0) ⟨#[], args, []⟩).memory :=
  (LaidIn.of_run (l := laidL) [1, 0] 8 (by kernel_rfl) (by kernel_rfl) (by kernel_rfl) (by kernel_rfl)).met
theorem tabs_same {w W : World} (h : w.heap = W.heap) (hT : Lib.Utf8Tabs 0 1 W) : Lib.Utf8Tabs 0 1 w := by
  have e : ∀ b : Nat, w.heap[b]? = W.heap[b]? := fun b => by rw [h]
  refine ⟨fun c hc => ?_, fun i hi => ⟨?_, ?_⟩⟩
  · rw [q3o (e 0)]; exact hT.1 c hc
  · rw [q3o (e 1)]; exact (hT.2 i hi).1
  · rw [q3o (e 1)]; exact (hT.2 i hi).2
theorem glob_laid {W : World} (h : laidMetH Tryz.prog laidL W) : glob.holds W.heap := by
  have hT : Lib.Utf8Tabs 0 1 W :=
    utf8Tabs_of_readsT (U8Types.of196 Tryz.lays196) ⟨by kernel_rfl, by kernel_rfl, by kernel_rfl, by kernel_rfl, by kernel_rfl, by kernel_rfl, by kernel_rfl⟩ (Lib.laidMet.reads h (.tail _ (.head _))) (Lib.laidMet.reads h (.head _))
  intro w hw
  exact tabs_same hw hT
structure BigT (l : List (List UInt8)) : Prop where
  len : l.length ≤ 1152921504606846976
  all : ∀ s ∈ l, s.length ≤ 4611686018427387904
end Lp

/-! LpM5 -/

namespace Lp
open Go Go.Proofs
set_option maxHeartbeats 4000000
set_option maxRecDepth 20000
set_option linter.unusedSimpArgs false
end Lp

/-! LpM6 -/

namespace Lp
open Go Go.Proofs Go.RowKit
set_option maxHeartbeats 8000000
set_option maxRecDepth 100000
set_option linter.unusedSimpArgs false
structure BigT2 (p : List UInt8 × List UInt8) : Prop where
  one : p.1.length ≤ 4611686018427387904
  two : p.2.length ≤ 4611686018427387904
theorem with_facts {v x : Vl} (nm : List UInt8) (hr : Rt v) (hk : kindV v = 6) (hu : utf nm = true) (hx : Rt x) : Rt (withV v nm x) ∧ kindV (withV v nm x) = 6 ∧ (withV v nm x).length ≤ v.length + x.length ∧ prs (withV v nm x) = putP nm x (delP (prs v) nm) ∧ PairsOk (delP (prs v) nm) := by
  obtain ⟨w1, w2, w3, w4⟩ := q85 nm hr hk
  obtain ⟨hq, hmk, hN, hP⟩ := q84 w1 w2
  rw [w4] at hq
  have hput := putP_ok hq (delP_no _ nm) hu hx
  refine ⟨rt_mkO hput, rfl, ?_, prs_mkO hput.rt, hq⟩
  have h1 := q6m (prs (q1e v nm))
  rw [hmk, w4] at h1
  have h2 := q57 ((q43 nm x (delP (prs v) nm)).map (·.2))
  rw [withV, q6m, h2]
  simp only [List.map_cons, List.flatten_cons, List.length_append]
  omega
theorem q99 {v : Vl} (hk : kindV v = 6) (nm : List UInt8) : optV v nm = getP (prs v) nm := by simp [optV, hk]
end Lp

/-! LpM7 -/

namespace Lp
open Go Go.Proofs Go.RowKit
set_option maxHeartbeats 8000000
set_option maxRecDepth 100000
set_option linter.unusedSimpArgs false
theorem sizes_law {v : Vl} (nm : List UInt8) (hr : Rt v) (hk : kindV v = 6) (hu : utf nm = true) :
    (q1e v nm).length + (q2n v nm).length = v.length ∧ (hasV v nm = true ↔ 0 < (q2n v nm).length) ∧ (withV v nm v).length = (q1e v nm).length + v.length ∧
    Rise (q1l (withV v nm v)) ∧ 0 < (q1l (withV v nm v)).length ∧ (q1l (withV v nm v)).length ≤ v.length + 1 := by
  obtain ⟨hq, hmk, hN0, hP0⟩ := q84 hr hk
  obtain ⟨f1, f2, f3, f4, f5⟩ := with_facts nm hr hk hu hr
  obtain ⟨_, _, hN, _⟩ := q84 f1 f2
  have l0 := q6m (prs v)
  rw [hmk] at l0
  have l1 : (q1e v nm).length = _ := q6m (delP (prs v) nm)
  have l2 : (withV v nm v).length = _ := q6m (putP nm v (delP (prs v) nm))
  have p2 := q57 ((q43 nm v (delP (prs v) nm)).map (·.2))
  simp only [List.map_cons, List.flatten_cons, List.length_append] at p2
  have hrise : Rise (q1l (withV v nm v)) := by rw [hN, f4]; exact q55 nm v _ f5.rise (delP_no _ nm)
  have hnl : (q1l (withV v nm v)).length = (delP (prs v) nm).length + 1 := by rw [hN, f4, List.length_map, qa9]
  have hdl := (q98 (prs v) nm).1
  have hpl : (prs v).length ≤ v.length := by
    have := (q5c hr).1
    rw [hP0, List.length_map] at this
    exact this
  refine ⟨?_, ?_, by omega, hrise, by omega, by omega⟩
  · cases hg : getP (prs v) nm with
    | none =>
      have : q2n v nm = [] := by simp [q2n, q99 hk, hg]
      rw [delP_id (getP_none.1 hg)] at l1
      rw [this]; simp; omega
    | some x =>
      have hf : q2n v nm = x := by simp [q2n, q99 hk, hg]
      have p1 := q57 ((q43 nm x (delP (prs v) nm)).map (·.2))
      rw [putP_delP hq hg] at p1
      simp only [List.map_cons, List.flatten_cons, List.length_append] at p1
      rw [hf]; omega
  · cases hg : getP (prs v) nm with
    | none => simp [q2n, hasV, q99 hk, hg]
    | some x =>
      have := (hq.rt _ (q56 hg)).one.ne
      simp only [q2n, hasV, q99 hk, hg, Option.isSome_some, Option.getD_some, true_iff]
      exact List.length_pos_iff.2 this
theorem rise_next {l : List (List UInt8)} (h : Rise l) {i : Nat} {a b : List UInt8} (ha : l[i]? = some a) (hb : l[i + 1]? = some b) : Op.bytesLess a b = true := by
  obtain ⟨h1, rfl⟩ := List.getElem?_eq_some_iff.1 ha
  obtain ⟨h2, rfl⟩ := List.getElem?_eq_some_iff.1 hb
  exact List.pairwise_iff_getElem.1 h i (i + 1) h1 h2 (by omega)
theorem valSizes_spec (l : List Vl) (v : Vl) (nm : List UInt8) (hb : BigL l) (hv : Big v) (hn : nm.length ≤ 4611686018427387904) : FnSpec Tryz.prog f_loupelaw02_ValSizes [encL l, encV v, .str nm] [] (.bool true) [] := by
  have t60 : Int.toNat 60 = 60 := rfl
  have hvl := hv.len
  refine k_loupelaw02_ValSizes.pureG (T := tabL Tryz.prog [(f_loupelaw02_alive, q1w), (f_louperef02_Few, q61), (f_louperef02_All, q8l), (f_val_Field, q2c), (f_louperef02_Utf, q1v), (f_val_With, q2y), (f_val_Without, q2x), (f_val_Names, q96), (f_val_List, q2b)]) 0 hD (q0g (q0c ctrAlive2_ok (q0c ctrFew_ok (q0c ctrAll_ok (q0c q62 (q0c qa3 (q0c ctrValWith_ok (q0c q7m (q0c ctrNames_ok (q0c q7a q0d)))))))))) hmix (by decide) fun Q hQ => ?_
  try simp only [F_all]
  cases fa : allB l 60
  · simp (maxSteps := 400000) only [↓preZ, postZ, coreZ, ↓preU, postU, D_all, F_all, unR, outL, onePV, binS, ↓binS, q03, ↓q03, q01, ↓q01, boxR, q0b, newObj, q05, q00, q07, q09, q0a, St.freeze, q02, q08, q04, BEq.rfl, reduceIte, reduceCtorEq, Nat.reduceLT, Nat.reduceAdd, Nat.reduceSub, Nat.reduceMul, Nat.reduceBEq, Nat.reduceLeDiff, Int.reduceToNat, Int.reduceLE, hQ, q0o, ↓q1w, ↓q8l, t60, fa]
    repeat' (first | omega | exact hb.len | exact hb.txt | refine ⟨?_, ?_⟩)
  cases fv : fewB v 60
  · simp (maxSteps := 400000) only [↓preZ, postZ, coreZ, ↓preU, postU, D_all, F_all, unR, outL, onePV, binS, ↓binS, q03, ↓q03, q01, ↓q01, boxR, q0b, newObj, q05, q00, q07, q09, q0a, St.freeze, q02, q08, q04, BEq.rfl, reduceIte, reduceCtorEq, Nat.reduceLT, Nat.reduceAdd, Nat.reduceSub, Nat.reduceMul, Nat.reduceBEq, Nat.reduceLeDiff, Int.reduceToNat, Int.reduceLE, hQ, q0o, ↓q1w, ↓q8l, t60, fa, ↓q61, fv]
    repeat' (first | omega | exact hb.len | exact hb.txt | exact hv.txt | refine ⟨?_, ?_⟩)
  obtain ⟨a1, a2, a3, a4, a5⟩ := allB_facts fa
  obtain ⟨hrt, hl60⟩ := fewB_facts fv
  obtain ⟨n, r, hvr, _⟩ := q1n hrt.name hrt.one.ne
  have hg0 : v[0]? = some n := by rw [hvr]; rfl
  have hkv : kindV v = n.kind := by rw [hvr]; rfl
  rcases tf (n.kind = 6) with k6 | k6
  rotate_left 1
  · simp (maxSteps := 400000) only [↓preZ, postZ, coreZ, ↓preU, postU, D_all, F_all, unR, outL, onePV, binS, ↓binS, q03, ↓q03, q01, ↓q01, boxR, q0b, newObj, q05, q00, q07, q09, q0a, St.freeze, q02, q08, q04, BEq.rfl, reduceIte, reduceCtorEq, Nat.reduceLT, Nat.reduceAdd, Nat.reduceSub, Nat.reduceMul, Nat.reduceBEq, Nat.reduceLeDiff, Int.reduceToNat, Int.reduceLE, hQ, q0o, ↓q1w, ↓q8l, t60, fa, ↓q61, fv, hg0, k6]
    repeat' (first | omega | exact hb.len | exact hb.txt | exact hv.txt | refine ⟨?_, ?_⟩)
  have hk : kindV v = 6 := by rw [hkv]; exact of_eq_true k6
  cases hu : utf nm
  · simp (maxSteps := 400000) only [↓preZ, postZ, coreZ, ↓preU, postU, D_all, F_all, unR, outL, onePV, binS, ↓binS, q03, ↓q03, q01, ↓q01, boxR, q0b, newObj, q05, q00, q07, q09, q0a, St.freeze, q02, q08, q04, BEq.rfl, reduceIte, reduceCtorEq, Nat.reduceLT, Nat.reduceAdd, Nat.reduceSub, Nat.reduceMul, Nat.reduceBEq, Nat.reduceLeDiff, Int.reduceToNat, Int.reduceLE, hQ, q0o, ↓q1w, ↓q8l, t60, fa, ↓q61, fv, hg0, k6, ↓q1v, hu]
    repeat' (first | omega | exact hb.len | exact hb.txt | exact hv.txt | exact hn | refine ⟨?_, ?_⟩)
  obtain ⟨w1, w2, w3, w4⟩ := q85 nm hrt hk
  obtain ⟨f1, f2, f3, f4, f5⟩ := with_facts nm hrt hk hu hrt
  obtain ⟨z1, z2, z3, z4, z5, z6⟩ := sizes_law nm hrt hk hu
  have hll := listV_len l
  have ho := f1.one
  simp (maxSteps := 400000) only [↓preZ, postZ, coreZ, ↓preU, postU, D_all, F_all, unR, outL, onePV, binS, ↓binS, q03, ↓q03, q01, ↓q01, boxR, q0b, newObj, q05, q00, q07, q09, q0a, St.freeze, q02, q08, q04, BEq.rfl, reduceIte, reduceCtorEq, Nat.reduceLT, Nat.reduceAdd, Nat.reduceSub, Nat.reduceMul, Nat.reduceBEq, Nat.reduceLeDiff, Int.reduceToNat, Int.reduceLE, hQ, q0o, ↓q1w, ↓q8l, t60, fa, ↓q61, fv, hg0, k6, ↓q1v, hu]
  refine ⟨hb.len, hb.txt, by omega, hv.txt, hn, ?_⟩
  refine q0t (fun m S => ∃ i : Nat, i + m = l.length ∧ S = ⟨tmA 119 [(0, encL l), (1, encV v), (2, .str nm), (7, .int .i64 ((l.take i).flatten.length + 1 : Nat)), (8, .int .i64 i)], []⟩) l.length ⟨0, by omega, ?_⟩ ?_
  · simp only [normR, keepR, Nat.reduceAdd, lkR, Nat.reduceBEq, F_all, List.map_nil]
    rfl
  rintro m S ⟨i, him, rfl⟩
  rcases Nat.lt_or_ge i l.length with h | h
  · have hlt : ((i : Int) < (l.length : Int)) = True := eq_true (by omega)
    have zi : (0 ≤ (i : Int)) = True := eq_true (by omega)
    have hgi := List.getElem?_eq_getElem h
    generalize l[i] = p at hgi
    have hf := q77 l hgi
    have ht := q7x l hgi
    simp (maxSteps := 400000) only [↓preZ, postZ, coreZ, ↓preU, postU, D_all, F_all, unR, outL, onePV, binS, ↓binS, q03, ↓q03, q01, ↓q01, boxR, q0b, newObj, q05, q00, q07, q09, q0a, St.freeze, q02, q08, q04, BEq.rfl, reduceIte, reduceCtorEq, Nat.reduceLT, Nat.reduceAdd, Nat.reduceSub, Nat.reduceMul, Nat.reduceBEq, Nat.reduceLeDiff, Int.reduceToNat, Int.reduceLE, hQ, hlt, zi, hgi]
    refine ⟨⟨by omega, by omega⟩, ⟨by omega, by omega⟩, m - 1, by omega, i + 1, by omega, ?_⟩
    rw [ht, List.length_append, show ((((l.take i).flatten.length + 1 : Nat) : Int) + (p.length : Int)) = (((l.take i).flatten.length + p.length + 1 : Nat) : Int) by omega]
    rfl
  have hlt : ((i : Int) < (l.length : Int)) = False := eq_false (by omega)
  rw [List.take_of_length_le h]
  simp (maxSteps := 400000) only [↓preZ, postZ, coreZ, ↓preU, postU, D_all, F_all, unR, outL, onePV, binS, ↓binS, q03, ↓q03, q01, ↓q01, boxR, q0b, newObj, q05, q00, q07, q09, q0a, St.freeze, q02, q08, q04, BEq.rfl, reduceIte, reduceCtorEq, Nat.reduceLT, Nat.reduceAdd, Nat.reduceSub, Nat.reduceMul, Nat.reduceBEq, Nat.reduceLeDiff, Int.reduceToNat, Int.reduceLE, hQ, hlt, ↓q2c, q17, ↓q2x, ↓q2y, ↓q96]
  refine ⟨hrt, by omega, hrt, hk, by omega, hrt, hk, by omega, hu, hrt, by omega, by omega, ho, ?_⟩
  generalize hNs : q1l (withV v nm v) = N at *
  generalize hhv : hasV v nm = H at *
  refine q0t (fun m S => ∃ j : Nat, j + 1 + m = N.length ∧ S = ⟨tmA 119 [(0, encL l), (1, encV v), (2, .str nm), (7, .int .i64 (l.flatten.length + 1 : Nat)), (9, encV (q2n v nm)), (10, .bool H), (11, encV (q1e v nm)), (12, encT N), (13, .int .i64 (j + 1 : Nat))], []⟩) (N.length - 1) ⟨0, by omega, ?_⟩ ?_
  · simp only [normR, keepR, Nat.reduceAdd, lkR, Nat.reduceBEq, F_all, List.map_nil]
    rfl
  rintro m S ⟨j, hjm, rfl⟩
  rcases Nat.lt_or_ge (j + 1) N.length with h' | h'
  · have hlt : (((j + 1 : Nat) : Int) < (N.length : Int)) = True := eq_true (by omega)
    have z0 : (0 ≤ ((j + 1 : Nat) : Int)) = True := eq_true (by omega)
    have z1' : (0 ≤ ((j + 1 : Nat) : Int) - 1) = True := eq_true (by omega)
    have t1 : (((j + 1 : Nat) : Int) - 1).toNat = j := by omega
    have g0 : N[j]? = some (N[j]'(by omega)) := List.getElem?_eq_getElem (by omega)
    have g1 : N[j + 1]? = some (N[j + 1]'(by omega)) := List.getElem?_eq_getElem (by omega)
    have hbl := rise_next z4 g0 g1
    generalize N[j]'(by omega) = a at g0 hbl
    generalize N[j + 1]'(by omega) = b at g1 hbl
    simp (maxSteps := 400000) only [↓preZ, postZ, coreZ, ↓preU, postU, D_all, F_all, unR, outL, onePV, binS, ↓binS, q03, ↓q03, q01, ↓q01, boxR, q0b, newObj, q05, q00, q07, q09, q0a, St.freeze, q02, q08, q04, BEq.rfl, reduceIte, reduceCtorEq, Nat.reduceLT, Nat.reduceAdd, Nat.reduceSub, Nat.reduceMul, Nat.reduceBEq, Nat.reduceLeDiff, Int.reduceToNat, Int.reduceLE, hQ, hlt, z0, z1', t1, g0, g1, hbl]
    exact ⟨⟨by omega, by omega⟩, ⟨by omega, by omega⟩, m - 1, by omega, j + 1, by omega, rfl⟩
  have hlt : (((j + 1 : Nat) : Int) < (N.length : Int)) = False := eq_false (by omega)
  have e1 : (((listV l).length : Int) = ((l.flatten.length + 1 : Nat) : Int)) = True := eq_true (by omega)
  have e2 : (((q1e v nm).length : Int) + ((q2n v nm).length : Int) = (v.length : Int)) = True := eq_true (by omega)
  have e3 : (((withV v nm v).length : Int) = ((q1e v nm).length : Int) + (v.length : Int)) = True := eq_true (by omega)
  have e4 : (0 < (N.length : Int)) = True := eq_true (by omega)
  cases H
  · have e5 : (0 < ((q2n v nm).length : Int)) = False := eq_false fun e => by have := z2.2 (by omega); cases this
    simp (maxSteps := 400000) only [↓preZ, postZ, coreZ, ↓preU, postU, D_all, F_all, unR, outL, onePV, binS, ↓binS, q03, ↓q03, q01, ↓q01, boxR, q0b, newObj, q05, q00, q07, q09, q0a, St.freeze, q02, q08, q04, BEq.rfl, reduceIte, reduceCtorEq, Nat.reduceLT, Nat.reduceAdd, Nat.reduceSub, Nat.reduceMul, Nat.reduceBEq, Nat.reduceLeDiff, Int.reduceToNat, Int.reduceLE, hQ, hlt, ↓q2b, e1, e2, e5, ↓q1w, ↓q2y, e3, e4]
    exact ⟨by omega, by omega, ⟨by omega, by omega⟩, hrt, hk, by omega, hu, hrt, by omega, by omega, by omega⟩
  · have e5 : (0 < ((q2n v nm).length : Int)) = True := eq_true (by have := z2.1 rfl; omega)
    simp (maxSteps := 400000) only [↓preZ, postZ, coreZ, ↓preU, postU, D_all, F_all, unR, outL, onePV, binS, ↓binS, q03, ↓q03, q01, ↓q01, boxR, q0b, newObj, q05, q00, q07, q09, q0a, St.freeze, q02, q08, q04, BEq.rfl, reduceIte, reduceCtorEq, Nat.reduceLT, Nat.reduceAdd, Nat.reduceSub, Nat.reduceMul, Nat.reduceBEq, Nat.reduceLeDiff, Int.reduceToNat, Int.reduceLE, hQ, hlt, ↓q2b, e1, e2, e5, ↓q1w, ↓q2y, e3, e4]
    exact ⟨by omega, by omega, ⟨by omega, by omega⟩, hrt, hk, by omega, hu, hrt, by omega, by omega, by omega⟩
end Lp

/-! LpRdS -/

namespace Lp
open Go Go.Proofs
set_option maxHeartbeats 2000000
set_option maxRecDepth 20000
theorem rd_S {H : Type} {eh : TypeId × Value → H} {w : World} {base : Nat} {v : Value} {d : DataW H} {p : List MemPlace} (hv : Value.okWide Tryz.prog w .any base t_string v) (h : DataW.Trod eh Tryz.prog w 0 (fun _ => true) true t_string v d p) (hw : ∀ n ∈ DataW.weights Tryz.prog t_string d, n ≤ reachBytes) : ∃ a : List UInt8, a.length ≤ 4611686018427387904 ∧ Rep w (fun _ => True) (.str a) v := by
  obtain ⟨s, rfl⟩ := Go.WideShapes.okWide_string q97 hv
  obtain ⟨fuel, h⟩ := h
  obtain ⟨a, g, r⟩ := Rd.str q97 eh w fuel _ _ h hw
  rw [reachBytes] at g
  exact ⟨a, by show a.length ≤ _; omega, r.2 0 _ _ rfl rfl⟩
end Lp

/-! LpJn -/

namespace Lp
open Go
theorem and_t {a b : Bool} (ha : a = true) (hb : b = true) : (a && b) = true := by rw [ha, hb]; rfl
theorem joined_mk {P : Program} {f : FuncId} {fn : Func} {s : ChangeSpec} {c : OpenClaim}
    (h0 : (c.wf (OpenSpec.ofChange s)) = true)
    (h1 : (laidOutB P) = true)
    (h2 : (mapsRowed P) = true)
    (h3 : (fn.params.all (P.readableRec ·)) = true)
    (h4 : (namedTie P c.named s.vars) = true)
    (h5 : ((c.stops == [])) = true)
    (h6 : ((P.stops == [])) = true)
    (h7 : ((c.knobs == [])) = true)
    (h8 : ((P.stopKnobs == [])) = true)
    (h9 : ((c.inPlace == P.inPlace f)) = true)
    (h10 : ((c.unfollowed == P.unfollowed f)) = true)
    (h11 : ((c.recurses == P.recurses f)) = true)
    (h12 : ((c.named == P.varsNamed f)) = true)
    (h13 : ((c.maps == (fn.params.toList ++ s.plain.varTypes P).any (P.mapsRec ·))) = true)
    (h14 : ((c.ifaces == (fn.params.toList ++ s.plain.varTypes P).any (P.ifacesRec ·))) = true)
    (h15 : ((c.mapsOut == P.mapsAmong fn.resultTypes.toList)) = true)
    (h16 : ((c.loops == (fn.params.toList ++ s.plain.varTypes P).any (P.loopsFrom ·))) = true)
    (h17 : ((c.wideKeys == (fn.params.toList ++ s.plain.varTypes P ++ fn.resultTypes.toList).any (P.wideKeysFrom ·))) = true)
    (h18 : (s.vars.all (P.varReadable ·)) = true)
    (h19 : (fn.resultTypes.all (fun t => P.readableRec t && decide (t < P.types.size))) = true)
    (h20 : ((c.ifacesOut == fn.resultTypes.toList.any (P.ifacesRec ·))) = true)
    (h21 : ((c.loopsOut == fn.resultTypes.toList.any (P.loopsFrom ·))) = true)
    (h22 : ((c.plainKeys == P.plainKeys)) = true)
    (h23 : (c.shortTexts.isNone) = true)
    (h24 : (P.stopsHeard) = true)
    (h25 : (P.mayEnter) = true)
    (h26 : ((c.lifted == P.liftsFinal)) = true)
    (h27 : ((P.make == some c.make)) = true)
    (h28 : ((c.kinds == (if c.domain.isEmpty then [] else fn.params.toList.map fun t => match P.underlying t with | some (.int k) => some k | _ => none))) = true)
    (h29 : ((c.pinned == c.pinnedBy)) = true)
    (h30 : ((c.veiled == (fn.params.toList ++ s.plain.varTypes P ++ fn.resultTypes.toList).any (P.veiledRec ·))) = true)
    (h31 : (c.veiledFits P fn.params.toList (fn.params.toList ++ s.plain.varTypes P ++ fn.resultTypes.toList)) = true) : joinedFacts P f fn s c = true := by
  unfold joinedFacts
  exact (and_t (and_t (and_t (and_t (and_t (and_t (and_t (and_t (and_t (and_t (and_t (and_t (and_t (and_t (and_t (and_t (and_t (and_t (and_t (and_t (and_t (and_t (and_t (and_t (and_t (and_t (and_t (and_t (and_t (and_t (and_t h0 h1) h2) h3) h4) h5) h6) h7) h8) h9) h10) h11) h12) h13) h14) h15) h16) h17) h18) h19) h20) h21) h22) h23) h24) h25) h26) h27) h28) h29) h30) h31)
end Lp
