/-
  Part 4 of what the statement rests on: LpW18, LpW19, LpX, LpUse, LpRes, LpW20, LpW23, LpC2, LpC4, LpC5, LpV6, LpV7, LpV8, LpV9, LpW30, LpD1, LpD2, LpV5, LpLay, LpLib, LpD4, LpD5, LpV10, LpX1, LpD6, LpD9, LpD10, LpD11. No condition.
-/
import Derived.Test.YtcememnoihgipaaGreatDoorLp3
import Derived.Deep.Slices
import Derived.ChangeShapes
import Derived.SizedLaws
import Derived.Deep.DeepHandedRow
import Derived.JoinedOf
import Derived.Below
import Derived.Carry
import Derived.ChangeOld
import Derived.RowKit
import Derived.OpenShut
import Derived.Lib.TrimByte
import Derived.Lib.ValidLaws
import Derived.Shelf.Strings.FuncGrows
import Derived.Shelf.SlGeneric
import Derived.Ground.NamesProg
import Derived.Ground.Names8Prog
import Derived.Shelf.Strings.Trim
import Derived.Shelf.Sort.Plain
import Derived.Shelf.Slices.In.SortNone
import Derived.Shelf.Unicode.ValidAny
import Derived.Shelf.Spec.SlicesGrow
import Derived.Shelf.Strings.Repeat
import Derived.Test.YtcememnoihgipaaGreatDoorProg

set_option linter.all false

/-! LpW18 -/

namespace Lp
open Go Go.Proofs
set_option maxHeartbeats 4000000
set_option maxRecDepth 20000
set_option linter.unusedSimpArgs false
def qa4 (kind : Int) (name : List UInt8) : List Vl → Bool
  | [] => true
  | q :: _ => kind != 6 || Op.bytesLess name (nameOf q)
structure Small (v : Vl) : Prop where
  len : v.length ≤ 1000000
  txt : ∀ n ∈ v, n.s.length ≤ 4611686018427387904 ∧ n.name.length ≤ 4611686018427387904
theorem qa5 (L : Nat) : ∀ (v : Vl) (j k c : Nat), nxt L v (j + k) = some c → ∃ c1 c2, nxt L v j = some c1 ∧ nxt L (v.drop c1) k = some c2 ∧ c = c1 + c2
  | v, 0, k, c, h => ⟨0, c, q8z L v, by simpa using h, by simp⟩
  | [], j + 1, k, c, h => by
    rw [show j + 1 + k = (j + k) + 1 by omega] at h
    simp [nxt] at h
  | n :: v, j + 1, k, c, h => by
    rw [show j + 1 + k = (j + k) + 1 by omega, nxt] at h
    split at h
    · cases h
    · rename_i hn
      cases hs : nxt L v (j + k + n.many.toNat) with
      | none => rw [hs] at h; simp at h
      | some c' =>
        rw [hs] at h
        simp only [Option.map_some, Option.some.injEq] at h
        rw [show j + k + n.many.toNat = (j + n.many.toNat) + k by omega] at hs
        obtain ⟨c1, c2, h1, h2, rfl⟩ := qa5 L v _ k c' hs
        refine ⟨c1 + 1, c2, ?_, by simpa using h2, by omega⟩
        rw [nxt, if_neg hn, h1]; rfl
theorem nextI_of {v : Vl} {i c : Nat} (h : nxt v.length (v.drop i) 1 = some c) : nextI v i = (i + c : Nat) := by
  simp only [nextI, h]
theorem rising_spec (v : Vl) (at' : Nat) (n : Nd) (c : Nat) (hs : Small v) (hat : v[at']? = some n) (hm : 0 ≤ n.many) (hc : nxt v.length (v.drop (at' + 1)) n.many.toNat = some c) (ps : List Vl) (hps : parts n.many.toNat (v.drop (at' + 1)) = some ps) :
    FnSpec Tryz.prog f_louperef02_rising [encV v, .int .i64 at'] [] (.bool (risB n.kind ps)) [] := by
  obtain ⟨hl, htx⟩ := hs
  have hatl := (List.getElem?_eq_some_iff.1 hat).1
  have hpl := q1u _ _ _ hps
  have hple := q3d _ _ _ hps
  simp only [List.length_drop] at hple
  refine k_louperef02_rising.pureG (T := tabL Tryz.prog [(f_louperef02_Utf, q1v), (f_louperef02_Next, q2p)]) 0 hD (q0g (q0c qa3 (q0c ctrNext_ok q0d))) hmix (by decide) fun Q hQ => ?_
  try simp only [F_all]
  simp (maxSteps := 400000) only [↓preZ, postZ, coreZ, ↓preU, postU, D_all, F_all, unR, outL, onePV, binS, ↓binS, q03, ↓q03, q01, ↓q01, boxR, q0b, newObj, q05, q00, q07, q09, q0a, St.freeze, q02, q08, q04, BEq.rfl, reduceIte, reduceCtorEq, Nat.reduceLT, Nat.reduceAdd, Nat.reduceSub, Nat.reduceMul, Nat.reduceBEq, Nat.reduceLeDiff, Int.reduceToNat, Int.reduceLE, hQ, q35]
  refine ⟨⟨by omega, by omega⟩, ?_⟩
  refine q0t (fun m S => ∃ (i c' : Nat) (rest : List Vl), m = rest.length ∧ rest.length ≤ ps.length ∧ parts rest.length (v.drop i) = some rest ∧ nxt v.length (v.drop i) rest.length = some c' ∧ risB n.kind rest = risB n.kind ps ∧
    S = ⟨tmA 75 [(0, encV v), (1, .int .i64 at'), (5, .int .i64 i), (6, .int .i64 ((ps.length : Int) - rest.length))], []⟩) ps.length ⟨at' + 1, c, ps, rfl, Nat.le_refl _, by rw [hpl]; exact hps, by rw [hpl]; exact hc, rfl, ?_⟩ ?_
  · simp only [normR, keepR, Nat.reduceAdd, lkR, Nat.reduceBEq, F_all, List.map_nil]
    simp
  rintro m S ⟨i, c', rest, rfl, hrl, hrp, hrn, hrb, rfl⟩
  have hmn : n.many = (ps.length : Int) := by omega
  have z0 : (0 ≤ (at' : Int)) = True := eq_true (by omega)
  have zi : (0 ≤ (i : Int)) = True := eq_true (by omega)
  cases rest with
  | nil =>
    simp (maxSteps := 400000) only [↓preZ, postZ, coreZ, ↓preU, postU, D_all, F_all, unR, outL, onePV, binS, ↓binS, q03, ↓q03, q01, ↓q01, boxR, q0b, newObj, q05, q00, q07, q09, q0a, St.freeze, q02, q08, q04, BEq.rfl, reduceIte, reduceCtorEq, Nat.reduceLT, Nat.reduceAdd, Nat.reduceSub, Nat.reduceMul, Nat.reduceBEq, Nat.reduceLeDiff, Int.reduceToNat, Int.reduceLE, hQ, hat, hmn, z0]
    refine ⟨fun h => absurd h (by simp), fun _ => ?_⟩
    rw [← hrb]; rfl
  | cons p qs =>
    obtain ⟨pc, qs', h1, h2, h3⟩ := q3z (k := qs.length) hrp
    simp only [List.cons.injEq] at h2
    obtain ⟨rfl, rfl⟩ := h2
    have hpc := q4b _ _ _ h1
    simp only [List.length_drop] at hpc
    have hil : i < v.length := by omega
    have hgi := List.getElem?_eq_getElem hil
    have hdi := List.drop_eq_getElem_cons hil
    have htx1 := htx _ (List.getElem_mem hil)
    generalize v[i] = pn at hgi hdi htx1
    have hname : nameOf (List.take pc (v.drop i)) = pn.name := by
      obtain ⟨q, hq⟩ : ∃ q, pc = q + 1 := ⟨pc - 1, by omega⟩
      rw [hdi, hq]; rfl
    obtain ⟨c1, c2, e1, e2, e3⟩ := qa5 v.length (v.drop i) 1 qs.length c' (by rw [Nat.add_comm]; exact hrn)
    have hcc : c1 = pc := by
      have := q8v _ _ _ _ e1
      rw [h1] at this
      exact (Option.some.inj this).symm
    subst hcc
    have hnx := nextI_of e1
    simp only [List.length_cons] at hrl
    have ht1 : ((i + c1 : Nat) : Int).toNat = i + c1 := by omega
    have h3' : parts qs.length (v.drop (i + c1)) = some qs := by rw [← List.drop_drop]; exact h3
    have e2' : nxt v.length (v.drop (i + c1)) qs.length = some c2 := by rw [← List.drop_drop]; exact e2
    have hun : ∀ x : Bool, qa4 n.kind pn.name qs = x → risB n.kind (List.take c1 (v.drop i) :: qs) = ((n.kind != 5 || pn.name == []) && utf pn.name && x && risB n.kind qs) := by
      intro x hx
      rw [← hx]
      cases qs <;> simp only [risB, qa4, hname]
    have hltT : ((ps.length : Int) - ((qs.length + 1 : Nat) : Int) < (ps.length : Int)) = True := eq_true (by omega)
    cases hu : utf pn.name
    · have hfin : risB n.kind ps = false := by rw [← hrb, hun _ rfl, hu]; simp
      simp (maxSteps := 400000) only [↓preZ, postZ, coreZ, ↓preU, postU, D_all, F_all, unR, outL, onePV, binS, ↓binS, q03, ↓q03, q01, ↓q01, boxR, q0b, newObj, q05, q00, q07, q09, q0a, St.freeze, q02, q08, q04, BEq.rfl, reduceIte, reduceCtorEq, Nat.reduceLT, Nat.reduceAdd, Nat.reduceSub, Nat.reduceMul, Nat.reduceBEq, Nat.reduceLeDiff, Int.reduceToNat, Int.reduceLE, hQ, hat, hmn, z0, zi, hgi, ↓q1v, ↓q2p, hnx, hu, hltT, hfin]
      exact ⟨fun _ _ => htx1.2, fun _ => htx1.2⟩
    by_cases h5 : n.kind = 5 ∧ pn.name ≠ []
    · have hfin : risB n.kind ps = false := by rw [← hrb, hun _ rfl]; simp [h5.1, h5.2]
      simp (maxSteps := 400000) only [↓preZ, postZ, coreZ, ↓preU, postU, D_all, F_all, unR, outL, onePV, binS, ↓binS, q03, ↓q03, q01, ↓q01, boxR, q0b, newObj, q05, q00, q07, q09, q0a, St.freeze, q02, q08, q04, BEq.rfl, reduceIte, reduceCtorEq, Nat.reduceLT, Nat.reduceAdd, Nat.reduceSub, Nat.reduceMul, Nat.reduceBEq, Nat.reduceLeDiff, Int.reduceToNat, Int.reduceLE, hQ, hat, hmn, z0, zi, hgi, ↓q1v, ↓q2p, hnx, hu, hltT, h5.1, h5.2]
      rw [← h5.1]; exact hfin
    have hc5 : (n.kind != 5 || pn.name == []) = true := by
      by_cases hk : n.kind = 5
      · have : pn.name = [] := Decidable.of_not_not fun h => h5 ⟨hk, h⟩
        simp [this]
      · simp [hk]
    rw [hc5, hu] at hun
    have good : n.kind = 5 → pn.name = [] := fun hk => Decidable.of_not_not fun h => h5 ⟨hk, h⟩
    have hlt1 : (-9223372036854775808 ≤ (ps.length : Int) - ((qs.length + 1 : Nat) : Int) + 1 ∧ (ps.length : Int) - ((qs.length + 1 : Nat) : Int) + 1 ≤ 9223372036854775807) = True := eq_true ⟨by omega, by omega⟩
    have hiv : i ≤ v.length := by omega
    have e : (ps.length : Int) - ((qs.length + 1 : Nat) : Int) + 1 = (ps.length : Int) - qs.length := by omega
    have l1 : qs.length < qs.length + 1 := Nat.lt_succ_self _
    have l2 : qs.length ≤ ps.length := by omega
    have zc : (0 ≤ ((i + c1 : Nat) : Int)) = True := eq_true (by omega)
    -- what goes on when the part is good
    have step : qa4 n.kind pn.name qs = true → ∃ m', m' < qs.length + 1 ∧ ∃ (i_1 c' : Nat) (rest : List Vl), m' = rest.length ∧ rest.length ≤ ps.length ∧ parts rest.length (v.drop i_1) = some rest ∧ nxt v.length (v.drop i_1) rest.length = some c' ∧ risB n.kind rest = risB n.kind ps ∧
        (⟨tmA 75 [(0, encV v), (1, .int .i64 at'), (5, .int .i64 (i + c1 : Nat)), (6, .int .i64 ((ps.length : Int) - ((qs.length + 1 : Nat) : Int) + 1))], []⟩ : St) = ⟨tmA 75 [(0, encV v), (1, .int .i64 at'), (5, .int .i64 i_1), (6, .int .i64 ((ps.length : Int) - rest.length))], []⟩ := by
      intro hx
      refine ⟨qs.length, l1, i + c1, c2, qs, rfl, l2, h3', e2', ?_, ?_⟩
      · rw [← hrb, hun true hx]; simp
      · rw [e]
    have stop : qa4 n.kind pn.name qs = false → risB n.kind ps = false := fun hx => by rw [← hrb, hun false hx]; simp
    by_cases h6 : n.kind = 6
    · have h5' : ¬ n.kind = 5 := by omega
      rcases Nat.eq_zero_or_pos qs.length with hq0 | hqp
      · have hq : qs = [] := List.length_eq_zero_iff.1 hq0
        have hlast : ((ps.length : Int) - ((qs.length + 1 : Nat) : Int) + 1 < (ps.length : Int)) = False := eq_false (by omega)
        have hst := step (by rw [hq]; rfl)
        simp (maxSteps := 400000) only [↓preZ, postZ, coreZ, ↓preU, postU, D_all, F_all, unR, outL, onePV, binS, ↓binS, q03, ↓q03, q01, ↓q01, boxR, q0b, newObj, q05, q00, q07, q09, q0a, St.freeze, q02, q08, q04, BEq.rfl, reduceIte, reduceCtorEq, Nat.reduceLT, Nat.reduceAdd, Nat.reduceSub, Nat.reduceMul, Nat.reduceBEq, Nat.reduceLeDiff, Int.reduceToNat, Int.reduceLE, hQ, hat, hmn, z0, zi, hgi, ↓q1v, ↓q2p, hnx, hu, hltT, h6, Int.reduceEq, hlt1, hlast]
        simp only [h6] at hst
        exact ⟨htx1.2, hiv, hl, hst⟩
      · obtain ⟨q, r, hqr⟩ : ∃ q r, qs = q :: r := by
          cases qs with
          | nil => simp at hqp
          | cons q r => exact ⟨q, r, rfl⟩
        have hmore : ((ps.length : Int) - ((qs.length + 1 : Nat) : Int) + 1 < (ps.length : Int)) = True := eq_true (by omega)
        have g0 := h3'
        rw [hqr] at g0
        obtain ⟨pc2, qs2, g1, g2, g3⟩ := q3z (k := r.length) g0
        simp only [List.cons.injEq] at g2
        have hpc2 := q4b _ _ _ g1
        simp only [List.length_drop] at hpc2
        have hil2 : i + c1 < v.length := by omega
        have hgi2 := List.getElem?_eq_getElem hil2
        have hdi2 := List.drop_eq_getElem_cons hil2
        generalize v[i + c1] = qn at hgi2 hdi2
        have hname2 : nameOf q = qn.name := by
          obtain ⟨w, hw⟩ : ∃ w, pc2 = w + 1 := ⟨pc2 - 1, by omega⟩
          rw [g2.1, hdi2, hw]; rfl
        have hno : qa4 n.kind pn.name qs = Op.bytesLess pn.name qn.name := by
          rw [hqr, qa4, hname2]; simp [h6]
        clear g0 g1 g2 g3 hqr hname2 hdi2 hdi
        cases hbl : Op.bytesLess pn.name qn.name
        · have hfin := stop (by rw [hno, hbl])
          simp (maxSteps := 400000) only [↓preZ, postZ, coreZ, ↓preU, postU, D_all, F_all, unR, outL, onePV, binS, ↓binS, q03, ↓q03, q01, ↓q01, boxR, q0b, newObj, q05, q00, q07, q09, q0a, St.freeze, q02, q08, q04, BEq.rfl, reduceIte, reduceCtorEq, Nat.reduceLT, Nat.reduceAdd, Nat.reduceSub, Nat.reduceMul, Nat.reduceBEq, Nat.reduceLeDiff, Int.reduceToNat, Int.reduceLE, hQ, hat, hmn, z0, zi, hgi, ↓q1v, ↓q2p, hnx, hu, hltT, h6, Int.reduceEq, hlt1, hmore, zc, ht1, hgi2, hbl]
          rw [h6] at hfin
          exact ⟨htx1.2, hiv, hl, hfin⟩
        · have hst := step (by rw [hno, hbl])
          simp (maxSteps := 400000) only [↓preZ, postZ, coreZ, ↓preU, postU, D_all, F_all, unR, outL, onePV, binS, ↓binS, q03, ↓q03, q01, ↓q01, boxR, q0b, newObj, q05, q00, q07, q09, q0a, St.freeze, q02, q08, q04, BEq.rfl, reduceIte, reduceCtorEq, Nat.reduceLT, Nat.reduceAdd, Nat.reduceSub, Nat.reduceMul, Nat.reduceBEq, Nat.reduceLeDiff, Int.reduceToNat, Int.reduceLE, hQ, hat, hmn, z0, zi, hgi, ↓q1v, ↓q2p, hnx, hu, hltT, h6, Int.reduceEq, hlt1, hmore, zc, ht1, hgi2, hbl]
          simp only [h6] at hst
          exact ⟨htx1.2, hiv, hl, hst⟩
    · have hst := step (by cases qs <;> simp [qa4, h6])
      simp (maxSteps := 400000) only [↓preZ, postZ, coreZ, ↓preU, postU, D_all, F_all, unR, outL, onePV, binS, ↓binS, q03, ↓q03, q01, ↓q01, boxR, q0b, newObj, q05, q00, q07, q09, q0a, St.freeze, q02, q08, q04, BEq.rfl, reduceIte, reduceCtorEq, Nat.reduceLT, Nat.reduceAdd, Nat.reduceSub, Nat.reduceMul, Nat.reduceBEq, Nat.reduceLeDiff, Int.reduceToNat, Int.reduceLE, hQ, hat, hmn, z0, zi, hgi, ↓q1v, ↓q2p, hnx, hu, hltT, h6, hlt1]
      exact ⟨fun h5' => ⟨fun _ => ⟨htx1.2, hiv, hl, hst⟩, fun hne => absurd (good h5') hne⟩, fun _ => ⟨htx1.2, hiv, hl, hst⟩⟩
end Lp

/-! LpW19 -/

namespace Lp
open Go Go.Proofs
set_option maxHeartbeats 4000000
set_option maxRecDepth 20000
set_option linter.unusedSimpArgs false
theorem nxt_at (L : Nat) : ∀ (v : Vl) (k c i : Nat), nxt L v k = some c → i < c → ∃ k' c', nxt L (v.drop i) (k' + 1) = some c'
  | v, 0, c, i, h, hi => by rw [q8z] at h; cases h; omega
  | [], k + 1, c, i, h, hi => by simp [nxt] at h
  | n :: v, k + 1, c, 0, h, hi => ⟨k, c, by simpa using h⟩
  | n :: v, k + 1, c, i + 1, h, hi => by
    rw [nxt] at h
    split at h
    · cases h
    · cases hs : nxt L v (k + n.many.toNat) with
      | none => rw [hs] at h; simp at h
      | some c' =>
        rw [hs] at h
        simp only [Option.map_some, Option.some.injEq] at h
        simpa using nxt_at L v _ c' i hs (by omega)
def goodAt (v : Vl) (i : Nat) : Bool := match v.drop i with
  | n :: r => (match parts n.many.toNat r with | some ps => risB n.kind ps | none => false)
  | [] => true
theorem goodB_drop {v : Vl} {i : Nat} {n : Nd} (hi : v[i]? = some n) : goodB (v.drop i) = (q0m n && goodAt v i && goodB (v.drop (i + 1))) := by
  have hl := (List.getElem?_eq_some_iff.1 hi).1
  have hd := List.drop_eq_getElem_cons hl
  rw [List.getElem?_eq_getElem hl] at hi
  cases hi
  simp only [goodAt, hd, goodB]
  rfl
theorem riseAt_spec (v : Vl) (i : Int) (h0 : 0 ≤ i) (hi : i.toNat < v.length) (hs : Small v) (hn : nxt v.length v 1 = some v.length) :
    FnSpec Tryz.prog f_louperef02_rising [encV v, .int .i64 i] [] (.bool (goodAt v i.toNat)) [] := by
  obtain ⟨i, rfl⟩ : ∃ k : Nat, i = k := ⟨i.toNat, by omega⟩
  simp only [Int.toNat_natCast] at hi ⊢
  have hg := List.getElem?_eq_getElem hi
  have hd := List.drop_eq_getElem_cons hi
  generalize v[i] = n at hg hd
  obtain ⟨k', c', h'⟩ := nxt_at v.length v 1 _ i hn hi
  rw [Nat.add_comm] at h'
  obtain ⟨c1, _, h1, _, _⟩ := qa5 v.length _ 1 k' c' h'
  rw [hd, nxt] at h1
  split at h1
  · cases h1
  · rename_i hm
    cases hx : nxt v.length (v.drop (i + 1)) (0 + n.many.toNat) with
    | none => rw [hx] at h1; simp at h1
    | some c =>
      rw [Nat.zero_add] at hx
      obtain ⟨ps, hp, _, _⟩ := q2t _ _ _ (q8v _ _ _ _ hx)
      have := rising_spec v i n c hs hg (by omega) hx ps hp
      simp only [goodAt, hd, hp]
      exact this
def q42 : Ctr := fun args objs K => match args with
  | [a0, .int .i64 i] => ofE encV a0 (HK.mk : HK fun v => (0 ≤ i) ∧ (i.toNat < v.length) ∧ (Small v) ∧ (nxt v.length v 1 = some v.length) ∧ K (.bool (goodAt v i.toNat)) objs 0)
  | _ => False
theorem ctrRising_ok : CtrOk Tryz.prog f_louperef02_rising (q42) := by
  intro args objs K h
  unfold q42 at h
  split at h
  · rename_i a0 i
    obtain ⟨v, rfl, h1, h2, h3, h4, hk⟩ := h
    exact ⟨_, _, _, .pure _ rfl (riseAt_spec v i h1 h2 h3 h4), hk⟩
  · exact h.elim
theorem right_spec (v : Vl) (hs : Small v) : FnSpec Tryz.prog f_louperef02_Right [encV v] [] (.bool (q0x v)) [] := by
  have hl := hs.len
  refine k_louperef02_Right.pureG (T := tabL Tryz.prog [(f_louperef02_Next, q2p), (f_louperef02_plain, q5j), (f_louperef02_rising, q42)]) 0 hD (q0g (q0c ctrNext_ok (q0c ctrPlain_ok (q0c ctrRising_ok q0d)))) hmix (by decide) fun Q hQ => ?_
  try simp only [F_all]
  rcases Nat.eq_zero_or_pos v.length with hv | hv
  · have hr : q0x v = false := by
      have : v = [] := List.length_eq_zero_iff.1 hv
      rw [this]; rfl
    have hv' : ((v.length : Int) = 0) = True := eq_true (by omega)
    simp (maxSteps := 400000) only [↓preZ, postZ, coreZ, ↓preU, postU, D_all, F_all, unR, outL, onePV, binS, ↓binS, q03, ↓q03, q01, ↓q01, boxR, q0b, newObj, q05, q00, q07, q09, q0a, St.freeze, q02, q08, q04, BEq.rfl, reduceIte, reduceCtorEq, Nat.reduceLT, Nat.reduceAdd, Nat.reduceSub, Nat.reduceMul, Nat.reduceBEq, Nat.reduceLeDiff, Int.reduceToNat, Int.reduceLE, hQ, q18, hr, hv']
  have hv' : ((v.length : Int) = 0) = False := eq_false (by omega)
  obtain ⟨n0, r0, hvr⟩ : ∃ n r, v = n :: r := by
    cases v with
    | nil => simp at hv
    | cons n r => exact ⟨n, r, rfl⟩
  have hg0 : v[0]? = some n0 := by rw [hvr]; rfl
  have hnm : nameOf v = n0.name := by rw [hvr]; rfl
  have hne : v.isEmpty = false := by rw [hvr]; rfl
  by_cases hname : n0.name = []
  rotate_left 1
  · have hr : q0x v = false := by simp [q0x, hnm, hname]
    simp (maxSteps := 400000) only [↓preZ, postZ, coreZ, ↓preU, postU, D_all, F_all, unR, outL, onePV, binS, ↓binS, q03, ↓q03, q01, ↓q01, boxR, q0b, newObj, q05, q00, q07, q09, q0a, St.freeze, q02, q08, q04, BEq.rfl, reduceIte, reduceCtorEq, Nat.reduceLT, Nat.reduceAdd, Nat.reduceSub, Nat.reduceMul, Nat.reduceBEq, Nat.reduceLeDiff, Int.reduceToNat, Int.reduceLE, hQ, q18, hr, hv', hg0, hname]
  have hz : Int.toNat 0 = 0 := rfl
  by_cases hnx : nextI v 0 = (v.length : Int)
  rotate_left 1
  · have hr : q0x v = false := by
      have : nxt v.length v 1 ≠ some v.length := fun h => hnx (by rw [nextI_of (i := 0) (by simpa using h)]; simp)
      simp [q0x, this]
    simp (maxSteps := 400000) only [↓preZ, postZ, coreZ, ↓preU, postU, D_all, F_all, unR, outL, onePV, binS, ↓binS, q03, ↓q03, q01, ↓q01, boxR, q0b, newObj, q05, q00, q07, q09, q0a, St.freeze, q02, q08, q04, BEq.rfl, reduceIte, reduceCtorEq, Nat.reduceLT, Nat.reduceAdd, Nat.reduceSub, Nat.reduceMul, Nat.reduceBEq, Nat.reduceLeDiff, Int.reduceToNat, Int.reduceLE, hQ, q18, hr, hv', hg0, hname, ↓q2p, hnx]
    exact ⟨by omega, hl⟩
  have hn : nxt v.length v 1 = some v.length := by
    unfold nextI at hnx
    rw [List.drop_zero] at hnx
    cases hx : nxt v.length v 1 with
    | none => rw [hx] at hnx; simp only at hnx; omega
    | some c => rw [hx] at hnx; simp only at hnx; congr 1; omega
  have hr : q0x v = goodB v := by simp [q0x, hnm, hname, hn, hne]
  simp (maxSteps := 400000) only [↓preZ, postZ, coreZ, ↓preU, postU, D_all, F_all, unR, outL, onePV, binS, ↓binS, q03, ↓q03, q01, ↓q01, boxR, q0b, newObj, q05, q00, q07, q09, q0a, St.freeze, q02, q08, q04, BEq.rfl, reduceIte, reduceCtorEq, Nat.reduceLT, Nat.reduceAdd, Nat.reduceSub, Nat.reduceMul, Nat.reduceBEq, Nat.reduceLeDiff, Int.reduceToNat, Int.reduceLE, hQ, q18, hv', hg0, hname, ↓q2p, hnx]
  refine ⟨by omega, hl, ?_⟩
  refine q0t (fun m S => ∃ i : Nat, i + m = v.length ∧ goodB (v.drop i) = goodB v ∧ S = ⟨tmA 39 [(0, encV v), (3, .int .i64 i)], []⟩) v.length ⟨0, by omega, rfl, ?_⟩ ?_
  · simp only [normR, keepR, Nat.reduceAdd, lkR, Nat.reduceBEq, F_all, List.map_nil]
    rfl
  rintro m S ⟨i, him, hgd, rfl⟩
  rcases Nat.lt_or_ge i v.length with h | h
  · have hg := List.getElem?_eq_getElem h
    have htx := hs.txt _ (List.getElem_mem h)
    generalize v[i] = n at hg htx
    have hd := goodB_drop hg
    rw [hgd] at hd
    have zi : (0 ≤ (i : Int)) = True := eq_true (by omega)
    have hlt : ((i : Int) < (v.length : Int)) = True := eq_true (by omega)
    cases hp : q0m n
    · have hr2 : q0x v = false := by rw [hr, hd, hp]; rfl
      simp (maxSteps := 400000) only [↓preZ, postZ, coreZ, ↓preU, postU, D_all, F_all, unR, outL, onePV, binS, ↓binS, q03, ↓q03, q01, ↓q01, boxR, q0b, newObj, q05, q00, q07, q09, q0a, St.freeze, q02, q08, q04, BEq.rfl, reduceIte, reduceCtorEq, Nat.reduceLT, Nat.reduceAdd, Nat.reduceSub, Nat.reduceMul, Nat.reduceBEq, Nat.reduceLeDiff, Int.reduceToNat, Int.reduceLE, hQ, hg, ↓q5j, ↓q42, hp, zi, hlt, hr2]
      exact htx.1
    cases hq : goodAt v i
    · have hr2 : q0x v = false := by rw [hr, hd, hp, hq]; rfl
      simp (maxSteps := 400000) only [↓preZ, postZ, coreZ, ↓preU, postU, D_all, F_all, unR, outL, onePV, binS, ↓binS, q03, ↓q03, q01, ↓q01, boxR, q0b, newObj, q05, q00, q07, q09, q0a, St.freeze, q02, q08, q04, BEq.rfl, reduceIte, reduceCtorEq, Nat.reduceLT, Nat.reduceAdd, Nat.reduceSub, Nat.reduceMul, Nat.reduceBEq, Nat.reduceLeDiff, Int.reduceToNat, Int.reduceLE, hQ, hg, ↓q5j, ↓q42, hp, hq, zi, hlt, hr2]
      exact ⟨htx.1, h, hs, hn⟩
    · simp (maxSteps := 400000) only [↓preZ, postZ, coreZ, ↓preU, postU, D_all, F_all, unR, outL, onePV, binS, ↓binS, q03, ↓q03, q01, ↓q01, boxR, q0b, newObj, q05, q00, q07, q09, q0a, St.freeze, q02, q08, q04, BEq.rfl, reduceIte, reduceCtorEq, Nat.reduceLT, Nat.reduceAdd, Nat.reduceSub, Nat.reduceMul, Nat.reduceBEq, Nat.reduceLeDiff, Int.reduceToNat, Int.reduceLE, hQ, hg, ↓q5j, ↓q42, hp, hq, zi, hlt]
      refine ⟨htx.1, h, hs, hn, ⟨by omega, by omega⟩, m - 1, by omega, i + 1, by omega, ?_, by simp⟩
      rw [hd, hp, hq]; simp
  · have hlt : ((i : Int) < (v.length : Int)) = False := eq_false (by omega)
    simp (maxSteps := 400000) only [↓preZ, postZ, coreZ, ↓preU, postU, D_all, F_all, unR, outL, onePV, binS, ↓binS, q03, ↓q03, q01, ↓q01, boxR, q0b, newObj, q05, q00, q07, q09, q0a, St.freeze, q02, q08, q04, BEq.rfl, reduceIte, reduceCtorEq, Nat.reduceLT, Nat.reduceAdd, Nat.reduceSub, Nat.reduceMul, Nat.reduceBEq, Nat.reduceLeDiff, Int.reduceToNat, Int.reduceLE, hQ, hlt]
    rw [hr, ← hgd, List.drop_eq_nil_of_le h]; rfl
def q90 : Ctr := fun args objs K => match args with
  | [a0] => ofE encV a0 (HK.mk : HK fun v => (Small v) ∧ K (.bool (q0x v)) objs 0)
  | _ => False
theorem ctrRight_ok : CtrOk Tryz.prog f_louperef02_Right (q90) := by
  intro args objs K h
  unfold q90 at h
  split at h
  · rename_i a0
    obtain ⟨v, rfl, h1, hk⟩ := h
    exact ⟨_, _, _, .pure _ rfl (right_spec v h1), hk⟩
  · exact h.elim
def shortN (n : Nd) : Bool := decide (n.s.length ≤ 200) && decide (n.name.length ≤ 200)
theorem few_spec (v : Vl) (k : Nat) (hk : k ≤ 1000000) (hs : v.length ≤ 4611686018427387904) (htx : ∀ n ∈ v, n.s.length ≤ 4611686018427387904 ∧ n.name.length ≤ 4611686018427387904) : FnSpec Tryz.prog f_louperef02_Few [encV v, .int .i64 k] [] (.bool (fewB v k)) [] := by
  refine k_louperef02_Few.pureG (T := tabL Tryz.prog [(f_louperef02_Right, q90)]) 0 hD (q0g (q0c ctrRight_ok q0d)) hmix (by decide) fun Q hQ => ?_
  try simp only [F_all]
  rcases Nat.lt_or_ge k v.length with hlen | hlen
  · have hr : fewB v k = false := by
      have : decide (v.length ≤ k) = false := by simp; omega
      simp [fewB, this]
    have hlt : ((k : Int) < (v.length : Int)) = True := eq_true (by omega)
    simp (maxSteps := 400000) only [↓preZ, postZ, coreZ, ↓preU, postU, D_all, F_all, unR, outL, onePV, binS, ↓binS, q03, ↓q03, q01, ↓q01, boxR, q0b, newObj, q05, q00, q07, q09, q0a, St.freeze, q02, q08, q04, BEq.rfl, reduceIte, reduceCtorEq, Nat.reduceLT, Nat.reduceAdd, Nat.reduceSub, Nat.reduceMul, Nat.reduceBEq, Nat.reduceLeDiff, Int.reduceToNat, Int.reduceLE, hQ, q2o, hr, hlt]
  have hlt : ((k : Int) < (v.length : Int)) = False := eq_false (by omega)
  have hr : fewB v k = (v.all shortN && q0x v) := by
    have : decide (v.length ≤ k) = true := by simpa using hlen
    simp only [fewB, this, Bool.true_and]
    rfl
  have hsm : Small v := ⟨by omega, htx⟩
  simp (maxSteps := 400000) only [↓preZ, postZ, coreZ, ↓preU, postU, D_all, F_all, unR, outL, onePV, binS, ↓binS, q03, ↓q03, q01, ↓q01, boxR, q0b, newObj, q05, q00, q07, q09, q0a, St.freeze, q02, q08, q04, BEq.rfl, reduceIte, reduceCtorEq, Nat.reduceLT, Nat.reduceAdd, Nat.reduceSub, Nat.reduceMul, Nat.reduceBEq, Nat.reduceLeDiff, Int.reduceToNat, Int.reduceLE, hQ, q2o, hlt]
  refine q0t (fun m S => ∃ i : Nat, i + m = v.length ∧ (v.drop i).all shortN = v.all shortN ∧ S = ⟨tmA 34 [(0, encV v), (5, .int .i64 i)], []⟩) v.length ⟨0, by omega, rfl, ?_⟩ ?_
  · simp only [normR, keepR, Nat.reduceAdd, lkR, Nat.reduceBEq, F_all, List.map_nil]
    rfl
  rintro m S ⟨i, him, hal, rfl⟩
  rcases Nat.lt_or_ge i v.length with h | h
  · have hg := List.getElem?_eq_getElem h
    have hd := List.drop_eq_getElem_cons h
    generalize v[i] = n at hg hd
    have zi : (0 ≤ (i : Int)) = True := eq_true (by omega)
    have hlt : ((i : Int) < (v.length : Int)) = True := eq_true (by omega)
    rw [hd, List.all_cons] at hal
    by_cases h1 : n.s.length ≤ 200
    rotate_left 1
    · have e1 : ((200 : Int) < (n.s.length : Int)) = True := eq_true (by omega)
      have hr2 : fewB v k = false := by rw [hr, ← hal]; simp [shortN, h1]
      simp (maxSteps := 400000) only [↓preZ, postZ, coreZ, ↓preU, postU, D_all, F_all, unR, outL, onePV, binS, ↓binS, q03, ↓q03, q01, ↓q01, boxR, q0b, newObj, q05, q00, q07, q09, q0a, St.freeze, q02, q08, q04, BEq.rfl, reduceIte, reduceCtorEq, Nat.reduceLT, Nat.reduceAdd, Nat.reduceSub, Nat.reduceMul, Nat.reduceBEq, Nat.reduceLeDiff, Int.reduceToNat, Int.reduceLE, hQ, hg, zi, hlt, e1, hr2]
    have e1 : ((200 : Int) < (n.s.length : Int)) = False := eq_false (by omega)
    by_cases h2 : n.name.length ≤ 200
    rotate_left 1
    · have e2 : ((200 : Int) < (n.name.length : Int)) = True := eq_true (by omega)
      have hr2 : fewB v k = false := by rw [hr, ← hal]; simp [shortN, h2]
      simp (maxSteps := 400000) only [↓preZ, postZ, coreZ, ↓preU, postU, D_all, F_all, unR, outL, onePV, binS, ↓binS, q03, ↓q03, q01, ↓q01, boxR, q0b, newObj, q05, q00, q07, q09, q0a, St.freeze, q02, q08, q04, BEq.rfl, reduceIte, reduceCtorEq, Nat.reduceLT, Nat.reduceAdd, Nat.reduceSub, Nat.reduceMul, Nat.reduceBEq, Nat.reduceLeDiff, Int.reduceToNat, Int.reduceLE, hQ, hg, zi, hlt, e1, e2, hr2]
    have e2 : ((200 : Int) < (n.name.length : Int)) = False := eq_false (by omega)
    simp (maxSteps := 400000) only [↓preZ, postZ, coreZ, ↓preU, postU, D_all, F_all, unR, outL, onePV, binS, ↓binS, q03, ↓q03, q01, ↓q01, boxR, q0b, newObj, q05, q00, q07, q09, q0a, St.freeze, q02, q08, q04, BEq.rfl, reduceIte, reduceCtorEq, Nat.reduceLT, Nat.reduceAdd, Nat.reduceSub, Nat.reduceMul, Nat.reduceBEq, Nat.reduceLeDiff, Int.reduceToNat, Int.reduceLE, hQ, hg, zi, hlt, e1, e2]
    refine ⟨⟨by omega, by omega⟩, m - 1, by omega, i + 1, by omega, ?_, by simp⟩
    rw [← hal]; simp [shortN, h1, h2]
  · have hlt : ((i : Int) < (v.length : Int)) = False := eq_false (by omega)
    have hr2 : fewB v k = q0x v := by
      rw [hr, ← hal, List.drop_eq_nil_of_le h]; rfl
    simp (maxSteps := 400000) only [↓preZ, postZ, coreZ, ↓preU, postU, D_all, F_all, unR, outL, onePV, binS, ↓binS, q03, ↓q03, q01, ↓q01, boxR, q0b, newObj, q05, q00, q07, q09, q0a, St.freeze, q02, q08, q04, BEq.rfl, reduceIte, reduceCtorEq, Nat.reduceLT, Nat.reduceAdd, Nat.reduceSub, Nat.reduceMul, Nat.reduceBEq, Nat.reduceLeDiff, Int.reduceToNat, Int.reduceLE, hQ, hlt, ↓q90, hr2]
    exact hsm
theorem few_spec' (v : Vl) (k : Int) (hk : 0 ≤ k ∧ k ≤ 1000000) (hs : v.length ≤ 4611686018427387904) (htx : ∀ n ∈ v, n.s.length ≤ 4611686018427387904 ∧ n.name.length ≤ 4611686018427387904) : FnSpec Tryz.prog f_louperef02_Few [encV v, .int .i64 k] [] (.bool (fewB v k.toNat)) [] := by
  have e : k = (k.toNat : Int) := by omega
  rw [e]
  exact few_spec v k.toNat (by omega) hs htx
def q61 : Ctr := fun args objs K => match args with
  | [a0, .int .i64 k] => ofE encV a0 (HK.mk : HK fun v => (0 ≤ k ∧ k ≤ 1000000) ∧ (v.length ≤ 4611686018427387904) ∧ (∀ n ∈ v, n.s.length ≤ 4611686018427387904 ∧ n.name.length ≤ 4611686018427387904) ∧ K (.bool (fewB v k.toNat)) objs 0)
  | _ => False
theorem ctrFew_ok : CtrOk Tryz.prog f_louperef02_Few (q61) := by
  intro args objs K h
  unfold q61 at h
  split at h
  · rename_i a0 k
    obtain ⟨v, rfl, h1, h2, h3, hk⟩ := h
    exact ⟨_, _, _, .pure _ rfl (few_spec' v k h1 h2 h3), hk⟩
  · exact h.elim
theorem all_spec (l : List Vl) (k : Nat) (hk : k ≤ 1000000) (hs : l.length ≤ 1152921504606846976) (htx : ∀ v ∈ l, v.length ≤ 1152921504606846976 ∧ ∀ n ∈ v, n.s.length ≤ 4611686018427387904 ∧ n.name.length ≤ 4611686018427387904) : FnSpec Tryz.prog f_louperef02_All [encL l, .int .i64 k] [] (.bool (allB l k)) [] := by
  refine k_louperef02_All.pureG (T := tabL Tryz.prog [(f_louperef02_Few, q61)]) 0 hD (q0g (q0c ctrFew_ok q0d)) hmix (by decide) fun Q hQ => ?_
  try simp only [F_all]
  simp (maxSteps := 400000) only [↓preZ, postZ, coreZ, ↓preU, postU, D_all, F_all, unR, outL, onePV, binS, ↓binS, q03, ↓q03, q01, ↓q01, boxR, q0b, newObj, q05, q00, q07, q09, q0a, St.freeze, q02, q08, q04, BEq.rfl, reduceIte, reduceCtorEq, Nat.reduceLT, Nat.reduceAdd, Nat.reduceSub, Nat.reduceMul, Nat.reduceBEq, Nat.reduceLeDiff, Int.reduceToNat, Int.reduceLE, hQ, q4q]
  refine q0t (fun m S => ∃ (i s : Nat), i + m = l.length ∧ s + ((l.drop i).map List.length).sum = l.length + (l.map List.length).sum ∧ (i = 0 ∨ s ≤ k) ∧ s ≤ l.length + k ∧ (l.take i).all (fewB · k) = true ∧
    S = ⟨tmA 37 [(0, encL l), (1, .int .i64 k), (5, .int .i64 s), (6, .int .i64 i)], []⟩) l.length ⟨0, l.length, by omega, rfl, .inl rfl, by omega, by simp, ?_⟩ ?_
  · simp only [normR, keepR, Nat.reduceAdd, lkR, Nat.reduceBEq, F_all, List.map_nil]
    rfl
  rintro m S ⟨i, s, him, hsum, hsk, hsk2, hal, rfl⟩
  have hallN : ∀ q : List Vl, allN q = q.length + (q.map List.length).sum := by
    intro q
    induction q with
    | nil => rfl
    | cons x q ih => simp only [allN, ih, List.length_cons, List.map_cons, List.sum_cons]; omega
  have hN : allN l = s + ((l.drop i).map List.length).sum := by rw [hallN]; omega
  rcases Nat.lt_or_ge i l.length with h | h
  · have hg := List.getElem?_eq_getElem h
    have hd := List.drop_eq_getElem_cons h
    have hx := htx _ (List.getElem_mem h)
    have htk : l.take (i + 1) = l.take i ++ [l[i]] := by rw [List.take_add_one, hg]; rfl
    have hmem : l[i] ∈ l := List.getElem_mem h
    generalize l[i] = x at hg hd hx htk hmem
    have zi : (0 ≤ (i : Int)) = True := eq_true (by omega)
    have hlt : ((i : Int) < (l.length : Int)) = True := eq_true (by omega)
    rw [hd, List.map_cons, List.sum_cons] at hsum hN
    by_cases h1 : s + x.length ≤ k
    rotate_left 1
    · have e1 : ((k : Int) < (s : Int) + (x.length : Int)) = True := eq_true (by omega)
      have hr2 : allB l k = false := by
        have : decide (allN l ≤ k) = false := by simp; omega
        simp [allB, this]
      simp (maxSteps := 400000) only [↓preZ, postZ, coreZ, ↓preU, postU, D_all, F_all, unR, outL, onePV, binS, ↓binS, q03, ↓q03, q01, ↓q01, boxR, q0b, newObj, q05, q00, q07, q09, q0a, St.freeze, q02, q08, q04, BEq.rfl, reduceIte, reduceCtorEq, Nat.reduceLT, Nat.reduceAdd, Nat.reduceSub, Nat.reduceMul, Nat.reduceBEq, Nat.reduceLeDiff, Int.reduceToNat, Int.reduceLE, hQ, hg, zi, hlt, e1, hr2]
      exact ⟨by omega, by omega⟩
    have e1 : ((k : Int) < (s : Int) + (x.length : Int)) = False := eq_false (by omega)
    cases hf : fewB x k
    · have hr2 : allB l k = false := by
        have : l.all (fewB · k) = false := by
          rw [List.all_eq_false]
          exact ⟨x, hmem, by simp [hf]⟩
        simp [allB, this]
      simp (maxSteps := 400000) only [↓preZ, postZ, coreZ, ↓preU, postU, D_all, F_all, unR, outL, onePV, binS, ↓binS, q03, ↓q03, q01, ↓q01, boxR, q0b, newObj, q05, q00, q07, q09, q0a, St.freeze, q02, q08, q04, BEq.rfl, reduceIte, reduceCtorEq, Nat.reduceLT, Nat.reduceAdd, Nat.reduceSub, Nat.reduceMul, Nat.reduceBEq, Nat.reduceLeDiff, Int.reduceToNat, Int.reduceLE, hQ, hg, zi, hlt, e1, hr2, ↓q61, hf]
      exact ⟨⟨by omega, by omega⟩, ⟨by omega, by omega⟩, by omega, hx.2⟩
    · simp (maxSteps := 400000) only [↓preZ, postZ, coreZ, ↓preU, postU, D_all, F_all, unR, outL, onePV, binS, ↓binS, q03, ↓q03, q01, ↓q01, boxR, q0b, newObj, q05, q00, q07, q09, q0a, St.freeze, q02, q08, q04, BEq.rfl, reduceIte, reduceCtorEq, Nat.reduceLT, Nat.reduceAdd, Nat.reduceSub, Nat.reduceMul, Nat.reduceBEq, Nat.reduceLeDiff, Int.reduceToNat, Int.reduceLE, hQ, hg, zi, hlt, e1, ↓q61, hf]
      refine ⟨⟨by omega, by omega⟩, ⟨by omega, by omega⟩, by omega, hx.2, ⟨by omega, by omega⟩, m - 1, by omega, i + 1, s + x.length, by omega, by omega, .inr h1, by omega, ?_, by simp⟩
      rw [htk, List.all_append, hal]; simp [hf]
  · have hlt : ((i : Int) < (l.length : Int)) = False := eq_false (by omega)
    simp (maxSteps := 400000) only [↓preZ, postZ, coreZ, ↓preU, postU, D_all, F_all, unR, outL, onePV, binS, ↓binS, q03, ↓q03, q01, ↓q01, boxR, q0b, newObj, q05, q00, q07, q09, q0a, St.freeze, q02, q08, q04, BEq.rfl, reduceIte, reduceCtorEq, Nat.reduceLT, Nat.reduceAdd, Nat.reduceSub, Nat.reduceMul, Nat.reduceBEq, Nat.reduceLeDiff, Int.reduceToNat, Int.reduceLE, hQ, hlt]
    rw [List.drop_eq_nil_of_le h] at hN
    simp only [List.map_nil, List.sum_nil, Nat.add_zero] at hN
    rw [List.take_of_length_le h] at hal
    have : allB l k = decide (allN l ≤ k) := by simp [allB, hal]
    rw [this, hN]
    exact decide_eq_decide.2 (by omega)
end Lp

/-! LpX -/

namespace Lp
open Go
def Rd (P : Program) (t : TypeId) {α : Type} (enc : α → PV) (good : α → Prop) : Prop :=
  ∀ {H : Type} (eh : TypeId × Value → H) (w : World) (fuel : Nat) (cs : List Value) (x : DataW H × List MemPlace), DataW.trod eh P w 0 (fun _ => true) true fuel t cs = some x →
    (∀ n ∈ DataW.weights P t x.1, n ≤ reachBytes) → ∃ a : α, good a ∧ RepL (Rep w (fun _ => True)) (enc a).cells cs
variable {P : Program}
theorem q5k {R : PV → Value → Prop} {p : PV} {v : Value} (h : R p v) : RepL R [p] [v] :=
  ⟨rfl, fun i q u h1 h2 => by
    cases i with
    | zero => simp at h1 h2; subst h1; subst h2; exact h
    | succ i => simp at h1⟩
theorem Rd.int {t : TypeId} {k : IntKind} (ht : P.underlying t = some (.int k)) : Rd P t (.int k) (inR k) := by
  intro H eh w fuel cs x h _
  obtain ⟨n, rfl, rfl, hw⟩ := DataW.trod_int ht h
  refine ⟨n, ?_, q5k (.int k n)⟩
  simp only [Lit.wf, Bool.and_eq_true, decide_eq_true_eq] at hw
  cases k <;> simp only [IntKind.min, IntKind.max, IntKind.signed, IntKind.bits, inR] at hw ⊢ <;> first | exact ⟨by simpa using hw.1, by simpa using hw.2⟩ | (simp at hw; omega)
theorem Rd.bool {t : TypeId} (ht : P.underlying t = some .bool) : Rd P t PV.bool (fun _ => True) := by
  intro H eh w fuel cs x h _
  obtain ⟨b, rfl, rfl⟩ := DataW.trod_bool ht h
  exact ⟨b, trivial, q5k (.bool b)⟩
theorem Rd.str {t : TypeId} (ht : P.underlying t = some .string) : Rd P t PV.str (fun s => s.length ≤ reachBytes) := by
  intro H eh w fuel cs x h hw
  obtain ⟨s, rfl, rfl, _⟩ := DataW.trod_string ht h
  refine ⟨s.data.toList, hw _ ?_, q5k (rep_str w _ s)⟩
  rw [DataW.weights]; simp
theorem Rd.slice {t e : TypeId} {α : Type} [Inhabited α] {enc : α → PV} {good : α → Prop} {sz : Nat} (ht : P.underlying t = some (.slice e)) (he : Rd P e enc good) (hsz : P.cellsOf e = sz) (hpos : sz ≠ 0) (hc : ∀ a, (enc a).cells.length = sz) :
    Rd P t (fun l : List α => .sl sz (l.map enc) none) (fun l => l.length * P.bytesOf e ≤ reachBytes ∧ ∀ a ∈ l, good a) := by
  intro H eh w fuel cs x h hw
  rcases Go.Deep.open_slice ht h with ⟨rfl, rfl⟩ | ⟨a, len, cap, m, n, D, Pl, rfl, hb, hl, hm, hmm, rfl, hx⟩
  · exact ⟨[], by simp, q5k (.slnil _ _ (by simp))⟩
  · simp only [if_true] at hmm
    subst hmm
    have hwt : ∀ i, i < len → ∀ n ∈ DataW.weights P e (D i), n ≤ reachBytes := by
      intro i hi n hn
      refine hw n ?_
      rw [DataW.weights, ht]
      simp only [List.mem_cons, List.mem_append]
      right; left
      have key : ∀ (l : List (DataW H)) d, d ∈ l → n ∈ DataW.weights P e d → n ∈ DataW.weightsAll P e l := by
        intro l
        induction l with
        | nil => intro d hd; cases hd
        | cons y ys ih =>
          intro d hd hn
          rw [DataW.weightsAll, List.mem_append]
          rcases List.mem_cons.1 hd with rfl | hd
          · exact .inl hn
          · exact .inr (ih d hd hn)
      exact key _ (D i) (List.mem_map.2 ⟨i, List.mem_range.2 hi, rfl⟩) hn
    have hlen : (len : Nat) * P.bytesOf e ≤ reachBytes := by
      have := hw ((((List.range len).map D).length + ((List.range (m - len)).map fun j => D (len + j)).length) * P.bytesOf e) (by rw [DataW.weights, ht]; exact List.mem_cons_self)
      simp only [List.length_map, List.length_range] at this
      exact Nat.le_trans (Nat.mul_le_mul_right _ (by omega)) this
    obtain ⟨f, hf⟩ : ∃ f : Nat → α × List Value, ∀ i, i < len → good (f i).1 ∧ w.cells? 0 (a.add (i * P.cellsOf e)) (P.cellsOf e) = some (f i).2 ∧ RepL (Rep w (fun _ => True)) (enc (f i).1).cells (f i).2 := by
      have hex : ∀ i, i < len → ∃ y : α × List Value, good y.1 ∧ w.cells? 0 (a.add (i * P.cellsOf e)) (P.cellsOf e) = some y.2 ∧ RepL (Rep w (fun _ => True)) (enc y.1).cells y.2 := by
        intro i hi
        obtain ⟨cs', h1, h2⟩ := hx i (by omega)
        obtain ⟨y, g1, g2⟩ := he eh w n cs' _ h2 (hwt i hi)
        exact ⟨(y, cs'), g1, h1, g2⟩
      exact Go.Deep.choose_lt hex
    rcases Nat.eq_zero_or_pos len with h0 | h0
    · subst h0
      exact ⟨[], by simp, q5k (.slz _ _ (by simp) a m hm)⟩
    have hspot : a.spot = none := by
      obtain ⟨_, h2, h3⟩ := hf 0 h0
      obtain ⟨_, g1, g2⟩ := World.cells?_some h2
      have := g2 0 (by omega)
      rw [List.getElem?_eq_getElem (by omega)] at this
      have := World.cell?_spot this
      simpa [Addr.add] using this
    obtain ⟨b, off, spot⟩ := a
    simp only at hspot
    subst hspot
    have hcells : ∀ i, i < len → ∀ j, j < sz → w.cell? ⟨b, off + i * sz + j, none⟩ = (f i).2[j]? := by
      intro i hi j hj
      obtain ⟨_, h2, _⟩ := hf i hi
      obtain ⟨_, _, g2⟩ := World.cells?_some h2
      have := g2 j (by omega)
      rw [hsz, add_lit, add_lit] at this
      exact this
    have hget : ∀ (i : Nat) (x : PV), (((List.range len).map fun i => (f i).1).map enc)[i]? = some x → i < len ∧ x = enc (f i).1 := by
      intro i x hx
      have hi : i < len := by
        have := (List.getElem?_eq_some_iff.1 hx).1
        simpa using this
      rw [List.getElem?_map, List.getElem?_map, List.getElem?_range hi] at hx
      simp only [Option.map_some, Option.some.injEq] at hx
      exact ⟨hi, hx.symm⟩
    have hL : (((List.range len).map fun i => (f i).1).map enc).length = len := by simp
    refine ⟨(List.range len).map fun i => (f i).1, ⟨by simpa using hlen, fun y hy => ?_⟩, q5k ?_⟩
    · obtain ⟨i, hi, rfl⟩ := List.mem_map.1 hy
      exact (hf i (List.mem_range.1 hi)).1
    · have : Rep w (fun _ => True) (.sl sz (((List.range len).map fun i => (f i).1).map enc) none) (.slice (some ⟨b, off, none⟩) (((List.range len).map fun i => (f i).1).map enc).length m) := by
        refine .sl sz _ none (by simp) b off m (fun i j => (f i).2.getD j undef) (fun _ => ⟨trivial, ?_⟩) (by rw [hL]; exact hl) hm (fun i x hx => ?_) (fun i x j p hx hp => ?_) (fun i x j p hx hp => ?_)
        · have := hcells 0 h0 0 (by omega)
          obtain ⟨_, h2, _⟩ := hf 0 h0
          obtain ⟨_, g1, _⟩ := World.cells?_some h2
          rw [List.getElem?_eq_getElem (by omega)] at this
          unfold World.cell? at this
          simp only at this
          cases hb' : w.heap[b]? with
          | none => rw [hb'] at this; simp at this
          | some o => exact (Array.getElem?_eq_some_iff.1 hb').1
        · obtain ⟨_, rfl⟩ := hget i x hx
          exact hc _
        · obtain ⟨hi, rfl⟩ := hget i x hx
          have hj : j < sz := by rw [← hc (f i).1]; exact (List.getElem?_eq_some_iff.1 hp).1
          rw [hcells i hi j hj]
          obtain ⟨_, h2, _⟩ := hf i hi
          obtain ⟨_, g1, _⟩ := World.cells?_some h2
          rw [List.getD_eq_getElem?_getD, List.getElem?_eq_getElem (by omega)]
          rfl
        · obtain ⟨hi, rfl⟩ := hget i x hx
          have hj : j < sz := by rw [← hc (f i).1]; exact (List.getElem?_eq_some_iff.1 hp).1
          obtain ⟨_, h2, h3⟩ := hf i hi
          obtain ⟨_, g1, _⟩ := World.cells?_some h2
          exact h3.2 j p _ hp (by rw [List.getD_eq_getElem?_getD, List.getElem?_eq_getElem (by omega)]; rfl)
      rw [hL] at this
      exact this
theorem weightsEach_mem {H : Type} {n : Nat} : ∀ (ts : List TypeId) (ds : List (DataW H)) (i : Nat) (t : TypeId) (d : DataW H), ts[i]? = some t → ds[i]? = some d → n ∈ DataW.weights P t d → n ∈ DataW.weightsEach P ts ds
  | [], _, i, t, d, h, _, _ => by simp at h
  | _ :: _, [], i, t, d, _, h, _ => by simp at h
  | t' :: ts, d' :: ds, i, t, d, h1, h2, hn => by
    rw [DataW.weightsEach, List.mem_append]
    cases i with
    | zero => simp at h1 h2; subst h1; subst h2; exact .inl hn
    | succ i => exact .inr (weightsEach_mem ts ds i t d (by simpa using h1) (by simpa using h2) hn)
theorem struct_parts {H : Type} {eh : TypeId × Value → H} {w : World} {fuel : Nat} {t : TypeId} {fs : Array Field} {cs : List Value} {x : DataW H × List MemPlace} (ht : P.underlying t = some (.struct fs))
    (h : DataW.trod eh P w 0 (fun _ => true) true fuel t cs = some x) (hw : ∀ n ∈ DataW.weights P t x.1, n ≤ reachBytes) :
    cs.length = P.cellsOf t ∧ ∀ (i off : Nat) (e : TypeId), (fs.toList.map fun f => (f.offset, f.type))[i]? = some (off, e) → ∃ n y, DataW.trod eh P w 0 (fun _ => true) true n e ((cs.drop off).take (P.cellsOf e)) = some y ∧ (∀ m ∈ DataW.weights P e y.1, m ≤ reachBytes) := by
  obtain ⟨xs, n, _, rfl, hl, hlen, hf⟩ := DataW.trod_struct ht h
  refine ⟨hl, fun i off e he => ?_⟩
  rw [List.getElem?_map] at he
  cases hfi : fs.toList[i]? with
  | none => rw [hfi] at he; simp at he
  | some f =>
    rw [hfi] at he
    simp only [Option.map_some, Option.some.injEq, Prod.mk.injEq] at he
    obtain ⟨rfl, rfl⟩ := he
    have hfi' : fs[i]? = some f := by simpa using hfi
    have hi : i < xs.length := by rw [hlen]; exact (Array.getElem?_eq_some_iff.1 hfi').1
    have h1 := hf i f hfi'
    rw [List.getElem?_eq_getElem hi] at h1
    refine ⟨n, xs[i], h1, fun m hm => hw m ?_⟩
    rw [DataW.weights, ht]
    exact weightsEach_mem _ _ i f.type xs[i].1 (by rw [List.getElem?_map, hfi]; rfl) (by rw [List.getElem?_map, List.getElem?_eq_getElem hi]; rfl) hm
theorem q73 {H : Type} {eh : TypeId × Value → H} (hl : laidOutB P = true) {W W' : World} (hb : ∀ b, b < W.heap.size → W'.heap[b]? = W.heap[b]?) :
    ∀ (ts : List TypeId) (vs : List Value) (ds : List (DataW H)) (ps : List MemPlace), (∀ t ∈ ts, P.readableRec t = true ∧ t < P.types.size) → DataW.TrodAll eh P W 0 (fun _ => true) true ts vs ds ps →
      DataW.TrodAll eh P W' 0 (fun b => decide (b < W.heap.size)) true ts vs ds ps
  | [], [], [], ps, _, h => h
  | t :: ts, v :: vs, d :: ds, ps, hr, ⟨p, q, h1, h2, h3⟩ => by
    have hlt : ∀ x ∈ p, x.block < W.heap.size := by obtain ⟨m, hm⟩ := h1; exact DataW.trod_lt m _ _ _ hm
    refine ⟨p, q, Go.WideElems.Trod_stays hl (hr t (by simp)).1 (hr t (by simp)).2 h1 (fun x hx => ?_) (fun x hx => by simpa using hlt x hx), q73 hl hb ts vs ds q (fun t ht => hr t (by simp [ht])) h2, h3⟩
    cases x with
    | cell b o => exact World.cell?_of_block (w := W) (hb b (hlt _ hx))
    | map b => exact hb b (hlt _ hx)
  | [], _ :: _, _, _, _, h => h.elim
  | [], [], _ :: _, _, _, h => h.elim
  | _ :: _, [], _, _, _, h => h.elim
  | _ :: _, _ :: _, [], _, _, h => h.elim
theorem law_core {C : Checked} {H : Type} {enc : TypeId × Value → H} {f : FuncId} {fn : Func} {s : ChangeSpec} {tb : TypeId}
    (hlaid : laidOutB C.prog = true) (hr : ∀ t ∈ fn.params.toList, C.prog.readableRec t = true ∧ t < C.prog.types.size)
    (hres : fn.resultTypes.toList = [tb]) (hsz : fn.resultTypes.size = 1) (hb : C.prog.underlying tb = some .bool)
    (hvars : s.vars = []) (hpl : s.plain.varTypes C.prog = []) (hs : ∀ ds : List (DataW H), ds.length = fn.params.toList.length → s.fn H ds = { results := [.lit (.bool true)], args := ds })
    (hread : ∀ (W : World) (base : Nat) (args : List Value) (ds : List (DataW H)) (ps : List MemPlace), (∀ (j : Nat) t v, fn.params[j]? = some t → args[j]? = some v → Value.okWide C.prog W .any base t v) → DataW.TrodAll enc C.prog W 0 (fun _ => true) true fn.params.toList args ds ps → (∀ n ∈ DataW.weightsEach C.prog fn.params.toList ds, n ≤ reachBytes) →
      ∃ pvs, RepL (Rep W (fun _ => True)) pvs args ∧ FnSpec C.prog f pvs [] (.bool true) [])
    {W : World} {base : Nat} {args : Array Value} {ds gs : List (DataW H)} {before : List MemPlace} (hg : glob.holds W.heap)
    (hval : ∀ (j : Nat) t v, fn.params[j]? = some t → args[j]? = some v → Value.okWide C.prog W .any base t v) (hW : DataW.Whole enc C.prog fn.params.toList s.vars false W args.toList ds gs before)
    (hsize : (DataW.weightsEach C.prog (fn.params.toList ++ s.plain.varTypes C.prog) (ds ++ gs)).all (· ≤ reachBytes) = true) :
    Calls C.prog f args W fun e W' => ∃ v, e = .returned v ∧ s.post enc C.prog fn false true false false W args v W' := by
  have hW' := hW
  obtain ⟨p, q, hA, hV, rfl, hfz, hnd⟩ := hW
  rw [hvars] at hV
  obtain ⟨rfl, rfl⟩ := Go.ChangeShapes.trodVars_none hV
  have hlen : ds.length = fn.params.toList.length := by
    have : ∀ (ts : List TypeId) (vs : List Value) (ds : List (DataW H)) (ps : List MemPlace), DataW.TrodAll enc C.prog W 0 (fun _ => true) true ts vs ds ps → ds.length = ts.length := by
      intro ts
      induction ts with
      | nil => intro vs ds ps h; cases vs <;> cases ds <;> simp [DataW.TrodAll] at h ⊢
      | cons t ts ih =>
        intro vs ds ps h
        cases vs <;> cases ds <;> simp [DataW.TrodAll] at h ⊢
        obtain ⟨_, _, _, h2, _⟩ := h
        exact ih _ _ _ h2
    exact this _ _ _ _ hA
  rw [hpl, List.append_nil, List.append_nil, List.all_eq_true] at hsize
  obtain ⟨pvs, hrep, hspec⟩ := hread W base args.toList ds p (fun j t v h1 h2 => hval j t v h1 (by simpa using h2)) hA (fun n hn => by simpa using hsize n hn)
  have hargs : RepL (RepT W (okL (fun _ => True) [] (fun _ => none)) [] (fun _ => none)) pvs args.toList :=
    ⟨hrep.1, fun i p v a b => .of_rep ((hrep.2 i p v a b).anyOk fun _ _ _ => ⟨trivial, q0r _ _⟩)⟩
  have hc := hspec.2 W (fun _ => none) args.toList (fun _ => True) ⟨hg, fun _ _ => trivial⟩ (q67 _ _ _ _) hargs
  refine Calls.mono hc fun e W' ⟨v, blk', he, _, hv, hheap, hsize', hsm⟩ => ?_
  subst he
  have hv' := hv.bool
  subst hv'
  have hkeep : ∀ b, b < W.heap.size → W'.heap[b]? = W.heap[b]? := fun b hb => hheap b hb (q0r _ _)
  refine ⟨_, rfl, ds, [], p ++ [], [], p, [], hW', ?_, ?_, ?_, ?_, fun h => by cases h⟩
  · rw [List.append_nil, hs ds hlen, hres, hsz]
    exact Go.ChangeShapes.trodAll_mk1 (Go.RowKit.shut_bool hb true)
  · rw [List.append_nil, hs ds hlen]
    exact q73 hlaid hkeep _ _ _ _ hr hA
  · rw [hvars, List.append_nil, hs ds hlen]; rfl
  · refine ⟨hsm.1, hsm.2, fun i hi => ?_⟩
    rw [hkeep i hi]
    split <;> simp_all
theorem law_lifted2 {C : Checked} {os : Os} {H : Type} {enc : TypeId × Value → H} {f : FuncId} {fn : Func} {s : ChangeSpec} {tb : TypeId} {dom : List PathCond} {laid : List (String × DataW Unit)}
    (own : ownKnob C.prog.godebug = none) (started : os.Started) (noInit : C.prog.inits.idxOf? f = none) (hfn : C.prog.funcs[f]? = some fn)
    (witness : ∃ (w : World) (tape : Tape) (i : Input), w.os = os ∧ (w.forCall tape i).Shaped C.prog ∧ i.vars = [] ∧ Input.okWide C.prog (w.forCall tape i) .any w.heap.size f i ∧
      (OpenSpec.ofChange s).preRow enc C.prog fn dom false laid (w.forCall tape i).memory i.args ∧ ({} : Assume).holds C.prog (lone (Frame.enter C.prog f i.args .normal) [] (w.forCall tape i)))
    (hlaid : laidOutB C.prog = true) (hr : ∀ t ∈ fn.params.toList, C.prog.readableRec t = true ∧ t < C.prog.types.size)
    (hres : fn.resultTypes.toList = [tb]) (hsz : fn.resultTypes.size = 1) (hb : C.prog.underlying tb = some .bool)
    (hvars : s.vars = []) (hpl : s.plain.varTypes C.prog = []) (hs : ∀ ds : List (DataW H), ds.length = fn.params.toList.length → s.fn H ds = { results := [.lit (.bool true)], args := ds })
    (hread : ∀ (W : World) (base : Nat) (args : List Value) (ds : List (DataW H)) (ps : List MemPlace), (∀ (j : Nat) t v, fn.params[j]? = some t → args[j]? = some v → Value.okWide C.prog W .any base t v) → DataW.TrodAll enc C.prog W 0 (fun _ => true) true fn.params.toList args ds ps → (∀ n ∈ DataW.weightsEach C.prog fn.params.toList ds, n ≤ reachBytes) →
      ∃ pvs, RepL (Rep W (fun _ => True)) pvs args ∧ FnSpec C.prog f pvs [] (.bool true) [])
    (hg : ∀ W : World, laidMetH C.prog laid W → glob.holds W.heap) :
    ReturnsInHanded {} C os f .any ((OpenSpec.ofChange s).preRow enc C.prog fn dom false laid) (s.post enc C.prog fn false true false false) := by
  refine returnsInHanded_of_row (C := C) (s := OpenSpec.ofChange s) (F := fun _ _ => default) own started noInit hfn witness ?_
  intro W base args ds gs before hval hW _ _ hsize hL _ _
  exact law_core hlaid hr hres hsz hb hvars hpl hs hread (hg W hL) hval hW hsize
end Lp

/-! LpUse -/

namespace Lp
open Go
variable {P : Program} {D : TypeId → TInfo} {T : Know}
def Euse (n : Nat) : Env := fun _ _ V => ∀ w0, V w0 → w0.nx ≤ n
def retU (t : Nat) (r : PV) (objs' : List Obj) (e : Exit) (S : St) : Prop :=
  (e = .normal ∨ e = .ret) ∧ S.tmps.getD t .dead = r ∧ S.objs = objs'
theorem FnUse.of_body {f : FuncId} {fn : Func} {c : Code} {C : LC} {args : List PV} {r : PV} {objs objs' : List Obj} {t n : Nat} (hD : ∀ t, TOk P t (D t)) (hT : KOk P none (Euse objs.length) T) (hm : P.follows .mixedOrders = true)
    (hf : P.funcs[f]? = some fn) (hname : (fn.name == "runtime.NumGoroutine") = false) (hb : fn.body = some c) (hn : fn.ntmps = n) (hr : fn.results = #[.tmp t]) (hC : strip C = comp c) (hlen : objs'.length = objs.length)
    (h : wpc P D T C (retU t r objs') ⟨(q0s args n).tmps, objs⟩) : FnUse P f args objs r objs' := by
  refine ⟨⟨fn, hf, hname, by rw [hb]; rfl⟩, hlen, fun base prot w0 tmps blk a w vs R hargs => ?_⟩
  have hpw : PW P none (Euse objs.length) c (retU t r objs') ⟨(q0s args n).tmps, objs⟩ := q50 hD hm C _ _ _ c _ _ hT hC h
  have hpp : ∀ b, prot b → b < w.heap.size ∧ q0h objs blk b := fun b hb => ⟨Nat.lt_of_lt_of_le (R.pr b hb) R.gr, fun k o h1 h2 h3 => R.objs.np k o b h1 h2 h3 hb⟩
  have hz : ∀ x ∈ tmps.zip a.tmps.toList, RepT w (okL base objs blk) objs blk x.1 x.2 := by
    intro x hx
    obtain ⟨i, hi, rfl⟩ := List.mem_iff_getElem.1 hx
    have hi' : i < tmps.length ∧ i < a.tmps.toList.length := by
      rw [List.length_zip] at hi
      omega
    rw [List.getElem_zip]
    have := R.tm i tmps[i] (List.getElem?_eq_getElem hi'.1)
    have e : a.tmps.getD i undef = a.tmps.toList[i] := by
      rw [Array.getD_eq_getD_getElem?, Array.getElem?_eq_getElem (by simpa using hi'.2)]; simp
    rw [e] at this
    exact this
  have R2 : Rel base (fun b => b < w.heap.size ∧ q0h objs blk b) ⟨w.heap, tmps.zip a.tmps.toList ++ w0.xs, objs.length, w⟩ ⟨(q0s args n).tmps, objs⟩ blk { tmps := (⟨vs⟩ : Array Value) ++ Array.replicate (n - (⟨vs⟩ : Array Value).size) undef, defers := [] } w := by
    have hl := hargs.1
    have hext : ∀ x ∈ tmps.zip a.tmps.toList ++ w0.xs, RepT w (okL base objs blk) objs blk x.1 x.2 := fun x hx => by
      rcases List.mem_append.1 hx with hx | hx
      · exact hz x hx
      · exact R.ext x hx
    refine ⟨.nil _ _, ?_, fun t p hp => ?_, ⟨R.objs.ob, R.objs.dis, fun k o g h1 h2 h3 hp => hp.2 k o h1 h2 h3⟩, fun b hb => hb.1, fun _ _ => rfl, Nat.le_refl _, fun b hn => ?_, hext, fun x hx => repT_lt (hext x hx), .refl w, ⟨R.globOk, fun b hb => hpp b (R.gl.2 b hb)⟩⟩
    · simp [q0s, hl]
    · simp only [q0s] at hp
      rw [List.getElem?_append] at hp
      split at hp
      · rename_i ht
        obtain ⟨v, hv⟩ : ∃ v, vs[t]? = some v := ⟨vs[t]'(by omega), List.getElem?_eq_getElem (by omega)⟩
        have hg : ((⟨vs⟩ : Array Value) ++ Array.replicate (n - (⟨vs⟩ : Array Value).size) undef).getD t undef = v := by
          rw [Array.getD_eq_getD_getElem?, Array.getElem?_append, if_pos (by simpa using (by omega : t < vs.length))]
          simp [hv]
        rw [hg]
        exact hargs.2 t p v hp hv
      · rw [List.getElem?_replicate] at hp
        split at hp
        · cases hp; exact .dead _
        · cases hp
    · rcases Nat.lt_or_ge b w.heap.size with h1 | h1
      · refine R.pb b fun hp => hn (hpp b hp)
      · exact R.bs b (Nat.le_trans R.gr h1)
  have hw := hpw base _ (fun x => (⟨w.heap, tmps.zip a.tmps.toList ++ w0.xs, objs.length, w⟩ : Wz) = x) (by rintro z rfl; exact Nat.le_refl _) _ _ _ ⟨_, rfl, R2⟩
  rw [← callsIn_wide (n := 0)]
  refine callsIn_of_wp_marks hf hb trivial ?_
  rw [hn]
  refine wpIn_mono hw ?_
  rintro e a' w' ⟨S', blk', ⟨he, ho, hobj⟩, _, rfl, R'⟩
  have key : ∀ w', Rel base (fun b => b < w.heap.size ∧ q0h objs blk b) ⟨w.heap, tmps.zip a.tmps.toList ++ w0.xs, objs.length, w⟩ S' blk' { a' with defers := [] } w' →
      ∃ v, (results fn a'.tmps).run P w' = .ok v w' ∧ (∃ v' blk', Ending.returned v = .returned v' ∧ Rel base prot w0 ⟨tmps, objs'⟩ blk' a w' ∧ RepT w' (okL base objs' blk') objs' blk' r v') := by
    intro w' R'
    have hx := R'.ev (.tmp t)
    change RepT w' _ _ blk' (S'.tmps.getD t .dead) (a'.tmps.getD t undef) at hx
    rw [ho, hobj] at hx
    refine ⟨_, results_tmp hr _ _ _, _, blk', rfl, ?_, hx⟩
    have hpr : ∀ b, b < w.heap.size ∧ q0h objs blk b → w'.heap[b]? = w.heap[b]? := fun b hb => R'.fr b hb
    obtain ⟨Ds, e1, e2, e3⟩ := R.nodef
    have ob := R'.objs
    have ex := R'.ext
    rw [hobj] at ob ex
    refine ⟨⟨Ds, e1, e2, fun b hb => ?_⟩, R.tsz, fun t p hp => ?_, ⟨ob.ob, ob.dis, fun k o g h1 h2 h3 hp => ob.np k o g h1 h2 h3 (hpp g hp)⟩, R.pr, fun b hb => ?_, Nat.le_trans R.gr R'.gr, R.pb, fun x hx => ex x (List.mem_append_right _ hx), R.exn, R.sm.trans R'.sm, R.gl⟩
    · obtain ⟨h1, h2, h3⟩ := e3 b hb
      have hpb : b < w.heap.size ∧ q0h objs blk b := ⟨(Array.getElem?_eq_some_iff.1 h1).1, h2.2⟩
      exact ⟨by rw [hpr b hpb]; exact h1, ⟨h2.1, fun k o g1 g2 g3 => ob.np k o b g1 g2 g3 hpb⟩, h3⟩
    · refine ex (p, a.tmps.getD t undef) (List.mem_append_left _ ?_)
      have hlt : t < tmps.length := (List.getElem?_eq_some_iff.1 hp).1
      have htz : t < a.tmps.size := by rw [R.tsz]; exact hlt
      refine List.mem_iff_getElem.2 ⟨t, by rw [List.length_zip, Array.length_toList]; exact Nat.lt_min.2 ⟨hlt, htz⟩, ?_⟩
      rw [List.getElem_zip]
      have e : a.tmps.getD t undef = a.tmps.toList[t]'(by simpa using htz) := by
        rw [Array.getD_eq_getD_getElem?, Array.getElem?_eq_getElem htz]; simp
      rw [e, (List.getElem?_eq_some_iff.1 hp).2]
    · rw [hpr b (hpp b hb)]; exact R.fr b hb
  rcases he with rfl | rfl <;> exact q3x _ _ R' key
end Lp

/-! LpRes -/

namespace Lp
open Go
variable {P : Program} {D : TypeId → TInfo} {T : Know}
def Tells (p q : PV) : Prop := ∀ (w : World) (ok : Nat → Prop) (v : Value), Rep w ok p v → Rep w ok q v
theorem Tells.refl (p : PV) : Tells p p := fun _ _ _ h => h
theorem q53 (sz sz' : Nat) : Tells (.sl sz [] (some true)) (.sl sz' [] none) := by
  intro w ok v h
  cases h with
  | slnil _ _ _ => exact .slnil sz' none (by decide)
  | slz _ _ hq => exact absurd rfl hq
  | sl _ _ _ hq => exact absurd rfl hq
theorem Tells.agg {ps qs : List PV} (hl : ps.length = qs.length) (h : ∀ (i : Nat) (p q : PV), ps[i]? = some p → qs[i]? = some q → Tells p q) : Tells (.agg ps) (.agg qs) := by
  intro w ok v hr
  cases hr with
  | agg _ vs hl' hh =>
    refine .agg _ _ (by omega) fun i q u hq hu => ?_
    have hi : i < ps.length := by rw [hl]; exact (List.getElem?_eq_some_iff.1 hq).1
    exact h i _ q (List.getElem?_eq_getElem hi) hq w ok u (hh i _ u (List.getElem?_eq_getElem hi) hu)
theorem Tells.tup {ps qs : List PV} (hl : ps.length = qs.length) (h : ∀ (i : Nat) (p q : PV), ps[i]? = some p → qs[i]? = some q → Tells p q) : Tells (.tup ps) (.tup qs) := by
  intro w ok v hr
  cases hr with
  | tup _ vs hl' hh =>
    refine .tup _ _ (by omega) fun i q u hq hu => ?_
    have hi : i < ps.length := by rw [hl]; exact (List.getElem?_eq_some_iff.1 hq).1
    exact h i _ q (List.getElem?_eq_getElem hi) hq w ok u (hh i _ u (List.getElem?_eq_getElem hi) hu)
theorem tells2 {f : List PV → PV} (hf : f = PV.agg ∨ f = PV.tup) {a b c d : PV} (h1 : Tells a c) (h2 : Tells b d) : Tells (f [a, b]) (f [c, d]) := by
  have key : ∀ (i : Nat) (p q : PV), [a, b][i]? = some p → [c, d][i]? = some q → Tells p q := by
    intro i p q hp hq
    match i with
    | 0 => cases hp; cases hq; exact h1
    | 1 => cases hp; cases hq; exact h2
    | _ + 2 => simp at hp
  rcases hf with rfl | rfl
  · exact .agg rfl key
  · exact .tup rfl key
theorem FnSpec.res {f : FuncId} {args : List PV} {objs : List Obj} {r r' : PV} (h : FnSpec P f args objs r []) (ht : Tells r r') : FnSpec P f args objs r' [] := by
  refine ⟨h.1, fun w blk vs base hb R ha => (h.2 w blk vs base hb R ha).mono ?_⟩
  rintro e w' ⟨v, blk', h1, h2, h3, h4⟩
  exact ⟨v, blk', h1, h2, .of_rep (ht _ _ _ (q5h h3)), h4⟩
theorem FnSpec.arg {f : FuncId} {args args' : List PV} {r : PV} {objs' : List Obj} (h : FnSpec P f args [] r objs') (hl : args'.length = args.length) (ht : ∀ (i : Nat) (p q : PV), args'[i]? = some p → args[i]? = some q → Tells p q) : FnSpec P f args' [] r objs' := by
  refine ⟨h.1, fun w blk vs base hb R ha => h.2 w blk vs base hb R ⟨by rw [← hl]; exact ha.1, fun i q v hq hv => ?_⟩⟩
  have hi : i < args'.length := by rw [hl]; exact (List.getElem?_eq_some_iff.1 hq).1
  exact .of_rep (ht i _ q (List.getElem?_eq_getElem hi) hq _ _ _ (q5h (ha.2 i _ v (List.getElem?_eq_getElem hi) hv)))
structure EndM (d t : Nat) (o' : Obj) (S : St) : Prop where
  h : retM d t o' .ret S
theorem endM {d t n : Nat} {o' : Obj} {l : List (Nat × PV)} {ob : List Obj} {k ver : Nat} {o : Obj} (h1 : (tmA n l).getD t .dead = .osl k ver) (h2 : ob[k]? = some o) (h3 : o.live = true) (h4 : o.ver = ver) (h5 : { frzO d (k + 1) ob o with ver := 0 } = o') (h6 : NoRefs [o']) : EndM d t o' ⟨tmA n l, ob⟩ :=
  ⟨.inr rfl, _, k, ver, o, Weak.refl _ _, h1, h2, h3, h4, h5, h6⟩
theorem FnOk.madeG {f : FuncId} {n t : Nat} {C : LC} {args : List PV} {o' : Obj} (h : FnOk P f n [.tmp t] C) (d : Nat) (hD : ∀ t, TOk P t (D t)) (hT : KOk P none Etop T) (hm : P.follows .mixedOrders = true)
    (hw : ∀ Q : Exit → St → Prop, (∀ l ob, Q .ret ⟨tmA n l, ob⟩ = EndM d t o' ⟨tmA n l, ob⟩) → wpc P D T C Q (q0s args n)) : FnSpec P f args [] (.osl 0 0) [o'] :=
  h.made d hD hT hm (hw _ fun l ob => propext ⟨fun h => ⟨h⟩, fun h => h.h⟩)
structure EndN (D : TypeId → TInfo) (d : Nat) (rs : List ResultVar) (qs : List PV) (o' : Obj) (S : St) : Prop where
  h : retN D d rs qs o' .ret S
theorem endN {d n k : Nat} {rs : List ResultVar} {qs : List PV} {o' : Obj} {l : List (Nat × PV)} {ob : List Obj} {o : Obj} (h1 : ob[k]? = some o) (h2 : o.live = true) (h3 : outL D ⟨tmA n l, ob⟩ rs (fun ps => ps = .osl k o.ver :: qs)) (h4 : outO1 d k ⟨tmA n l, ob⟩ o = o') (h5 : NoRefs [o']) (h6 : qs.all PV.atom = true) : EndN D d rs qs o' ⟨tmA n l, ob⟩ :=
  ⟨.inr rfl, _, k, o, Weak.refl _ _, h3, h1, h2, h4, h5, h6⟩
theorem FnOk.madeNG {f : FuncId} {n : Nat} {rs : List ResultVar} {C : LC} {args : List PV} {qs : List PV} {o' : Obj} (h : FnOk P f n rs C) (d : Nat) (hD : ∀ t, TOk P t (D t)) (hT : KOk P none Etop T) (hm : P.follows .mixedOrders = true) (hl : rs.length ≤ 3)
    (hw : ∀ Q : Exit → St → Prop, (∀ l ob, Q .ret ⟨tmA n l, ob⟩ = EndN D d rs qs o' ⟨tmA n l, ob⟩) → wpc P D T C Q (q0s args n)) : FnSpec P f args [] (onePV (.osl 0 0 :: qs)) [o'] :=
  h.madeN d hD hT hm hl (hw _ fun l ob => propext ⟨fun h => ⟨h⟩, fun h => h.h⟩)
theorem froze_rep {base prot : Nat → Prop} {w' : World} {blk' : Nat → Option Nat} {o : Obj} {v : Value} (h2 : ObjsRel base prot [o] blk' w') (h3 : RepS w' (okL base [o] blk') [o] blk' (.osl 0 0) v) (hb : ∀ b, ¬ prot b → base b) (hl : o.live = true) (hv : o.ver = 0) (hn : NoRefs [o]) :
    Rep w' (okL base [] blk') (.sl o.sz o.xs none) v := by
  obtain ⟨_, o1, g1, _, g3⟩ := h3
  cases g1
  obtain ⟨hM, hh⟩ := g3 hl hv
  have ho := h2.ob 0 o rfl hl
  unfold Hdr at hh
  unfold ObjRep at ho
  cases hg : blk' 0 with
  | none => rw [hg] at hh; rw [hh.1, hh.2]; exact .slnil _ _ (by decide)
  | some g =>
    rw [hg] at hh ho
    obtain ⟨cap, c, rfl, x1, x2, x3, x4⟩ := hh
    obtain ⟨c', y1, y2, y3⟩ := ho
    rw [q28 hM] at y1
    rw [x1] at y1; cases y1
    have hgb : base g := hb g (h2.np 0 o g rfl hl hg)
    refine .sl o.sz o.xs none (by decide) g 0 cap (fun i j => (c[i * o.sz + j]?).getD undef) (fun _ => ⟨⟨hgb, q0r _ _⟩, (Array.getElem?_eq_some_iff.1 x1).1⟩) x2 x3 (fun i x hx => (y3 i x hx).1) ?_ ?_
    · intro i x j p hx hp
      obtain ⟨u, u1, _⟩ := (y3 i x hx).2 j p hp
      simp [World.cell?, x1, u1]
    · intro i x j p hx hp
      obtain ⟨u, u1, u2⟩ := (y3 i x hx).2 j p hp
      rw [u1, Option.getD_some]
      exact (u2.rep (hn o (by simp) x (List.mem_of_getElem? hx) p (List.mem_of_getElem? hp))).anyOk fun b _ hb => ⟨hb.1, q0r _ _⟩
theorem new_base {base : Nat → Prop} {w : World} {blk : Nat → Option Nat} (hb : glob.holds w.heap ∧ ∀ b, w.heap.size ≤ b → base b) (b : Nat) (h : ¬ (b < w.heap.size ∧ q0h [] blk b)) : base b :=
  hb.2 b (Nat.not_lt.1 fun q => h ⟨q, q0r _ _⟩)
theorem FnSpec.froze2 {f : FuncId} {args : List PV} {o : Obj} {q : PV} (h : FnSpec P f args [] (.tup [.osl 0 0, q]) [o]) (hq : q.flat1 = true) (hl : o.live = true) (hv : o.ver = 0) (hn : NoRefs [o]) : FnSpec P f args [] (.tup [.sl o.sz o.xs none, q]) [] := by
  refine ⟨h.1, fun w blk vs base hb R ha => (h.2 w blk vs base hb R ha).mono ?_⟩
  rintro e w' ⟨v, blk', h1, h2, ⟨us, rfl, h3, h5⟩, h4⟩
  refine ⟨_, blk', h1, q67 _ _ _ _, ⟨us, rfl, h3, fun i p u hp hu => ?_⟩, h4⟩
  match i with
  | 0 => cases hp; exact .of_rep (froze_rep h2 (h5 0 _ u rfl hu) (new_base hb) hl hv hn)
  | 1 => cases hp; exact .of_rep (q9i hq ((h5 1 _ u rfl hu).rep (q9j hq)))
  | i + 2 => simp at hp
@[congr] theorem convO_congr {s t : TypeId} {x x' : PV} {objs objs' : List Obj} {K : KT} (h : x = x') (ho : objs = objs') : convO D s t x objs K = convO D s t x' objs' K := by rw [h, ho]
@[congr] theorem nilCheckR_congr' {x x' : PV} {objs objs' : List Obj} {K : KT} (h : x = x') (ho : objs = objs') : q0q x objs K = q0q x' objs' K := by rw [h, ho]
end Lp

/-! LpW20 -/

namespace Lp
open Go Go.Proofs
set_option maxHeartbeats 4000000
set_option maxRecDepth 20000
set_option linter.unusedSimpArgs false
theorem nodeZ : PV.ofV (.agg ⟨[.int .i64 0, .int .i64 0, .string ⟨⟨[]⟩⟩, .string ⟨⟨[]⟩⟩, .bool false, .int .i64 0]⟩) = encN ⟨0, 0, [], [], false, 0⟩ := rfl
theorem nodeW (a : Nd) (k m : Int) (x y : List UInt8) (g : Bool) (e : Int) : (encN a).putCells 0 [.int .i64 k, .int .i64 m, .str x, .str y, .bool g, .int .i64 e] = encN ⟨k, m, x, y, g, e⟩ := rfl
theorem rowA2 (n : Nd) (r : Vl) : (∀ y, y ∈ encN n :: r.map encN → y.cells.length = 6 ∧ y.cells.all PV.storable = true) = True := by
  have := rowA (enc := encN) (sz := 6) (fun _ => rfl) (fun _ => rfl) (n :: r)
  rwa [List.map_cons] at this
def valO (l : List Vl) (ver : Nat) : Obj := ⟨t_api_Val, 1, l.map encV, true, ver⟩
def strO (l : List (List UInt8)) (ver : Nat) : Obj := ⟨t_string, 1, l.map .str, true, ver⟩
theorem frzO_vals (d n : Nat) (O : List Obj) (t : TypeId) (sz : Nat) (l : List Vl) (ver : Nat) : frzO d n O ⟨t, sz, l.map encV, true, ver⟩ = ⟨t, sz, l.map encV, true, ver⟩ := by
  have : (l.map encV).map (PV.mapCells (frz d n O)) = l.map encV := by
    rw [List.map_map]
    exact List.map_congr_left fun x _ => rfl
  simp only [frzO, this]
theorem frzO_strs (d n : Nat) (O : List Obj) (t : TypeId) (sz : Nat) (l : List (List UInt8)) (ver : Nat) : frzO d n O ⟨t, sz, l.map .str, true, ver⟩ = ⟨t, sz, l.map .str, true, ver⟩ := by
  have : (l.map PV.str).map (PV.mapCells (frz d n O)) = l.map PV.str := by
    rw [List.map_map]
    exact List.map_congr_left fun x _ => rfl
  simp only [frzO, this]
theorem valO_refs (l : List Vl) (ver : Nat) : NoRefs [valO l ver] := by
  intro o ho x hx c hc
  simp only [List.mem_singleton] at ho; subst ho
  obtain ⟨y, _, rfl⟩ := List.mem_map.1 hx
  simp only [encV, PV.cells, List.mem_singleton] at hc
  subst hc; rfl
theorem strO_refs (l : List (List UInt8)) (ver : Nat) : NoRefs [strO l ver] := by
  intro o ho x hx c hc
  simp only [List.mem_singleton] at ho; subst ho
  obtain ⟨y, _, rfl⟩ := List.mem_map.1 hx
  simp only [PV.cells, List.mem_singleton] at hc
  subst hc; rfl
end Lp

/-! LpW23 -/

namespace Lp
open Go Go.Proofs
set_option maxHeartbeats 4000000
set_option maxRecDepth 20000
set_option linter.unusedSimpArgs false
end Lp

/-! LpC2 -/

namespace Lp
open Go Go.Proofs
end Lp

/-! LpC4 -/

namespace Lp
open Go Go.Proofs
end Lp

/-! LpC5 -/

namespace Lp
open Go Go.Proofs
def c_val_Same : LC :=
  (.seq (.reg [⟨some 4, .assign (.const (.bool false)), none, false⟩])
  (.seq (.reg [⟨some 5, .move (.tmp 0), none, false⟩,
   ⟨some 6, .move (.tmp 1), none, false⟩,
   ⟨some 7, .call ⟨.value (.func f_slices_Equal_api_Val_api_Node_), ⟨[(.tmp 5), (.tmp 6)]⟩, ⟨[t_api_Val, t_api_Val]⟩⟩, none, false⟩,
   ⟨some 4, .assign (.tmp 7), none, false⟩])
  .ret))
theorem k_val_Same : FnOk Tryz.prog f_val_Same 8 [.tmp 4] c_val_Same := ⟨_, _, Tryz.func92, by kernel_rfl, rfl, Tryz.ntmps92, rfl, by kernel_rfl⟩
def q0w : LC :=
  (.seq (.reg [⟨some 4, .assign (.const (.bool false)), none, false⟩])
  (.seq (.seq (.reg [⟨some 6, .move (.tmp 0), none, false⟩,
   ⟨some 7, .call ⟨.builtin .len, ⟨[(.tmp 6)]⟩, ⟨[t_api_Val]⟩⟩, none, false⟩,
   ⟨some 8, .move (.tmp 1), none, false⟩,
   ⟨some 9, .call ⟨.builtin .len, ⟨[(.tmp 8)]⟩, ⟨[t_api_Val]⟩⟩, none, false⟩,
   ⟨some 10, .binOp .neq t_int (.tmp 7) (.tmp 9) t_int, none, false⟩])
  (.cond (.tmp 10)
   (.seq (.reg [⟨some 4, .assign (.const (.bool false)), none, false⟩])
   .ret)
   .skip))
  (.seq (.seq (.reg [⟨some 11, .move (.tmp 0), none, false⟩,
   ⟨some 12, .call ⟨.builtin .len, ⟨[(.tmp 11)]⟩, ⟨[t_api_Val]⟩⟩, none, false⟩,
   ⟨some 13, .move (.const (.int .i64 0)), none, false⟩])
  (.block 0 (.loop [true, true, false, false, false, false, false, false, false, false, false, false, true, true, false, false, false, false, false, false, false, false, false, false, false, false] none
   (.seq (.reg [⟨some 14, .binOp .lss t_int (.tmp 13) (.tmp 12) t_int, none, false⟩])
    (.seq (.cond (.tmp 14)
     .skip
     (.exit 0))
    (.seq (.block 1 (.seq (.reg [⟨some 15, .move (.tmp 13), none, false⟩,
      ⟨some 5, .assign (.tmp 15), none, false⟩])
     (.seq (.draw [⟨some 16, .move (.tmp 0), none, false⟩,
      ⟨some 17, .move (.tmp 5), none, false⟩,
      ⟨some 18, .indexAddr t_api_Val (.tmp 16) (.tmp 17), none, false⟩,
      ⟨some 19, .load t_api_Node (.tmp 18), none, false⟩,
      ⟨some 20, .move (.tmp 1), none, false⟩,
      ⟨some 21, .move (.tmp 5), none, false⟩,
      ⟨some 22, .indexAddr t_api_Val (.tmp 20) (.tmp 21), none, false⟩,
      ⟨some 23, .load t_api_Node (.tmp 22), none, false⟩,
      ⟨some 24, .binOp .neq t_api_Node (.tmp 19) (.tmp 23) t_api_Node, none, false⟩]
     [0, 1, 0, 0, 15, 31, 15, 15, 0])
     (.cond (.tmp 24)
      (.seq (.reg [⟨some 4, .assign (.const (.bool false)), none, false⟩])
      .ret)
      .skip))))
    (.reg [⟨some 25, .binOp .add t_int (.tmp 13) (.const (.int .i64 1)) t_int, none, false⟩,
     ⟨some 13, .move (.tmp 25), none, false⟩])))))))
  (.seq (.reg [⟨some 4, .assign (.const (.bool true)), none, false⟩])
  .ret))))
theorem k_slices_Equal_api_Val_api_Node_ : FnOk Tryz.prog f_slices_Equal_api_Val_api_Node_ 26 [.tmp 4] q0w := ⟨_, _, Tryz.func169, by kernel_rfl, rfl, Tryz.ntmps169, rfl, by kernel_rfl⟩
def q4h : LC :=
  (.seq (.reg [⟨some 2, .assign (.const (.int .i64 0)), none, false⟩])
  (.seq (.seq (.reg [⟨some 6, .move (.tmp 0), none, false⟩,
   ⟨some 7, .indexAddr t_api_Val (.tmp 6) (.const (.int .i64 0)), none, false⟩,
   ⟨some 8, .fieldAddr t_api_Node (.tmp 7) 0, none, false⟩,
   ⟨some 9, .load t_int (.tmp 8), none, false⟩,
   ⟨some 10, .binOp .neq t_int (.tmp 9) (.const (.int .i64 5)) t_int, none, false⟩,
   ⟨some 11, .move (.tmp 10), none, false⟩,
   ⟨some 12, .move (.tmp 0), some (some 11, true), false⟩,
   ⟨some 13, .indexAddr t_api_Val (.tmp 12) (.const (.int .i64 0)), some (some 11, true), false⟩,
   ⟨some 14, .fieldAddr t_api_Node (.tmp 13) 0, some (some 11, true), false⟩,
   ⟨some 15, .load t_int (.tmp 14), some (some 11, true), false⟩,
   ⟨some 16, .binOp .neq t_int (.tmp 15) (.const (.int .i64 6)) t_int, some (some 11, true), false⟩,
   ⟨some 17, .pick (.tmp 11) (.tmp 16) (.const (.bool false)), none, false⟩])
  (.cond (.tmp 17)
   (.seq (.reg [⟨some 2, .assign (.const (.int .i64 0)), none, false⟩])
   .ret)
   .skip))
  (.seq (.reg [⟨some 3, .alloc t_int, none, false⟩,
   ⟨none, .store t_int (.tmp 3) (.const (.int .i64 0)), none, false⟩])
  (.seq (.seq (.reg [⟨some 18, .move (.tmp 0), none, false⟩,
   ⟨some 19, .call ⟨.value (.func f_val_each), ⟨[(.tmp 18)]⟩, ⟨[t_api_Val]⟩⟩, none, false⟩])
  (.block 0 (.rf (.tmp 19) [20, 21] none
    (.reg [⟨some 5, .assign (.tmp 21), none, false⟩])
    (.block 1 (.draw [⟨some 22, .load t_int (.tmp 3), none, false⟩,
      ⟨some 23, .move (.tmp 5), none, false⟩,
      ⟨some 24, .call ⟨.value (.func f_val_Depth), ⟨[(.tmp 23)]⟩, ⟨[t_api_Val]⟩⟩, none, false⟩,
      ⟨some 25, .call ⟨.builtin .max, ⟨[(.tmp 22), (.tmp 24)]⟩, ⟨[t_int, t_int]⟩⟩, none, false⟩,
      ⟨none, .store t_int (.tmp 3) (.tmp 25), none, false⟩]
     [0, 1, 1, 0, 0])))))
  (.seq (.reg [⟨some 26, .load t_int (.tmp 3), none, false⟩,
   ⟨some 27, .binOp .add t_int (.tmp 26) (.const (.int .i64 1)) t_int, none, false⟩,
   ⟨some 2, .assign (.tmp 27), none, false⟩])
  .ret)))))
theorem k_val_Depth : FnOk Tryz.prog f_val_Depth 28 [.tmp 2] q4h := ⟨_, _, Tryz.func93, by kernel_rfl, rfl, Tryz.ntmps93, rfl, by kernel_rfl⟩
def q74 : LC :=
  (.seq (.reg [⟨some 1, .box t_api_Node (.tmp 0), none, false⟩,
   ⟨some 2, .assign (.const (.bool false)), none, false⟩])
  (.seq (.reg [⟨some 3, .fieldAddr t_api_Node (.tmp 1) 2, none, false⟩,
   ⟨none, .store t_string (.tmp 3) (.const (.string ⟨⟨[]⟩⟩)), none, false⟩])
  (.seq (.seq (.weak (.reg [⟨some 4, .fieldAddr t_api_Node (.tmp 1) 0, none, false⟩,
   ⟨some 5, .load t_int (.tmp 4), none, false⟩]))
  (.block 0 (.seq (.seq (.reg [⟨some 7, .binOp .eql t_int (.tmp 5) (.const (.int .i64 0)) t_int, none, false⟩,
    ⟨some 6, .assign (.tmp 7), none, false⟩])
   (.cond (.tmp 6)
    .skip
    (.seq (.reg [⟨some 8, .binOp .eql t_int (.tmp 5) (.const (.int .i64 1)) t_int, none, false⟩,
     ⟨some 6, .assign (.tmp 8), none, false⟩])
    (.cond (.tmp 6)
     .skip
     (.reg [⟨some 9, .binOp .eql t_int (.tmp 5) (.const (.int .i64 2)) t_int, none, false⟩,
      ⟨some 6, .assign (.tmp 9), none, false⟩])))))
   (.cond (.tmp 6)
    (.seq (.reg [⟨some 10, .load t_api_Node (.tmp 1), none, false⟩,
     ⟨some 11, .fieldAddr t_api_Node (.tmp 1) 0, none, false⟩,
     ⟨some 12, .load t_int (.tmp 11), none, false⟩,
     ⟨some 13, .build t_api_Node ⟨[(0, (.tmp 12))]⟩, none, false⟩,
     ⟨some 14, .binOp .eql t_api_Node (.tmp 10) (.tmp 13) t_api_Node, none, false⟩,
     ⟨some 2, .assign (.tmp 14), none, false⟩])
    .ret)
    (.seq (.reg [⟨some 16, .binOp .eql t_int (.tmp 5) (.const (.int .i64 3)) t_int, none, false⟩,
     ⟨some 15, .assign (.tmp 16), none, false⟩])
    (.cond (.tmp 15)
     (.seq (.reg [⟨some 17, .load t_api_Node (.tmp 1), none, false⟩,
      ⟨some 18, .call ⟨.value (.func f_num_Right), ⟨[(.tmp 17)]⟩, ⟨[t_api_Node]⟩⟩, none, false⟩,
      ⟨some 2, .assign (.tmp 18), none, false⟩])
     .ret)
     (.seq (.reg [⟨some 20, .binOp .eql t_int (.tmp 5) (.const (.int .i64 4)) t_int, none, false⟩,
      ⟨some 19, .assign (.tmp 20), none, false⟩])
     (.cond (.tmp 19)
      (.seq (.reg [⟨some 21, .fieldAddr t_api_Node (.tmp 1) 3, none, false⟩,
       ⟨some 22, .load t_string (.tmp 21), none, false⟩,
       ⟨some 23, .call ⟨.value (.func f_unicode_utf8_ValidString), ⟨[(.tmp 22)]⟩, ⟨[t_string]⟩⟩, none, false⟩,
       ⟨some 24, .move (.tmp 23), none, false⟩,
       ⟨some 25, .load t_api_Node (.tmp 1), some (some 24, true), false⟩,
       ⟨some 26, .fieldAddr t_api_Node (.tmp 1) 0, some (some 24, true), false⟩,
       ⟨some 27, .load t_int (.tmp 26), some (some 24, true), false⟩,
       ⟨some 28, .fieldAddr t_api_Node (.tmp 1) 3, some (some 24, true), false⟩,
       ⟨some 29, .load t_string (.tmp 28), some (some 24, true), false⟩,
       ⟨some 30, .build t_api_Node ⟨[(0, (.tmp 27)), (3, (.tmp 29))]⟩, some (some 24, true), false⟩,
       ⟨some 31, .binOp .eql t_api_Node (.tmp 25) (.tmp 30) t_api_Node, some (some 24, true), false⟩,
       ⟨some 32, .pick (.tmp 24) (.tmp 31) (.const (.bool false)), none, false⟩,
       ⟨some 2, .assign (.tmp 32), none, false⟩])
      .ret)
      (.seq (.seq (.reg [⟨some 34, .binOp .eql t_int (.tmp 5) (.const (.int .i64 5)) t_int, none, false⟩,
       ⟨some 33, .assign (.tmp 34), none, false⟩])
      (.cond (.tmp 33)
       .skip
       (.reg [⟨some 35, .binOp .eql t_int (.tmp 5) (.const (.int .i64 6)) t_int, none, false⟩,
        ⟨some 33, .assign (.tmp 35), none, false⟩])))
      (.cond (.tmp 33)
       (.seq (.reg [⟨some 36, .fieldAddr t_api_Node (.tmp 1) 1, none, false⟩,
        ⟨some 37, .load t_int (.tmp 36), none, false⟩,
        ⟨some 38, .binOp .geq t_int (.tmp 37) (.const (.int .i64 0)) t_int, none, false⟩,
        ⟨some 39, .move (.tmp 38), none, false⟩,
        ⟨some 40, .load t_api_Node (.tmp 1), some (some 39, true), false⟩,
        ⟨some 41, .fieldAddr t_api_Node (.tmp 1) 0, some (some 39, true), false⟩,
        ⟨some 42, .load t_int (.tmp 41), some (some 39, true), false⟩,
        ⟨some 43, .fieldAddr t_api_Node (.tmp 1) 1, some (some 39, true), false⟩,
        ⟨some 44, .load t_int (.tmp 43), some (some 39, true), false⟩,
        ⟨some 45, .build t_api_Node ⟨[(0, (.tmp 42)), (1, (.tmp 44))]⟩, some (some 39, true), false⟩,
        ⟨some 46, .binOp .eql t_api_Node (.tmp 40) (.tmp 45) t_api_Node, some (some 39, true), false⟩,
        ⟨some 47, .pick (.tmp 39) (.tmp 46) (.const (.bool false)), none, false⟩,
        ⟨some 2, .assign (.tmp 47), none, false⟩])
       .ret)
       .skip))))))))))
  (.seq (.reg [⟨some 2, .assign (.const (.bool false)), none, false⟩])
  .ret))))
theorem k_val_isPlain : FnOk Tryz.prog f_val_isPlain 48 [.tmp 2] q74 := ⟨_, _, Tryz.func170, by kernel_rfl, rfl, Tryz.ntmps170, rfl, by kernel_rfl⟩
def qa6 : LC :=
  (.seq (.reg [⟨some 1, .box t_api_Node (.tmp 0), none, false⟩,
   ⟨some 2, .assign (.const (.bool false)), none, false⟩])
  (.seq (.seq (.weak (.reg [⟨some 3, .fieldAddr t_api_Node (.tmp 1) 0, none, false⟩,
   ⟨some 4, .load t_int (.tmp 3), none, false⟩,
   ⟨some 5, .binOp .neq t_int (.tmp 4) (.const (.int .i64 3)) t_int, none, false⟩,
   ⟨some 6, .move (.tmp 5), none, false⟩,
   ⟨some 7, .fieldAddr t_api_Node (.tmp 1) 1, some (some 6, false), false⟩,
   ⟨some 8, .load t_int (.tmp 7), some (some 6, false), false⟩,
   ⟨some 9, .binOp .neq t_int (.tmp 8) (.const (.int .i64 0)) t_int, some (some 6, false), false⟩,
   ⟨some 10, .pick (.tmp 6) (.const (.bool true)) (.tmp 9), none, false⟩,
   ⟨some 11, .move (.tmp 10), none, false⟩,
   ⟨some 12, .fieldAddr t_api_Node (.tmp 1) 2, some (some 11, false), false⟩,
   ⟨some 13, .load t_string (.tmp 12), some (some 11, false), false⟩,
   ⟨some 14, .binOp .neq t_string (.tmp 13) (.const (.string ⟨⟨[]⟩⟩)) t_string, some (some 11, false), false⟩,
   ⟨some 15, .pick (.tmp 11) (.const (.bool true)) (.tmp 14), none, false⟩,
   ⟨some 16, .move (.tmp 15), none, false⟩,
   ⟨some 17, .fieldAddr t_api_Node (.tmp 1) 3, some (some 16, false), false⟩,
   ⟨some 18, .load t_string (.tmp 17), some (some 16, false), false⟩,
   ⟨some 19, .call ⟨.builtin .len, ⟨[(.tmp 18)]⟩, ⟨[t_string]⟩⟩, some (some 16, false), false⟩,
   ⟨some 20, .binOp .gtr t_int (.tmp 19) (.const (.int .i64 100)) t_int, some (some 16, false), false⟩,
   ⟨some 21, .pick (.tmp 16) (.const (.bool true)) (.tmp 20), none, false⟩,
   ⟨some 22, .move (.tmp 21), none, false⟩,
   ⟨some 23, .fieldAddr t_api_Node (.tmp 1) 3, some (some 22, false), false⟩,
   ⟨some 24, .load t_string (.tmp 23), some (some 22, false), false⟩,
   ⟨some 25, .call ⟨.builtin .len, ⟨[(.tmp 24)]⟩, ⟨[t_string]⟩⟩, some (some 22, false), false⟩,
   ⟨some 26, .fieldAddr t_api_Node (.tmp 1) 5, some (some 22, false), false⟩,
   ⟨some 27, .load t_int (.tmp 26), some (some 22, false), false⟩,
   ⟨some 28, .call ⟨.value (.func f_num_isPower), ⟨[(.tmp 25), (.tmp 27)]⟩, ⟨[t_int, t_int]⟩⟩, some (some 22, false), false⟩,
   ⟨some 29, .unOp .not t_bool (.tmp 28), some (some 22, false), false⟩,
   ⟨some 30, .pick (.tmp 22) (.const (.bool true)) (.tmp 29), none, false⟩,
   ⟨some 31, .move (.tmp 30), none, false⟩,
   ⟨some 32, .fieldAddr t_api_Node (.tmp 1) 3, some (some 31, false), false⟩,
   ⟨some 33, .load t_string (.tmp 32), some (some 31, false), false⟩,
   ⟨some 34, .call ⟨.value (.func f_num_isFigures), ⟨[(.tmp 33)]⟩, ⟨[t_string]⟩⟩, some (some 31, false), false⟩,
   ⟨some 35, .unOp .not t_bool (.tmp 34), some (some 31, false), false⟩,
   ⟨some 36, .pick (.tmp 31) (.const (.bool true)) (.tmp 35), none, false⟩]))
  (.cond (.tmp 36)
   (.seq (.reg [⟨some 2, .assign (.const (.bool false)), none, false⟩])
   .ret)
   .skip))
  (.seq (.seq (.reg [⟨some 37, .fieldAddr t_api_Node (.tmp 1) 3, none, false⟩,
   ⟨some 38, .load t_string (.tmp 37), none, false⟩,
   ⟨some 39, .binOp .eql t_string (.tmp 38) (.const (.string ⟨⟨[]⟩⟩)) t_string, none, false⟩])
  (.cond (.tmp 39)
   (.seq (.reg [⟨some 40, .fieldAddr t_api_Node (.tmp 1) 4, none, false⟩,
    ⟨some 41, .load t_bool (.tmp 40), none, false⟩,
    ⟨some 42, .unOp .not t_bool (.tmp 41), none, false⟩,
    ⟨some 43, .move (.tmp 42), none, false⟩,
    ⟨some 44, .fieldAddr t_api_Node (.tmp 1) 5, some (some 43, true), false⟩,
    ⟨some 45, .load t_int (.tmp 44), some (some 43, true), false⟩,
    ⟨some 46, .binOp .eql t_int (.tmp 45) (.const (.int .i64 0)) t_int, some (some 43, true), false⟩,
    ⟨some 47, .pick (.tmp 43) (.tmp 46) (.const (.bool false)), none, false⟩,
    ⟨some 2, .assign (.tmp 47), none, false⟩])
   .ret)
   .skip))
  (.seq (.draw [⟨some 48, .fieldAddr t_api_Node (.tmp 1) 3, none, false⟩,
   ⟨some 49, .load t_string (.tmp 48), none, false⟩,
   ⟨some 50, .call ⟨.value (.func f_strings_Trim), ⟨[(.tmp 49), (.const (.string ⟨⟨[48]⟩⟩))]⟩, ⟨[t_string, t_string]⟩⟩, none, false⟩,
   ⟨some 51, .fieldAddr t_api_Node (.tmp 1) 3, none, false⟩,
   ⟨some 52, .load t_string (.tmp 51), none, false⟩,
   ⟨some 53, .binOp .eql t_string (.tmp 50) (.tmp 52) t_string, none, false⟩,
   ⟨some 2, .assign (.tmp 53), none, false⟩]
  [0, 0, 0, 7, 7, 0, 0])
  .ret))))
theorem k_num_Right : FnOk Tryz.prog f_num_Right 54 [.tmp 2] qa6 := ⟨_, _, Tryz.func226, by kernel_rfl, rfl, Tryz.ntmps226, rfl, by kernel_rfl⟩
def q2u : LC :=
  (.seq (.reg [⟨some 4, .assign (.const (.bool false)), none, false⟩])
  (.seq (.reg [⟨some 5, .move (.tmp 1), none, false⟩,
   ⟨some 6, .binOp .geq t_int (.tmp 5) (.const (.int .i64 (-1000))) t_int, none, false⟩,
   ⟨some 7, .move (.tmp 6), none, false⟩,
   ⟨some 8, .move (.tmp 1), some (some 7, true), false⟩,
   ⟨some 9, .binOp .leq t_int (.tmp 8) (.const (.int .i64 1000)) t_int, some (some 7, true), false⟩,
   ⟨some 10, .pick (.tmp 7) (.tmp 9) (.const (.bool false)), none, false⟩,
   ⟨some 11, .move (.tmp 10), none, false⟩,
   ⟨some 12, .move (.tmp 0), some (some 11, true), false⟩,
   ⟨some 13, .move (.tmp 1), some (some 11, true), false⟩,
   ⟨some 14, .binOp .add t_int (.tmp 12) (.tmp 13) t_int, some (some 11, true), false⟩,
   ⟨some 15, .binOp .leq t_int (.tmp 14) (.const (.int .i64 1000)) t_int, some (some 11, true), false⟩,
   ⟨some 16, .pick (.tmp 11) (.tmp 15) (.const (.bool false)), none, false⟩,
   ⟨some 4, .assign (.tmp 16), none, false⟩])
  .ret))
theorem k_num_isPower : FnOk Tryz.prog f_num_isPower 17 [.tmp 4] q2u := ⟨_, _, Tryz.func210, by kernel_rfl, rfl, Tryz.ntmps210, rfl, by kernel_rfl⟩
def q54 : LC :=
  (.seq (.reg [⟨some 2, .assign (.const (.bool false)), none, false⟩])
  (.seq (.reg [⟨some 3, .move (.tmp 0), none, false⟩,
   ⟨some 4, .call ⟨.value (.func f_strings_TrimFunc), ⟨[(.tmp 3), (.func f_num_isFigure)]⟩, ⟨[t_string, t_func_int32__bool]⟩⟩, none, false⟩,
   ⟨some 5, .binOp .eql t_string (.tmp 4) (.const (.string ⟨⟨[]⟩⟩)) t_string, none, false⟩,
   ⟨some 2, .assign (.tmp 5), none, false⟩])
  .ret))
theorem k_num_isFigures : FnOk Tryz.prog f_num_isFigures 6 [.tmp 2] q54 := ⟨_, _, Tryz.func207, by kernel_rfl, rfl, Tryz.ntmps207, rfl, by kernel_rfl⟩
def qa7 : LC :=
  (.seq (.reg [⟨some 2, .assign (.const (.bool false)), none, false⟩])
  (.seq (.reg [⟨some 8, .build t_val_open ⟨[(0, (.const (.int .i64 5))), (1, (.const (.int .i64 1)))]⟩, none, false⟩,
   ⟨some 9, .buildSlice t_L_val_open 1 ⟨[(0, (.tmp 8))]⟩, none, true⟩,
   ⟨some 3, .assign (.tmp 9), none, false⟩])
  (.seq (.seq (.reg [⟨some 10, .move (.tmp 0), none, false⟩,
   ⟨some 11, .call ⟨.builtin .len, ⟨[(.tmp 10)]⟩, ⟨[t_api_Val]⟩⟩, none, false⟩,
   ⟨some 12, .move (.const (.int .i64 0)), none, false⟩])
  (.block 0 (.loop [true, false, false, true, false, false, false, false, false, false, true, true, true, false, false, false, false, false, false, false, false, false, false, false, false, false, false, false, false, false, false, false, false, false, false, false, false, false, false, false, false, false, false, false, false, false, false, false, false, false, false, false, false, false, false, false, false, false, false, false, false, false, false, false, false, false, false, false, false, false, false, false, false, false, false, false, false, false, false, false, false, false, false, false, false, false, false, false, false, false, false, false, false, false, false, false, false, false, false, false, false, false, false, false, false, false, false, false, false, false, false, false, false, false, false, false, false, false, false, false, false, false, false] (some (1, 1))
   (.seq (.reg [⟨some 13, .binOp .lss t_int (.tmp 12) (.tmp 11) t_int, none, false⟩])
    (.seq (.cond (.tmp 13)
     .skip
     (.exit 0))
    (.seq (.block 1 (.seq (.reg [⟨some 14, .indexAddr t_api_Val (.tmp 10) (.tmp 12), none, false⟩,
      ⟨some 15, .load t_api_Node (.tmp 14), none, false⟩,
      ⟨some 5, .alloc t_api_Node, none, false⟩,
      ⟨none, .store t_api_Node (.tmp 5) (.tmp 15), none, false⟩])
     (.seq (.block 2 (.loop [true, false, false, true, false, true, false, false, false, false, true, true, true, false, false, false, false, false, false, false, false, false, false, false, false, false, false, false, false, false, false, false, false, false, false, false, false, false, false, false, false, false, false, false, false, false, false, false, false, false, false, false, false, false, false, false, false, false, false, false, false, false, false, false, false, false, false, false, false, false, false, false, false, false, false, false, false, false, false, false, false, false, false, false, false, false, false, false, false, false, false, false, false, false, false, false, false, false, false, false, false, false, false, false, false, false, false, false, false, false, false, false, false, false, false, false, false, false, false, false, false, false, false] none
      (.seq (.seq (.reg [⟨some 16, .move (.tmp 3), none, false⟩,
        ⟨some 17, .call ⟨.builtin .len, ⟨[(.tmp 16)]⟩, ⟨[t_L_val_open]⟩⟩, none, false⟩,
        ⟨some 18, .binOp .gtr t_int (.tmp 17) (.const (.int .i64 0)) t_int, none, false⟩,
        ⟨some 19, .move (.tmp 18), none, false⟩,
        ⟨some 20, .move (.tmp 3), some (some 19, true), false⟩,
        ⟨some 21, .move (.tmp 3), some (some 19, true), false⟩,
        ⟨some 22, .call ⟨.builtin .len, ⟨[(.tmp 21)]⟩, ⟨[t_L_val_open]⟩⟩, some (some 19, true), false⟩,
        ⟨some 23, .binOp .sub t_int (.tmp 22) (.const (.int .i64 1)) t_int, some (some 19, true), false⟩,
        ⟨some 24, .indexAddr t_L_val_open (.tmp 20) (.tmp 23), some (some 19, true), false⟩,
        ⟨some 25, .fieldAddr t_val_open (.tmp 24) 1, some (some 19, true), false⟩,
        ⟨some 26, .load t_int (.tmp 25), some (some 19, true), false⟩,
        ⟨some 27, .binOp .eql t_int (.tmp 26) (.const (.int .i64 0)) t_int, some (some 19, true), false⟩,
        ⟨some 28, .pick (.tmp 19) (.tmp 27) (.const (.bool false)), none, false⟩])
       (.cond (.tmp 28)
        .skip
        (.exit 2)))
       (.block 3 (.reg [⟨some 29, .move (.tmp 3), none, false⟩,
         ⟨some 30, .move (.tmp 3), none, false⟩,
         ⟨some 31, .call ⟨.builtin .len, ⟨[(.tmp 30)]⟩, ⟨[t_L_val_open]⟩⟩, none, false⟩,
         ⟨some 32, .binOp .sub t_int (.tmp 31) (.const (.int .i64 1)) t_int, none, false⟩,
         ⟨some 33, .slice t_L_val_open (.tmp 29) none (some (.tmp 32)) none, none, false⟩,
         ⟨some 3, .assign (.tmp 33), none, false⟩])))))
     (.seq (.seq (.reg [⟨some 34, .move (.tmp 3), none, false⟩,
      ⟨some 35, .call ⟨.builtin .len, ⟨[(.tmp 34)]⟩, ⟨[t_L_val_open]⟩⟩, none, false⟩,
      ⟨some 36, .binOp .eql t_int (.tmp 35) (.const (.int .i64 0)) t_int, none, false⟩,
      ⟨some 37, .move (.tmp 36), none, false⟩,
      ⟨some 38, .load t_api_Node (.tmp 5), some (some 37, false), false⟩,
      ⟨some 39, .call ⟨.value (.func f_val_isPlain), ⟨[(.tmp 38)]⟩, ⟨[t_api_Node]⟩⟩, some (some 37, false), false⟩,
      ⟨some 40, .unOp .not t_bool (.tmp 39), some (some 37, false), false⟩,
      ⟨some 41, .pick (.tmp 37) (.const (.bool true)) (.tmp 40), none, false⟩,
      ⟨some 42, .move (.tmp 41), none, false⟩,
      ⟨some 43, .fieldAddr t_api_Node (.tmp 5) 1, some (some 42, false), false⟩,
      ⟨some 44, .load t_int (.tmp 43), some (some 42, false), false⟩,
      ⟨some 45, .move (.tmp 0), some (some 42, false), false⟩,
      ⟨some 46, .call ⟨.builtin .len, ⟨[(.tmp 45)]⟩, ⟨[t_api_Val]⟩⟩, some (some 42, false), false⟩,
      ⟨some 47, .binOp .gtr t_int (.tmp 44) (.tmp 46) t_int, some (some 42, false), false⟩,
      ⟨some 48, .pick (.tmp 42) (.const (.bool true)) (.tmp 47), none, false⟩])
     (.cond (.tmp 48)
      (.seq (.reg [⟨some 2, .assign (.const (.bool false)), none, false⟩])
      .ret)
      .skip))
     (.seq (.reg [⟨some 49, .move (.tmp 3), none, false⟩,
      ⟨some 50, .move (.tmp 3), none, false⟩,
      ⟨some 51, .call ⟨.builtin .len, ⟨[(.tmp 50)]⟩, ⟨[t_L_val_open]⟩⟩, none, false⟩,
      ⟨some 52, .binOp .sub t_int (.tmp 51) (.const (.int .i64 1)) t_int, none, false⟩,
      ⟨some 53, .indexAddr t_L_val_open (.tmp 49) (.tmp 52), none, false⟩,
      ⟨some 6, .assign (.tmp 53), none, false⟩])
     (.seq (.reg [⟨some 54, .move (.tmp 6), none, false⟩,
      ⟨some 55, .nilCheck (.tmp 54), none, false⟩,
      ⟨some 56, .fieldAddr t_val_open (.tmp 55) 0, none, false⟩,
      ⟨some 57, .load t_int (.tmp 56), none, false⟩,
      ⟨some 58, .binOp .eql t_int (.tmp 57) (.const (.int .i64 6)) t_int, none, false⟩,
      ⟨some 7, .assign (.tmp 58), none, false⟩])
     (.seq (.block 4 (.seq (.reg [⟨some 60, .move (.tmp 7), none, false⟩,
       ⟨some 61, .unOp .not t_bool (.tmp 60), none, false⟩,
       ⟨some 62, .move (.tmp 61), none, false⟩,
       ⟨some 63, .fieldAddr t_api_Node (.tmp 5) 2, some (some 62, true), false⟩,
       ⟨some 64, .load t_string (.tmp 63), some (some 62, true), false⟩,
       ⟨some 65, .binOp .neq t_string (.tmp 64) (.const (.string ⟨⟨[]⟩⟩)) t_string, some (some 62, true), false⟩,
       ⟨some 66, .pick (.tmp 62) (.tmp 65) (.const (.bool false)), none, false⟩,
       ⟨some 59, .assign (.tmp 66), none, false⟩])
      (.cond (.tmp 59)
       (.seq (.reg [⟨some 2, .assign (.const (.bool false)), none, false⟩])
       .ret)
       (.seq (.draw [⟨some 68, .move (.tmp 7), none, false⟩,
        ⟨some 69, .move (.tmp 68), none, false⟩,
        ⟨some 70, .fieldAddr t_api_Node (.tmp 5) 2, some (some 69, true), false⟩,
        ⟨some 71, .load t_string (.tmp 70), some (some 69, true), false⟩,
        ⟨some 72, .call ⟨.value (.func f_unicode_utf8_ValidString), ⟨[(.tmp 71)]⟩, ⟨[t_string]⟩⟩, some (some 69, true), false⟩,
        ⟨some 73, .unOp .not t_bool (.tmp 72), some (some 69, true), false⟩,
        ⟨some 74, .move (.tmp 73), some (some 69, true), false⟩,
        ⟨some 75, .move (.tmp 6), some (some 74, false), false⟩,
        ⟨some 76, .nilCheck (.tmp 75), some (some 74, false), false⟩,
        ⟨some 77, .fieldAddr t_val_open (.tmp 76) 2, some (some 74, false), false⟩,
        ⟨some 78, .load t_bool (.tmp 77), some (some 74, false), false⟩,
        ⟨some 79, .unOp .not t_bool (.tmp 78), some (some 74, false), false⟩,
        ⟨some 80, .move (.tmp 79), some (some 74, false), false⟩,
        ⟨some 81, .fieldAddr t_api_Node (.tmp 5) 2, some (some 80, true), false⟩,
        ⟨some 82, .load t_string (.tmp 81), some (some 80, true), false⟩,
        ⟨some 83, .move (.tmp 6), some (some 80, true), false⟩,
        ⟨some 84, .nilCheck (.tmp 83), some (some 80, true), false⟩,
        ⟨some 85, .fieldAddr t_val_open (.tmp 84) 3, some (some 80, true), false⟩,
        ⟨some 86, .load t_string (.tmp 85), some (some 80, true), false⟩,
        ⟨some 87, .binOp .leq t_string (.tmp 82) (.tmp 86) t_string, some (some 80, true), false⟩,
        ⟨some 88, .pick (.tmp 80) (.tmp 87) (.const (.bool false)), some (some 74, false), false⟩,
        ⟨some 89, .pick (.tmp 74) (.const (.bool true)) (.tmp 88), some (some 69, true), false⟩,
        ⟨some 90, .pick (.tmp 69) (.tmp 89) (.const (.bool false)), none, false⟩,
        ⟨some 67, .assign (.tmp 90), none, false⟩]
       [0, 0, 0, 0, 0, 0, 0, 0, 0, 0, 0, 0, 0, 0, 0, 24576, 24576, 24576, 24576, 0, 0, 0, 0, 0])
       (.cond (.tmp 67)
        (.seq (.reg [⟨some 2, .assign (.const (.bool false)), none, false⟩])
        .ret)
        .skip)))))
     (.seq (.reg [⟨some 91, .move (.tmp 6), none, false⟩,
      ⟨some 92, .nilCheck (.tmp 91), none, false⟩,
      ⟨some 93, .fieldAddr t_val_open (.tmp 92) 1, none, false⟩,
      ⟨some 94, .load t_int (.tmp 93), none, false⟩,
      ⟨some 95, .binOp .sub t_int (.tmp 94) (.const (.int .i64 1)) t_int, none, false⟩,
      ⟨some 96, .nilCheck (.tmp 91), none, false⟩,
      ⟨some 97, .fieldAddr t_val_open (.tmp 96) 1, none, false⟩,
      ⟨none, .store t_int (.tmp 97) (.tmp 95), none, false⟩])
     (.seq (.draw [⟨some 98, .move (.tmp 6), none, false⟩,
      ⟨some 99, .move (.tmp 6), none, false⟩,
      ⟨some 100, .fieldAddr t_api_Node (.tmp 5) 2, none, false⟩,
      ⟨some 101, .load t_string (.tmp 100), none, false⟩,
      ⟨some 102, .nilCheck (.tmp 98), none, false⟩,
      ⟨some 103, .fieldAddr t_val_open (.tmp 102) 2, none, false⟩,
      ⟨none, .store t_bool (.tmp 103) (.const (.bool false)), none, false⟩,
      ⟨some 104, .nilCheck (.tmp 99), none, false⟩,
      ⟨some 105, .fieldAddr t_val_open (.tmp 104) 3, none, false⟩,
      ⟨none, .store t_string (.tmp 105) (.tmp 101), none, false⟩]
     [0, 1, 3, 3, 14, 14, 14, 0, 0, 0])
     (.reg [⟨some 106, .move (.tmp 3), none, false⟩,
      ⟨some 107, .fieldAddr t_api_Node (.tmp 5) 0, none, false⟩,
      ⟨some 108, .load t_int (.tmp 107), none, false⟩,
      ⟨some 109, .fieldAddr t_api_Node (.tmp 5) 1, none, false⟩,
      ⟨some 110, .load t_int (.tmp 109), none, false⟩,
      ⟨some 111, .build t_val_open ⟨[(0, (.tmp 108)), (1, (.tmp 110)), (2, (.const (.bool true)))]⟩, none, false⟩,
      ⟨some 112, .buildSlice t_L_val_open 1 ⟨[(0, (.tmp 111))]⟩, none, false⟩,
      ⟨some 113, .call ⟨.builtin .append, ⟨[(.tmp 106), (.tmp 112)]⟩, ⟨[t_L_val_open, t_L_val_open]⟩⟩, none, false⟩,
      ⟨some 3, .assign (.tmp 113), none, false⟩]))))))))))
    (.reg [⟨some 114, .binOp .add t_int (.tmp 12) (.const (.int .i64 1)) t_int, none, false⟩,
     ⟨some 12, .move (.tmp 114), none, false⟩])))))))
  (.seq (.weak (.reg [⟨some 115, .move (.tmp 0), none, false⟩,
   ⟨some 116, .call ⟨.builtin .len, ⟨[(.tmp 115)]⟩, ⟨[t_api_Val]⟩⟩, none, false⟩,
   ⟨some 117, .binOp .gtr t_int (.tmp 116) (.const (.int .i64 0)) t_int, none, false⟩,
   ⟨some 118, .move (.tmp 117), none, false⟩,
   ⟨some 119, .move (.tmp 3), some (some 118, true), false⟩,
   ⟨some 120, .call ⟨.value (.func f_slices_ContainsFunc_L_val_open_val_open_), ⟨[(.tmp 119), (.func f_val_Right_1)]⟩, ⟨[t_L_val_open, t_func_val_open__bool]⟩⟩, some (some 118, true), false⟩,
   ⟨some 121, .unOp .not t_bool (.tmp 120), some (some 118, true), false⟩,
   ⟨some 122, .pick (.tmp 118) (.tmp 121) (.const (.bool false)), none, false⟩,
   ⟨some 2, .assign (.tmp 122), none, false⟩]))
  .ret))))
theorem k_val_Right : FnOk Tryz.prog f_val_Right 123 [.tmp 2] qa7 := ⟨_, _, Tryz.func94, by kernel_rfl, rfl, Tryz.ntmps94, rfl, by kernel_rfl⟩
def q75 : LC :=
  (.seq (.reg [⟨some 1, .box t_val_open (.tmp 0), none, false⟩,
   ⟨some 2, .assign (.const (.bool false)), none, false⟩])
  (.seq (.reg [⟨some 3, .fieldAddr t_val_open (.tmp 1) 1, none, false⟩,
   ⟨some 4, .load t_int (.tmp 3), none, false⟩,
   ⟨some 5, .binOp .gtr t_int (.tmp 4) (.const (.int .i64 0)) t_int, none, false⟩,
   ⟨some 2, .assign (.tmp 5), none, false⟩])
  .ret))
theorem k_val_Right_1 : FnOk Tryz.prog f_val_Right_1 6 [.tmp 2] q75 := ⟨_, _, Tryz.func172, by kernel_rfl, rfl, Tryz.ntmps172, rfl, by kernel_rfl⟩
def q0u : LC :=
  (.seq (.reg [⟨some 4, .assign (.const (.bool false)), none, false⟩])
  (.seq (.reg [⟨some 5, .move (.tmp 0), none, false⟩,
   ⟨some 6, .move (.tmp 1), none, false⟩,
   ⟨some 7, .call ⟨.value (.func f_slices_IndexFunc_L_val_open_val_open_), ⟨[(.tmp 5), (.tmp 6)]⟩, ⟨[t_L_val_open, t_func_val_open__bool]⟩⟩, none, false⟩,
   ⟨some 8, .binOp .geq t_int (.tmp 7) (.const (.int .i64 0)) t_int, none, false⟩,
   ⟨some 4, .assign (.tmp 8), none, false⟩])
  .ret))
theorem k_slices_ContainsFunc_L_val_open_val_open_ : FnOk Tryz.prog f_slices_ContainsFunc_L_val_open_val_open_ 9 [.tmp 4] q0u := ⟨_, _, Tryz.func171, by kernel_rfl, rfl, Tryz.ntmps171, rfl, by kernel_rfl⟩
def q0y : LC :=
  (.seq (.reg [⟨some 4, .assign (.const (.int .i64 0)), none, false⟩])
  (.seq (.seq (.reg [⟨some 6, .move (.tmp 0), none, false⟩,
   ⟨some 7, .call ⟨.builtin .len, ⟨[(.tmp 6)]⟩, ⟨[t_L_val_open]⟩⟩, none, false⟩,
   ⟨some 8, .move (.const (.int .i64 0)), none, false⟩])
  (.block 0 (.loop [true, true, false, false, false, false, false, true, true, false, false, false, false, false, false, false, false, false, false] none
   (.seq (.reg [⟨some 9, .binOp .lss t_int (.tmp 8) (.tmp 7) t_int, none, false⟩])
    (.seq (.cond (.tmp 9)
     .skip
     (.exit 0))
    (.seq (.block 1 (.seq (.reg [⟨some 10, .move (.tmp 8), none, false⟩,
      ⟨some 5, .assign (.tmp 10), none, false⟩])
     (.seq (.reg [⟨some 11, .move (.tmp 1), none, false⟩,
      ⟨some 12, .move (.tmp 0), none, false⟩,
      ⟨some 13, .move (.tmp 5), none, false⟩,
      ⟨some 14, .indexAddr t_L_val_open (.tmp 12) (.tmp 13), none, false⟩,
      ⟨some 15, .load t_val_open (.tmp 14), none, false⟩,
      ⟨some 16, .call ⟨.value (.tmp 11), ⟨[(.tmp 15)]⟩, ⟨[t_val_open]⟩⟩, none, false⟩])
     (.cond (.tmp 16)
      (.seq (.reg [⟨some 17, .move (.tmp 5), none, false⟩,
       ⟨some 4, .assign (.tmp 17), none, false⟩])
      .ret)
      .skip))))
    (.reg [⟨some 18, .binOp .add t_int (.tmp 8) (.const (.int .i64 1)) t_int, none, false⟩,
     ⟨some 8, .move (.tmp 18), none, false⟩])))))))
  (.seq (.reg [⟨some 4, .assign (.const (.int .i64 (-1))), none, false⟩])
  .ret)))
theorem k_slices_IndexFunc_L_val_open_val_open_ : FnOk Tryz.prog f_slices_IndexFunc_L_val_open_val_open_ 19 [.tmp 4] q0y := ⟨_, _, Tryz.func227, by kernel_rfl, rfl, Tryz.ntmps227, rfl, by kernel_rfl⟩
def c_val_List : LC :=
  (.seq (.reg [⟨some 2, .assign (.const (.slice none 0 0)), none, false⟩])
  (.seq (.reg [⟨some 3, .move (.tmp 0), none, false⟩,
   ⟨some 4, .call ⟨.builtin .len, ⟨[(.tmp 3)]⟩, ⟨[t_L_api_Val]⟩⟩, none, false⟩,
   ⟨some 5, .build t_api_Node ⟨[(0, (.const (.int .i64 5))), (1, (.tmp 4))]⟩, none, false⟩,
   ⟨some 6, .buildSlice t_api_Val 1 ⟨[(0, (.tmp 5))]⟩, none, true⟩,
   ⟨some 7, .move (.tmp 0), none, false⟩,
   ⟨some 8, .call ⟨.value (.func f_slices_Concat_api_Val_api_Node_), ⟨[(.tmp 7)]⟩, ⟨[t_L_api_Val]⟩⟩, none, false⟩,
   ⟨some 9, .call ⟨.builtin .append, ⟨[(.tmp 6), (.tmp 8)]⟩, ⟨[t_api_Val, t_api_Val]⟩⟩, none, false⟩,
   ⟨some 2, .assign (.tmp 9), none, false⟩])
  .ret))
theorem k_val_List : FnOk Tryz.prog f_val_List 10 [.tmp 2] c_val_List := ⟨_, _, Tryz.func45, by kernel_rfl, rfl, Tryz.ntmps45, rfl, by kernel_rfl⟩
def q19 : LC :=
  (.seq (.reg [⟨some 2, .assign (.const (.slice none 0 0)), none, false⟩])
  (.seq (.reg [⟨some 3, .assign (.const (.int .i64 0)), none, false⟩])
  (.seq (.seq (.reg [⟨some 9, .move (.tmp 0), none, false⟩,
   ⟨some 10, .call ⟨.builtin .len, ⟨[(.tmp 9)]⟩, ⟨[t_L_api_Val]⟩⟩, none, false⟩,
   ⟨some 11, .move (.const (.int .i64 0)), none, false⟩])
  (.block 0 (.loop [true, false, false, true, false, false, false, false, false, true, true, true, false, false, false, false, false, false, false, false, false, false, false, false, false, false, false, false, false, false, false, false, false, false, false, false] none
   (.seq (.reg [⟨some 12, .binOp .lss t_int (.tmp 11) (.tmp 10) t_int, none, false⟩])
    (.seq (.cond (.tmp 12)
     .skip
     (.exit 0))
    (.seq (.block 1 (.seq (.reg [⟨some 13, .indexAddr t_L_api_Val (.tmp 9) (.tmp 11), none, false⟩,
      ⟨some 14, .load t_api_Val (.tmp 13), none, false⟩,
      ⟨some 5, .assign (.tmp 14), none, false⟩])
     (.seq (.reg [⟨some 15, .move (.tmp 3), none, false⟩,
      ⟨some 16, .move (.tmp 5), none, false⟩,
      ⟨some 17, .call ⟨.builtin .len, ⟨[(.tmp 16)]⟩, ⟨[t_api_Val]⟩⟩, none, false⟩,
      ⟨some 18, .binOp .add t_int (.tmp 15) (.tmp 17) t_int, none, false⟩,
      ⟨some 3, .assign (.tmp 18), none, false⟩])
     (.seq (.reg [⟨some 19, .move (.tmp 3), none, false⟩,
      ⟨some 20, .binOp .lss t_int (.tmp 19) (.const (.int .i64 0)) t_int, none, false⟩])
     (.cond (.tmp 20)
      (.reg [⟨some 21, .makeInterface t_string (.const (.string ⟨⟨[108, 101, 110, 32, 111, 117, 116, 32, 111, 102, 32, 114, 97, 110, 103, 101]⟩⟩)), none, false⟩,
       ⟨none, .panic (.tmp 21), none, false⟩])
      .skip)))))
    (.reg [⟨some 22, .binOp .add t_int (.tmp 11) (.const (.int .i64 1)) t_int, none, false⟩,
     ⟨some 11, .move (.tmp 22), none, false⟩])))))))
  (.seq (.reg [⟨some 23, .move (.tmp 3), none, false⟩,
   ⟨some 24, .call ⟨.value (.func f_slices_Grow_api_Val_api_Node_), ⟨[(.const (.slice none 0 0)), (.tmp 23)]⟩, ⟨[t_api_Val, t_int]⟩⟩, none, false⟩,
   ⟨some 6, .assign (.tmp 24), none, false⟩])
  (.seq (.seq (.reg [⟨some 25, .move (.tmp 0), none, false⟩,
   ⟨some 26, .call ⟨.builtin .len, ⟨[(.tmp 25)]⟩, ⟨[t_L_api_Val]⟩⟩, none, false⟩,
   ⟨some 27, .move (.const (.int .i64 0)), none, false⟩])
  (.block 2 (.loop [false, false, false, false, false, false, true, false, false, false, false, false, false, false, false, false, false, false, false, false, false, false, false, false, false, true, true, true, false, false, false, false, false, false, false, false] none
   (.seq (.reg [⟨some 28, .binOp .lss t_int (.tmp 27) (.tmp 26) t_int, none, false⟩])
    (.seq (.cond (.tmp 28)
     .skip
     (.exit 2))
    (.seq (.block 3 (.seq (.reg [⟨some 29, .indexAddr t_L_api_Val (.tmp 25) (.tmp 27), none, false⟩,
      ⟨some 30, .load t_api_Val (.tmp 29), none, false⟩,
      ⟨some 8, .assign (.tmp 30), none, false⟩])
     (.reg [⟨some 31, .move (.tmp 6), none, false⟩,
      ⟨some 32, .move (.tmp 8), none, false⟩,
      ⟨some 33, .call ⟨.builtin .append, ⟨[(.tmp 31), (.tmp 32)]⟩, ⟨[t_api_Val, t_api_Val]⟩⟩, none, false⟩,
      ⟨some 6, .assign (.tmp 33), none, false⟩])))
    (.reg [⟨some 34, .binOp .add t_int (.tmp 27) (.const (.int .i64 1)) t_int, none, false⟩,
     ⟨some 27, .move (.tmp 34), none, false⟩])))))))
  (.seq (.reg [⟨some 35, .move (.tmp 6), none, false⟩,
   ⟨some 2, .assign (.tmp 35), none, false⟩])
  .ret))))))
theorem k_slices_Concat_api_Val_api_Node_ : FnOk Tryz.prog f_slices_Concat_api_Val_api_Node_ 36 [.tmp 2] q19 := ⟨_, _, Tryz.func108, by kernel_rfl, rfl, Tryz.ntmps108, rfl, by kernel_rfl⟩
def c_val_laid : LC :=
  (.seq (.reg [⟨some 4, .assign (.const (.slice none 0 0)), none, false⟩])
  (.seq (.reg [⟨some 9, .move (.tmp 1), none, false⟩,
   ⟨some 10, .call ⟨.builtin .len, ⟨[(.tmp 9)]⟩, ⟨[t_L_api_Val]⟩⟩, none, false⟩,
   ⟨some 11, .build t_api_Node ⟨[(0, (.const (.int .i64 6))), (1, (.tmp 10))]⟩, none, false⟩,
   ⟨some 12, .buildSlice t_api_Val 1 ⟨[(0, (.tmp 11))]⟩, none, true⟩,
   ⟨some 5, .assign (.tmp 12), none, false⟩])
  (.seq (.seq (.reg [⟨some 13, .move (.tmp 1), none, false⟩,
   ⟨some 14, .call ⟨.builtin .len, ⟨[(.tmp 13)]⟩, ⟨[t_L_api_Val]⟩⟩, none, false⟩,
   ⟨some 15, .move (.const (.int .i64 0)), none, false⟩])
  (.block 0 (.loop [true, false, false, false, false, true, false, false, false, false, false, false, false, true, true, true, false, false, false, false, false, false, false, false, false, false, false, false, false, false, false, false, false, false, false] none
   (.seq (.reg [⟨some 16, .binOp .lss t_int (.tmp 15) (.tmp 14) t_int, none, false⟩])
    (.seq (.cond (.tmp 16)
     .skip
     (.exit 0))
    (.seq (.block 1 (.seq (.reg [⟨some 17, .move (.tmp 15), none, false⟩,
      ⟨some 18, .indexAddr t_L_api_Val (.tmp 13) (.tmp 15), none, false⟩,
      ⟨some 19, .load t_api_Val (.tmp 18), none, false⟩,
      ⟨some 6, .assign (.tmp 17), none, false⟩,
      ⟨some 7, .assign (.tmp 19), none, false⟩])
     (.seq (.reg [⟨some 20, .move (.tmp 5), none, false⟩,
      ⟨some 21, .call ⟨.builtin .len, ⟨[(.tmp 20)]⟩, ⟨[t_api_Val]⟩⟩, none, false⟩,
      ⟨some 8, .assign (.tmp 21), none, false⟩])
     (.seq (.reg [⟨some 22, .move (.tmp 5), none, false⟩,
      ⟨some 23, .move (.tmp 7), none, false⟩,
      ⟨some 24, .call ⟨.builtin .append, ⟨[(.tmp 22), (.tmp 23)]⟩, ⟨[t_api_Val, t_api_Val]⟩⟩, none, false⟩,
      ⟨some 5, .assign (.tmp 24), none, false⟩])
     (.reg [⟨some 25, .move (.tmp 5), none, false⟩,
      ⟨some 26, .move (.tmp 8), none, false⟩,
      ⟨some 27, .move (.tmp 0), none, false⟩,
      ⟨some 28, .move (.tmp 6), none, false⟩,
      ⟨some 29, .indexAddr t_L_string (.tmp 27) (.tmp 28), none, false⟩,
      ⟨some 30, .load t_string (.tmp 29), none, false⟩,
      ⟨some 31, .indexAddr t_api_Val (.tmp 25) (.tmp 26), none, false⟩,
      ⟨some 32, .fieldAddr t_api_Node (.tmp 31) 2, none, false⟩,
      ⟨none, .store t_string (.tmp 32) (.tmp 30), none, false⟩])))))
    (.reg [⟨some 33, .binOp .add t_int (.tmp 15) (.const (.int .i64 1)) t_int, none, false⟩,
     ⟨some 15, .move (.tmp 33), none, false⟩])))))))
  (.seq (.reg [⟨some 34, .move (.tmp 5), none, false⟩,
   ⟨some 4, .assign (.tmp 34), none, false⟩])
  .ret))))
theorem k_val_laid : FnOk Tryz.prog f_val_laid 35 [.tmp 4] c_val_laid := ⟨_, _, Tryz.func101, by kernel_rfl, rfl, Tryz.ntmps101, rfl, by kernel_rfl⟩
def q3g : LC :=
  (.seq (.reg [⟨some 4, .assign (.const (.slice none 0 0)), none, false⟩,
   ⟨some 5, .assign (.const (.int .i64 0)), none, false⟩])
  (.seq (.seq (.reg [⟨some 15, .move (.tmp 0), none, false⟩,
   ⟨some 16, .call ⟨.builtin .len, ⟨[(.tmp 15)]⟩, ⟨[t_L_string]⟩⟩, none, false⟩,
   ⟨some 17, .move (.tmp 1), none, false⟩,
   ⟨some 18, .call ⟨.builtin .len, ⟨[(.tmp 17)]⟩, ⟨[t_L_api_Val]⟩⟩, none, false⟩,
   ⟨some 19, .binOp .neq t_int (.tmp 16) (.tmp 18) t_int, none, false⟩])
  (.cond (.tmp 19)
   (.seq (.reg [⟨some 4, .assign (.const (.slice none 0 0)), none, false⟩,
    ⟨some 5, .assign (.const (.int .i64 4)), none, false⟩])
   .ret)
   .skip))
  (.seq (.reg [⟨some 20, .makeMap t_map_string_api_Val none, none, false⟩,
   ⟨some 6, .assign (.tmp 20), none, false⟩])
  (.seq (.seq (.reg [⟨some 21, .move (.tmp 0), none, false⟩,
   ⟨some 22, .call ⟨.builtin .len, ⟨[(.tmp 21)]⟩, ⟨[t_L_string]⟩⟩, none, false⟩,
   ⟨some 23, .move (.const (.int .i64 0)), none, false⟩])
  (.block 0 (.loop [true, true, false, false, false, false, true, false, false, false, false, false, false, false, false, false, false, false, false, false, false, true, true, true, false, false, false, false, false, false, false, false, false, false, false, false, false, false, false, false, false, false, false, false, false, false, false, false, false, false, false, false, false, false, false, false, false, false, false, false, false, false, false, false, false, false] none
   (.seq (.reg [⟨some 24, .binOp .lss t_int (.tmp 23) (.tmp 22) t_int, none, false⟩])
    (.seq (.cond (.tmp 24)
     .skip
     (.exit 0))
    (.seq (.block 1 (.seq (.reg [⟨some 25, .move (.tmp 23), none, false⟩,
      ⟨some 26, .indexAddr t_L_string (.tmp 21) (.tmp 23), none, false⟩,
      ⟨some 27, .load t_string (.tmp 26), none, false⟩,
      ⟨some 7, .assign (.tmp 25), none, false⟩,
      ⟨some 8, .assign (.tmp 27), none, false⟩])
     (.seq (.seq (.reg [⟨some 29, .move (.tmp 6), none, false⟩,
      ⟨some 30, .move (.tmp 8), none, false⟩,
      ⟨some 31, .lookup t_map_string_api_Val (.tmp 29) (.tmp 30) true, none, false⟩,
      ⟨some 28, .move (.tmp 31), none, false⟩,
      ⟨some 32, .extract (.tmp 28) 0, none, false⟩,
      ⟨some 33, .extract (.tmp 28) 1, none, false⟩,
      ⟨some 9, .assign (.tmp 32), none, false⟩,
      ⟨some 10, .assign (.tmp 33), none, false⟩])
     (.seq (.reg [⟨some 34, .move (.tmp 10), none, false⟩,
      ⟨some 35, .move (.tmp 34), none, false⟩,
      ⟨some 36, .move (.tmp 8), some (some 35, false), false⟩,
      ⟨some 37, .call ⟨.value (.func f_unicode_utf8_ValidString), ⟨[(.tmp 36)]⟩, ⟨[t_string]⟩⟩, some (some 35, false), false⟩,
      ⟨some 38, .unOp .not t_bool (.tmp 37), some (some 35, false), false⟩,
      ⟨some 39, .pick (.tmp 35) (.const (.bool true)) (.tmp 38), none, false⟩])
     (.cond (.tmp 39)
      (.seq (.reg [⟨some 4, .assign (.const (.slice none 0 0)), none, false⟩,
       ⟨some 5, .assign (.const (.int .i64 4)), none, false⟩])
      .ret)
      .skip)))
     (.reg [⟨some 40, .move (.tmp 6), none, false⟩,
      ⟨some 41, .move (.tmp 8), none, false⟩,
      ⟨some 42, .move (.tmp 1), none, false⟩,
      ⟨some 43, .move (.tmp 7), none, false⟩,
      ⟨some 44, .indexAddr t_L_api_Val (.tmp 42) (.tmp 43), none, false⟩,
      ⟨some 45, .load t_api_Val (.tmp 44), none, false⟩,
      ⟨none, .mapUpdate t_map_string_api_Val (.tmp 40) (.tmp 41) (.tmp 45), none, false⟩]))))
    (.reg [⟨some 46, .binOp .add t_int (.tmp 23) (.const (.int .i64 1)) t_int, none, false⟩,
     ⟨some 23, .move (.tmp 46), none, false⟩])))))))
  (.seq (.reg [⟨some 47, .move (.tmp 0), none, false⟩,
   ⟨some 48, .call ⟨.value (.func f_slices_Values_L_string_string_), ⟨[(.tmp 47)]⟩, ⟨[t_L_string]⟩⟩, none, false⟩,
   ⟨some 49, .call ⟨.value (.func f_slices_Sorted_string_), ⟨[(.tmp 48)]⟩, ⟨[t_iter_Seq_string_]⟩⟩, none, false⟩,
   ⟨some 11, .assign (.tmp 49), none, false⟩])
  (.seq (.reg [⟨some 12, .assign (.const (.slice none 0 0)), none, false⟩])
  (.seq (.seq (.reg [⟨some 50, .move (.tmp 11), none, false⟩,
   ⟨some 51, .call ⟨.builtin .len, ⟨[(.tmp 50)]⟩, ⟨[t_L_string]⟩⟩, none, false⟩,
   ⟨some 52, .move (.const (.int .i64 0)), none, false⟩])
  (.block 2 (.loop [false, false, false, false, false, false, true, false, false, false, false, true, true, false, false, false, false, false, false, false, false, false, false, false, false, false, false, false, false, false, false, false, false, false, false, false, false, false, false, false, false, false, false, false, false, false, false, false, false, false, true, true, true, false, false, false, false, false, false, false, false, false, false, false, false, false] none
   (.seq (.reg [⟨some 53, .binOp .lss t_int (.tmp 52) (.tmp 51) t_int, none, false⟩])
    (.seq (.cond (.tmp 53)
     .skip
     (.exit 2))
    (.seq (.block 3 (.seq (.reg [⟨some 54, .indexAddr t_L_string (.tmp 50) (.tmp 52), none, false⟩,
      ⟨some 55, .load t_string (.tmp 54), none, false⟩,
      ⟨some 14, .assign (.tmp 55), none, false⟩])
     (.reg [⟨some 56, .move (.tmp 12), none, false⟩,
      ⟨some 57, .move (.tmp 6), none, false⟩,
      ⟨some 58, .move (.tmp 14), none, false⟩,
      ⟨some 59, .lookup t_map_string_api_Val (.tmp 57) (.tmp 58) false, none, false⟩,
      ⟨some 60, .buildSlice t_L_api_Val 1 ⟨[(0, (.tmp 59))]⟩, none, false⟩,
      ⟨some 61, .call ⟨.builtin .append, ⟨[(.tmp 56), (.tmp 60)]⟩, ⟨[t_L_api_Val, t_L_api_Val]⟩⟩, none, false⟩,
      ⟨some 12, .assign (.tmp 61), none, false⟩])))
    (.reg [⟨some 62, .binOp .add t_int (.tmp 52) (.const (.int .i64 1)) t_int, none, false⟩,
     ⟨some 52, .move (.tmp 62), none, false⟩])))))))
  (.seq (.weak (.reg [⟨some 63, .move (.tmp 11), none, false⟩,
   ⟨some 64, .move (.tmp 12), none, false⟩,
   ⟨some 65, .call ⟨.value (.func f_val_laid), ⟨[(.tmp 63), (.tmp 64)]⟩, ⟨[t_L_string, t_L_api_Val]⟩⟩, none, false⟩,
   ⟨some 4, .assign (.tmp 65), none, false⟩,
   ⟨some 5, .assign (.const (.int .i64 0)), none, false⟩]))
  .ret))))))))
theorem k_val_Object : FnOk Tryz.prog f_val_Object 66 [.tmp 4, .tmp 5] q3g := ⟨_, _, Tryz.func91, by kernel_rfl, rfl, Tryz.ntmps91, rfl, by kernel_rfl⟩
def q1j : LC :=
  (.seq (.reg [⟨some 2, .assign (.const (.slice none 0 0)), none, false⟩])
  (.seq (.reg [⟨some 4, .move (.tmp 0), none, false⟩,
   ⟨some 5, .call ⟨.value (.func f_slices_Collect_string_), ⟨[(.tmp 4)]⟩, ⟨[t_iter_Seq_string_]⟩⟩, none, false⟩,
   ⟨some 3, .assign (.tmp 5), none, false⟩])
  (.seq (.reg [⟨some 6, .move (.tmp 3), none, false⟩,
   ⟨some 7, .call ⟨.value (.func f_slices_Sort_L_string_string_), ⟨[(.tmp 6)]⟩, ⟨[t_L_string]⟩⟩, none, false⟩])
  (.seq (.reg [⟨some 8, .move (.tmp 3), none, false⟩,
   ⟨some 2, .assign (.tmp 8), none, false⟩])
  .ret))))
theorem k_slices_Sorted_string_ : FnOk Tryz.prog f_slices_Sorted_string_ 9 [.tmp 2] q1j := ⟨_, _, Tryz.func167, by kernel_rfl, rfl, Tryz.ntmps167, rfl, by kernel_rfl⟩
def q1c : LC :=
  (.seq (.reg [⟨some 1, .box t_L_string (.tmp 0), none, false⟩,
   ⟨some 2, .assign (.const (.nilFunc)), none, false⟩])
  (.seq (.reg [⟨some 3, .makeFunc (.func f_slices_Values_L_string_string__1) ⟨[]⟩ ⟨[(.tmp 1)]⟩, none, false⟩,
   ⟨some 2, .assign (.tmp 3), none, false⟩])
  .ret))
theorem k_slices_Values_L_string_string_ : FnOk Tryz.prog f_slices_Values_L_string_string_ 4 [.tmp 2] q1c := ⟨_, _, Tryz.func168, by kernel_rfl, rfl, Tryz.ntmps168, rfl, by kernel_rfl⟩
def q14 : LC :=
  (.seq (.reg [⟨some 5, .load t_L_string (.tmp 1), none, false⟩,
   ⟨some 6, .call ⟨.builtin .len, ⟨[(.tmp 5)]⟩, ⟨[t_L_string]⟩⟩, none, false⟩,
   ⟨some 7, .move (.const (.int .i64 0)), none, false⟩])
  (.block 0 (.loop [true, false, false, false, false, true, true, true, false, false, false, false, false, false, false, false] none
   (.seq (.reg [⟨some 8, .binOp .lss t_int (.tmp 7) (.tmp 6) t_int, none, false⟩])
    (.seq (.cond (.tmp 8)
     .skip
     (.exit 0))
    (.seq (.block 1 (.seq (.reg [⟨some 9, .indexAddr t_L_string (.tmp 5) (.tmp 7), none, false⟩,
      ⟨some 10, .load t_string (.tmp 9), none, false⟩,
      ⟨some 4, .assign (.tmp 10), none, false⟩])
     (.seq (.reg [⟨some 11, .move (.tmp 0), none, false⟩,
      ⟨some 12, .move (.tmp 4), none, false⟩,
      ⟨some 13, .call ⟨.value (.tmp 11), ⟨[(.tmp 12)]⟩, ⟨[t_string]⟩⟩, none, false⟩,
      ⟨some 14, .unOp .not t_bool (.tmp 13), none, false⟩])
     (.cond (.tmp 14)
      .ret
      .skip))))
    (.reg [⟨some 15, .binOp .add t_int (.tmp 7) (.const (.int .i64 1)) t_int, none, false⟩,
     ⟨some 7, .move (.tmp 15), none, false⟩])))))))
theorem k_slices_Values_L_string_string__1 : FnOk Tryz.prog f_slices_Values_L_string_string__1 16 [] q14 := ⟨_, _, Tryz.func225, by kernel_rfl, rfl, Tryz.ntmps225, rfl, by kernel_rfl⟩
def q1i : LC :=
  (.seq (.reg [⟨some 2, .assign (.const (.slice none 0 0)), none, false⟩])
  (.seq (.reg [⟨some 3, .move (.tmp 0), none, false⟩,
   ⟨some 4, .call ⟨.value (.func f_slices_AppendSeq_L_string_string_), ⟨[(.const (.slice none 0 0)), (.tmp 3)]⟩, ⟨[t_L_string, t_iter_Seq_string_]⟩⟩, none, false⟩,
   ⟨some 2, .assign (.tmp 4), none, false⟩])
  .ret))
theorem k_slices_Collect_string_ : FnOk Tryz.prog f_slices_Collect_string_ 5 [.tmp 2] q1i := ⟨_, _, Tryz.func223, by kernel_rfl, rfl, Tryz.ntmps223, rfl, by kernel_rfl⟩
def q0n : LC :=
  (.seq (.reg [⟨some 2, .box t_L_string (.tmp 0), none, false⟩,
   ⟨some 4, .assign (.const (.slice none 0 0)), none, false⟩])
  (.seq (.seq (.reg [⟨some 6, .move (.tmp 1), none, false⟩])
  (.block 0 (.rf (.tmp 6) [7] none
    (.reg [⟨some 5, .assign (.tmp 7), none, false⟩])
    (.block 1 (.reg [⟨some 8, .load t_L_string (.tmp 2), none, false⟩,
      ⟨some 9, .move (.tmp 5), none, false⟩,
      ⟨some 10, .buildSlice t_L_string 1 ⟨[(0, (.tmp 9))]⟩, none, false⟩,
      ⟨some 11, .call ⟨.builtin .append, ⟨[(.tmp 8), (.tmp 10)]⟩, ⟨[t_L_string, t_L_string]⟩⟩, none, false⟩,
      ⟨none, .store t_L_string (.tmp 2) (.tmp 11), none, false⟩])))))
  (.seq (.reg [⟨some 12, .load t_L_string (.tmp 2), none, false⟩,
   ⟨some 4, .assign (.tmp 12), none, false⟩])
  .ret)))
theorem k_slices_AppendSeq_L_string_string_ : FnOk Tryz.prog f_slices_AppendSeq_L_string_string_ 13 [.tmp 4] q0n := ⟨_, _, Tryz.func258, by kernel_rfl, rfl, Tryz.ntmps258, rfl, by kernel_rfl⟩
def q6i : LC :=
  (.seq (.reg [⟨some 3, .box t_string (.tmp 1), none, false⟩,
   ⟨some 4, .alloc t_api_Val, none, false⟩,
   ⟨some 5, .alloc t_bool, none, false⟩])
  (.seq (.seq (.reg [⟨some 8, .move (.tmp 0), none, false⟩,
   ⟨some 9, .indexAddr t_api_Val (.tmp 8) (.const (.int .i64 0)), none, false⟩,
   ⟨some 10, .fieldAddr t_api_Node (.tmp 9) 0, none, false⟩,
   ⟨some 11, .load t_int (.tmp 10), none, false⟩,
   ⟨some 12, .binOp .neq t_int (.tmp 11) (.const (.int .i64 6)) t_int, none, false⟩])
  (.cond (.tmp 12)
   (.seq (.reg [⟨none, .store t_api_Val (.tmp 4) (.const (.slice none 0 0)), none, false⟩,
    ⟨none, .store t_bool (.tmp 5) (.const (.bool false)), none, false⟩])
   .ret)
   .skip))
  (.seq (.seq (.reg [⟨some 13, .move (.tmp 0), none, false⟩,
   ⟨some 14, .call ⟨.value (.func f_val_each), ⟨[(.tmp 13)]⟩, ⟨[t_api_Val]⟩⟩, none, false⟩])
  (.block 0 (.rf (.tmp 14) [15, 16] none
    (.seq (.reg [⟨some 6, .assign (.tmp 15), none, false⟩])
    (.reg [⟨some 7, .assign (.tmp 16), none, false⟩]))
    (.block 1 (.seq (.reg [⟨some 17, .move (.tmp 6), none, false⟩,
      ⟨some 18, .load t_string (.tmp 3), none, false⟩,
      ⟨some 19, .binOp .eql t_string (.tmp 17) (.tmp 18) t_string, none, false⟩])
     (.cond (.tmp 19)
      (.seq (.reg [⟨some 20, .move (.tmp 7), none, false⟩,
       ⟨none, .store t_api_Val (.tmp 4) (.tmp 20), none, false⟩,
       ⟨none, .store t_bool (.tmp 5) (.const (.bool true)), none, false⟩])
      .ret)
      .skip))))))
  (.seq (.reg [⟨none, .store t_api_Val (.tmp 4) (.const (.slice none 0 0)), none, false⟩,
   ⟨none, .store t_bool (.tmp 5) (.const (.bool false)), none, false⟩])
  .ret))))
theorem k_val_Field : FnOk Tryz.prog f_val_Field 21 [.cell 4 t_api_Val, .cell 5 t_bool] q6i := ⟨_, _, Tryz.func34, by kernel_rfl, rfl, Tryz.ntmps34, rfl, by kernel_rfl⟩
def q3h : LC :=
  (.seq (.reg [⟨some 0, .assign (.const (.bool false)), none, false⟩])
  (.seq (.reg [⟨some 9, .build t_api_Node ⟨[(0, (.const (.int .i64 2)))]⟩, none, false⟩,
   ⟨some 10, .buildSlice t_api_Val 1 ⟨[(0, (.tmp 9))]⟩, none, false⟩,
   ⟨some 1, .assign (.tmp 10), none, false⟩])
  (.seq (.reg [⟨some 11, .move (.tmp 1), none, false⟩,
   ⟨some 12, .move (.tmp 1), none, false⟩,
   ⟨some 13, .buildSlice t_L_api_Val 2 ⟨[(0, (.tmp 11)), (1, (.tmp 12))]⟩, none, false⟩,
   ⟨some 14, .call ⟨.value (.func f_val_List), ⟨[(.tmp 13)]⟩, ⟨[t_L_api_Val]⟩⟩, none, false⟩,
   ⟨some 2, .assign (.tmp 14), none, false⟩])
  (.seq (.reg [⟨some 16, .buildSlice t_L_string 2 ⟨[(0, (.const (.string ⟨⟨[98]⟩⟩))), (1, (.const (.string ⟨⟨[97]⟩⟩)))]⟩, none, false⟩,
   ⟨some 17, .move (.tmp 2), none, false⟩,
   ⟨some 18, .move (.tmp 1), none, false⟩,
   ⟨some 19, .buildSlice t_L_api_Val 2 ⟨[(0, (.tmp 17)), (1, (.tmp 18))]⟩, none, false⟩,
   ⟨some 20, .call ⟨.value (.func f_val_Object), ⟨[(.tmp 16), (.tmp 19)]⟩, ⟨[t_L_string, t_L_api_Val]⟩⟩, none, false⟩,
   ⟨some 15, .move (.tmp 20), none, false⟩,
   ⟨some 21, .extract (.tmp 15) 0, none, false⟩,
   ⟨some 22, .extract (.tmp 15) 1, none, false⟩,
   ⟨some 3, .assign (.tmp 21), none, false⟩,
   ⟨some 4, .assign (.tmp 22), none, false⟩])
  (.seq (.reg [⟨some 24, .buildSlice t_L_string 2 ⟨[(0, (.const (.string ⟨⟨[98]⟩⟩))), (1, (.const (.string ⟨⟨[98]⟩⟩)))]⟩, none, false⟩,
   ⟨some 25, .move (.tmp 1), none, false⟩,
   ⟨some 26, .move (.tmp 1), none, false⟩,
   ⟨some 27, .buildSlice t_L_api_Val 2 ⟨[(0, (.tmp 25)), (1, (.tmp 26))]⟩, none, false⟩,
   ⟨some 28, .call ⟨.value (.func f_val_Object), ⟨[(.tmp 24), (.tmp 27)]⟩, ⟨[t_L_string, t_L_api_Val]⟩⟩, none, false⟩,
   ⟨some 23, .move (.tmp 28), none, false⟩,
   ⟨some 29, .extract (.tmp 23) 0, none, false⟩,
   ⟨some 30, .extract (.tmp 23) 1, none, false⟩,
   ⟨some 5, .assign (.tmp 29), none, false⟩,
   ⟨some 6, .assign (.tmp 30), none, false⟩])
  (.seq (.reg [⟨some 32, .move (.tmp 3), none, false⟩,
   ⟨some 33, .call ⟨.value (.func f_val_Field), ⟨[(.tmp 32), (.const (.string ⟨⟨[98]⟩⟩))]⟩, ⟨[t_api_Val, t_string]⟩⟩, none, false⟩,
   ⟨some 31, .move (.tmp 33), none, false⟩,
   ⟨some 34, .extract (.tmp 31) 0, none, false⟩,
   ⟨some 35, .extract (.tmp 31) 1, none, false⟩,
   ⟨some 7, .assign (.tmp 34), none, false⟩,
   ⟨some 8, .assign (.tmp 35), none, false⟩])
  (.seq (.reg [⟨some 36, .move (.tmp 2), none, false⟩,
   ⟨some 37, .call ⟨.builtin .len, ⟨[(.tmp 36)]⟩, ⟨[t_api_Val]⟩⟩, none, false⟩,
   ⟨some 38, .binOp .eql t_int (.tmp 37) (.const (.int .i64 3)) t_int, none, false⟩,
   ⟨some 39, .move (.tmp 38), none, false⟩,
   ⟨some 40, .move (.tmp 4), some (some 39, true), false⟩,
   ⟨some 41, .binOp .eql t_api_Errno (.tmp 40) (.const (.int .i64 0)) t_api_Errno, some (some 39, true), false⟩,
   ⟨some 42, .pick (.tmp 39) (.tmp 41) (.const (.bool false)), none, false⟩,
   ⟨some 43, .move (.tmp 42), none, false⟩,
   ⟨some 44, .move (.tmp 6), some (some 43, true), false⟩,
   ⟨some 45, .binOp .eql t_api_Errno (.tmp 44) (.const (.int .i64 4)) t_api_Errno, some (some 43, true), false⟩,
   ⟨some 46, .pick (.tmp 43) (.tmp 45) (.const (.bool false)), none, false⟩,
   ⟨some 47, .move (.tmp 46), none, false⟩,
   ⟨some 48, .move (.tmp 3), some (some 47, true), false⟩,
   ⟨some 49, .call ⟨.builtin .len, ⟨[(.tmp 48)]⟩, ⟨[t_api_Val]⟩⟩, some (some 47, true), false⟩,
   ⟨some 50, .binOp .eql t_int (.tmp 49) (.const (.int .i64 5)) t_int, some (some 47, true), false⟩,
   ⟨some 51, .pick (.tmp 47) (.tmp 50) (.const (.bool false)), none, false⟩,
   ⟨some 52, .move (.tmp 51), none, false⟩,
   ⟨some 53, .move (.tmp 3), some (some 52, true), false⟩,
   ⟨some 54, .indexAddr t_api_Val (.tmp 53) (.const (.int .i64 1)), some (some 52, true), false⟩,
   ⟨some 55, .fieldAddr t_api_Node (.tmp 54) 2, some (some 52, true), false⟩,
   ⟨some 56, .load t_string (.tmp 55), some (some 52, true), false⟩,
   ⟨some 57, .binOp .eql t_string (.tmp 56) (.const (.string ⟨⟨[97]⟩⟩)) t_string, some (some 52, true), false⟩,
   ⟨some 58, .pick (.tmp 52) (.tmp 57) (.const (.bool false)), none, false⟩,
   ⟨some 59, .move (.tmp 58), none, false⟩,
   ⟨some 60, .move (.tmp 7), some (some 59, true), false⟩,
   ⟨some 61, .move (.tmp 2), some (some 59, true), false⟩,
   ⟨some 62, .call ⟨.value (.func f_val_Same), ⟨[(.tmp 60), (.tmp 61)]⟩, ⟨[t_api_Val, t_api_Val]⟩⟩, some (some 59, true), false⟩,
   ⟨some 63, .pick (.tmp 59) (.tmp 62) (.const (.bool false)), none, false⟩,
   ⟨some 64, .move (.tmp 63), none, false⟩,
   ⟨some 65, .move (.tmp 8), some (some 64, true), false⟩,
   ⟨some 66, .pick (.tmp 64) (.tmp 65) (.const (.bool false)), none, false⟩,
   ⟨some 67, .move (.tmp 66), none, false⟩,
   ⟨some 68, .move (.tmp 3), some (some 67, true), false⟩,
   ⟨some 69, .call ⟨.value (.func f_val_Depth), ⟨[(.tmp 68)]⟩, ⟨[t_api_Val]⟩⟩, some (some 67, true), false⟩,
   ⟨some 70, .binOp .eql t_int (.tmp 69) (.const (.int .i64 2)) t_int, some (some 67, true), false⟩,
   ⟨some 71, .pick (.tmp 67) (.tmp 70) (.const (.bool false)), none, false⟩,
   ⟨some 72, .move (.tmp 71), none, false⟩,
   ⟨some 73, .move (.tmp 3), some (some 72, true), false⟩,
   ⟨some 74, .call ⟨.value (.func f_val_Right), ⟨[(.tmp 73)]⟩, ⟨[t_api_Val]⟩⟩, some (some 72, true), false⟩,
   ⟨some 75, .pick (.tmp 72) (.tmp 74) (.const (.bool false)), none, false⟩,
   ⟨some 76, .move (.tmp 75), none, false⟩,
   ⟨some 77, .call ⟨.value (.func f_val_Right), ⟨[(.const (.slice none 0 0))]⟩, ⟨[t_api_Val]⟩⟩, some (some 76, true), false⟩,
   ⟨some 78, .unOp .not t_bool (.tmp 77), some (some 76, true), false⟩,
   ⟨some 79, .pick (.tmp 76) (.tmp 78) (.const (.bool false)), none, false⟩,
   ⟨some 0, .assign (.tmp 79), none, false⟩])
  .ret)))))))
theorem k_loupelaw02_alive : FnOk Tryz.prog f_loupelaw02_alive 80 [.tmp 0] q3h := ⟨_, _, Tryz.func33, by kernel_rfl, rfl, Tryz.ntmps33, rfl, by kernel_rfl⟩
end Lp

/-! LpV6 -/

namespace Lp
open Go
theorem skip_nxtV (L : Nat) : ∀ (v : Vl) (k c : Nat), skip v k = some c → c ≤ L → nxt L v k = some c
  | v, 0, c, h, _ => by cases v <;> simpa [nxt, skip] using h
  | [], k + 1, c, h, _ => by simp [skip] at h
  | n :: v, k + 1, c, h, hc => by
    obtain ⟨hm, c', rfl, h'⟩ := q26 h
    have := q4b _ _ _ h'
    rw [nxt, if_neg (by omega), skip_nxtV L v _ c' h' (by omega)]; rfl
theorem rt_rightB {v : Vl} (h : Rt v) : q0x v = true := by
  have h1 := skip_nxtV v.length v 1 _ h.one (Nat.le_refl _)
  have h2 : v.isEmpty = false := by
    cases v with
    | nil => exact absurd rfl h.one.ne
    | cons => rfl
  simp [q0x, h1, h2, h.name, (q6y v).2 h.good]
theorem rightB_iff {v : Vl} : q0x v = true ↔ Rt v := ⟨q6z, rt_rightB⟩
theorem Good.app {p w : Vl} (hp : Good p) (hw : Good w) : Good (p ++ w) := by
  intro i n r hd
  rcases Nat.lt_or_ge i p.length with h | h
  · have hd' := List.drop_eq_getElem_cons h
    have e := drop_app (w := w) hd'
    obtain ⟨rfl, rfl⟩ := List.cons.inj (e.symm.trans hd)
    obtain ⟨h1, ps, h2, h3⟩ := hp i _ _ hd'
    exact ⟨h1, ps, q52 _ _ w _ h2, h3⟩
  · have e : (p ++ w).drop i = w.drop (i - p.length) := by
      rw [List.drop_append, List.drop_eq_nil_of_le h, List.nil_append]
    exact hw (i - p.length) n r (by rw [← e]; exact hd)
theorem Good.nil : Good [] := fun i n r h => by simp at h
theorem Good.flat : ∀ (ps : List Vl), (∀ p ∈ ps, Good p) → Good ps.flatten
  | [], _ => Good.nil
  | p :: ps, h => by
    rw [List.flatten_cons]
    exact (h p (List.mem_cons_self ..)).app (Good.flat ps fun q hq => h q (List.mem_cons_of_mem _ hq))
theorem Good.of_clr {v : Vl} (h : Good (Lp.clr v)) : Good v := by
  cases v with
  | nil => exact h
  | cons n r =>
    intro i m s hd
    cases i with
    | zero =>
      simp only [List.drop_zero, List.cons.injEq] at hd
      obtain ⟨rfl, rfl⟩ := hd
      exact h 0 { n with name := [] } r rfl
    | succ i => exact h (i + 1) m s hd
theorem One.of_clr {v : Vl} (h : One (Lp.clr v)) : One v := by
  unfold One at *
  rw [skip_clr, q5i] at h
  exact h
theorem Good.made {n : Nd} {ps : List Vl} (hn : q0m n = true) (hm : n.many = ps.length) (hr : risB n.kind ps = true) (h : ∀ p ∈ ps, One p ∧ Good p) : Good (n :: ps.flatten) := by
  intro i m s hd
  cases i with
  | zero =>
    simp only [List.drop_zero, List.cons.injEq] at hd
    obtain ⟨rfl, rfl⟩ := hd
    refine ⟨hn, ps, ?_, hr⟩
    rw [hm, Int.toNat_natCast]
    exact q4e ps fun p hp => (h p hp).1
  | succ i => exact Good.flat ps (fun p hp => (h p hp).2) i m s (by simpa using hd)
theorem Rt.made {n : Nd} {ps : List Vl} (hn : q0m n = true) (hm : n.many = ps.length) (hname : n.name = []) (hr : risB n.kind ps = true) (h : ∀ p ∈ ps, One p ∧ Good p) : Rt (n :: ps.flatten) :=
  ⟨One.made hm fun p hp => (h p hp).1, hname, Good.made hn hm hr h⟩
theorem clr_id {v : Vl} (h : nameOf v = []) : clr v = v := by
  cases v with
  | nil => rfl
  | cons n r => cases n; simp only [nameOf] at h; subst h; rfl
def listV (l : List Vl) : Vl := ⟨5, l.length, [], [], false, 0⟩ :: l.flatten
theorem risB5 : ∀ ps : List Vl, (∀ p ∈ ps, nameOf p = []) → risB 5 ps = true
  | [], _ => rfl
  | [p], h => by
    have := h p (by simp)
    simp [risB, this]; decide
  | p :: q :: ps, h => by
    have := h p (by simp)
    have ih := risB5 (q :: ps) fun x hx => h x (List.mem_cons_of_mem _ hx)
    rw [risB, this, ih]; rfl
theorem q76 {n : Nd} (h : q0m n = true) (hk : n.kind = 5 ∨ n.kind = 6) : 0 ≤ n.many ∧ n.s = [] ∧ n.neg = false ∧ n.e = 0 := by
  unfold q0m at h
  rw [if_neg (by omega), if_neg (by omega), if_neg (by omega), if_pos hk] at h
  simpa [and_assoc] using h
abbrev Rise (l : List (List UInt8)) : Prop := l.Pairwise fun x y => Op.bytesLess x y = true
theorem risB6 : ∀ ps : List Vl, risB 6 ps = true ↔ (∀ p ∈ ps, utf (nameOf p) = true) ∧ Rise (ps.map nameOf)
  | [] => by simp [risB, Rise]
  | [p] => by simp [risB, Rise]
  | p :: q :: ps => by
    have ih := risB6 (q :: ps)
    have e : risB 6 (p :: q :: ps) = (utf (nameOf p) && Op.bytesLess (nameOf p) (nameOf q) && risB 6 (q :: ps)) := by
      rw [risB]; simp
    rw [e, Bool.and_eq_true, Bool.and_eq_true, ih]
    constructor
    · rintro ⟨⟨h1, h2⟩, h3, h4⟩
      refine ⟨?_, ?_⟩
      · intro x hx
        rcases List.mem_cons.1 hx with rfl | hx
        · exact h1
        · exact h3 x hx
      · rw [List.map_cons]
        refine List.pairwise_cons.2 ⟨fun x hx => ?_, h4⟩
        rw [List.map_cons] at hx h4
        rcases List.mem_cons.1 hx with rfl | hx
        · exact h2
        · exact q3e _ _ _ h2 ((List.pairwise_cons.1 h4).1 x hx)
    · rintro ⟨h1, h2⟩
      rw [List.map_cons] at h2
      obtain ⟨h3, h4⟩ := List.pairwise_cons.1 h2
      exact ⟨⟨h1 p (by simp), h3 _ (by simp)⟩, fun x hx => h1 x (List.mem_cons_of_mem _ hx), h4⟩
def setN (nm : List UInt8) : Vl → Vl
  | [] => []
  | n :: r => { n with name := nm } :: r
theorem clr_setN (nm : List UInt8) (v : Vl) : clr (setN nm v) = clr v := by cases v <;> rfl
theorem qa8 (nm : List UInt8) (v : Vl) : (setN nm v).length = v.length := by cases v <;> rfl
theorem q6j (nm : List UInt8) {v : Vl} (h : v ≠ []) : nameOf (setN nm v) = nm := by
  cases v with
  | nil => exact absurd rfl h
  | cons n r => rfl
theorem setN_clr (v : Vl) : setN (nameOf v) (clr v) = v := by cases v <;> rfl
theorem One.setN {v : Vl} (h : One v) (nm : List UInt8) : One (Lp.setN nm v) := One.of_clr (by rw [clr_setN]; exact h.clr)
theorem Good.setN {v : Vl} (h : Good v) (nm : List UInt8) : Good (Lp.setN nm v) := Good.of_clr (by rw [clr_setN]; exact h.clr)
abbrev Prs := List (List UInt8 × Vl)
def layV (names : List (List UInt8)) (l : List Vl) : Vl := ⟨6, l.length, [], [], false, 0⟩ :: (List.zipWith setN names l).flatten
def mkO (l : Prs) : Vl := ⟨6, l.length, [], [], false, 0⟩ :: (l.map fun x => setN x.1 x.2).flatten
theorem layV_mkO : ∀ l : Prs, layV (l.map (·.1)) (l.map (·.2)) = mkO l := by
  intro l
  have : List.zipWith setN (l.map (·.1)) (l.map (·.2)) = l.map fun x => setN x.1 x.2 := by
    induction l with
    | nil => rfl
    | cons x l ih => simp only [List.map_cons, List.zipWith_cons_cons, ih]
  simp only [layV, mkO, this, List.length_map]
def prs (v : Vl) : Prs := (q1l v).zip (q1k v)
structure PairsOk (l : Prs) : Prop where
  rise : Rise (l.map (·.1))
  utf : ∀ x ∈ l, utf x.1 = true
  rt : ∀ x ∈ l, Rt x.2
theorem rt_mkO {l : Prs} (h : PairsOk l) : Rt (mkO l) := by
  refine Rt.made (n := ⟨6, l.length, [], [], false, 0⟩) (by simp [q0m]) (by simp) rfl ?_ ?_
  · show risB 6 _ = true
    rw [risB6]
    have e : (l.map fun x => setN x.1 x.2).map nameOf = l.map (·.1) := by
      rw [List.map_map]
      exact List.map_congr_left fun x hx => q6j _ (h.rt x hx).one.ne
    refine ⟨fun p hp => ?_, by rw [e]; exact h.rise⟩
    obtain ⟨x, hx, rfl⟩ := List.mem_map.1 hp
    rw [q6j _ (h.rt x hx).one.ne]
    exact h.utf x hx
  · intro p hp
    obtain ⟨x, hx, rfl⟩ := List.mem_map.1 hp
    exact ⟨(h.rt x hx).one.setN _, (h.rt x hx).good.setN _⟩
theorem parts_mkO {l : Prs} (h : ∀ x ∈ l, Rt x.2) : q1k (mkO l) = l.map (·.2) ∧ q1l (mkO l) = l.map (·.1) := by
  have hp : parts (l.length : Int).toNat (l.map fun x => setN x.1 x.2).flatten = some (l.map fun x => setN x.1 x.2) := by
    have := q4e (l.map fun x => setN x.1 x.2) fun p hp => by
      obtain ⟨x, hx, rfl⟩ := List.mem_map.1 hp
      exact (h x hx).one.setN _
    rw [List.length_map] at this
    rw [Int.toNat_natCast]; exact this
  obtain ⟨e1, e2⟩ := q21 (n := ⟨6, l.length, [], [], false, 0⟩) hp
  refine ⟨?_, ?_⟩
  · simp only [mkO, q1k, e1, List.map_map]
    exact List.map_congr_left fun x hx => by simp only [Function.comp]; rw [clr_setN, clr_id (h x hx).name]
  · simp only [mkO, q1l, if_true, e2, List.map_map]
    exact List.map_congr_left fun x hx => q6j _ (h x hx).one.ne
theorem q8j : ∀ l : Prs, (l.map (·.1)).zip (l.map (·.2)) = l
  | [] => rfl
  | x :: l => by simp [q8j l]
theorem prs_mkO {l : Prs} (h : ∀ x ∈ l, Rt x.2) : prs (mkO l) = l := by
  obtain ⟨h1, h2⟩ := parts_mkO h
  rw [prs, h1, h2, q8j]
theorem q91 : ∀ ps : List Vl, (ps.map nameOf).zip (ps.map clr) = ps.map fun p => (nameOf p, clr p)
  | [] => rfl
  | p :: ps => by simp [q91 ps]
theorem prs_ok {n : Nd} {r : Vl} (h : Rt (n :: r)) (hk : n.kind = 6) : PairsOk (prs (n :: r)) ∧ mkO (prs (n :: r)) = n :: r ∧ q1l (n :: r) = (prs (n :: r)).map (·.1) ∧ q1k (n :: r) = (prs (n :: r)).map (·.2) := by
  obtain ⟨h1, h2, ps, h3, h4, h5, h6, h7⟩ := h.parts
  obtain ⟨_, e2, e3, e4⟩ := q76 h1 (.inr hk)
  have hn : n.name = [] := h.name
  obtain ⟨q1, q2⟩ := q21 h3
  have en : q1l (n :: r) = ps.map nameOf := by simp only [q1l, hk, if_true, q2]
  have ep : q1k (n :: r) = ps.map clr := by simp only [q1k, q1]
  have epr : prs (n :: r) = ps.map fun p => (nameOf p, clr p) := by
    rw [prs, en, ep]
    exact q91 ps
  rw [hk] at h5
  obtain ⟨u1, u2⟩ := (risB6 ps).1 h5
  have hl := q1u _ _ _ h3
  refine ⟨⟨?_, ?_, ?_⟩, ?_, ?_, ?_⟩
  · rw [epr, List.map_map]; exact u2
  · rw [epr]; intro x hx
    obtain ⟨p, hp, rfl⟩ := List.mem_map.1 hx
    exact u1 p hp
  · rw [epr]; intro x hx
    obtain ⟨p, hp, rfl⟩ := List.mem_map.1 hx
    exact h7 p hp
  · rw [epr, mkO, List.map_map, List.length_map]
    have : ps.map ((fun x : List UInt8 × Vl => setN x.1 x.2) ∘ fun p => (nameOf p, clr p)) = ps := by
      conv => rhs; rw [← List.map_id ps]
      exact List.map_congr_left fun p _ => setN_clr p
    rw [this, h4]
    obtain ⟨k, m, nm, s, g, e⟩ := n
    simp only at hk e2 e3 e4 hn hl h2
    subst hk; subst e2; subst e3; subst e4; subst hn
    congr 2
    omega
  · rw [en, epr, List.map_map]; rfl
  · rw [ep, epr, List.map_map]; rfl
theorem rise_ext : ∀ a b : Prs, Rise (a.map (·.1)) → Rise (b.map (·.1)) → (∀ x, x ∈ a ↔ x ∈ b) → a = b
  | [], [], _, _, _ => rfl
  | [], y :: b, _, _, h => by have := (h y).2 (by simp); cases this
  | x :: a, [], _, _, h => by have := (h x).1 (by simp); cases this
  | x :: a, y :: b, ha, hb, h => by
    rw [List.map_cons] at ha hb
    obtain ⟨a1, a2⟩ := List.pairwise_cons.1 ha
    obtain ⟨b1, b2⟩ := List.pairwise_cons.1 hb
    have hxy : x = y := by
      rcases List.mem_cons.1 ((h x).1 (by simp)) with e | hx
      · exact e
      · rcases List.mem_cons.1 ((h y).2 (by simp)) with e | hy
        · exact e.symm
        · have g1 := b1 x.1 (List.mem_map.2 ⟨x, hx, rfl⟩)
          have g2 := a1 y.1 (List.mem_map.2 ⟨y, hy, rfl⟩)
          rw [bl_asymm _ _ g1] at g2; cases g2
    subst hxy
    have hno : ∀ c : Prs, (∀ z ∈ c.map (·.1), Op.bytesLess x.1 z = true) → x ∉ c := fun c hc hx => by
      have := hc x.1 (List.mem_map.2 ⟨x, hx, rfl⟩)
      rw [q40] at this; cases this
    have : a = b := rise_ext a b a2 b2 fun z => by
      have hz := h z
      simp only [List.mem_cons] at hz
      constructor
      · intro hza
        rcases hz.1 (.inr hza) with rfl | hzb
        · exact absurd hza (hno a a1)
        · exact hzb
      · intro hzb
        rcases hz.2 (.inr hzb) with rfl | hza
        · exact absurd hzb (hno b b1)
        · exact hza
    rw [this]
theorem rise_nodup {l : List (List UInt8)} (h : Rise l) : l.Nodup := by
  refine h.imp fun {a b} hab e => ?_
  subst e
  rw [q40] at hab; cases hab
def getP (l : Prs) (nm : List UInt8) : Option Vl := (l.find? fun x => decide (x.1 = nm)).map (·.2)
def delP (l : Prs) (nm : List UInt8) : Prs := l.filter fun x => !decide (x.1 = nm)
def putP (nm : List UInt8) (x : Vl) : Prs → Prs
  | [] => [(nm, x)]
  | y :: ys => if Op.bytesLess y.1 nm then y :: putP nm x ys else (nm, x) :: y :: ys
theorem q5l (nm : List UInt8) (x : Vl) : ∀ (l : Prs) (z : List UInt8 × Vl), z ∈ putP nm x l ↔ z = (nm, x) ∨ z ∈ l
  | [], z => by simp [putP]
  | y :: ys, z => by
    rw [putP]
    split
    · rw [List.mem_cons, q5l nm x ys z, List.mem_cons]
      constructor
      · rintro (h | h | h)
        · exact .inr (.inl h)
        · exact .inl h
        · exact .inr (.inr h)
      · rintro (h | h | h)
        · exact .inr (.inl h)
        · exact .inl h
        · exact .inr (.inr h)
    · rw [List.mem_cons]
theorem q55 (nm : List UInt8) (x : Vl) : ∀ l : Prs, Rise (l.map (·.1)) → nm ∉ l.map (·.1) → Rise ((putP nm x l).map (·.1))
  | [], _, _ => by simp [putP, Rise]
  | y :: ys, h, hn => by
    rw [List.map_cons] at h hn
    obtain ⟨h1, h2⟩ := List.pairwise_cons.1 h
    rw [List.mem_cons] at hn
    rw [putP]
    split
    · rename_i hlt
      rw [List.map_cons]
      refine List.pairwise_cons.2 ⟨fun z hz => ?_, q55 nm x ys h2 fun h => hn (.inr h)⟩
      obtain ⟨w, hw, rfl⟩ := List.mem_map.1 hz
      rcases (q5l nm x ys w).1 hw with rfl | hw
      · exact hlt
      · exact h1 _ (List.mem_map.2 ⟨w, hw, rfl⟩)
    · rename_i hlt
      have hlt2 : Op.bytesLess nm y.1 = true := by
        rcases bl_tri nm y.1 with h | h | h
        · exact h
        · exact absurd (.inl h) hn
        · exact absurd h hlt
      rw [List.map_cons, List.map_cons]
      refine List.pairwise_cons.2 ⟨fun z hz => ?_, h⟩
      rcases List.mem_cons.1 hz with rfl | hz
      · exact hlt2
      · exact q3e _ _ _ hlt2 (h1 z hz)
theorem putP_ok {nm : List UInt8} {x : Vl} {l : Prs} (h : PairsOk l) (hn : nm ∉ l.map (·.1)) (hu : utf nm = true) (hx : Rt x) : PairsOk (putP nm x l) := by
  refine ⟨q55 nm x l h.rise hn, fun z hz => ?_, fun z hz => ?_⟩
  · rcases (q5l nm x l z).1 hz with rfl | hz
    · exact hu
    · exact h.utf z hz
  · rcases (q5l nm x l z).1 hz with rfl | hz
    · exact hx
    · exact h.rt z hz
theorem qa9 (nm : List UInt8) (x : Vl) : ∀ l : Prs, (putP nm x l).length = l.length + 1
  | [] => rfl
  | y :: ys => by
    rw [putP]
    split
    · simp [qa9 nm x ys]
    · simp
theorem delP_ok {l : Prs} (h : PairsOk l) (nm : List UInt8) : PairsOk (delP l nm) := by
  have hs : ∀ x ∈ delP l nm, x ∈ l := fun x hx => (List.mem_filter.1 hx).1
  refine ⟨?_, fun x hx => h.utf x (hs x hx), fun x hx => h.rt x (hs x hx)⟩
  exact List.Pairwise.sublist (List.Sublist.map _ List.filter_sublist) h.rise
theorem delP_no (l : Prs) (nm : List UInt8) : nm ∉ (delP l nm).map (·.1) := by
  intro h
  obtain ⟨x, hx, rfl⟩ := List.mem_map.1 h
  have := (List.mem_filter.1 hx).2
  simp at this
theorem delP_id {l : Prs} {nm : List UInt8} (h : nm ∉ l.map (·.1)) : delP l nm = l := by
  refine List.filter_eq_self.2 fun x hx => ?_
  have : x.1 ≠ nm := fun e => h (List.mem_map.2 ⟨x, hx, e⟩)
  simp [this]
theorem getP_none {l : Prs} {nm : List UInt8} : getP l nm = none ↔ nm ∉ l.map (·.1) := by
  unfold getP
  rw [Option.map_eq_none_iff, List.find?_eq_none]
  constructor
  · intro h hm
    obtain ⟨x, hx, rfl⟩ := List.mem_map.1 hm
    have := h x hx
    simp at this
  · intro h x hx
    have : x.1 ≠ nm := fun e => h (List.mem_map.2 ⟨x, hx, e⟩)
    simp [this]
theorem q56 {l : Prs} {nm : List UInt8} {x : Vl} (h : getP l nm = some x) : (nm, x) ∈ l := by
  unfold getP at h
  cases hf : l.find? fun x => decide (x.1 = nm) with
  | none => rw [hf] at h; cases h
  | some y =>
    rw [hf] at h
    simp only [Option.map_some, Option.some.injEq] at h
    have h1 := List.mem_of_find?_eq_some hf
    have h2 := List.find?_some hf
    simp only [decide_eq_true_eq] at h2
    rw [← h, ← h2]; exact h1
theorem mem_getP {l : Prs} {nm : List UInt8} {x : Vl} (hr : (l.map (·.1)).Nodup) (h : (nm, x) ∈ l) : getP l nm = some x := by
  cases hg : getP l nm with
  | none => exact absurd (List.mem_map.2 ⟨_, h, rfl⟩) (getP_none.1 hg)
  | some y =>
    have hy := q56 hg
    congr 1
    clear hg
    induction l with
    | nil => cases h
    | cons z l ih =>
      rw [List.map_cons] at hr
      obtain ⟨h1, h2⟩ := List.nodup_cons.1 hr
      rcases List.mem_cons.1 h with e | h
      · rcases List.mem_cons.1 hy with e2 | hy
        · rw [← e] at e2; injection e2 with _ e2
        · rw [← e] at h1; exact absurd (List.mem_map.2 ⟨_, hy, rfl⟩) h1
      · rcases List.mem_cons.1 hy with e2 | hy
        · rw [← e2] at h1; exact absurd (List.mem_map.2 ⟨_, h, rfl⟩) h1
        · exact ih h2 h hy
theorem mem_delP {l : Prs} {nm : List UInt8} {z : List UInt8 × Vl} : z ∈ delP l nm ↔ z ∈ l ∧ z.1 ≠ nm := by
  unfold delP
  rw [List.mem_filter]
  simp
theorem putP_delP {nm : List UInt8} {x : Vl} {l : Prs} (h : PairsOk l) (hg : getP l nm = some x) : putP nm x (delP l nm) = l := by
  have hm := q56 hg
  refine rise_ext _ _ (q55 _ _ _ (delP_ok h nm).rise (delP_no l nm)) h.rise fun z => ?_
  rw [q5l, mem_delP]
  constructor
  · rintro (rfl | ⟨h1, _⟩)
    · exact hm
    · exact h1
  · intro hz
    by_cases e : z.1 = nm
    · left
      obtain ⟨z1, z2⟩ := z
      simp only at e
      subst e
      have := mem_getP (rise_nodup h.rise) hz
      rw [hg] at this
      cases this; rfl
    · exact .inr ⟨hz, e⟩
def srtP (l : Prs) : Prs := l.foldr (fun x acc => putP x.1 x.2 acc) []
theorem mem_srtP (l : Prs) (z : List UInt8 × Vl) : z ∈ srtP l ↔ z ∈ l := by
  induction l with
  | nil => rfl
  | cons x l ih =>
    show z ∈ putP x.1 x.2 (srtP l) ↔ _
    rw [q5l, ih, List.mem_cons]
theorem srtP_rise {l : Prs} (h : (l.map (·.1)).Nodup) : Rise ((srtP l).map (·.1)) := by
  induction l with
  | nil => exact List.Pairwise.nil
  | cons x l ih =>
    rw [List.map_cons] at h
    obtain ⟨h1, h2⟩ := List.nodup_cons.1 h
    refine q55 _ _ _ (ih h2) fun hm => h1 ?_
    obtain ⟨z, hz, e⟩ := List.mem_map.1 hm
    exact List.mem_map.2 ⟨z, (mem_srtP l z).1 hz, e⟩
theorem q43 (nm : List UInt8) (x : Vl) : ∀ l : Prs, (putP nm x l).Perm ((nm, x) :: l)
  | [] => .refl _
  | y :: ys => by
    rw [putP]
    split
    · exact ((q43 nm x ys).cons y).trans (.swap ..)
    · exact .refl _
theorem srtP_perm : ∀ l : Prs, (srtP l).Perm l
  | [] => .refl _
  | x :: l => (q43 x.1 x.2 (srtP l)).trans ((srtP_perm l).cons x)
theorem q57 {a b : List Vl} (h : a.Perm b) : a.flatten.length = b.flatten.length := by
  rw [List.length_flatten, List.length_flatten]
  exact (h.map List.length).sum_nat
theorem srtP_flat {names : List (List UInt8)} {l : List Vl} (h : names.length = l.length) : ((srtP (names.zip l)).map (·.2)).flatten.length = l.flatten.length := by
  have := q57 ((srtP_perm (names.zip l)).map (·.2))
  rw [List.map_snd_zip (by omega)] at this
  exact this
def q2q (names : List (List UInt8)) (k : Nat) : Bool := decide (names.length = k) && decide names.Nodup && names.all utf
def q58 (names : List (List UInt8)) (l : List Vl) : Vl := if q2q names l.length then mkO (srtP (names.zip l)) else []
def objErr (names : List (List UInt8)) (l : List Vl) : Int := if q2q names l.length then 0 else 4
theorem namesOk_iff {names : List (List UInt8)} {k : Nat} : q2q names k = true ↔ names.length = k ∧ names.Nodup ∧ ∀ x ∈ names, utf x = true := by
  simp [q2q, and_assoc]
theorem qaa {names : List (List UInt8)} {l : List Vl} (h : q2q names l.length = true) {q : Prs} (hq : Rise (q.map (·.1))) (hm : ∀ x, x ∈ q ↔ x ∈ names.zip l) : q = srtP (names.zip l) := by
  obtain ⟨h1, h2, h3⟩ := namesOk_iff.1 h
  exact rise_ext _ _ hq (srtP_rise (by rw [List.map_fst_zip (by omega)]; exact h2)) fun x => by rw [hm, mem_srtP]
def dpt : Nat → Vl → Nat
  | f + 1, n :: r => if n.kind = 5 ∨ n.kind = 6 then ((q4c n r).map (dpt f)).foldl max 0 + 1 else 0
  | _, _ => 0
def q2m (v : Vl) : Nat := dpt v.length v
theorem dpt_fuel : ∀ (f g : Nat) (v : Vl), v.length ≤ f → v.length ≤ g → Rt v → dpt f v = dpt g v
  | 0, _, v, h, _, hr => by have := hr.one.ne; cases v <;> simp at h this
  | f + 1, 0, v, _, h, hr => by have := hr.one.ne; cases v <;> simp at h this
  | f + 1, g + 1, [], _, _, _ => rfl
  | f + 1, g + 1, n :: r, h1, h2, hr => by
    have hp := q4f hr
    simp only [List.length_cons] at h1 h2
    have e : (q4c n r).map (dpt f) = (q4c n r).map (dpt g) := List.map_congr_left fun x hx => dpt_fuel f g x (by have := (hp x hx).1; omega) (by have := (hp x hx).1; omega) (hp x hx).2
    simp only [dpt, e]
theorem depthV_eq {n : Nd} {r : Vl} (h : Rt (n :: r)) : q2m (n :: r) = if n.kind = 5 ∨ n.kind = 6 then ((q1k (n :: r)).map q2m).foldl max 0 + 1 else 0 := by
  have hp := q4f h
  have e : (q4c n r).map (dpt r.length) = (q4c n r).map q2m := List.map_congr_left fun x hx => dpt_fuel _ _ x (hp x hx).1 (Nat.le_refl _) (hp x hx).2
  simp only [q2m, List.length_cons, dpt, e, q1k]
theorem q8k : ∀ (l : List Nat) (a b : Nat), a ≤ b → (∀ x ∈ l, x ≤ b) → l.foldl max a ≤ b
  | [], a, b, h, _ => h
  | y :: l, a, b, h, hl => by
    simp only [List.foldl_cons]
    exact q8k l _ b (by have := hl y (by simp); omega) fun x hx => hl x (List.mem_cons_of_mem _ hx)
theorem dpt_le : ∀ (f : Nat) (v : Vl), v.length ≤ f → Rt v → q2m v ≤ v.length
  | 0, v, h, hr => by have := hr.one.ne; cases v <;> simp at h this
  | f + 1, [], _, hr => absurd rfl hr.one.ne
  | f + 1, n :: r, h, hr => by
    rw [depthV_eq hr]
    have hp := q4f hr
    simp only [List.length_cons] at h ⊢
    split
    · have : ((q1k (n :: r)).map q2m).foldl max 0 ≤ r.length := q8k _ _ _ (Nat.zero_le _) fun x hx => by
        obtain ⟨p, hpm, rfl⟩ := List.mem_map.1 hx
        have h1 := hp p hpm
        have := dpt_le f p (by omega) h1.2
        omega
      omega
    · omega
theorem depthV_le {v : Vl} (h : Rt v) : q2m v ≤ v.length := dpt_le _ v (Nat.le_refl _) h
theorem q5m {n : Nd} (h : q0m n = true) (hk : ¬ (n.kind = 5 ∨ n.kind = 6)) : n.many = 0 := by
  unfold q0m at h
  split at h
  · simp only [Bool.and_eq_true, beq_iff_eq] at h; exact h.1.1.1
  · split at h
    · exact numB_many h
    · split at h
      · simp only [Bool.and_eq_true, beq_iff_eq] at h; exact h.1.1.2
      · cases h
theorem partsV_rt {v p : Vl} (h : Rt v) (hp : p ∈ q1k v) : Rt p ∧ p.length < v.length := by
  obtain ⟨n, r, rfl, _⟩ := q1n h.name h.one.ne
  have := q4f h p hp
  exact ⟨this.2, by simp only [List.length_cons]; omega⟩
end Lp

/-! LpV7 -/

namespace Lp
open Go
structure Opn where
  kind : Int
  left : Int
  first : Bool
  last : List UInt8
def q1b (o : Opn) (nm : List UInt8) : Bool := if o.kind = 6 then utf nm && (o.first || Op.bytesLess o.last nm) else nm == []
def runR (L : Int) : List Opn → Vl → Bool
  | s, [] => !s.any fun o => decide (0 < o.left)
  | s, n :: r => match s.dropWhile (fun o => o.left == 0) with
    | [] => false
    | o :: t => q0m n && decide (n.many ≤ L) && q1b o n.name && runR L (⟨n.kind, n.many, true, []⟩ :: ⟨o.kind, o.left - 1, false, n.name⟩ :: t) r
def risF (o : Opn) : List Vl → Bool
  | [] => true
  | p :: ps => q1b o (nameOf p) && risF { o with first := false, last := nameOf p } ps
def Fit (L : Int) : List Opn → Vl → Prop
  | [], v => v = []
  | o :: t, v => ∃ (ps : List Vl) (w : Vl), v = ps.flatten ++ w ∧ (ps.length : Int) = o.left ∧ (∀ p ∈ ps, One p ∧ Good p ∧ ∀ n ∈ p, n.many ≤ L) ∧ risF o ps = true ∧ Fit L t w
theorem qab (o : Opn) (k : Int) : ∀ ps : List Vl, risF { o with left := k } ps = risF o ps
  | [] => rfl
  | p :: ps => by
    simp only [risF]
    rw [qab { o with first := false, last := nameOf p } k ps]; rfl
theorem risF6 : ∀ (o : Opn) (ps : List Vl), o.kind = 6 → (risF o ps = true ↔ (∀ p ∈ ps, utf (nameOf p) = true) ∧ Rise (ps.map nameOf) ∧ (o.first = false → ∀ p ∈ ps, Op.bytesLess o.last (nameOf p) = true))
  | o, [], _ => by simp [risF, Rise]
  | o, p :: ps, hk => by
    have ih := risF6 { o with first := false, last := nameOf p } ps hk
    have e : risF o (p :: ps) = ((utf (nameOf p) && (o.first || Op.bytesLess o.last (nameOf p))) && risF { o with first := false, last := nameOf p } ps) := by
      simp only [risF, q1b, hk, if_true]
    rw [e, Bool.and_eq_true, Bool.and_eq_true, Bool.or_eq_true, ih]
    simp only [forall_const]
    constructor
    · rintro ⟨⟨h1, h2⟩, h3, h4, h5⟩
      refine ⟨fun x hx => ?_, ?_, fun hf x hx => ?_⟩
      · rcases List.mem_cons.1 hx with rfl | hx
        · exact h1
        · exact h3 x hx
      · rw [List.map_cons]
        refine List.pairwise_cons.2 ⟨fun x hx => ?_, h4⟩
        obtain ⟨q, hq, rfl⟩ := List.mem_map.1 hx
        exact h5 q hq
      · have h2' := h2.resolve_left (by rw [hf]; simp)
        rcases List.mem_cons.1 hx with rfl | hx
        · exact h2'
        · exact q3e _ _ _ h2' (h5 x hx)
    · rintro ⟨h1, h2, h3⟩
      rw [List.map_cons] at h2
      obtain ⟨h4, h5⟩ := List.pairwise_cons.1 h2
      refine ⟨⟨h1 p (by simp), ?_⟩, fun x hx => h1 x (List.mem_cons_of_mem _ hx), h5, fun x hx => h4 _ (List.mem_map.2 ⟨x, hx, rfl⟩)⟩
      cases hf : o.first with
      | true => exact .inl rfl
      | false => exact .inr (h3 hf p (by simp))
theorem q5n : ∀ (o : Opn) (ps : List Vl), o.kind ≠ 6 → (risF o ps = true ↔ ∀ p ∈ ps, nameOf p = [])
  | o, [], _ => by simp [risF]
  | o, p :: ps, hk => by
    have ih := q5n { o with first := false, last := nameOf p } ps hk
    have e : risF o (p :: ps) = ((nameOf p == []) && risF { o with first := false, last := nameOf p } ps) := by
      simp only [risF, q1b, hk, if_false]
    rw [e, Bool.and_eq_true, ih]
    simp
theorem risF_risB {n : Nd} {ps : List Vl} (hp : q0m n = true) (hl : n.many = ps.length) (m : Int) : risF ⟨n.kind, m, true, []⟩ ps = risB n.kind ps := by
  rw [Bool.eq_iff_iff]
  by_cases h6 : n.kind = 6
  · rw [risF6 _ _ h6, h6, risB6]; simp
  by_cases h5 : n.kind = 5
  · rw [q5n _ _ h6, h5]
    refine ⟨risB5 ps, fun h => ?_⟩
    have := risB_arr ps h
    intro p hp
    obtain ⟨i, hi, rfl⟩ := List.mem_iff_getElem.1 hp
    have := congrArg (fun l => l[i]?) this
    simpa [hi] using this
  · have := q5m hp (by omega)
    have : ps = [] := List.eq_nil_of_length_eq_zero (by omega)
    subst this
    simp [risF, risB]
theorem fit_zero {L : Int} {o : Opn} {t : List Opn} {v : Vl} (h : o.left = 0) : Fit L (o :: t) v ↔ Fit L t v := by
  constructor
  · rintro ⟨ps, w, rfl, hl, _, _, hw⟩
    have : ps = [] := List.eq_nil_of_length_eq_zero (by omega)
    subst this
    simpa using hw
  · intro hw
    exact ⟨[], v, by simp, by simp [h], by simp, rfl, hw⟩
theorem fit_drop {L : Int} {v : Vl} : ∀ s : List Opn, Fit L s v ↔ Fit L (s.dropWhile fun o => o.left == 0) v
  | [] => Iff.rfl
  | o :: t => by
    by_cases h : o.left = 0
    · rw [List.dropWhile_cons_of_pos (by simpa using h), ← fit_drop t, fit_zero h]
    · rw [List.dropWhile_cons_of_neg (by simpa using h)]
theorem fit_nil {L : Int} : ∀ s : List Opn, (∀ o ∈ s, 0 ≤ o.left) → (Fit L s [] ↔ ∀ o ∈ s, o.left = 0)
  | [], _ => by simp [Fit]
  | o :: t, h => by
    have ih := fit_nil (L := L) t fun x hx => h x (List.mem_cons_of_mem _ hx)
    constructor
    · rintro ⟨ps, w, he, hl, hp, _, hw⟩
      have he' := he.symm
      rw [List.append_eq_nil_iff] at he'
      obtain ⟨e1, rfl⟩ := he'
      have hps : ps = [] := by
        cases ps with
        | nil => rfl
        | cons p ps =>
          rw [List.flatten_cons, List.append_eq_nil_iff] at e1
          exact absurd e1.1 (hp p (by simp)).1.ne
      subst hps
      intro x hx
      rcases List.mem_cons.1 hx with rfl | hx
      · simpa using hl.symm
      · exact ih.1 hw x hx
    · intro hz
      rw [fit_zero (hz o (by simp)), ih]
      exact fun x hx => hz x (List.mem_cons_of_mem _ hx)
theorem fit_step {L : Int} {o : Opn} {t : List Opn} {n : Nd} {r : Vl} (h0 : 0 ≤ o.left) (h1 : o.left ≠ 0) :
    Fit L (o :: t) (n :: r) ↔ q0m n = true ∧ n.many ≤ L ∧ q1b o n.name = true ∧ Fit L (⟨n.kind, n.many, true, []⟩ :: ⟨o.kind, o.left - 1, false, n.name⟩ :: t) r := by
  constructor
  · rintro ⟨ps, w, he, hl, hp, hr, hw⟩
    cases ps with
    | nil => simp only [List.length_nil] at hl; omega
    | cons p ps =>
      obtain ⟨ho, hg, hm⟩ := hp p (by simp)
      cases p with
      | nil => exact absurd rfl ho.ne
      | cons n' q =>
        simp only [List.flatten_cons, List.cons_append, List.cons.injEq] at he
        obtain ⟨rfl, rfl⟩ := he
        obtain ⟨hm0, qs, hq, hqf, hqo⟩ := ho.parts
        obtain ⟨hpl, qs', hq', hrb⟩ := hg 0 n q rfl
        rw [hq] at hq'
        cases hq'
        have hql := q1u _ _ _ hq
        have hgq : Good qs.flatten := by rw [hqf]; exact (show Good ([n] ++ q) from hg).suf
        simp only [risF, Bool.and_eq_true] at hr
        refine ⟨hpl, hm n (by simp), hr.1, qs, ps.flatten ++ w, by rw [hqf, List.append_assoc], by show (qs.length : Int) = n.many; omega, fun x hx => ⟨hqo x hx, Good.of_flatten qs hqo hgq x hx, fun y hy => hm y ?_⟩, ?_, ps, w, rfl, ?_, fun x hx => hp x (List.mem_cons_of_mem _ hx), ?_, hw⟩
        · rw [← hqf]
          exact List.mem_cons_of_mem _ (List.mem_flatten.2 ⟨x, hx, hy⟩)
        · rw [risF_risB hpl (by omega)]; exact hrb
        · show (ps.length : Int) = o.left - 1
          simp only [List.length_cons] at hl; omega
        · have := hr.2
          rw [← qab _ (o.left - 1)] at this
          exact this
  · rintro ⟨hpl, hm, hn, qs, w1, rfl, hql, hqp, hqr, ps, w, rfl, hl, hp, hr, hw⟩
    have hrb : risB n.kind qs = true := by rw [← risF_risB hpl (by simp only at hql; omega)]; exact hqr
    refine ⟨(n :: qs.flatten) :: ps, w, by simp, ?_, fun x hx => ?_, ?_, hw⟩
    · simp only [List.length_cons] at hl ⊢; omega
    · rcases List.mem_cons.1 hx with rfl | hx
      · refine ⟨One.made (by simp only at hql; omega) fun p hp => (hqp p hp).1, Good.made hpl (by simp only at hql; omega) hrb fun p hp => ⟨(hqp p hp).1, (hqp p hp).2.1⟩, fun y hy => ?_⟩
        rcases List.mem_cons.1 hy with rfl | hy
        · exact hm
        · obtain ⟨q, hq, hyq⟩ := List.mem_flatten.1 hy
          exact (hqp q hq).2.2 y hyq
      · exact hp x hx
    · simp only [risF, Bool.and_eq_true]
      refine ⟨hn, ?_⟩
      have := hr
      rw [← qab _ o.left] at this
      exact this
theorem runR_fit (L : Int) : ∀ (v : Vl) (s : List Opn), (∀ o ∈ s, 0 ≤ o.left) → (runR L s v = true ↔ Fit L s v)
  | [], s, h => by
    rw [fit_nil s h]
    simp only [runR, Bool.not_eq_true', List.any_eq_false, decide_eq_true_eq]
    constructor
    · intro g o ho
      have := g o ho
      have := h o ho
      omega
    · intro g o ho
      have := g o ho
      omega
  | n :: r, s, h => by
    rw [fit_drop s]
    have hd : ∀ o ∈ s.dropWhile (fun o => o.left == 0), 0 ≤ o.left := fun o ho => h o ((List.dropWhile_sublist _).subset ho)
    have hh : ∀ o t, s.dropWhile (fun o => o.left == 0) = o :: t → o.left ≠ 0 := fun o t e => by
      have := List.head?_dropWhile_not (fun o : Opn => o.left == 0) s
      rw [e] at this
      simpa using this
    rw [runR]
    generalize s.dropWhile (fun o => o.left == 0) = s' at hd hh
    cases s' with
    | nil => simp [Fit]
    | cons o t =>
      simp only
      have h0 := hd o (by simp)
      have h1 := hh o t rfl
      rw [fit_step h0 h1]
      simp only [Bool.and_eq_true, decide_eq_true_eq, and_assoc]
      constructor
      · rintro ⟨g1, g2, g3, g4⟩
        refine ⟨g1, g2, g3, (runR_fit L r _ ?_).1 g4⟩
        have hm : 0 ≤ n.many := by
          by_cases hk : n.kind = 5 ∨ n.kind = 6
          · exact (q76 g1 hk).1
          · rw [q5m g1 hk]; exact Int.le_refl 0
        intro x hx
        rcases List.mem_cons.1 hx with rfl | hx
        · exact hm
        · rcases List.mem_cons.1 hx with rfl | hx
          · simp only; omega
          · exact hd x (List.mem_cons_of_mem _ hx)
      · rintro ⟨g1, g2, g3, g4⟩
        refine ⟨g1, g2, g3, (runR_fit L r _ ?_).2 g4⟩
        have hm : 0 ≤ n.many := by
          by_cases hk : n.kind = 5 ∨ n.kind = 6
          · exact (q76 g1 hk).1
          · rw [q5m g1 hk]; exact Int.le_refl 0
        intro x hx
        rcases List.mem_cons.1 hx with rfl | hx
        · exact hm
        · rcases List.mem_cons.1 hx with rfl | hx
          · simp only; omega
          · exact hd x (List.mem_cons_of_mem _ hx)
theorem One.many_le {v : Vl} (h : One v) : ∀ n ∈ v, n.many ≤ (v.length : Int) := by
  intro n hn
  obtain ⟨i, hi, rfl⟩ := List.mem_iff_getElem.1 hn
  obtain ⟨h0, ps, hp⟩ := h.partsAt hi
  have := q3d _ _ _ hp
  simp only [List.length_drop] at this
  omega
theorem runR_right (v : Vl) : runR v.length [⟨5, 1, false, []⟩] v = q0x v := by
  rw [Bool.eq_iff_iff, runR_fit _ _ _ (by simp), rightB_iff]
  constructor
  · rintro ⟨ps, w, rfl, hl, hp, hr, hw⟩
    simp only [Fit] at hw
    subst hw
    match ps, hl with
    | [p], _ =>
      obtain ⟨h1, h2, _⟩ := hp p (by simp)
      rw [q5n _ _ (by decide)] at hr
      simp only [List.flatten_cons, List.flatten_nil, List.append_nil]
      exact ⟨h1, hr p (by simp), h2⟩
    | [], hl => simp at hl
    | _ :: _ :: _, hl => simp at hl; omega
  · intro h
    refine ⟨[v], [], by simp, by simp, fun p hp => ?_, ?_, rfl⟩
    · simp only [List.mem_singleton] at hp
      subst hp
      exact ⟨h.one, h.good, h.one.many_le⟩
    · rw [q5n _ _ (by decide)]
      simp [h.name]
end Lp

/-! LpV8 -/

namespace Lp
open Go
structure Atm where
  n : Int
  c : Nd
  deriving DecidableEq
end Lp

/-! LpV9 -/

namespace Lp
open Go Go.Lib
end Lp

/-! LpW30 -/

namespace Lp
open Go Go.Proofs
set_option maxHeartbeats 4000000
set_option maxRecDepth 20000
set_option linter.unusedSimpArgs false
theorem nmP (n : Nd) (nm : List UInt8) : (encN n).putCells 2 [.str nm] = encN { n with name := nm } := rfl
theorem enc6 (n : Nd) : (encN n).cells.length = 6 := rfl
theorem q7x (l : List Vl) {i : Nat} {v : Vl} (h : l[i]? = some v) : (l.take (i + 1)).flatten = (l.take i).flatten ++ v := by
  rw [List.take_add_one, h]; simp
theorem q77 (l : List Vl) {i : Nat} {v : Vl} (h : l[i]? = some v) : (l.take i).flatten.length + v.length ≤ l.flatten.length := by
  have e : l.flatten.length = ((l.take (i + 1)).flatten ++ (l.drop (i + 1)).flatten).length := by rw [← List.flatten_append, List.take_append_drop]
  rw [e, List.take_add_one, h]; simp
theorem zNl : (PV.ofV (Value.agg { toList := [Value.int IntKind.i64 0, Value.int IntKind.i64 0, Value.string { data := { toList := [] } }, Value.string { data := { toList := [] } }, Value.bool false, Value.int IntKind.i64 0] })).cells.length = 6 := rfl
theorem zNs : (PV.ofV (Value.agg { toList := [Value.int IntKind.i64 0, Value.int IntKind.i64 0, Value.string { data := { toList := [] } }, Value.string { data := { toList := [] } }, Value.bool false, Value.int IntKind.i64 0] })).cells.all PV.storable = true := rfl
theorem map_frzNI (n : Nat) (objs : List Obj) (v : Vl) : (v.map encN).map (PV.mapCells (frzI 0 n objs)) = v.map encN := by
  rw [List.map_map]
  exact List.map_congr_left fun x _ => rfl
theorem nodes_frz (v : Vl) (ver : Nat) (t : TypeId) (rest : List Obj) : frz 1 0 (⟨t, 6, v.map encN, true, ver⟩ :: rest) (.osl 0 ver) = encV v := by
  simp only [frz, Nat.not_lt_zero, if_false, frzI, List.getElem?_cons_zero, Nat.le_refl, decide_true, Bool.true_and, beq_self_eq_true, if_true, map_frzNI]
  rfl
end Lp

/-! LpD1 -/

namespace Lp
open Go Go.Proofs
set_option maxHeartbeats 4000000
set_option maxRecDepth 20000
set_option linter.unusedSimpArgs false
theorem foldl_take {l : List Nat} {i : Nat} {x : Nat} (h : l[i]? = some x) : (l.take (i + 1)).foldl max 0 = max ((l.take i).foldl max 0) x := by
  rw [List.take_add_one, h, List.foldl_append]; rfl
theorem maxI (a b : Nat) : (if ((b : Int) > (a : Int)) then (b : Int) else (a : Int)) = ((max a b : Nat) : Int) := by
  split <;> omega
end Lp

/-! LpD2 -/

namespace Lp
open Go Go.Proofs
set_option maxHeartbeats 4000000
set_option maxRecDepth 20000
set_option linter.unusedSimpArgs false
theorem sEqual_spec (a b : Vl) (ha : a.length ≤ 1000000) (hb : b.length ≤ 1000000) : FnSpec Tryz.prog f_slices_Equal_api_Val_api_Node_ [encV a, encV b] [] (.bool (decide (a = b))) [] := by
  refine k_slices_Equal_api_Val_api_Node_.pureG (T := tabL Tryz.prog []) 0 hD (q0g q0d) hmix (by decide) fun Q hQ => ?_
  try simp only [F_all]
  by_cases hl : a.length = b.length
  rotate_left 1
  · have hl' : ((a.length : Int) = (b.length : Int)) = False := eq_false (by omega)
    have hr : decide (a = b) = false := decide_eq_false fun h => hl (by rw [h])
    simp (maxSteps := 400000) only [↓preZ, postZ, coreZ, ↓preU, postU, D_all, F_all, unR, outL, onePV, binS, ↓binS, q03, ↓q03, q01, ↓q01, boxR, q0b, newObj, q05, q00, q07, q09, q0a, St.freeze, q02, q08, q04, BEq.rfl, reduceIte, reduceCtorEq, Nat.reduceLT, Nat.reduceAdd, Nat.reduceSub, Nat.reduceMul, Nat.reduceBEq, Nat.reduceLeDiff, Int.reduceToNat, Int.reduceLE, hQ, q0w, hl', hr]
  have hl' : ((a.length : Int) = (b.length : Int)) = True := eq_true (by omega)
  simp (maxSteps := 400000) only [↓preZ, postZ, coreZ, ↓preU, postU, D_all, F_all, unR, outL, onePV, binS, ↓binS, q03, ↓q03, q01, ↓q01, boxR, q0b, newObj, q05, q00, q07, q09, q0a, St.freeze, q02, q08, q04, BEq.rfl, reduceIte, reduceCtorEq, Nat.reduceLT, Nat.reduceAdd, Nat.reduceSub, Nat.reduceMul, Nat.reduceBEq, Nat.reduceLeDiff, Int.reduceToNat, Int.reduceLE, hQ, q0w, hl']
  refine q0t (fun m S => ∃ i : Nat, i + m = a.length ∧ (∀ j, j < i → a[j]? = b[j]?) ∧ S = ⟨tmA 26 [(0, encV a), (1, encV b), (12, .int .i64 a.length), (13, .int .i64 i)], []⟩) a.length ⟨0, by omega, fun j h => absurd h (by omega), ?_⟩ ?_
  · simp only [normR, keepR, Nat.reduceAdd, lkR, Nat.reduceBEq, F_all, List.map_nil]
    rfl
  rintro m S ⟨i, him, hj, rfl⟩
  have zi : (0 ≤ (i : Int)) = True := eq_true (by omega)
  rcases Nat.lt_or_ge i a.length with h | h
  rotate_left 1
  · have hlt : ((i : Int) < (a.length : Int)) = False := eq_false (by omega)
    have hab : a = b := List.ext_getElem? fun j => by
      by_cases hji : j < i
      · exact hj j hji
      · rw [List.getElem?_eq_none (by omega), List.getElem?_eq_none (by omega)]
    have hr : decide (a = b) = true := decide_eq_true hab
    simp (maxSteps := 400000) only [↓preZ, postZ, coreZ, ↓preU, postU, D_all, F_all, unR, outL, onePV, binS, ↓binS, q03, ↓q03, q01, ↓q01, boxR, q0b, newObj, q05, q00, q07, q09, q0a, St.freeze, q02, q08, q04, BEq.rfl, reduceIte, reduceCtorEq, Nat.reduceLT, Nat.reduceAdd, Nat.reduceSub, Nat.reduceMul, Nat.reduceBEq, Nat.reduceLeDiff, Int.reduceToNat, Int.reduceLE, hQ, hlt, hr]
  have hlt : ((i : Int) < (a.length : Int)) = True := eq_true (by omega)
  have ga := List.getElem?_eq_getElem h
  have gb : b[i]? = some (b[i]'(by omega)) := List.getElem?_eq_getElem (by omega)
  generalize a[i] = x at ga
  generalize b[i]'(by omega) = y at gb
  by_cases hxy : x = y
  · have hxy' : (x = y) = True := eq_true hxy
    simp (maxSteps := 400000) only [↓preZ, postZ, coreZ, ↓preU, postU, D_all, F_all, unR, outL, onePV, binS, ↓binS, q03, ↓q03, q01, ↓q01, boxR, q0b, newObj, q05, q00, q07, q09, q0a, St.freeze, q02, q08, q04, BEq.rfl, reduceIte, reduceCtorEq, Nat.reduceLT, Nat.reduceAdd, Nat.reduceSub, Nat.reduceMul, Nat.reduceBEq, Nat.reduceLeDiff, Int.reduceToNat, Int.reduceLE, hQ, hlt, zi, ga, gb, hxy']
    refine ⟨⟨by omega, by omega⟩, m - 1, by omega, i + 1, by omega, ?_, by simp⟩
    intro j hji
    by_cases hjj : j = i
    · subst hjj; rw [ga, gb, hxy]
    · exact hj j (by omega)
  · have hxy' : (x = y) = False := eq_false hxy
    have hr : decide (a = b) = false := decide_eq_false fun h => hxy (by rw [h, gb] at ga; exact (Option.some.inj ga).symm)
    simp (maxSteps := 400000) only [↓preZ, postZ, coreZ, ↓preU, postU, D_all, F_all, unR, outL, onePV, binS, ↓binS, q03, ↓q03, q01, ↓q01, boxR, q0b, newObj, q05, q00, q07, q09, q0a, St.freeze, q02, q08, q04, BEq.rfl, reduceIte, reduceCtorEq, Nat.reduceLT, Nat.reduceAdd, Nat.reduceSub, Nat.reduceMul, Nat.reduceBEq, Nat.reduceLeDiff, Int.reduceToNat, Int.reduceLE, hQ, hlt, zi, ga, gb, hxy', hr]
def q78 : Ctr := fun args objs K => match args with
  | [a0, a1] => ofE encV a0 (HK.mk : HK fun a => ofE encV a1 (HK.mk : HK fun b => (a.length ≤ 1000000) ∧ (b.length ≤ 1000000) ∧ K (.bool (decide (a = b))) objs 0))
  | _ => False
theorem ctrSEqual_ok : CtrOk Tryz.prog f_slices_Equal_api_Val_api_Node_ (q78) := by
  intro args objs K h
  unfold q78 at h
  split at h
  · rename_i a0 a1
    obtain ⟨a, rfl, b, rfl, h1, h2, hk⟩ := h
    exact ⟨_, _, _, .pure _ rfl (sEqual_spec a b h1 h2), hk⟩
  · exact h.elim
theorem valSame_spec (a b : Vl) (ha : a.length ≤ 1000000) (hb : b.length ≤ 1000000) : FnSpec Tryz.prog f_val_Same [encV a, encV b] [] (.bool (decide (a = b))) [] := by
  refine k_val_Same.pureG (T := tabL Tryz.prog [(f_slices_Equal_api_Val_api_Node_, q78)]) 0 hD (q0g (q0c ctrSEqual_ok q0d)) hmix (by decide) fun Q hQ => ?_
  try simp only [F_all]
  simp (maxSteps := 400000) only [↓preZ, postZ, coreZ, ↓preU, postU, D_all, F_all, unR, outL, onePV, binS, ↓binS, q03, ↓q03, q01, ↓q01, boxR, q0b, newObj, q05, q00, q07, q09, q0a, St.freeze, q02, q08, q04, BEq.rfl, reduceIte, reduceCtorEq, Nat.reduceLT, Nat.reduceAdd, Nat.reduceSub, Nat.reduceMul, Nat.reduceBEq, Nat.reduceLeDiff, Int.reduceToNat, Int.reduceLE, hQ, c_val_Same, ↓q78]
  exact ⟨ha, hb⟩
def q5o : Ctr := fun args objs K => match args with
  | [a0, a1] => ofE encV a0 (HK.mk : HK fun a => ofE encV a1 (HK.mk : HK fun b => (a.length ≤ 1000000) ∧ (b.length ≤ 1000000) ∧ K (.bool (decide (a = b))) objs 0))
  | _ => False
theorem ctrValSame_ok : CtrOk Tryz.prog f_val_Same (q5o) := by
  intro args objs K h
  unfold q5o at h
  split at h
  · rename_i a0 a1
    obtain ⟨a, rfl, b, rfl, h1, h2, hk⟩ := h
    exact ⟨_, _, _, .pure _ rfl (valSame_spec a b h1 h2), hk⟩
  · exact h.elim
theorem knI (l : List (FuncId × Ctr)) (n : Nat) : (((tabL Tryz.prog l).inner n).fn = tabF l) ∧ (((tabL Tryz.prog l).inner n).noY = (tabL Tryz.prog l).inner n) ∧ (((tabL Tryz.prog l).inner n).nx = n) := ⟨rfl, rfl, rfl⟩
theorem q44 (v : Vl) (hr : Rt v) (hl : v.length ≤ 1000000) : ∃ ps : List Vl, q1k v = ps.map clr ∧ (∀ p ∈ ps, Rt (clr p)) ∧ ps.length ≤ v.length ∧ (q1l v = ps.map nameOf ∨ (∃ n r, v = n :: r ∧ n.kind ≠ 6)) ∧ Gives Tryz.prog f_val_each_1 [.addr (encV v)] (ps.map rowOf) := by
  obtain ⟨n, r, rfl, _⟩ := q1n hr.name hr.one.ne
  obtain ⟨h1, h2, ps, h3, h4, h5, h6, h7⟩ := hr.parts
  obtain ⟨q1, q2⟩ := q21 h3
  have h8 := q1u _ _ _ h3
  have h9 := q3d _ _ _ h3
  refine ⟨ps, by simp only [q1k, q1], h7, by simp only [List.length_cons]; omega, ?_, q6h (n :: r) n r ps rfl (by omega) h2 h3⟩
  by_cases hk : n.kind = 6
  · left; simp only [q1l, if_pos hk, q2]
  · right; exact ⟨n, r, rfl, hk⟩
theorem q59 (ps : List Vl) : ∀ y ∈ ps.map rowOf, y.length = 2 := by
  intro y hy
  obtain ⟨p, _, rfl⟩ := List.mem_map.1 hy
  rfl
theorem q5a {ps : List Vl} {i : Nat} {args : List PV} (h : (ps.map rowOf)[i]? = some args) : ∃ p, ps[i]? = some p ∧ args = [.str (nameOf p), encV (clr p)] := by
  rw [List.getElem?_map] at h
  cases hx : ps[i]? with
  | none => rw [hx] at h; simp at h
  | some p => rw [hx] at h; exact ⟨p, rfl, by simpa [rowOf] using h.symm⟩
def q1o : Ctr := fun args objs K => match args with
  | [a0] => ofE encV a0 (HK.mk : HK fun v => K (.fn f_val_each_1 [] [.addr (encV v)]) objs 0)
  | _ => False
theorem q37 : CtrOk Tryz.prog f_val_each (q1o) := by
  intro args objs K h
  unfold q1o at h
  split at h
  · rename_i a0
    obtain ⟨v, rfl, hk⟩ := h
    exact ⟨_, _, _, .pure _ rfl (each_spec v), hk⟩
  · exact h.elim
def q5b (f : Nat) : Ctr := fun args objs K => match args with
  | [a0] => ofE encV a0 (HK.mk : HK fun v => (v.length ≤ f) ∧ (Rt v) ∧ (v.length ≤ 1000000) ∧ K (.int .i64 (q2m v)) objs 0)
  | _ => False
theorem depth_spec : ∀ (f : Nat) (v : Vl), v.length ≤ f → Rt v → v.length ≤ 1000000 → FnSpec Tryz.prog f_val_Depth [encV v] [] (.int .i64 (q2m v)) []
  | 0, v, h, hr, _ => by have := hr.one.ne; cases v <;> simp at h this
  | f + 1, [], _, hr, _ => absurd rfl hr.one.ne
  | f + 1, n :: r, h, hr, hl => by
    have okDepthF : CtrOk Tryz.prog f_val_Depth (q5b f) := by
      intro args objs K h
      unfold q5b at h
      split at h
      · rename_i a0
        obtain ⟨v, rfl, h1, h2, h3, hk⟩ := h
        exact ⟨_, _, _, .pure _ rfl (depth_spec f v h1 h2 h3), hk⟩
      · exact h.elim
    refine k_val_Depth.pureG (T := tabL Tryz.prog [(f_val_each, q1o), (f_val_Depth, q5b f)]) 0 hD (q0g (q0c q37 (q0c okDepthF q0d))) hmix (by decide) fun Q hQ => ?_
    try simp only [F_all]
    generalize hv : n :: r = v at *
    have hg0 : v[0]? = some n := by rw [← hv]; rfl
    have hd := depthV_eq (n := n) (r := r) (by rw [hv]; exact hr)
    rw [hv] at hd
    by_cases hk : n.kind = 5 ∨ n.kind = 6
    rotate_left 1
    · rw [if_neg hk] at hd
      have k5 : (n.kind = 5) = False := eq_false fun h => hk (.inl h)
      have k6 : (n.kind = 6) = False := eq_false fun h => hk (.inr h)
      simp (maxSteps := 400000) only [↓preZ, postZ, coreZ, ↓preU, postU, D_all, F_all, unR, outL, onePV, binS, ↓binS, q03, ↓q03, q01, ↓q01, boxR, q0b, newObj, q05, q00, q07, q09, q0a, St.freeze, q02, q08, q04, BEq.rfl, reduceIte, reduceCtorEq, Nat.reduceLT, Nat.reduceAdd, Nat.reduceSub, Nat.reduceMul, Nat.reduceBEq, Nat.reduceLeDiff, Int.reduceToNat, Int.reduceLE, hQ, q4h, hg0, k5, k6]
      rw [hd]; rfl
    rw [if_pos hk] at hd
    have hps0 : ∀ p ∈ q1k v, Rt p ∧ p.length < v.length := fun p hp => partsV_rt hr hp
    have hdl := depthV_le hr
    obtain ⟨ps, hP, hprt, hpl, _, hgv⟩ := q44 v hr hl
    rw [hP] at hd hps0
    have main : ∀ p5 p6 : Prop, (n.kind = 5) = p5 → (n.kind = 6) = p6 → (p5 = True ∨ p5 = False ∧ p6 = True) → wpc Tryz.prog D (tabL Tryz.prog [(f_val_each, q1o), (f_val_Depth, q5b f)]) q4h Q (q0s [encV v] 28) := by
      intro p5 p6 k5 k6 hk
      rcases hk with rfl | ⟨rfl, rfl⟩
      all_goals
        simp (maxSteps := 400000) only [↓preZ, postZ, coreZ, ↓preU, postU, D_all, F_all, unR, outL, onePV, binS, ↓binS, q03, ↓q03, q01, ↓q01, boxR, q0b, newObj, q05, q00, q07, q09, q0a, St.freeze, q02, q08, q04, BEq.rfl, reduceIte, reduceCtorEq, Nat.reduceLT, Nat.reduceAdd, Nat.reduceSub, Nat.reduceMul, Nat.reduceBEq, Nat.reduceLeDiff, Int.reduceToNat, Int.reduceLE, hQ, q4h, hg0, k5, k6, ↓q1o]
        refine q8f f_val_each_1 [.addr (encV v)] (ps.map rowOf) (fun i O => i ≤ ps.length ∧ O = [⟨t_int, 1, [.int .i64 (((ps.map (fun p => q2m (clr p))).take i).foldl max 0 : Nat)], true, 1⟩]) rfl rfl rfl trivial hgv (q59 ps) ⟨Nat.zero_le _, rfl⟩ ?_ ?_ ?_
        · rintro i O ⟨_, rfl⟩
          refine ⟨by simp, ?_⟩
          intro o ho x hx c hc
          simp only [List.mem_singleton] at ho
          subst ho
          simp only [List.mem_singleton] at hx
          subst hx
          simp only [PV.cells, List.mem_singleton] at hc
          subst hc
          rfl
        · rintro i args O ⟨hi, rfl⟩ ha
          obtain ⟨p, hpi, rfl⟩ := q5a ha
          have hpm := hps0 (clr p) (List.mem_map.2 ⟨p, List.mem_of_getElem? hpi, rfl⟩)
          have hft := foldl_take (l := ps.map (fun p => q2m (clr p))) (i := i) (x := q2m (clr p)) (by rw [List.getElem?_map, hpi]; rfl)
          have hil := (List.getElem?_eq_some_iff.1 hpi).1
          simp (maxSteps := 400000) only [↓preZ, postZ, coreZ, ↓preU, postU, D_all, F_all, unR, outL, onePV, binS, ↓binS, q03, ↓q03, q01, ↓q01, boxR, q0b, newObj, q05, q00, q07, q09, q0a, St.freeze, q02, q08, q04, BEq.rfl, reduceIte, reduceCtorEq, Nat.reduceLT, Nat.reduceAdd, Nat.reduceSub, Nat.reduceMul, Nat.reduceBEq, Nat.reduceLeDiff, Int.reduceToNat, Int.reduceLE, hQ, setL, knI, ↓q5b, maxI]
          exact ⟨by omega, hpm.1, by omega, rfl, by omega, by rw [hft]; rfl⟩
        · rintro O ⟨_, rfl⟩
          rw [List.length_map, List.take_of_length_le (by rw [List.length_map]; exact Nat.le_refl _)]
          simp (maxSteps := 400000) only [↓preZ, postZ, coreZ, ↓preU, postU, D_all, F_all, unR, outL, onePV, binS, ↓binS, q03, ↓q03, q01, ↓q01, boxR, q0b, newObj, q05, q00, q07, q09, q0a, St.freeze, q02, q08, q04, BEq.rfl, reduceIte, reduceCtorEq, Nat.reduceLT, Nat.reduceAdd, Nat.reduceSub, Nat.reduceMul, Nat.reduceBEq, Nat.reduceLeDiff, Int.reduceToNat, Int.reduceLE, hQ]
          rw [List.map_map] at hd
          have hd' : q2m v = List.foldl max 0 (List.map (fun p => q2m (clr p)) ps) + 1 := hd
          rw [hd']
          exact ⟨⟨by omega, by omega⟩, by simp⟩
    rcases hk with hk | hk
    · exact main _ _ (eq_true hk) rfl (.inl rfl)
    · by_cases h5 : n.kind = 5
      · exact main _ _ (eq_true h5) rfl (.inl rfl)
      · exact main _ _ (eq_false h5) (eq_true hk) (.inr ⟨rfl, rfl⟩)
theorem depth_spec' (v : Vl) (hr : Rt v) (hl : v.length ≤ 1000000) : FnSpec Tryz.prog f_val_Depth [encV v] [] (.int .i64 (q2m v)) [] := depth_spec _ v (Nat.le_refl _) hr hl
def q4i : Ctr := fun args objs K => match args with
  | [a0] => ofE encV a0 (HK.mk : HK fun v => (Rt v) ∧ (v.length ≤ 1000000) ∧ K (.int .i64 (q2m v)) objs 0)
  | _ => False
theorem qas : CtrOk Tryz.prog f_val_Depth (q4i) := by
  intro args objs K h
  unfold q4i at h
  split at h
  · rename_i a0
    obtain ⟨v, rfl, h1, h2, hk⟩ := h
    exact ⟨_, _, _, .pure _ rfl (depth_spec' v h1 h2), hk⟩
  · exact h.elim
end Lp

/-! LpV5 -/

namespace Lp
open Go Go.Lib
set_option maxRecDepth 100000
set_option maxHeartbeats 2000000
def leadOk (b0 : Nat) : Bool :=
  decide (b0 < 128) || (firstT b0 % 8 == 1 && (decide (b0 < 194) || decide (245 ≤ b0))) || (firstT b0 % 8 == 2 && accLo (firstT b0 / 16) == 128 && accHi (firstT b0 / 16) == 191 && decide (194 ≤ b0) && decide (b0 < 224)) ||
    (firstT b0 % 8 == 3 && accLo (firstT b0 / 16) == (if b0 = 224 then 160 else 128) && accHi (firstT b0 / 16) == (if b0 = 237 then 159 else 191) && decide (224 ≤ b0) && decide (b0 < 240)) ||
    (firstT b0 % 8 == 4 && accLo (firstT b0 / 16) == (if b0 = 240 then 144 else 128) && accHi (firstT b0 / 16) == (if b0 = 244 then 143 else 191) && decide (240 ≤ b0) && decide (b0 < 245))
theorem leadOk_all : (List.range 256).all leadOk = true := by decide
theorem lead_class (b0 : Nat) (h : b0 < 256) (h' : 128 ≤ b0) : (firstT b0 % 8 = 1 ∧ (b0 < 194 ∨ 245 ≤ b0)) ∨ (firstT b0 % 8 = 2 ∧ accLo (firstT b0 / 16) = 128 ∧ accHi (firstT b0 / 16) = 191 ∧ 194 ≤ b0 ∧ b0 < 224) ∨
    (firstT b0 % 8 = 3 ∧ accLo (firstT b0 / 16) = (if b0 = 224 then 160 else 128) ∧ accHi (firstT b0 / 16) = (if b0 = 237 then 159 else 191) ∧ 224 ≤ b0 ∧ b0 < 240) ∨
    (firstT b0 % 8 = 4 ∧ accLo (firstT b0 / 16) = (if b0 = 240 then 144 else 128) ∧ accHi (firstT b0 / 16) = (if b0 = 244 then 143 else 191) ∧ 240 ≤ b0 ∧ b0 < 245) := by
  have := List.all_eq_true.1 leadOk_all b0 (List.mem_range.2 h)
  simp only [leadOk, Bool.or_eq_true, Bool.and_eq_true, decide_eq_true_eq, beq_iff_eq, and_assoc] at this
  rcases this with (((g | g) | g) | g) | g
  · omega
  · exact .inl g
  · exact .inr (.inl g)
  · exact .inr (.inr (.inl g))
  · exact .inr (.inr (.inr g))
theorem utf_step (c : UInt8) (t : List UInt8) : utf (c :: t) = (runeN (c :: t) != 0 && utf ((c :: t).drop (runeN (c :: t)))) := by
  unfold utf
  rw [List.length_cons, utfF]
  simp only [List.isEmpty_cons, Bool.false_or]
  by_cases h : runeN (c :: t) = 0
  · simp [h]
  · congr 1
    exact q9y _ _ _ (by simp only [List.length_drop, List.length_cons]; omega) (Nat.le_refl _)
theorem u8n (c : UInt8) (n : Nat) (h : n < 256) : c = UInt8.ofNat n ↔ c.toNat = n := by
  constructor
  · rintro rfl; simp [UInt8.toNat_ofNat']; omega
  · intro e; rw [← e]; simp
theorem check_rune (c : UInt8) (t : List UInt8) (h : 128 ≤ c.toNat) :
    checkN (t.length + 1) (t.getD 0 0).toNat (t.getD 1 0).toNat (t.getD 2 0).toNat (firstT c.toNat % 8) (accLo (firstT c.toNat / 16)) (accHi (firstT c.toNat / 16)) =
      if runeN (c :: t) = 0 then none else some (runeN (c :: t)) := by
  have e1 : (c < 128) ↔ c.toNat < 128 := UInt8.lt_iff_toNat_lt
  have e2 : (194 ≤ c) ↔ 194 ≤ c.toNat := UInt8.le_iff_toNat_le
  have e3 : (c < 224) ↔ c.toNat < 224 := UInt8.lt_iff_toNat_lt
  have e4 : (224 ≤ c) ↔ 224 ≤ c.toNat := UInt8.le_iff_toNat_le
  have e5 : (c < 240) ↔ c.toNat < 240 := UInt8.lt_iff_toNat_lt
  have e6 : (240 ≤ c) ↔ 240 ≤ c.toNat := UInt8.le_iff_toNat_le
  have e7 : (c < 245) ↔ c.toNat < 245 := UInt8.lt_iff_toNat_lt
  have e8 : c = 224 ↔ c.toNat = 224 := u8n c 224 (by decide)
  have e9 : c = 237 ↔ c.toNat = 237 := u8n c 237 (by decide)
  have ea : c = 240 ↔ c.toNat = 240 := u8n c 240 (by decide)
  have eb : c = 244 ↔ c.toNat = 244 := u8n c 244 (by decide)
  have hc : ∀ i, contB t i = true ↔ i < t.length ∧ 128 ≤ (t.getD i 0).toNat ∧ (t.getD i 0).toNat < 192 := by
    intro i
    unfold contB
    cases hg : t[i]? with
    | none =>
      have := List.getElem?_eq_none_iff.1 hg
      simp; omega
    | some d =>
      have hl := (List.getElem?_eq_some_iff.1 hg).1
      have hd : t.getD i 0 = d := by simp [List.getD, hg]
      rw [hd]
      simp only [Bool.and_eq_true, decide_eq_true_eq]
      have x1 : (128 ≤ d) ↔ 128 ≤ d.toNat := UInt8.le_iff_toNat_le
      have x2 : (d < 192) ↔ d.toNat < 192 := UInt8.lt_iff_toNat_lt
      rw [x1, x2]
      exact ⟨fun g => ⟨hl, g⟩, fun g => g.2⟩
  have hh : t.headD 0 = t.getD 0 0 := by cases t <;> rfl
  have f1 : (t.getD 0 0 < 160) ↔ (t.getD 0 0).toNat < 160 := UInt8.lt_iff_toNat_lt
  have f2 : (160 ≤ t.getD 0 0) ↔ 160 ≤ (t.getD 0 0).toNat := UInt8.le_iff_toNat_le
  have f3 : (t.getD 0 0 < 144) ↔ (t.getD 0 0).toNat < 144 := UInt8.lt_iff_toNat_lt
  have f4 : (144 ≤ t.getD 0 0) ↔ 144 ≤ (t.getD 0 0).toNat := UInt8.le_iff_toNat_le
  simp only [runeN, e1, e2, e3, e4, e5, e6, e7, e8, e9, ea, eb, hc, hh, f1, f2, f3, f4]
  have hn := c.toNat_lt
  generalize c.toNat = n at *
  generalize (t.getD 0 0).toNat = b1 at *
  generalize (t.getD 1 0).toNat = b2 at *
  generalize (t.getD 2 0).toNat = b3 at *
  generalize t.length = L at *
  clear e1 e2 e3 e4 e5 e6 e7 e8 e9 ea eb hc f1 f2 f3 f4 hh
  obtain ⟨R, hR⟩ : ∃ R, (if n < 128 then 1 else if 194 ≤ n ∧ n < 224 ∧ 0 < L ∧ 128 ≤ b1 ∧ b1 < 192 then 2
    else if 224 ≤ n ∧ n < 240 ∧ (0 < L ∧ 128 ≤ b1 ∧ b1 < 192) ∧ 1 < L ∧ 128 ≤ b2 ∧ b2 < 192 then (if n = 224 ∧ b1 < 160 ∨ n = 237 ∧ 160 ≤ b1 then 0 else 3)
    else if 240 ≤ n ∧ n < 245 ∧ (0 < L ∧ 128 ≤ b1 ∧ b1 < 192) ∧ (1 < L ∧ 128 ≤ b2 ∧ b2 < 192) ∧ 2 < L ∧ 128 ≤ b3 ∧ b3 < 192 then (if n = 240 ∧ b1 < 144 ∨ n = 244 ∧ 144 ≤ b1 then 0 else 4) else 0) = R := ⟨_, rfl⟩
  rw [hR]
  rw [if_neg (by omega)] at hR
  rcases lead_class n hn h with ⟨k1, k2⟩ | ⟨k1, k2, k3, k4, k5⟩ | ⟨k1, k2, k3, k4, k5⟩ | ⟨k1, k2, k3, k4, k5⟩
  · rw [k1]
    rw [if_neg (by omega), if_neg (by omega), if_neg (by omega)] at hR
    subst hR; rfl
  · rw [k1, k2, k3]
    simp only [checkN, if_true]
    by_cases g : 0 < L ∧ 128 ≤ b1 ∧ b1 < 192
    · rw [if_pos ⟨k4, k5, g⟩] at hR
      subst hR
      rw [if_neg (by omega)]; rfl
    · rw [if_neg (by omega), if_neg (by omega), if_neg (by omega)] at hR
      subst hR
      rw [if_pos (by omega)]; rfl
  · rw [k1, k2, k3]
    simp only [checkN, Nat.reduceEqDiff, if_false, if_true]
    rw [if_neg (by omega)] at hR
    by_cases g : (0 < L ∧ 128 ≤ b1 ∧ b1 < 192) ∧ 1 < L ∧ 128 ≤ b2 ∧ b2 < 192
    · rw [if_pos ⟨k4, k5, g⟩] at hR
      by_cases g2 : n = 224 ∧ b1 < 160 ∨ n = 237 ∧ 160 ≤ b1
      · rw [if_pos g2] at hR
        subst hR
        rw [if_pos (by split <;> split <;> omega)]; rfl
      · rw [if_neg g2] at hR
        subst hR
        rw [if_neg (by split <;> split <;> omega)]; rfl
    · rw [if_neg (fun x => g x.2.2), if_neg (by omega)] at hR
      subst hR
      rw [if_pos (by split <;> split <;> omega)]; rfl
  · rw [k1, k2, k3]
    simp only [checkN, Nat.reduceEqDiff, if_false, if_true]
    rw [if_neg (by omega), if_neg (by omega)] at hR
    by_cases g : (0 < L ∧ 128 ≤ b1 ∧ b1 < 192) ∧ (1 < L ∧ 128 ≤ b2 ∧ b2 < 192) ∧ 2 < L ∧ 128 ≤ b3 ∧ b3 < 192
    · rw [if_pos ⟨k4, k5, g⟩] at hR
      by_cases g2 : n = 240 ∧ b1 < 144 ∨ n = 244 ∧ 144 ≤ b1
      · rw [if_pos g2] at hR
        subst hR
        rw [if_pos (by split <;> split <;> omega)]; rfl
      · rw [if_neg g2] at hR
        subst hR
        rw [if_neg (by split <;> split <;> omega)]; rfl
    · rw [if_neg (fun x => g x.2.2)] at hR
      subst hR
      rw [if_pos (by split <;> split <;> omega)]; rfl
theorem q7y : ∀ (k : Nat) (l : List UInt8), l.length ≤ k → validD l = utf l
  | _, [], _ => rfl
  | 0, _ :: _, h => by simp at h
  | k + 1, c :: t, h => by
    simp only [List.length_cons] at h
    rw [utf_step]
    by_cases hc : c.toNat < 128
    · have hr : runeN (c :: t) = 1 := by
        simp only [runeN]; rw [if_pos (UInt8.lt_iff_toNat_lt.2 hc)]
      rw [validD_cons c t hc, hr, q7y k t (by omega)]; simp
    · rw [validD_lead _ (by simp) (by simpa using hc)]
      have e := check_rune c t (by omega)
      simp only [List.getD_cons_zero, List.getD_cons_succ, List.length_cons] at e ⊢
      rw [e]
      by_cases h0 : runeN (c :: t) = 0
      · rw [if_pos h0, h0]; rfl
      · rw [if_neg h0]
        have : ((c :: t).drop (runeN (c :: t))).length ≤ k := by simp only [List.length_drop, List.length_cons]; omega
        rw [show (runeN (c :: t) != 0) = true by simpa using h0, Bool.true_and]
        exact q7y k _ this
theorem validD_eq (l : List UInt8) : validD l = utf l := q7y _ l (Nat.le_refl _)
def figP (x : Nat) : Bool := decide (48 ≤ x) && decide (x ≤ 57)
theorem qac (n b0 b1 b2 b3 : Nat) (h : (decodeN n b0 b1 b2 b3).1 < 128) : b0 < 128 ∧ decodeN n b0 b1 b2 b3 = (b0, 1) := by
  unfold decodeN at *
  split at h
  · rename_i h0; rw [if_pos h0]; exact ⟨h0, rfl⟩
  · exfalso
    repeat' split at h
    all_goals (simp at h; try omega)
theorem qad (n b0 b1 b2 b3 : Nat) (h : b0 < 128) : decodeN n b0 b1 b2 b3 = (b0, 1) := by unfold decodeN; rw [if_pos h]
theorem figP_lt {x : Nat} (h : figP x = true) : x < 128 := by simp [figP] at h; omega
def digFrom (l : List UInt8) (i : Nat) : Prop := ∀ j, i ≤ j → j < l.length → figP (l.getD j 0).toNat = true
theorem idx_figs (s : ByteArray) : ∀ (f pos : Nat), s.data.toList.length - pos ≤ f → (idxFuncFrom figP false s f pos = -1 ↔ digFrom s.data.toList pos)
  | 0, pos, h => by
    simp only [idxFuncFrom, true_iff]
    intro j h1 h2; omega
  | f + 1, pos, h => by
    unfold idxFuncFrom
    rw [size_eq]
    split
    · rename_i hp
      rw [decode_N]
      generalize hd : decodeN _ _ _ _ _ = d
      split
      · rename_i hf
        have : ¬ digFrom s.data.toList pos := fun hg => by
          have g := hg pos (Nat.le_refl _) hp
          rw [qad _ _ _ _ _ (figP_lt g)] at hd
          rw [← hd] at hf
          simp only at hf
          rw [g] at hf; cases hf
        simp only [this, iff_false]; omega
      · rename_i hf
        simp only [Bool.not_eq_false] at hf
        have hlt := figP_lt hf
        rw [← hd] at hlt
        obtain ⟨g1, g2⟩ := qac _ _ _ _ _ hlt
        rw [g2] at hd
        subst hd
        rw [idx_figs s f (pos + 1) (by omega)]
        constructor
        · intro hh j h1 h2
          rcases Nat.eq_or_lt_of_le h1 with rfl | h1
          · exact hf
          · exact hh j h1 h2
        · intro hh j h1 h2; exact hh j (by omega) h2
    · rename_i hp
      simp only [true_iff]
      intro j h1 h2; omega
theorem qat (l : List UInt8) (h : (decodeLastL l).1 < 128) : l ≠ [] ∧ (l.getD (l.length - 1) 0).toNat < 128 ∧ decodeLastL l = ((l.getD (l.length - 1) 0).toNat, 1) := by
  unfold decodeLastL at *
  split at h
  · simp [Utf8.runeError] at h
  · rename_i hne
    rw [if_neg hne]
    split at h
    · rename_i h1; rw [if_pos h1]; exact ⟨hne, h1, rfl⟩
    · rename_i h1
      exfalso
      simp only at h
      split at h
      · rename_i h2
        rw [decodeL_N] at h h2
        obtain ⟨g1, g2⟩ := qac _ _ _ _ _ h
        rw [g2] at h2
        simp only [getD_dropU] at g1
        have : lastStart l + 0 = l.length - 1 := by omega
        rw [this] at g1
        exact h1 g1
      · simp [Utf8.runeError] at h
theorem last_figs (s : ByteArray) : ∀ (f i : Nat), i ≤ f → i ≤ s.data.toList.length → lastIdxFuncFrom figP false s f i = -1 → ∀ j, j < i → figP (s.data.toList.getD j 0).toNat = true
  | 0, i, h, _, _, j, hj => by omega
  | f + 1, i, h, hi, hx, j, hj => by
    unfold lastIdxFuncFrom at hx
    rw [if_pos (by omega)] at hx
    split at hx
    · omega
    · rename_i hf
      simp only [Bool.not_eq_false] at hf
      obtain ⟨g0, g1, g2⟩ := qat _ (figP_lt hf)
      rw [g2] at hf hx
      have hl : (s.data.toList.take i).length = i := by rw [List.length_take]; omega
      rw [hl] at hf hx
      have e : (s.data.toList.take i).getD (i - 1) 0 = s.data.toList.getD (i - 1) 0 := by
        simp only [List.getD, List.getElem?_take]; rw [if_pos (by omega)]
      rw [e] at hf
      rcases Nat.lt_or_ge j (i - 1) with h1 | h1
      · exact last_figs s f (i - 1) (by omega) (by omega) hx j h1
      · have : j = i - 1 := by omega
        subst this; exact hf
theorem figs_dig (l : List UInt8) : figs l = true ↔ digFrom l 0 := by
  unfold figs digFrom
  rw [List.all_eq_true]
  have key : ∀ c : UInt8, (decide (48 ≤ c) && decide (c ≤ 57)) = figP c.toNat := fun c => by
    have x1 : (48 ≤ c) ↔ 48 ≤ c.toNat := UInt8.le_iff_toNat_le
    have x2 : (c ≤ 57) ↔ c.toNat ≤ 57 := UInt8.le_iff_toNat_le
    simp only [figP, x1, x2]
  constructor
  · intro h j _ hj
    rw [← key]
    have : l.getD j 0 = l[j] := by simp [List.getD, hj]
    rw [this]
    exact h _ (List.getElem_mem hj)
  · intro h c hc
    obtain ⟨j, hj, rfl⟩ := List.mem_iff_getElem.1 hc
    rw [key]
    have : l.getD j 0 = l[j] := by simp [List.getD, hj]
    rw [← this]
    exact h j (Nat.zero_le _) hj
theorem qae (p : Nat → Bool) (truth : Bool) (s : ByteArray) : ∀ (f i : Nat), i ≤ s.size → lastIdxFuncFrom p truth s f i = -1 ∨ (0 ≤ lastIdxFuncFrom p truth s f i ∧ lastIdxFuncFrom p truth s f i < i)
  | 0, _, _ => .inl rfl
  | f + 1, i, hi => by
    unfold lastIdxFuncFrom
    split
    · rename_i h0
      have hk := decodeLastL_width (s.data.toList.take i) (by rw [List.length_take, ← size_eq]; omega)
      rw [List.length_take, ← size_eq, Nat.min_eq_left hi] at hk
      split
      · exact .inr ⟨by omega, by omega⟩
      · rcases qae p truth s f (i - (decodeLastL (s.data.toList.take i)).2) (by omega) with h | ⟨h1, h2⟩
        · exact .inl h
        · exact .inr ⟨h1, by omega⟩
    · exact .inl rfl
theorem trimF_figs (l : List UInt8) : (trimF figP ⟨⟨l⟩⟩ = ⟨⟨[]⟩⟩) ↔ figs l = true := by
  have hi := idx_figs ⟨⟨l⟩⟩ l.length 0 (by simp)
  rw [figs_dig, ← (show (({ data := { toList := l } } : ByteArray).data.toList) = l from rfl), ← hi]
  have hidx : idxFunc figP false ⟨⟨l⟩⟩ = idxFuncFrom figP false ⟨⟨l⟩⟩ l.length 0 := rfl
  rw [← hidx]
  unfold trimF trimLeftF
  constructor
  · intro h
    refine Classical.byContradiction fun hne => ?_
    rw [if_neg hne] at h
    have hr := idxFunc_range figP false ⟨⟨l⟩⟩
    obtain ⟨r1, r2⟩ := hr.resolve_left hne
    rw [size_eq] at r2
    generalize hk : (idxFunc figP false ⟨⟨l⟩⟩).toNat = k at *
    have hkl : k < l.length := by simp at r2; omega
    rw [extract_from] at h
    simp only at h
    -- the rune at k is no figure
    have hnd : figP (l.getD k 0).toNat = false := by
      have key : ∀ f pos, idxFuncFrom figP false ⟨⟨l⟩⟩ f pos ≠ -1 → figP (Utf8.decode ⟨⟨l⟩⟩ (idxFuncFrom figP false ⟨⟨l⟩⟩ f pos).toNat).1 = false := by
        intro f
        induction f with
        | zero => intro pos h; exact absurd rfl h
        | succ f ih =>
          intro pos h
          unfold idxFuncFrom at h ⊢
          split at h
          · rename_i hp
            rw [if_pos hp]
            split at h
            · rename_i hf; rw [if_pos hf]; simpa using hf
            · rename_i hf; rw [if_neg hf]; exact ih _ h
          · exact absurd rfl h
      have := key _ _ hne
      rw [show (⟨⟨l⟩⟩ : ByteArray).size = l.length from rfl, ← hidx, hk, decode_N] at this
      cases hb : figP (l.getD k 0).toNat with
      | false => rfl
      | true =>
        have hlow := figP_lt hb
        rw [qad _ _ _ _ _ hlow] at this
        simp only at this
        rw [hb] at this; cases this
    unfold trimRightF at h
    rw [extract_upto] at h
    have hlen := congrArg (fun b : ByteArray => b.data.toList.length) h
    simp only [List.length_take, List.length_drop, List.length_nil] at hlen
    have hz : rightEndF figP ⟨(l.drop k).toArray⟩ = 0 := by omega
    unfold rightEndF at hz
    have hlt := qae figP false ⟨(l.drop k).toArray⟩ (l.drop k).length (l.drop k).length (by rw [size_eq]; exact Nat.le_refl _)
    have hli : lastIdxFunc figP false ⟨(l.drop k).toArray⟩ = lastIdxFuncFrom figP false ⟨(l.drop k).toArray⟩ (l.drop k).length (l.drop k).length := rfl
    split at hz
    · rename_i h0
      rw [hli] at h0 hz
      obtain ⟨h1, h2⟩ := hlt.resolve_left (by omega)
      have h3 : 1 ≤ (decodeGoB ((⟨(l.drop k).toArray⟩ : ByteArray).extract (lastIdxFuncFrom figP false ⟨(l.drop k).toArray⟩ (l.drop k).length (l.drop k).length).toNat (⟨(l.drop k).toArray⟩ : ByteArray).size)).2 := by
        unfold decodeGoB
        rw [if_neg]
        · exact width_pos _ _
        · rw [extract_from, size_eq]
          simp only [List.length_drop] at h2 ⊢
          omega
      omega
    · rename_i h0
      rw [hli] at h0
      have h1 := hlt.resolve_right (by omega)
      have := last_figs ⟨(l.drop k).toArray⟩ _ _ (Nat.le_refl _) (Nat.le_refl _) h1 0 (by rw [List.length_drop]; omega)
      simp only [getD_dropU] at this
      rw [Nat.add_zero, hnd] at this
      cases this
  · intro h
    rw [if_pos h]
    rfl
theorem q4j {α : Type} (p : α → Bool) (l : List α) : (l.dropWhile p).length ≤ l.length := (List.dropWhile_suffix p).length_le
theorem qau {α : Type} (p : α → Bool) : ∀ l : List α, l.dropWhile p = l ↔ (∀ x, l.head? = some x → p x = false)
  | [] => by simp
  | x :: t => by
    rw [List.dropWhile_cons]
    split
    · rename_i h
      constructor
      · intro e
        have := congrArg List.length e
        have h2 := q4j p t
        simp at this; omega
      · intro g; rw [g x rfl] at h; cases h
    · rename_i h; simpa using h
theorem trimB_self (l : List UInt8) (c : UInt8) : trimB l c = l ↔ l.head? ≠ some c ∧ l.getLast? ≠ some c := by
  have h1 : ∀ m : List UInt8, (m.dropWhile (· == c) = m) ↔ m.head? ≠ some c := fun m => by
    rw [qau]
    constructor
    · intro h e; simpa using h c e
    · intro h x hx; rw [hx] at h; simpa using h
  unfold trimB trimLeftB
  have hlen : (trimRightB l c).length ≤ l.length := by
    unfold trimRightB
    have := q4j (· == c) l.reverse
    simpa using this
  have hr : trimRightB l c = l ↔ l.getLast? ≠ some c := by
    unfold trimRightB
    rw [List.reverse_eq_iff, h1, List.head?_reverse]
  constructor
  · intro h
    have h2 := q4j (· == c) (trimRightB l c)
    have h3 := congrArg List.length h
    have h4 : trimRightB l c = l := by
      unfold trimRightB at *
      have := List.dropWhile_suffix (l := l.reverse) (p := (· == c))
      have e := this.eq_of_length (by simp at *; omega)
      rw [e, List.reverse_reverse]
    rw [h4] at h
    exact ⟨(h1 l).1 h, hr.1 h4⟩
  · rintro ⟨g1, g2⟩
    rw [hr.2 g2]; exact (h1 l).2 g1
end Lp

/-! LpLay -/

namespace Go.Proofs
open Go.Shelf
def Tryz.lays160_ren : Go.Shelf.Ren := ⟨fun | 160 => 261 | 232 => 250 | 231 => 246 | 227 => 247 | 234 => 251 | 233 => 248 | 236 => 252 | 235 => 249 | 228 => 284 | 271 => 287 | 151 => 286 | 197 => 285 | 120 => 316 | 152 => 315 | 260 => 314 | 137 => 324 | 119 => 325 | 224 => 326 | 225 => 327 | 217 => 331 | 266 => 334 | n => n, fun | 9 => 9 | 4 => 4 | 3 => 3 | 5 => 5 | 117 => 238 | 116 => 237 | 0 => 0 | 124 => 241 | 21 => 21 | 105 => 271 | 46 => 178 | 119 => 219 | 139 => 222 | 138 => 221 | n => n, fun | 3 => 0 | 4 => 1 | n => n⟩
theorem Tryz.lays160 : Go.Proofs.Lays.n160 Tryz.prog Tryz.lays160_ren := {
  mixed := by kernel_rfl
  f119 := Tryz.func325.trans (congrArg some (by kernel_rfl))
  f120 := Tryz.func316.trans (congrArg some (by kernel_rfl))
  f137 := Tryz.func324.trans (congrArg some (by kernel_rfl))
  f151 := Tryz.func286.trans (congrArg some (by kernel_rfl))
  f152 := Tryz.func315.trans (congrArg some (by kernel_rfl))
  f160 := Tryz.func261.trans (congrArg some (by kernel_rfl))
  f197 := Tryz.func285.trans (congrArg some (by kernel_rfl))
  f217 := Tryz.func331.trans (congrArg some (by kernel_rfl))
  f224 := Tryz.func326.trans (congrArg some (by kernel_rfl))
  f225 := Tryz.func327.trans (congrArg some (by kernel_rfl))
  f227 := Tryz.func247.trans (congrArg some (by kernel_rfl))
  f228 := Tryz.func284.trans (congrArg some (by kernel_rfl))
  f231 := Tryz.func246.trans (congrArg some (by kernel_rfl))
  f232 := Tryz.func250.trans (congrArg some (by kernel_rfl))
  f233 := Tryz.func248.trans (congrArg some (by kernel_rfl))
  f234 := Tryz.func251.trans (congrArg some (by kernel_rfl))
  f235 := Tryz.func249.trans (congrArg some (by kernel_rfl))
  f236 := Tryz.func252.trans (congrArg some (by kernel_rfl))
  f260 := Tryz.func314.trans (congrArg some (by kernel_rfl))
  f266 := Tryz.func334.trans (congrArg some (by kernel_rfl))
  f271 := Tryz.func287.trans (congrArg some (by kernel_rfl))
  t0 := Tryz.underlying0
  a0 := Tryz.isAgg0
  z0 := Tryz.sizeOf0
  v0 := Tryz.zeroValue0
  t3 := Tryz.underlying3
  a3 := Tryz.isAgg3
  z3 := Tryz.sizeOf3
  v3 := Tryz.zeroValue3
  t4 := Tryz.underlying4
  a4 := Tryz.isAgg4
  z4 := Tryz.sizeOf4
  v4 := Tryz.zeroValue4
  t5 := Tryz.underlying5
  a5 := Tryz.isAgg5
  z5 := Tryz.sizeOf5
  v5 := Tryz.zeroValue5
  t9 := Tryz.underlying9
  a9 := Tryz.isAgg9
  z9 := Tryz.sizeOf9
  v9 := Tryz.zeroValue9
  t21 := Tryz.underlying21
  a21 := Tryz.isAgg21
  z21 := Tryz.sizeOf21
  v21 := Tryz.zeroValue21
  t46 := Tryz.underlying178
  a46 := Tryz.isAgg178
  z46 := Tryz.sizeOf178
  v46 := Tryz.zeroValue178
  t105 := Tryz.underlying271
  a105 := Tryz.isAgg271
  z105 := Tryz.sizeOf271
  v105 := Tryz.zeroValue271
  t116 := Tryz.underlying237
  a116 := Tryz.isAgg237
  z116 := Tryz.sizeOf237
  t117 := Tryz.underlying238
  a117 := Tryz.isAgg238
  z117 := Tryz.sizeOf238
  v117 := Tryz.zeroValue238
  t119 := Tryz.underlying219
  a119 := Tryz.isAgg219
  z119 := Tryz.sizeOf219
  t124 := Tryz.underlying241
  a124 := Tryz.isAgg241
  z124 := Tryz.sizeOf241
  v124 := Tryz.zeroValue241
  t138 := Tryz.underlying221
  a138 := Tryz.isAgg221
  z138 := Tryz.sizeOf221
  v138 := Tryz.zeroValue221
  t139 := Tryz.underlying222
  a139 := Tryz.isAgg222
  z139 := Tryz.sizeOf222
  v139 := Tryz.zeroValue222
  g3 := by kernel_rfl
  g4 := by kernel_rfl }
def Tryz.lays190_ren : Go.Shelf.Ren := ⟨fun | 190 => 224 | 125 => 260 | 258 => 259 | 128 => 298 | 129 => 299 | 302 => 290 | 303 => 291 | 304 => 292 | 305 => 293 | 306 => 294 | 307 => 295 | 308 => 178 | 309 => 296 | 310 => 297 | 333 => 317 | 329 => 318 | 330 => 319 | 334 => 320 | 335 => 321 | 336 => 220 | 344 => 328 | n => n, fun | 31 => 50 | 9 => 9 | 3 => 3 | 46 => 178 | 0 => 0 | 51 => 242 | 53 => 245 | 4 => 4 | 183 => 279 | 182 => 278 | 131 => 114 | 5 => 5 | 218 => 298 | 222 => 302 | 228 => 308 | 229 => 288 | n => n, fun | n => n⟩
theorem Tryz.lays190 : Go.Proofs.Lays.n190 Tryz.prog Tryz.lays190_ren := {
  mixed := by kernel_rfl
  f125 := Tryz.func260.trans (congrArg some (by kernel_rfl))
  f128 := Tryz.func298.trans (congrArg some (by kernel_rfl))
  f129 := Tryz.func299.trans (congrArg some (by kernel_rfl))
  f190 := Tryz.func224.trans (congrArg some (by kernel_rfl))
  f258 := Tryz.func259.trans (congrArg some (by kernel_rfl))
  f302 := Tryz.func290.trans (congrArg some (by kernel_rfl))
  f303 := Tryz.func291.trans (congrArg some (by kernel_rfl))
  f304 := Tryz.func292.trans (congrArg some (by kernel_rfl))
  f305 := Tryz.func293.trans (congrArg some (by kernel_rfl))
  f306 := Tryz.func294.trans (congrArg some (by kernel_rfl))
  f307 := Tryz.func295.trans (congrArg some (by kernel_rfl))
  f308 := Tryz.func178.trans (congrArg some (by kernel_rfl))
  f309 := Tryz.func296.trans (congrArg some (by kernel_rfl))
  f310 := Tryz.func297.trans (congrArg some (by kernel_rfl))
  f329 := Tryz.func318.trans (congrArg some (by kernel_rfl))
  f330 := Tryz.func319.trans (congrArg some (by kernel_rfl))
  f333 := Tryz.func317.trans (congrArg some (by kernel_rfl))
  f334 := Tryz.func320.trans (congrArg some (by kernel_rfl))
  f335 := Tryz.func321.trans (congrArg some (by kernel_rfl))
  f336 := Tryz.func220.trans (congrArg some (by kernel_rfl))
  f344 := Tryz.func328.trans (congrArg some (by kernel_rfl))
  t0 := Tryz.underlying0
  a0 := Tryz.isAgg0
  z0 := Tryz.sizeOf0
  v0 := Tryz.zeroValue0
  t3 := Tryz.underlying3
  a3 := Tryz.isAgg3
  z3 := Tryz.sizeOf3
  v3 := Tryz.zeroValue3
  t4 := Tryz.underlying4
  a4 := Tryz.isAgg4
  z4 := Tryz.sizeOf4
  v4 := Tryz.zeroValue4
  t5 := Tryz.underlying5
  a5 := Tryz.isAgg5
  z5 := Tryz.sizeOf5
  v5 := Tryz.zeroValue5
  t9 := Tryz.underlying9
  a9 := Tryz.isAgg9
  z9 := Tryz.sizeOf9
  v9 := Tryz.zeroValue9
  t31 := Tryz.underlying50
  a31 := Tryz.isAgg50
  z31 := Tryz.sizeOf50
  v31 := Tryz.zeroValue50
  t46 := Tryz.underlying178
  a46 := Tryz.isAgg178
  z46 := Tryz.sizeOf178
  v46 := Tryz.zeroValue178
  t51 := Tryz.underlying242
  a51 := Tryz.isAgg242
  z51 := Tryz.sizeOf242
  v51 := Tryz.zeroValue242
  t53 := Tryz.underlying245
  a53 := Tryz.isAgg245
  z53 := Tryz.sizeOf245
  v53 := Tryz.zeroValue245
  t131 := Tryz.underlying114
  a131 := Tryz.isAgg114
  z131 := Tryz.sizeOf114
  v131 := Tryz.zeroValue114
  t182 := Tryz.underlying278
  a182 := Tryz.isAgg278
  z182 := Tryz.sizeOf278
  v182 := Tryz.zeroValue278
  t183 := Tryz.underlying279
  a183 := Tryz.isAgg279
  z183 := Tryz.sizeOf279
  v183 := Tryz.zeroValue279
  t218 := Tryz.underlying298
  a218 := Tryz.isAgg298
  z218 := Tryz.sizeOf298
  v218 := Tryz.zeroValue298
  t222 := Tryz.underlying302
  a222 := Tryz.isAgg302
  z222 := Tryz.sizeOf302
  v222 := Tryz.zeroValue302
  t228 := Tryz.underlying308
  a228 := Tryz.isAgg308
  z228 := Tryz.sizeOf308
  v228 := Tryz.zeroValue308
  t229 := Tryz.underlying288
  a229 := Tryz.isAgg288
  z229 := Tryz.sizeOf288
  v229 := Tryz.zeroValue288 }
def Tryz.lays196_ren : Go.Shelf.Ren := ⟨fun | 196 => 166 | 259 => 222 | n => n, fun | 9 => 9 | 4 => 4 | 3 => 3 | 5 => 5 | 12 => 12 | 119 => 219 | 0 => 0 | 46 => 178 | 139 => 222 | 138 => 221 | 53 => 245 | n => n, fun | 3 => 0 | 4 => 1 | n => n⟩
theorem Tryz.lays196 : Go.Proofs.Lays.n196 Tryz.prog Tryz.lays196_ren := {
  mixed := by kernel_rfl
  f196 := Tryz.func166.trans (congrArg some (by kernel_rfl))
  f259 := Tryz.func222.trans (congrArg some (by kernel_rfl))
  t0 := Tryz.underlying0
  a0 := Tryz.isAgg0
  z0 := Tryz.sizeOf0
  v0 := Tryz.zeroValue0
  t3 := Tryz.underlying3
  a3 := Tryz.isAgg3
  z3 := Tryz.sizeOf3
  v3 := Tryz.zeroValue3
  t4 := Tryz.underlying4
  a4 := Tryz.isAgg4
  z4 := Tryz.sizeOf4
  v4 := Tryz.zeroValue4
  t5 := Tryz.underlying5
  a5 := Tryz.isAgg5
  z5 := Tryz.sizeOf5
  v5 := Tryz.zeroValue5
  t9 := Tryz.underlying9
  a9 := Tryz.isAgg9
  z9 := Tryz.sizeOf9
  v9 := Tryz.zeroValue9
  t12 := Tryz.underlying12
  a12 := Tryz.isAgg12
  z12 := Tryz.sizeOf12
  v12 := Tryz.zeroValue12
  t46 := Tryz.underlying178
  a46 := Tryz.isAgg178
  z46 := Tryz.sizeOf178
  v46 := Tryz.zeroValue178
  t53 := Tryz.underlying245
  a53 := Tryz.isAgg245
  z53 := Tryz.sizeOf245
  v53 := Tryz.zeroValue245
  t119 := Tryz.underlying219
  a119 := Tryz.isAgg219
  z119 := Tryz.sizeOf219
  t138 := Tryz.underlying221
  a138 := Tryz.isAgg221
  z138 := Tryz.sizeOf221
  v138 := Tryz.zeroValue221
  t139 := Tryz.underlying222
  a139 := Tryz.isAgg222
  z139 := Tryz.sizeOf222
  v139 := Tryz.zeroValue222
  g3 := by kernel_rfl
  g4 := by kernel_rfl }
def Tryz.lays237_ren : Go.Shelf.Ren := ⟨fun | 237 => 244 | 272 => 283 | 238 => 282 | 315 => 313 | 273 => 312 | 197 => 285 | 271 => 287 | 260 => 314 | 120 => 316 | n => n, fun | 9 => 9 | 40 => 234 | 4 => 4 | 3 => 3 | 105 => 271 | 21 => 21 | 0 => 0 | 5 => 5 | 119 => 219 | 46 => 178 | 139 => 222 | 138 => 221 | n => n, fun | 3 => 0 | 4 => 1 | n => n⟩
theorem Tryz.lays237 : Go.Proofs.Lays.n237 Tryz.prog Tryz.lays237_ren := {
  mixed := by kernel_rfl
  f120 := Tryz.func316.trans (congrArg some (by kernel_rfl))
  f197 := Tryz.func285.trans (congrArg some (by kernel_rfl))
  f237 := Tryz.func244.trans (congrArg some (by kernel_rfl))
  f238 := Tryz.func282.trans (congrArg some (by kernel_rfl))
  f260 := Tryz.func314.trans (congrArg some (by kernel_rfl))
  f271 := Tryz.func287.trans (congrArg some (by kernel_rfl))
  f272 := Tryz.func283.trans (congrArg some (by kernel_rfl))
  f273 := Tryz.func312.trans (congrArg some (by kernel_rfl))
  f315 := Tryz.func313.trans (congrArg some (by kernel_rfl))
  t0 := Tryz.underlying0
  a0 := Tryz.isAgg0
  z0 := Tryz.sizeOf0
  v0 := Tryz.zeroValue0
  t3 := Tryz.underlying3
  a3 := Tryz.isAgg3
  z3 := Tryz.sizeOf3
  v3 := Tryz.zeroValue3
  t4 := Tryz.underlying4
  a4 := Tryz.isAgg4
  z4 := Tryz.sizeOf4
  v4 := Tryz.zeroValue4
  t5 := Tryz.underlying5
  a5 := Tryz.isAgg5
  z5 := Tryz.sizeOf5
  v5 := Tryz.zeroValue5
  t9 := Tryz.underlying9
  a9 := Tryz.isAgg9
  z9 := Tryz.sizeOf9
  v9 := Tryz.zeroValue9
  t21 := Tryz.underlying21
  a21 := Tryz.isAgg21
  z21 := Tryz.sizeOf21
  v21 := Tryz.zeroValue21
  t40 := Tryz.underlying234
  a40 := Tryz.isAgg234
  z40 := Tryz.sizeOf234
  v40 := Tryz.zeroValue234
  t46 := Tryz.underlying178
  a46 := Tryz.isAgg178
  z46 := Tryz.sizeOf178
  v46 := Tryz.zeroValue178
  t105 := Tryz.underlying271
  a105 := Tryz.isAgg271
  z105 := Tryz.sizeOf271
  v105 := Tryz.zeroValue271
  t119 := Tryz.underlying219
  a119 := Tryz.isAgg219
  z119 := Tryz.sizeOf219
  t138 := Tryz.underlying221
  a138 := Tryz.isAgg221
  z138 := Tryz.sizeOf221
  v138 := Tryz.zeroValue221
  t139 := Tryz.underlying222
  a139 := Tryz.isAgg222
  z139 := Tryz.sizeOf222
  v139 := Tryz.zeroValue222
  g3 := by kernel_rfl
  g4 := by kernel_rfl }
def Tryz.layGrow_ren : Go.Shelf.Ren := ⟨fun | 4 => 185 | n => n, fun | 22 => 36 | 25 => 24 | 3 => 3 | 4 => 4 | 9 => 9 | 20 => 20 | 0 => 0 | n => n, fun | n => n⟩
theorem Tryz.layGrow : Go.Proofs.Lays8.n4 Tryz.prog Tryz.layGrow_ren := {
  mixed := by kernel_rfl
  f4 := ⟨Tryz.f185.name, by decide, Tryz.func185.trans (congrArg some (by kernel_rfl))⟩
  t0 := Tryz.underlying0
  a0 := Tryz.isAgg0
  z0 := Tryz.sizeOf0
  v0 := Tryz.zeroValue0
  t3 := Tryz.underlying3
  a3 := Tryz.isAgg3
  z3 := Tryz.sizeOf3
  v3 := Tryz.zeroValue3
  t4 := Tryz.underlying4
  a4 := Tryz.isAgg4
  z4 := Tryz.sizeOf4
  v4 := Tryz.zeroValue4
  t9 := Tryz.underlying9
  a9 := Tryz.isAgg9
  z9 := Tryz.sizeOf9
  v9 := Tryz.zeroValue9
  t20 := Tryz.underlying20
  a20 := Tryz.isAgg20
  z20 := Tryz.sizeOf20
  v20 := Tryz.zeroValue20
  t22 := Tryz.underlying36
  a22 := Tryz.isAgg36
  z22 := Tryz.sizeOf36
  v22 := Tryz.zeroValue36 }
end Go.Proofs

/-! LpLib -/

namespace Lp
open Go Go.Proofs Go.RowKit
set_option maxHeartbeats 4000000
set_option maxRecDepth 100000
theorem qaf {w : World} {ok : Nat → Prop} {blk : Nat → Option Nat} {args : List PV} {vs : List Value} (h : RepL (RepT w ok [] blk) args vs) : RepL (Rep w ok) args vs := h.mono fun _ _ h => q5h h
theorem FnSpec.of_keep {P : Program} {f : FuncId} {args : List PV} {r : PV} (hent : Enters P f)
    (h : ∀ (w : World) (vs : List Value) (ok : Nat → Prop), glob.holds w.heap → RepL (Rep w ok) args vs → Calls P f ⟨vs⟩ w fun e w' => ∃ v, e = .returned v ∧ (∀ w ok, Rep w ok r v) ∧ Below w.heap.size w w') :
    FnSpec P f args [] r [] := by
  refine ⟨hent, fun w blk vs base hb _ hargs => (h w vs _ hb.1 (qaf hargs)).mono ?_⟩
  rintro e w' ⟨v, h1, h2, h3⟩
  exact ⟨v, blk, h1, q6d, .of_rep (h2 _ _), fun b hb _ => h3.block b hb, h3.size, h3.os, h3.output⟩
theorem FnSpec.made_empty {P : Program} {f : FuncId} {args : List PV} {ty : TypeId} {sz : Nat} (hent : Enters P f) (hty : ty ≠ MT)
    (h : ∀ (w : World) (vs : List Value) (ok : Nat → Prop), glob.holds w.heap → RepL (Rep w ok) args vs → Calls P f ⟨vs⟩ w fun e w' => ∃ v, e = .returned v ∧ Below w.heap.size w w' ∧
      (v = .slice none 0 0 ∨ ∃ g cap c, w.heap.size ≤ g ∧ v = .slice (some ⟨g, 0, none⟩) 0 cap ∧ w'.heap[g]? = some (.cells c ty (0, 0)) ∧ cap ≤ maxLen ∧ c.size = cap * sz)) :
    FnSpec P f args [] (.osl 0 0) [⟨ty, sz, [], true, 0⟩] := by
  refine ⟨hent, fun w blk vs base hb _ hargs => (h w vs _ hb.1 (qaf hargs)).mono ?_⟩
  have one : ∀ (k : Nat) (o : Obj), ([⟨ty, sz, [], true, 0⟩] : List Obj)[k]? = some o → k = 0 ∧ o = ⟨ty, sz, [], true, 0⟩ := fun k o ho => by
    match k, ho with
    | 0, ho => cases ho; exact ⟨rfl, rfl⟩
    | _ + 1, ho => simp at ho
  rintro e w' ⟨v, h1, h3, h4⟩
  rcases h4 with rfl | ⟨g, cap, c, hg, rfl, hc, hm, hs⟩
  · refine ⟨_, fun _ => none, h1, ⟨fun k o ho _ => ?_, fun k k' o o' g _ _ _ _ _ hx => (by cases hx), fun k o g _ _ hx => (by cases hx)⟩, ⟨rfl, _, rfl, Nat.le_refl _, fun _ _ => ⟨hty, ?_⟩⟩, fun b hb _ => h3.block b hb, h3.size, h3.os, h3.output⟩
    · obtain ⟨rfl, rfl⟩ := one k o ho; rfl
    · exact ⟨rfl, rfl⟩
  · refine ⟨_, fun _ => some g, h1, ⟨fun k o ho _ => ?_, fun k k' o o' g hkk ho _ ho' _ _ => ?_, fun k o g' ho _ hx hp => ?_⟩, ⟨rfl, _, rfl, Nat.le_refl _, fun _ _ => ⟨hty, ?_⟩⟩, fun b hb _ => h3.block b hb, h3.size, h3.os, h3.output⟩
    · obtain ⟨rfl, rfl⟩ := one k o ho
      exact ⟨c, by rw [q28 hty]; exact hc, q4t hty (by simp), fun i x hx => by simp at hx⟩
    · obtain ⟨rfl, _⟩ := one k o ho
      obtain ⟨rfl, _⟩ := one k' o' ho'
      exact absurd rfl hkk
    · simp only [Option.some.injEq] at hx
      subst hx
      exact absurd hp.1 (by omega)
    · exact ⟨cap, c, rfl, hc, Nat.zero_le _, hm, hs⟩
theorem rep1 {w : World} {ok : Nat → Prop} {p : PV} {vs : List Value} (h : RepL (Rep w ok) [p] vs) : ∃ u, vs = [u] ∧ Rep w ok p u := by
  obtain ⟨hl, h⟩ := h
  match vs, hl with
  | [u], _ => exact ⟨u, rfl, h 0 _ _ rfl rfl⟩
theorem rep2 {w : World} {ok : Nat → Prop} {p q : PV} {vs : List Value} (h : RepL (Rep w ok) [p, q] vs) : ∃ u v, vs = [u, v] ∧ Rep w ok p u ∧ Rep w ok q v := by
  obtain ⟨hl, h⟩ := h
  match vs, hl with
  | [u, v], _ => exact ⟨u, v, rfl, h 0 _ _ rfl rfl, h 1 _ _ rfl rfl⟩
theorem q92 {w : World} {ok : Nat → Prop} {s : List UInt8} {v : Value} (h : Rep w ok (.str s) v) : v = .string ⟨⟨s⟩⟩ := by cases h; rfl
theorem rep_int' {w : World} {ok : Nat → Prop} {k : IntKind} {n : Int} {v : Value} (h : Rep w ok (.int k n) v) : v = .int k n := by cases h; rfl
theorem below_drew (w : World) : Below w.heap.size w w.drew := (Below.refl _ _).drew
theorem glob_tabs {w : World} (h : glob.holds w.heap) : Lib.Utf8Tabs 0 1 w := h w rfl
theorem q8p (s : List UInt8) (hs : s.length ≤ 4611686018427387904) : FnSpec Tryz.prog f_unicode_utf8_ValidString [.str s] [] (.bool (utf s)) [] := by
  refine FnSpec.of_keep ⟨_, Tryz.lays196.f196, by kernel_rfl, by kernel_rfl⟩ fun w vs ok hg hr => ?_
  obtain ⟨u, rfl, h⟩ := rep1 hr
  cases q92 h
  refine (Any.utf8_ValidString Tryz.lays196 ⟨⟨s⟩⟩ w (by rw [Lib.size_eq]; simp; omega) (glob_tabs hg)).mono ?_
  rintro e w' ⟨h1, h2⟩
  exact ⟨_, h1, fun w ok => by rw [validD_eq]; exact .bool _, h2⟩
theorem trim0_spec (s : List UInt8) (hs : s.length ≤ 4611686018427387904) : FnSpec Tryz.prog f_strings_Trim [.str s, .str [48]] [] (.str (Lib.trimB s 48)) [] := by
  refine FnSpec.of_keep ⟨_, Tryz.lays160.f160, by kernel_rfl, by kernel_rfl⟩ fun w vs ok hg hr => ?_
  obtain ⟨u, v, rfl, h, h'⟩ := rep2 hr
  cases q92 h
  cases q92 h'
  refine (Any.strings_Trim_one Tryz.lays160 ⟨⟨s⟩⟩ 48 (by decide) w (by rw [Lib.size_eq]; simp; omega)).mono ?_
  rintro e w' ⟨h1, h2⟩
  refine ⟨_, h1, fun w ok => .str _, ?_⟩
  rcases h2 with rfl | rfl
  · exact .refl _ _
  · exact below_drew w
theorem isFigure_walk (W : World) (x : Nat) (hx : x ≤ 1114111) : Calls Tryz.prog f_num_isFigure #[.int .i32 (x : Int)] W fun e w' => e = .returned (.bool (figP x)) ∧ Below W.heap.size W w' := by
  have mixed : Tryz.prog.follows .mixedOrders = true := by kernel_rfl
  have e1 : figP x = (decide (48 ≤ (x : Int)) && decide ((x : Int) ≤ 57)) := by
    have a : decide (48 ≤ x) = decide (48 ≤ (x : Int)) := decide_eq_decide.2 (by omega)
    have b : decide (x ≤ 57) = decide ((x : Int) ≤ 57) := decide_eq_decide.2 (by omega)
    rw [figP, a, b]
  rw [e1]
  have h1 : (x : Int) < 48 ∨ 48 ≤ (x : Int) := by omega
  rcases h1 with h1 | h1
  · have h2 : ¬ (48 ≤ (x : Int)) := by omega
    rw [decide_eq_false h2]
    go_enter Tryz.func245, Tryz.ntmps245
    go_wp2
    go_ret
    exact ⟨rfl, .refl _ _⟩
  · rw [decide_eq_true h1]
    rcases (by omega : (x : Int) ≤ 57 ∨ 57 < (x : Int)) with h2 | h2
    · rw [decide_eq_true h2]
      go_enter Tryz.func245, Tryz.ntmps245
      go_wp2
      go_ret
      exact ⟨rfl, .refl _ _⟩
    · have h3 : ¬ ((x : Int) ≤ 57) := by omega
      rw [decide_eq_false h3]
      go_enter Tryz.func245, Tryz.ntmps245
      go_wp2
      go_ret
      exact ⟨rfl, .refl _ _⟩
theorem trimFig_spec (s : List UInt8) (hs : s.length ≤ 4611686018427387904) : FnSpec Tryz.prog f_strings_TrimFunc [.str s, .fn f_num_isFigure [] []] [] (.str (Lib.trimF figP ⟨⟨s⟩⟩).data.toList) [] := by
  refine FnSpec.of_keep ⟨_, Tryz.lays237.f237, by kernel_rfl, by kernel_rfl⟩ fun w vs ok hg hr => ?_
  obtain ⟨u, v, rfl, h, h'⟩ := rep2 hr
  cases q92 h
  have hv : v = .func (.func f_num_isFigure) #[] #[] := by
    cases h' with
    | fn _ _ _ va vc hla hlc ha hc =>
      have e1 : va = [] := List.length_eq_zero_iff.1 (by simpa using hla.symm)
      have e2 : vc = [] := List.length_eq_zero_iff.1 (by simpa using hlc.symm)
      subst e1; subst e2; rfl
  subst hv
  have eg : ∀ args w, (callFunc f_num_isFigure args).run Tryz.prog w = .ok (.enter f_num_isFigure args) w := enters_of Tryz.func245 (by kernel_rfl) rfl
  refine (Any.strings_TrimFunc_grows Tryz.lays237 f_num_isFigure #[] eg figP ⟨⟨s⟩⟩ w (by rw [Lib.size_eq]; simp; omega) (glob_tabs hg) fun W x hx _ => isFigure_walk W x hx).mono ?_
  rintro e w' ⟨h1, h2⟩
  exact ⟨_, h1, fun w ok => .str _, h2⟩
def q5p : Ctr := fun args objs K => match args with
  | [.str s, a1] => a1 = (.fn f_num_isFigure [] []) ∧ (s.length ≤ 4611686018427387904) ∧ K (.str (Lib.trimF figP ⟨⟨s⟩⟩).data.toList) objs 0
  | _ => False
theorem ctrTrimFig_ok : CtrOk Tryz.prog f_strings_TrimFunc (q5p) := by
  intro args objs K h
  unfold q5p at h
  split at h
  · rename_i s a1
    obtain ⟨rfl, h1, hk⟩ := h
    exact ⟨_, _, _, .pure _ rfl (trimFig_spec s h1), hk⟩
  · exact h.elim
def q0l : Ctr := fun args objs K => match args with
  | [.str s] => (s.length ≤ 4611686018427387904) ∧ K (.bool (utf s)) objs 0
  | _ => False
theorem q3i : CtrOk Tryz.prog f_unicode_utf8_ValidString (q0l) := by
  intro args objs K h
  unfold q0l at h
  split at h
  · rename_i s
    obtain ⟨h1, hk⟩ := h
    exact ⟨_, _, _, .pure _ rfl (q8p s h1), hk⟩
  · exact h.elim
def q93 : Ctr := fun args objs K => match args with
  | [.str s, a1] => a1 = (.str [48]) ∧ (s.length ≤ 4611686018427387904) ∧ K (.str (Lib.trimB s 48)) objs 0
  | _ => False
theorem ctrTrim0_ok : CtrOk Tryz.prog f_strings_Trim (q93) := by
  intro args objs K h
  unfold q93 at h
  split at h
  · rename_i s a1
    obtain ⟨rfl, h1, hk⟩ := h
    exact ⟨_, _, _, .pure _ rfl (trim0_spec s h1), hk⟩
  · exact h.elim
theorem growV_spec (n : Int) (h0 : 0 ≤ n) (h1 : n ≤ 1000000) : FnSpec Tryz.prog f_slices_Grow_api_Val_api_Node_ [.sl 0 [] (some true), .int .i64 n] [] (.osl 0 0) [⟨t_api_Node, 6, [], true, 0⟩] := by
  obtain ⟨n, rfl⟩ : ∃ k : Nat, n = k := ⟨n.toNat, by omega⟩
  refine FnSpec.made_empty (by
    obtain ⟨nm, hn, hf⟩ := Tryz.layGrow.f4
    exact ⟨_, hf, hn, by kernel_rfl⟩) (by decide) fun w vs ok hg hr => ?_
  obtain ⟨u, v, rfl, h, h'⟩ := rep2 hr
  cases rep_int' h'
  have hu : u = .slice none 0 0 := by
    cases h with
    | slnil => rfl
    | slz _ _ hq => exact absurd rfl hq
    | sl _ _ _ hq => exact absurd rfl hq
  subst hu
  rcases Nat.eq_zero_or_pos n with h0 | h0
  · subst h0
    refine (Any8.slices_Grow_room Tryz.layGrow none 0 0 0 w (by decide) (by decide) (by decide) (by decide)).mono ?_
    rintro e w' ⟨h1, rfl⟩
    exact ⟨_, h1, .refl _ _, .inl rfl⟩
  · obtain ⟨⟨inf, hi0, hzs, hzb, hz0, _⟩, _⟩ := (hD t_api_Node).resolve_left (by simp [D_all])
    have hzs : inf.size = 6 := hzs
    have hzb : inf.bytes = 64 := hzb
    have hz0 : inf.zero = some (.agg ⟨[.int .i64 0, .int .i64 0, .string ⟨⟨[]⟩⟩, .string ⟨⟨[]⟩⟩, .bool false, .int .i64 0]⟩) := hz0
    have hge := grownCap_ge w (0 + n) 0 t_api_Node
    have hmx := grownCap_le_maxLen w (0 + n) 0 t_api_Node (by unfold maxLen; omega)
    refine (Any8.slices_Grow_grow Tryz.layGrow inf _ hi0 hz0 (by omega) none 0 0 n [] w (by decide) (by omega) (by rw [hzb]; omega) (by omega) (by simp) (fun _ => rfl) (fun a ha => by cases ha)).mono ?_
    rintro e w' ⟨h1, rfl⟩
    refine ⟨_, h1, (Below.refl w.heap.size w).drew.alloc (Nat.le_refl _) _, .inr ⟨w.heap.size, _, _, Nat.le_refl _, rfl, heap_alloc_new w.drew _, hmx, ?_⟩⟩
    simp only [Array.size_append, size_zeroCells, List.size_toArray, List.length_nil]
    have e6 : (Value.agg ⟨[.int .i64 0, .int .i64 0, .string ⟨⟨[]⟩⟩, .string ⟨⟨[]⟩⟩, .bool false, .int .i64 0]⟩).cells.size = 6 := by decide
    rw [e6]
    have et : Tryz.layGrow_ren.t 25 = t_api_Node := rfl
    rw [et]
    omega
def q94 : Ctr := fun args objs K => match args with
  | [.sl 0 [] (some true), .int .i64 n] => 0 ≤ n ∧ n ≤ 1000000 ∧ K (.osl objs.length 0) (objs ++ [⟨t_api_Node, 6, [], true, 0⟩]) 2
  | _ => False
theorem ctrGrowV_ok : CtrOk Tryz.prog f_slices_Grow_api_Val_api_Node_ q94 := by
  intro args objs K h
  unfold q94 at h
  split at h
  · rename_i n
    obtain ⟨h0, h1, hk⟩ := h
    have h := CallR.made (objs := objs) _ _ rfl (fun o ho x hx => by simp at ho; subst ho; cases hx) (growV_spec n h0 h1)
    exact ⟨_, _, _, h, by simpa [PV.shift, PV.shiftS] using hk⟩
  · exact h.elim
end Lp

/-! LpD4 -/

namespace Lp
open Go Go.Proofs
set_option maxHeartbeats 4000000
set_option maxRecDepth 20000
set_option linter.unusedSimpArgs false
theorem concat_spec (l : List Vl) (hl : l.length ≤ 1000000) (hb : l.flatten.length ≤ 1000000) : FnSpec Tryz.prog f_slices_Concat_api_Val_api_Node_ [encL l] [] (encV l.flatten) [] := by
  refine k_slices_Concat_api_Val_api_Node_.pureG (T := tabL Tryz.prog [(f_slices_Grow_api_Val_api_Node_, q94)]) 1 hD (q0g (q0c ctrGrowV_ok q0d)) hmix (by decide) fun Q hQ => ?_
  try simp only [F_all]
  simp (maxSteps := 400000) only [↓preZ, postZ, coreZ, ↓preU, postU, D_all, F_all, unR, outL, onePV, binS, ↓binS, q03, ↓q03, q01, ↓q01, boxR, q0b, newObj, q05, q00, q07, q09, q0a, St.freeze, q02, q08, q04, BEq.rfl, reduceIte, reduceCtorEq, Nat.reduceLT, Nat.reduceAdd, Nat.reduceSub, Nat.reduceMul, Nat.reduceBEq, Nat.reduceLeDiff, Int.reduceToNat, Int.reduceLE, hQ, q19]
  refine q0t (fun m S => ∃ i : Nat, i + m = l.length ∧ S = ⟨tmA 36 [(0, encL l), (3, .int .i64 ((l.take i).flatten.length : Nat)), (9, encL l), (10, .int .i64 l.length), (11, .int .i64 i)], []⟩) l.length ⟨0, by omega, ?_⟩ ?_
  · simp only [normR, keepR, Nat.reduceAdd, lkR, Nat.reduceBEq, F_all, List.map_nil]
    rfl
  rintro m S ⟨i, him, rfl⟩
  rcases Nat.lt_or_ge i l.length with h | h
  · have hlt : ((i : Int) < (l.length : Int)) = True := eq_true (by omega)
    have hgi := List.getElem?_eq_getElem h
    generalize l[i] = v at hgi
    have hs := q7x l hgi
    have hf := q77 l hgi
    have zi : (0 ≤ (i : Int)) = True := eq_true (by omega)
    have hs' : ((l.take (i + 1)).flatten.length : Int) = (l.take i).flatten.length + v.length := by rw [hs, List.length_append]; omega
    have hn : (((l.take i).flatten.length : Int) + v.length < 0) = False := eq_false (by omega)
    simp (maxSteps := 400000) only [↓preZ, postZ, coreZ, ↓preU, postU, D_all, F_all, unR, outL, onePV, binS, ↓binS, q03, ↓q03, q01, ↓q01, boxR, q0b, newObj, q05, q00, q07, q09, q0a, St.freeze, q02, q08, q04, BEq.rfl, reduceIte, reduceCtorEq, Nat.reduceLT, Nat.reduceAdd, Nat.reduceSub, Nat.reduceMul, Nat.reduceBEq, Nat.reduceLeDiff, Int.reduceToNat, Int.reduceLE, hQ, hlt, zi, hgi, hn]
    refine ⟨⟨by omega, by omega⟩, ⟨by omega, by omega⟩, m - 1, by omega, i + 1, by omega, ?_⟩
    rw [hs']
    rfl
  have hlt : ((i : Int) < (l.length : Int)) = False := eq_false (by omega)
  rw [List.take_of_length_le h]
  simp (maxSteps := 400000) only [↓preZ, postZ, coreZ, ↓preU, postU, D_all, F_all, unR, outL, onePV, binS, ↓binS, q03, ↓q03, q01, ↓q01, boxR, q0b, newObj, q05, q00, q07, q09, q0a, St.freeze, q02, q08, q04, BEq.rfl, reduceIte, reduceCtorEq, Nat.reduceLT, Nat.reduceAdd, Nat.reduceSub, Nat.reduceMul, Nat.reduceBEq, Nat.reduceLeDiff, Int.reduceToNat, Int.reduceLE, hQ, hlt, ↓q94]
  refine ⟨by omega, by omega, ?_⟩
  refine q0t (fun m S => ∃ i ver : Nat, i + m = l.length ∧ S = ⟨tmA 36 [(6, .osl 0 ver), (25, encL l), (26, .int .i64 l.length), (27, .int .i64 i)], [⟨t_api_Node, 6, (l.take i).flatten.map encN, true, ver⟩]⟩) l.length ⟨0, 0, by omega, ?_⟩ ?_
  · simp only [normR, keepR, Nat.reduceAdd, lkR, Nat.reduceBEq, F_all, List.map_nil]
    rfl
  rintro m' S ⟨j, ver, hjm, rfl⟩
  rcases Nat.lt_or_ge j l.length with h' | h'
  rotate_left 1
  · have hlt : ((j : Int) < (l.length : Int)) = False := eq_false (by omega)
    simp (maxSteps := 400000) only [↓preZ, postZ, coreZ, ↓preU, postU, D_all, F_all, unR, outL, onePV, binS, ↓binS, q03, ↓q03, q01, ↓q01, boxR, q0b, newObj, q05, q00, q07, q09, q0a, St.freeze, q02, q08, q04, BEq.rfl, reduceIte, reduceCtorEq, Nat.reduceLT, Nat.reduceAdd, Nat.reduceSub, Nat.reduceMul, Nat.reduceBEq, Nat.reduceLeDiff, Int.reduceToNat, Int.reduceLE, hQ, hlt]
    rw [List.take_of_length_le h']
    all_goals exact (nodes_frz l.flatten ver t_api_Node []).symm
  have hlt : ((j : Int) < (l.length : Int)) = True := eq_true (by omega)
  have hgi := List.getElem?_eq_getElem h'
  generalize l[j] = v at hgi
  have hs := q7x l hgi
  have hf := q77 l hgi
  have zi : (0 ≤ (j : Int)) = True := eq_true (by omega)
  simp (maxSteps := 400000) only [↓preZ, postZ, coreZ, ↓preU, postU, D_all, F_all, unR, outL, onePV, binS, ↓binS, q03, ↓q03, q01, ↓q01, boxR, q0b, newObj, q05, q00, q07, q09, q0a, St.freeze, q02, q08, q04, BEq.rfl, reduceIte, reduceCtorEq, Nat.reduceLT, Nat.reduceAdd, Nat.reduceSub, Nat.reduceMul, Nat.reduceBEq, Nat.reduceLeDiff, Int.reduceToNat, Int.reduceLE, hQ, hlt, zi, hgi, zNl, zNs]
  refine ⟨by omega, by omega, ⟨by omega, by omega⟩, m' - 1, by omega, j + 1, ver + 1, by omega, ?_⟩
  rw [hs]
  rfl
def q79 : Ctr := fun args objs K => match args with
  | [a0] => ofE encL a0 (HK.mk : HK fun l => (l.length ≤ 1000000) ∧ (l.flatten.length ≤ 1000000) ∧ K (encV l.flatten) objs 0)
  | _ => False
theorem ctrConcat_ok : CtrOk Tryz.prog f_slices_Concat_api_Val_api_Node_ (q79) := by
  intro args objs K h
  unfold q79 at h
  split at h
  · rename_i a0
    obtain ⟨l, rfl, h1, h2, hk⟩ := h
    exact ⟨_, _, _, .pure _ rfl (concat_spec l h1 h2), hk⟩
  · exact h.elim
theorem valList_spec (l : List Vl) (hl : l.length ≤ 1000000) (hb : l.flatten.length ≤ 1000000) : FnSpec Tryz.prog f_val_List [encL l] [] (encV (listV l)) [] := by
  refine k_val_List.pureG (T := tabL Tryz.prog [(f_slices_Concat_api_Val_api_Node_, q79)]) 1 hD (q0g (q0c ctrConcat_ok q0d)) hmix (by decide) fun Q hQ => ?_
  try simp only [F_all]
  simp (maxSteps := 400000) only [↓preZ, postZ, coreZ, ↓preU, postU, D_all, F_all, unR, outL, onePV, binS, ↓binS, q03, ↓q03, q01, ↓q01, boxR, q0b, newObj, q05, q00, q07, q09, q0a, St.freeze, q02, q08, q04, BEq.rfl, reduceIte, reduceCtorEq, Nat.reduceLT, Nat.reduceAdd, Nat.reduceSub, Nat.reduceMul, Nat.reduceBEq, Nat.reduceLeDiff, Int.reduceToNat, Int.reduceLE, hQ, c_val_List, ↓q79, zNl, zNs]
  exact ⟨hl, hb, by omega, by omega, (nodes_frz (listV l) 2 t_api_Node []).symm⟩
def q2b : Ctr := fun args objs K => match args with
  | [a0] => ofE encL a0 (HK.mk : HK fun l => (l.length ≤ 1000000) ∧ (l.flatten.length ≤ 1000000) ∧ K (encV (listV l)) objs 0)
  | _ => False
theorem q7a : CtrOk Tryz.prog f_val_List (q2b) := by
  intro args objs K h
  unfold q2b at h
  split at h
  · rename_i a0
    obtain ⟨l, rfl, h1, h2, hk⟩ := h
    exact ⟨_, _, _, .pure _ rfl (valList_spec l h1 h2), hk⟩
  · exact h.elim
theorem zipT {names : List (List UInt8)} {l : List Vl} {i : Nat} {nm : List UInt8} {v : Vl} (h1 : names[i]? = some nm) (h2 : l[i]? = some v) :
    List.zipWith setN (names.take (i + 1)) (l.take (i + 1)) = List.zipWith setN (names.take i) (l.take i) ++ [setN nm v] := by
  have a := (List.getElem?_eq_some_iff.1 h1).1
  have b := (List.getElem?_eq_some_iff.1 h2).1
  rw [List.take_add_one, List.take_add_one, h1, h2, List.zipWith_append (by simp; omega)]
  rfl
theorem set_name (A : Vl) (n : Nd) (r : Vl) (nm : List UInt8) : (A.map encN ++ (n :: r).map encN).set A.length (encN { n with name := nm }) = (A ++ setN nm (n :: r)).map encN := by
  rw [List.set_append_right _ _ (by simp)]
  simp [setN]
theorem zip_flat_len (names : List (List UInt8)) (l : List Vl) : (List.zipWith setN names l).flatten.length ≤ l.flatten.length := by
  induction l generalizing names with
  | nil => simp
  | cons v l ih =>
    cases names with
    | nil => simp
    | cons nm names =>
      have := ih names
      simp only [List.zipWith_cons_cons, List.flatten_cons, List.length_append, qa8]
      omega
def nodO (v : Vl) (ver : Nat) : Obj := ⟨t_api_Node, 6, v.map encN, true, ver⟩
theorem nodO_atoms (v : Vl) (ver : Nat) : ∀ x ∈ (nodO v ver).xs, ∀ p ∈ x.cells, p.atom = true := by
  intro x hx p hp
  obtain ⟨n, _, rfl⟩ := List.mem_map.1 hx
  simp only [encN, PV.cells, List.mem_cons, List.not_mem_nil, or_false] at hp
  rcases hp with rfl | rfl | rfl | rfl | rfl | rfl <;> rfl
theorem q7b (v : Vl) (ver : Nat) : NoRefs [nodO v ver] := by
  intro o ho x hx c hc
  simp only [List.mem_singleton] at ho; subst ho
  exact q5f (nodO_atoms v ver x hx c hc)
theorem q7z (d n : Nat) (O : List Obj) (t : TypeId) (sz : Nat) (v : Vl) (ver : Nat) : frzO d n O ⟨t, sz, v.map encN, true, ver⟩ = ⟨t, sz, v.map encN, true, ver⟩ := by
  have : (v.map encN).map (PV.mapCells (frz d n O)) = v.map encN := by
    rw [List.map_map]
    exact List.map_congr_left fun x _ => rfl
  simp only [frzO, this]
theorem laid_made (names : List (List UInt8)) (l : List Vl) (hn : names.length = l.length) (hl : l.length ≤ 1000000) (hb : l.flatten.length ≤ 1000000) (hne : ∀ v ∈ l, v ≠ []) : FnSpec Tryz.prog f_val_laid [encT names, encL l] [] (.osl 0 0) [nodO (layV names l) 0] := by
  refine k_val_laid.madeG (T := tabL Tryz.prog []) 1 hD (q0g q0d) hmix fun Q hQ => ?_
  try simp only [F_all]
  simp (maxSteps := 400000) only [↓preZ, postZ, coreZ, ↓preU, postU, D_all, F_all, unR, outL, onePV, binS, ↓binS, q03, ↓q03, q01, ↓q01, boxR, q0b, newObj, q05, q00, q07, q09, q0a, St.freeze, q02, q08, q04, BEq.rfl, reduceIte, reduceCtorEq, Nat.reduceLT, Nat.reduceAdd, Nat.reduceSub, Nat.reduceMul, Nat.reduceBEq, Nat.reduceLeDiff, Int.reduceToNat, Int.reduceLE, hQ, c_val_laid, zNl, zNs]
  refine q0t (fun m S => ∃ i ver : Nat, i + m = l.length ∧ S = ⟨tmA 35 [(0, encT names), (5, .osl 0 ver), (13, encL l), (14, .int .i64 l.length), (15, .int .i64 i)], [⟨t_api_Node, 6, ((⟨6, l.length, [], [], false, 0⟩ : Nd) :: (List.zipWith setN (names.take i) (l.take i)).flatten).map encN, true, ver⟩]⟩) l.length ⟨0, 1, by omega, ?_⟩ ?_
  · simp only [normR, keepR, Nat.reduceAdd, lkR, Nat.reduceBEq, F_all, List.map_nil]
    rfl
  rintro m S ⟨i, ver, him, rfl⟩
  rcases Nat.lt_or_ge i l.length with h | h
  rotate_left 1
  · have hlt : ((i : Int) < (l.length : Int)) = False := eq_false (by omega)
    simp (maxSteps := 400000) only [↓preZ, postZ, coreZ, ↓preU, postU, D_all, F_all, unR, outL, onePV, binS, ↓binS, q03, ↓q03, q01, ↓q01, boxR, q0b, newObj, q05, q00, q07, q09, q0a, St.freeze, q02, q08, q04, BEq.rfl, reduceIte, reduceCtorEq, Nat.reduceLT, Nat.reduceAdd, Nat.reduceSub, Nat.reduceMul, Nat.reduceBEq, Nat.reduceLeDiff, Int.reduceToNat, Int.reduceLE, hQ, hlt]
    rw [List.take_of_length_le h, List.take_of_length_le (by omega)]
    exact endM (k := 0) (ver := ver) rfl rfl rfl rfl (congrArg (fun o : Obj => { o with ver := 0 }) (q7z 1 1 _ t_api_Node 6 (layV names l) ver)) (q7b _ 0)
  have hlt : ((i : Int) < (l.length : Int)) = True := eq_true (by omega)
  have hgi := List.getElem?_eq_getElem h
  have hgn : names[i]? = some (names[i]'(by omega)) := List.getElem?_eq_getElem (by omega)
  have hv := hne _ (List.getElem_mem h)
  generalize l[i] = v at hgi hv
  generalize names[i]'(by omega) = nm at hgn
  have hz := zipT hgn hgi
  have hf := q77 l hgi
  have hf2 := zip_flat_len (names.take i) (l.take i)
  generalize hA : (List.zipWith setN (names.take i) (l.take i)).flatten = A at *
  obtain ⟨n, r, rfl⟩ : ∃ n r, v = n :: r := by
    cases v with
    | nil => exact absurd rfl hv
    | cons n r => exact ⟨n, r, rfl⟩
  have zi : (0 ≤ (i : Int)) = True := eq_true (by omega)
  simp (maxSteps := 400000) only [↓preZ, postZ, coreZ, ↓preU, postU, D_all, F_all, unR, outL, onePV, binS, ↓binS, q03, ↓q03, q01, ↓q01, boxR, q0b, newObj, q05, q00, q07, q09, q0a, St.freeze, q02, q08, q04, BEq.rfl, reduceIte, reduceCtorEq, Nat.reduceLT, Nat.reduceAdd, Nat.reduceSub, Nat.reduceMul, Nat.reduceBEq, Nat.reduceLeDiff, Int.reduceToNat, Int.reduceLE, hQ, hlt, zi, hgi, hgn, zNl, zNs]
  have hf3 : A.length + (r.length + 1) ≤ 1000000 := by rw [List.length_cons] at hf; omega
  refine ⟨rowA2 n r ▸ trivial, by omega, by omega, by omega, by omega, encN n, by simp, by simp [enc6], ⟨by omega, by omega⟩, m - 1, by omega, i + 1, ver + 1, by omega, ?_⟩
  rw [hz, List.flatten_append, hA, nmP]
  have := set_name A n r nm
  rw [List.map_cons] at this
  rw [this]
  simp
end Lp

/-! LpD5 -/

namespace Lp
open Go Go.Proofs
set_option maxHeartbeats 4000000
set_option maxRecDepth 20000
set_option linter.unusedSimpArgs false
end Lp

/-! LpV10 -/

namespace Lp
open Go
structure Sel (names : List (List UInt8)) (l : List Vl) (q : Prs) (done : List Bool) (m : Nat) : Prop where
  par : names.length = l.length
  len : done.length = names.length
  cnt : q.length + m = names.length
  left : done.count false = m
  mem : ∀ x : List UInt8 × Vl, x ∈ q ↔ ∃ i : Nat, done[i]? = some true ∧ names[i]? = some x.1 ∧ l[i]? = some x.2
  rise : Rise (q.map (·.1))
  utf : ∀ x ∈ q, utf x.1 = true
  low : ∀ (i : Nat) nm, done[i]? = some false → names[i]? = some nm → ∀ x ∈ q, Op.bytesLess nm x.1 = false
  one : ∀ (i j : Nat) nm, done[i]? = some true → done[j]? = some true → names[i]? = some nm → names[j]? = some nm → i = j
theorem Sel.above {names : List (List UInt8)} {l : List Vl} {q : Prs} {done : List Bool} {m : Nat} (h : Sel names l q done m) {b : Nat} {nm : List UInt8} (hb : done[b]? = some false) (hn : names[b]? = some nm)
    (hl : ∀ x, q.getLast? = some x → x.1 ≠ nm) : ∀ x ∈ q, Op.bytesLess x.1 nm = true := by
  have hlow := h.low b nm hb hn
  rcases List.eq_nil_or_concat q with rfl | ⟨q', z, rfl⟩
  · intro x hx; cases hx
  rw [List.concat_eq_append] at *
  have hz : z ∈ q' ++ [z] := by simp
  have hzl : Op.bytesLess z.1 nm = true := by
    rcases bl_tri z.1 nm with g | g | g
    · exact g
    · exact absurd g (hl z (by simp))
    · rw [hlow z hz] at g; cases g
  intro x hx
  have hr := h.rise
  rw [List.map_append] at hr
  rcases List.mem_append.1 hx with hx | hx
  · exact q3e _ _ _ ((List.pairwise_append.1 hr).2.2 x.1 (List.mem_map.2 ⟨x, hx, rfl⟩) z.1 (by simp)) hzl
  · simp only [List.mem_singleton] at hx
    subst hx; exact hzl
theorem Sel.step {names : List (List UInt8)} {l : List Vl} {q : Prs} {done : List Bool} {m : Nat} (h : Sel names l q done (m + 1)) {b : Nat} {nm : List UInt8} {v : Vl} (hb : done[b]? = some false) (hn : names[b]? = some nm) (hv : l[b]? = some v)
    (hmin : ∀ (i : Nat) nm', done[i]? = some false → names[i]? = some nm' → Op.bytesLess nm' nm = false) (hu : Lp.utf nm = true) (hl : ∀ x, q.getLast? = some x → x.1 ≠ nm) :
    Sel names l (q ++ [(nm, v)]) (done.set b true) m := by
  have hbl := (List.getElem?_eq_some_iff.1 hb).1
  have hab := h.above hb hn hl
  have hset : ∀ i c, (done.set b true)[i]? = some c → (i = b ∧ c = true) ∨ (i ≠ b ∧ done[i]? = some c) := fun i c hc => by
    rw [List.getElem?_set] at hc
    split at hc
    · rename_i e
      subst e
      exact .inl ⟨rfl, by simpa [hbl] using hc.symm⟩
    · rename_i e
      exact .inr ⟨fun e' => e e'.symm, hc⟩
  have hset' : ∀ i c, i ≠ b → done[i]? = some c → (done.set b true)[i]? = some c := fun i c hi hc => by
    rw [List.getElem?_set_ne (fun e => hi e.symm)]; exact hc
  have hsb : (done.set b true)[b]? = some true := by rw [List.getElem?_set_self hbl]
  refine ⟨h.par, by simp [h.len], by have := h.cnt; simp; omega, ?_, fun x => ?_, ?_, ?_, ?_, ?_⟩
  · have h1 := h.left
    have e : done = done.take b ++ false :: done.drop (b + 1) := by
      have := List.getElem?_eq_some_iff.1 hb
      obtain ⟨_, e⟩ := this
      conv => lhs; rw [← List.take_append_drop b done, List.drop_eq_getElem_cons hbl, e]
    have e2 : done.set b true = done.take b ++ true :: done.drop (b + 1) := by
      rw [List.set_eq_take_append_cons_drop, if_pos hbl]
    rw [e2, List.count_append, List.count_cons]
    rw [e, List.count_append, List.count_cons] at h1
    simp at h1 ⊢
    omega
  · rw [List.mem_append, h.mem]
    constructor
    · rintro (⟨i, h1, h2, h3⟩ | hx)
      · have : i ≠ b := fun e => by subst e; rw [hb] at h1; cases h1
        exact ⟨i, hset' i _ this h1, h2, h3⟩
      · simp only [List.mem_singleton] at hx
        subst hx
        exact ⟨b, hsb, hn, hv⟩
    · rintro ⟨i, h1, h2, h3⟩
      rcases hset i _ h1 with ⟨rfl, _⟩ | ⟨hi, hd⟩
      · right
        rw [hn] at h2; rw [hv] at h3
        simp only [Option.some.injEq] at h2 h3
        simp [h2, h3]
      · exact .inl ⟨i, hd, h2, h3⟩
  · rw [List.map_append]
    refine List.pairwise_append.2 ⟨h.rise, by simp, fun x hx y hy => ?_⟩
    simp only [List.map_cons, List.map_nil, List.mem_singleton] at hy
    subst hy
    obtain ⟨z, hz, rfl⟩ := List.mem_map.1 hx
    exact hab z hz
  · intro x hx
    rcases List.mem_append.1 hx with hx | hx
    · exact h.utf x hx
    · simp only [List.mem_singleton] at hx
      subst hx; exact hu
  · intro i nm' h1 h2 x hx
    rcases hset i _ h1 with ⟨_, hc⟩ | ⟨hi, hd⟩
    · cases hc
    · rcases List.mem_append.1 hx with hx | hx
      · exact h.low i nm' hd h2 x hx
      · simp only [List.mem_singleton] at hx
        subst hx
        exact hmin i nm' hd h2
  · intro i j nm' h1 h2 h3 h4
    have key : ∀ k, k ≠ b → done[k]? = some true → names[k]? = some nm' → nm' ≠ nm := fun k hk hd hnk e => by
      subst e
      have hkl : k < l.length := by rw [← h.par]; exact (List.getElem?_eq_some_iff.1 hnk).1
      have := hab (nm', l[k]) ((h.mem _).2 ⟨k, hd, hnk, List.getElem?_eq_getElem hkl⟩)
      rw [q40] at this; cases this
    rcases hset i _ h1 with ⟨rfl, _⟩ | ⟨hi, hd⟩
    · rcases hset j _ h2 with ⟨rfl, _⟩ | ⟨hj, hd'⟩
      · rfl
      · rw [hn] at h3
        simp only [Option.some.injEq] at h3
        exact absurd h3.symm (key j hj hd' h4)
    · rcases hset j _ h2 with ⟨rfl, _⟩ | ⟨hj, hd'⟩
      · rw [hn] at h4
        simp only [Option.some.injEq] at h4
        exact absurd h4.symm (key i hi hd h3)
      · exact h.one i j nm' hd hd' h3 h4
theorem Sel.all {names : List (List UInt8)} {l : List Vl} {q : Prs} {done : List Bool} (h : Sel names l q done 0) {i : Nat} (hi : i < names.length) : done[i]? = some true := by
  have h1 := List.getElem?_eq_getElem (by rw [h.len]; exact hi : i < done.length)
  rw [h1]
  cases hd : done[i]'(by rw [h.len]; exact hi) with
  | true => rfl
  | false =>
    have := h.left
    rw [List.count_eq_zero] at this
    exact absurd (by rw [← hd]; exact List.getElem_mem _) this
theorem Sel.end {names : List (List UInt8)} {l : List Vl} {q : Prs} {done : List Bool} (h : Sel names l q done 0) : q2q names l.length = true ∧ q = srtP (names.zip l) := by
  have hq : ∀ (i : Nat) (hi : i < names.length), (names[i], l[i]'(by rw [← h.par]; exact hi)) ∈ q := fun i hi =>
    (h.mem _).2 ⟨i, h.all hi, List.getElem?_eq_getElem hi, List.getElem?_eq_getElem _⟩
  have hok : q2q names l.length = true := by
    rw [namesOk_iff]
    refine ⟨h.par, ?_, fun x hx => ?_⟩
    · refine List.pairwise_iff_getElem.2 fun i j hi hj hij e => ?_
      have := h.one i j names[i] (h.all hi) (h.all hj) (List.getElem?_eq_getElem hi) (by rw [e]; exact List.getElem?_eq_getElem hj)
      omega
    · obtain ⟨i, hi, rfl⟩ := List.mem_iff_getElem.1 hx
      exact h.utf _ (hq i hi)
  refine ⟨hok, qaa hok h.rise fun x => ?_⟩
  constructor
  · intro hx
    obtain ⟨i, _, h2, h3⟩ := (h.mem x).1 hx
    refine List.mem_iff_getElem?.2 ⟨i, ?_⟩
    rw [List.getElem?_zip_eq_some]
    exact ⟨h2, h3⟩
  · intro hx
    obtain ⟨i, hi⟩ := List.mem_iff_getElem?.1 hx
    rw [List.getElem?_zip_eq_some] at hi
    exact (h.mem x).2 ⟨i, h.all (List.getElem?_eq_some_iff.1 hi.1).1, hi.1, hi.2⟩
theorem Sel.some {names : List (List UInt8)} {l : List Vl} {q : Prs} {done : List Bool} {m : Nat} (h : Sel names l q done (m + 1)) : ∃ i : Nat, done[i]? = Option.some false := by
  have : 0 < done.count false := by rw [h.left]; omega
  exact List.mem_iff_getElem?.1 (List.count_pos_iff.1 this)
end Lp

/-! LpX1 -/

namespace Lp
open Go Go.Proofs
set_option maxHeartbeats 4000000
set_option maxRecDepth 20000
set_option linter.unusedSimpArgs false
section
variable {α : Type} {enc : α → PV} {sz : Nat}
def ofR (enc : α → PV) (xs : List PV) {K : List α → Prop} (_h : HK K) : Prop := ∃ l, xs = l.map enc ∧ K l
theorem ofR_eq (hi : ∀ a b, enc a = enc b → a = b) (K : List α → Prop) (l : List α) : ofR enc (l.map enc) (HK.mk : HK K) = K l := by
  refine propext ⟨fun ⟨m, h1, h2⟩ => ?_, fun h => ⟨l, rfl, h⟩⟩
  have : l = m := (List.map_inj_right (fun a b h => hi a b h)).1 h1
  subst this; exact h2
def rowX (enc : α → PV) (sz : Nat) (a : PV) (objs : List Obj) {K : List α → Prop} (_h : HK K) : Prop := match a with
  | .osl k ver => ∃ o, objs[k]? = some o ∧ o.live = true ∧ o.ver = ver ∧ o.sz = sz ∧ ofR enc o.xs (HK.mk : HK K)
  | .sl _ [] (some true) => K []
  | .sl s xs none => s = sz ∧ ofR enc xs (HK.mk : HK K)
  | _ => False
theorem q80 {a : PV} {objs : List Obj} {K : List α → Prop} (hc : ∀ x, ∀ c ∈ (enc x).cells, c.ref = false) (h : rowX enc sz a objs (HK.mk : HK K)) : ∃ l a', lend objs a a' ∧ Tells a' (.sl sz (l.map enc) none) ∧ K l := by
  unfold rowX at h
  split at h
  · obtain ⟨o, h1, h2, h3, rfl, l, h4, h5⟩ := h
    refine ⟨l, .sl o.sz o.xs none, ⟨o, h1, h2, h3, fun x hx c hcc => ?_, rfl⟩, by rw [h4]; exact .refl _, h5⟩
    rw [h4] at hx
    obtain ⟨y, _, rfl⟩ := List.mem_map.1 hx
    exact hc y c hcc
  · exact ⟨[], _, ⟨rfl, rfl⟩, q53 _ _, h⟩
  · obtain ⟨rfl, l, rfl, h5⟩ := h
    exact ⟨l, _, ⟨rfl, rfl⟩, .refl _, h5⟩
  · exact h.elim
end
theorem str_inj : ∀ a b : List UInt8, PV.str a = .str b → a = b := fun a b h => by cases h; rfl
theorem ofRB : (∀ (K : List (List UInt8) → Prop) l, ofR .str (l.map .str) (HK.mk : HK K) = K l) ∧ (∀ (K : List Vl → Prop) l, ofR encV (l.map encV) (HK.mk : HK K) = K l) := ⟨ofR_eq str_inj, ofR_eq q4g⟩
theorem rowB (objs : List Obj) :
    (∀ (K : List (List UInt8) → Prop) l, rowX .str 1 (encT l) objs (HK.mk : HK K) = K l) ∧ (∀ (K : List (List UInt8) → Prop) s, rowX .str 1 (.sl s [] (some true)) objs (HK.mk : HK K) = K []) ∧
    (∀ (K : List (List UInt8) → Prop) k ver, rowX .str 1 (.osl k ver) objs (HK.mk : HK K) = ∃ o, objs[k]? = some o ∧ o.live = true ∧ o.ver = ver ∧ o.sz = 1 ∧ ofR .str o.xs (HK.mk : HK K)) ∧
    (∀ (K : List Vl → Prop) l, rowX encV 1 (encL l) objs (HK.mk : HK K) = K l) ∧ (∀ (K : List Vl → Prop) s, rowX encV 1 (.sl s [] (some true)) objs (HK.mk : HK K) = K []) ∧
    (∀ (K : List Vl → Prop) k ver, rowX encV 1 (.osl k ver) objs (HK.mk : HK K) = ∃ o, objs[k]? = some o ∧ o.live = true ∧ o.ver = ver ∧ o.sz = 1 ∧ ofR encV o.xs (HK.mk : HK K)) := by
  have h1 := ofRB.1
  have h2 := ofRB.2
  refine ⟨fun K l => ?_, fun _ _ => rfl, fun _ _ _ => rfl, fun K l => ?_, fun _ _ => rfl, fun _ _ _ => rfl⟩
  · have : rowX .str 1 (encT l) objs (HK.mk : HK K) = ((1 : Nat) = 1 ∧ ofR .str (l.map .str) (HK.mk : HK K)) := by cases l <;> rfl
    rw [this, h1]; simp
  · have : rowX encV 1 (encL l) objs (HK.mk : HK K) = ((1 : Nat) = 1 ∧ ofR encV (l.map encV) (HK.mk : HK K)) := by cases l <;> rfl
    rw [this, h2]; simp
theorem strCells : ∀ x : List UInt8, ∀ c ∈ (PV.str x).cells, c.ref = false := fun x c h => by simp only [PV.cells, List.mem_singleton] at h; subst h; rfl
theorem valCells : ∀ x : Vl, ∀ c ∈ (encV x).cells, c.ref = false := fun x c h => by simp only [encV, PV.cells, List.mem_singleton] at h; subst h; rfl
theorem tells_two {a b c d : PV} (h1 : Tells a c) (h2 : Tells b d) : ∀ (i : Nat) (p q : PV), [a, b][i]? = some p → [c, d][i]? = some q → Tells p q := fun i p q hp hq => by
  match i with
  | 0 => cases hp; cases hq; exact h1
  | 1 => cases hp; cases hq; exact h2
  | _ + 2 => simp at hp
def q2i : Ctr := fun args objs K => match args with
  | [a, b] => rowX .str 1 a objs (HK.mk : HK fun names => rowX encV 1 b objs (HK.mk : HK fun l => names.length = l.length ∧ l.length ≤ 1000000 ∧ l.flatten.length ≤ 1000000 ∧ (∀ v ∈ l, v ≠ []) ∧ K (.osl objs.length 0) (objs ++ [nodO (layV names l) 0]) 2))
  | _ => False
theorem q6k : CtrOk Tryz.prog f_val_laid q2i := by
  intro args objs K h
  unfold q2i at h
  split at h
  · obtain ⟨names, a', l1, t1, h⟩ := q80 strCells h
    obtain ⟨l, b', l2, t2, h1, h2, h3, h4, h5⟩ := q80 valCells h
    exact ⟨_, _, _, .madeL 0 _ [a', b'] ⟨l1, l2, trivial⟩ (nodO_atoms _ _) ((laid_made names l h1 h2 h3 h4).arg rfl (tells_two t1 t2)), h5⟩
  · exact h.elim
end Lp

/-! LpD6 -/

namespace Lp
open Go Go.Proofs
set_option maxHeartbeats 4000000
set_option maxRecDepth 20000
set_option linter.unusedSimpArgs false
theorem q45 {α : Type} {f : PV → PV} (enc : α → PV) (h : ∀ x, (enc x).mapCells f = enc x) (l : List α) : (l.map enc).map (PV.mapCells f) = l.map enc := by
  rw [List.map_map]
  exact List.map_congr_left fun x _ => h x
def objR (names : List (List UInt8)) (l : List Vl) : PV := if q2q names l.length then .tup [encV (q58 names l), .int .i64 0] else .tup [.sl 0 [] (some true), .int .i64 4]
theorem endNT {d n k a b : Nat} {q : PV} {o' : Obj} {l : List (Nat × PV)} {ob : List Obj} {o : Obj} (ha : a < n) (hb : b < n) (h1 : ob[k]? = some o) (h2 : o.live = true) (h3 : lkA l a = .osl k o.ver) (h4 : lkA l b = q) (h5 : outO1 d k ⟨tmA n l, ob⟩ o = o') (h6 : NoRefs [o']) (h7 : q.atom = true) : EndN D d [.tmp a, .tmp b] [q] o' ⟨tmA n l, ob⟩ :=
  endN h1 h2 (by simp only [outL, taR2.2.1 n l a ha, taR2.2.1 n l b hb, h3, h4]) h5 h6 (by simp [h7])
theorem objR_tells (names : List (List UInt8)) (l : List Vl) : Tells (objR names l) (.tup [encV (q58 names l), .int .i64 (objErr names l)]) := by
  unfold objR q58 objErr
  split
  · exact .refl _
  · exact tells2 (.inr rfl) (q53 0 6) (.refl _)
end Lp

/-! LpD9 -/

namespace Lp
open Go Go.Proofs
set_option maxHeartbeats 4000000
set_option maxRecDepth 20000
set_option linter.unusedSimpArgs false
theorem FnOk.pureCC {P : Program} {D : TypeId → TInfo} {T : Know} {f : FuncId} {n t u : Nat} {ty uy : TypeId} {C : LC} {args : List PV} {r : PV} (h : FnOk P f n [.cell t ty, .cell u uy] C) (d : Nat) (hD : ∀ t, TOk P t (D t)) (hT : KOk P none Etop T) (hm : P.follows .mixedOrders = true) (ht : t < n) (hu : u < n)
    (hw : ∀ Q : Exit → St → Prop, (∀ l ob, Q .ret ⟨tmA n l, ob⟩ = loadR (D ty) (lkA l t) ob fun p _ _ => loadR (D uy) (lkA l u) ob fun q _ _ => r = .tup [frzT d 0 ob p, frzT d 0 ob q]) → wpc P D T C Q (q0s args n)) : FnSpec P f args [] r [] := by
  refine h.pure d hD hT hm (by simp) (hw _ fun l ob => ?_)
  simp only [retR, outL, taR2.2.1 n l t ht, taR2.2.1 n l u hu, List.map_cons, List.map_nil, onePV]
def kindV : Vl → Int
  | [] => 0
  | n :: _ => n.kind
def optV (v : Vl) (nm : List UInt8) : Option Vl := if kindV v = 6 then getP (prs v) nm else none
def q2n (v : Vl) (nm : List UInt8) : Vl := (optV v nm).getD []
def hasV (v : Vl) (nm : List UInt8) : Bool := (optV v nm).isSome
def q4k (v : Vl) (nm : List UInt8) : PV := match optV v nm with
  | some x => .tup [encV x, .bool true]
  | none => .tup [.sl 0 [] (some true), .bool false]
theorem find_hit {ps : List Vl} {nm : List UInt8} {i : Nat} {p : Vl} (h : ps[i]? = some p) (hp : nameOf p = nm) (hb : ∀ (j : Nat) q, j < i → ps[j]? = some q → nameOf q ≠ nm) : getP (ps.map fun p => (nameOf p, clr p)) nm = some (clr p) := by
  have : (ps.map fun p => (nameOf p, clr p)).find? (fun x => decide (x.1 = nm)) = some (nameOf p, clr p) := by
    rw [List.find?_eq_some_iff_getElem]
    obtain ⟨hi, he⟩ := List.getElem?_eq_some_iff.1 h
    refine ⟨by simp [hp], i, by simpa using hi, by simp [he], fun j hj => ?_⟩
    have := hb j _ hj (List.getElem?_eq_getElem (by omega))
    simpa using this
  simp [getP, this]
theorem find_none {ps : List Vl} {nm : List UInt8} (hb : ∀ (j : Nat) q, ps[j]? = some q → nameOf q ≠ nm) : getP (ps.map fun p => (nameOf p, clr p)) nm = none := by
  rw [getP_none]
  intro h
  simp only [List.map_map, List.mem_map, Function.comp] at h
  obtain ⟨p, hp, rfl⟩ := h
  obtain ⟨i, hi⟩ := List.mem_iff_getElem?.1 hp
  exact hb i p hi rfl
def fldO (nm : List UInt8) (x : PV) (b : Bool) : List Obj := [⟨t_string, 1, [.str nm], true, 1⟩, ⟨t_api_Val, 1, [x], true, 1⟩, ⟨t_bool, 1, [.bool b], true, 1⟩]
theorem NoRefs.lt {O : List Obj} (h : NoRefs O) : q31 O := fun o ho x hx c hc => by
  have := h o ho x hx c hc
  cases c <;> first | rfl | (simp [PV.ref] at this)
theorem fldO_refs (nm : List UInt8) {x : PV} (b : Bool) (h1 : x.cells = [x]) (h2 : x.ref = false) : NoRefs (fldO nm x b ++ [ghA, hole]) := by
  intro o ho y hy c hc
  simp only [fldO, List.cons_append, List.nil_append, List.mem_cons, List.not_mem_nil, or_false] at ho
  rcases ho with rfl | rfl | rfl | rfl | rfl
  · simp only [List.mem_singleton] at hy; subst hy
    simp only [PV.cells, List.mem_singleton] at hc; subst hc; rfl
  · simp only [List.mem_singleton] at hy; subst hy
    rw [h1] at hc
    simp only [List.mem_singleton] at hc; subst hc; exact h2
  · simp only [List.mem_singleton] at hy; subst hy
    simp only [PV.cells, List.mem_singleton] at hc; subst hc; rfl
  · cases hy
  · cases hy
theorem fldO_gh (nm : List UInt8) {x : PV} (b : Bool) (h1 : x.cells = [x]) (h2 : x.ref = false) : Gh 3 (fldO nm x b ++ [ghA, hole]) := ⟨Nat.le_refl _, (fldO_refs nm b h1 h2).lt, rfl, rfl⟩
theorem field_spec (v : Vl) (nm : List UInt8) (hr : Rt v) (hl : v.length ≤ 1000000) : FnSpec Tryz.prog f_val_Field [encV v, .str nm] [] (q4k v nm) [] := by
  refine k_val_Field.pureCC (T := tabL Tryz.prog [(f_val_each, q1o)]) 1 hD (q0g (q0c q37 q0d)) hmix (by decide) (by decide) fun Q hQ => ?_
  try simp only [F_all]
  obtain ⟨n, r, rfl, _⟩ := q1n hr.name hr.one.ne
  generalize hv : n :: r = v at *
  have hg0 : v[0]? = some n := by rw [← hv]; rfl
  have hkv : kindV v = n.kind := by rw [← hv]; rfl
  by_cases hk : n.kind = 6
  rotate_left 1
  · have k6 : (n.kind = 6) = False := eq_false hk
    have hres : q4k v nm = .tup [.sl 0 [] (some true), .bool false] := by simp [q4k, optV, hkv, hk]
    simp (maxSteps := 400000) only [↓preZ, postZ, coreZ, ↓preU, postU, D_all, F_all, unR, outL, onePV, binS, ↓binS, q03, ↓q03, q01, ↓q01, boxR, q0b, newObj, q05, q00, q07, q09, q0a, St.freeze, q02, q08, q04, BEq.rfl, reduceIte, reduceCtorEq, Nat.reduceLT, Nat.reduceAdd, Nat.reduceSub, Nat.reduceMul, Nat.reduceBEq, Nat.reduceLeDiff, Int.reduceToNat, Int.reduceLE, hQ, q6i, hg0, k6]
    exact ⟨by decide, rfl, by decide, rfl, by rw [hres]; rfl⟩
  have k6 : (n.kind = 6) = True := eq_true hk
  obtain ⟨ps, hP, hprt, hpl, hnm, hgv⟩ := q44 v hr hl
  have hnames : q1l v = ps.map nameOf := by
    rcases hnm with h | ⟨n', r', h1, h2⟩
    · exact h
    · rw [← hv] at h1; cases h1; exact absurd hk h2
  have hprs : prs v = ps.map fun p => (nameOf p, clr p) := by rw [prs, hnames, hP, q91]
  simp (maxSteps := 400000) only [↓preZ, postZ, coreZ, ↓preU, postU, D_all, F_all, unR, outL, onePV, binS, ↓binS, q03, ↓q03, q01, ↓q01, boxR, q0b, newObj, q05, q00, q07, q09, q0a, St.freeze, q02, q08, q04, BEq.rfl, reduceIte, reduceCtorEq, Nat.reduceLT, Nat.reduceAdd, Nat.reduceSub, Nat.reduceMul, Nat.reduceBEq, Nat.reduceLeDiff, Int.reduceToNat, Int.reduceLE, hQ, q6i, hg0, k6, ↓q1o]
  refine wpc_rf2 f_val_each_1 [.addr (encV v)] (ps.map rowOf)
    (fun i O => (∀ (j : Nat) q, j < i → ps[j]? = some q → nameOf q ≠ nm) ∧ i ≤ ps.length ∧ O = fldO nm (.sl 0 [] (some true)) false ++ [ghA, hole])
    (fun i O => ∃ p, ps[i]? = some p ∧ nameOf p = nm ∧ (∀ (j : Nat) q, j < i → ps[j]? = some q → nameOf q ≠ nm) ∧ O = fldO nm (encV (clr p)) true ++ [ghA, hole]) .ret rfl rfl rfl rfl trivial hgv (q59 ps) ⟨fun j q h => absurd h (Nat.not_lt_zero j), Nat.zero_le _, rfl⟩ ?_ ?_ ?_ ?_ ?_
  · rintro i O ⟨_, _, rfl⟩
    exact fldO_gh nm false rfl rfl
  · rintro i O ⟨p, _, _, _, rfl⟩
    exact ⟨fldO_gh nm true rfl rfl, fldO_refs nm true rfl rfl⟩
  · rintro i args O ⟨hb, hi, rfl⟩ ha
    obtain ⟨p, hpi, rfl⟩ := q5a ha
    have hil := (List.getElem?_eq_some_iff.1 hpi).1
    unfold fldO
    by_cases he : nameOf p = nm
    · have he' : (nameOf p = nm) = True := eq_true he
      simp (maxSteps := 400000) only [↓preZ, postZ, coreZ, ↓preU, postU, D_all, F_all, unR, outL, onePV, binS, ↓binS, q03, ↓q03, q01, ↓q01, boxR, q0b, newObj, q05, q00, q07, q09, q0a, St.freeze, q02, q08, q04, BEq.rfl, reduceIte, reduceCtorEq, Nat.reduceLT, Nat.reduceAdd, Nat.reduceSub, Nat.reduceMul, Nat.reduceBEq, Nat.reduceLeDiff, Int.reduceToNat, Int.reduceLE, hQ, setL, knI, he']
      exact ⟨rfl, p, hpi, he, hb, rfl⟩
    · have he' : (nameOf p = nm) = False := eq_false he
      simp (maxSteps := 400000) only [↓preZ, postZ, coreZ, ↓preU, postU, D_all, F_all, unR, outL, onePV, binS, ↓binS, q03, ↓q03, q01, ↓q01, boxR, q0b, newObj, q05, q00, q07, q09, q0a, St.freeze, q02, q08, q04, BEq.rfl, reduceIte, reduceCtorEq, Nat.reduceLT, Nat.reduceAdd, Nat.reduceSub, Nat.reduceMul, Nat.reduceBEq, Nat.reduceLeDiff, Int.reduceToNat, Int.reduceLE, hQ, setL, knI, he']
      refine ⟨fun j q hj hq => ?_, by omega, rfl⟩
      rcases Nat.lt_or_ge j i with g | g
      · exact hb j q g hq
      · have : j = i := by omega
        subst this
        rw [hpi] at hq; cases hq; exact he
  · rintro O ⟨hb, hi, rfl⟩
    unfold fldO
    simp (maxSteps := 400000) only [↓preZ, postZ, coreZ, ↓preU, postU, D_all, F_all, unR, outL, onePV, binS, ↓binS, q03, ↓q03, q01, ↓q01, boxR, q0b, newObj, q05, q00, q07, q09, q0a, St.freeze, q02, q08, q04, BEq.rfl, reduceIte, reduceCtorEq, Nat.reduceLT, Nat.reduceAdd, Nat.reduceSub, Nat.reduceMul, Nat.reduceBEq, Nat.reduceLeDiff, Int.reduceToNat, Int.reduceLE, hQ]
    have hres : q4k v nm = .tup [.sl 0 [] (some true), .bool false] := by
      have : getP (prs v) nm = none := by
        rw [hprs]
        refine find_none fun j q hq => hb j q ?_ hq
        rw [List.length_map]
        exact (List.getElem?_eq_some_iff.1 hq).1
      simp [q4k, optV, this]
    exact ⟨by decide, rfl, by decide, rfl, by rw [hres]; rfl⟩
  · rintro i O hi ⟨p, hpi, he, hb, rfl⟩
    unfold fldO
    simp (maxSteps := 400000) only [↓preZ, postZ, coreZ, ↓preU, postU, D_all, F_all, unR, outL, onePV, binS, ↓binS, q03, ↓q03, q01, ↓q01, boxR, q0b, newObj, q05, q00, q07, q09, q0a, St.freeze, q02, q08, q04, BEq.rfl, reduceIte, reduceCtorEq, Nat.reduceLT, Nat.reduceAdd, Nat.reduceSub, Nat.reduceMul, Nat.reduceBEq, Nat.reduceLeDiff, Int.reduceToNat, Int.reduceLE, hQ]
    have hres : q4k v nm = .tup [encV (clr p), .bool true] := by
      have : getP (prs v) nm = some (clr p) := by rw [hprs]; exact find_hit hpi he hb
      simp [q4k, optV, hkv, hk, this]
    rw [hres]
    exact ⟨_, _, rfl, rfl, rfl, rfl, Nat.le_refl _, rfl, _, _, rfl, rfl, rfl, rfl, Nat.le_refl _, rfl, rfl⟩
theorem fieldR1_tells (v : Vl) (nm : List UInt8) : Tells (q4k v nm) (.tup [encV (q2n v nm), .bool (hasV v nm)]) := by
  unfold q4k q2n hasV
  split
  · rename_i x h; rw [h]; exact .refl _
  · rename_i h; rw [h]; exact tells2 (.inr rfl) (q53 0 6) (.refl _)
theorem field_spec' (v : Vl) (nm : List UInt8) (hr : Rt v) (hl : v.length ≤ 1000000) : FnSpec Tryz.prog f_val_Field [encV v, .str nm] [] (.tup [encV (q2n v nm), .bool (hasV v nm)]) [] := (field_spec v nm hr hl).res (fieldR1_tells v nm)
def q2c : Ctr := fun args objs K => match args with
  | [a0, .str nm] => ofE encV a0 (HK.mk : HK fun v => (Rt v) ∧ (v.length ≤ 1000000) ∧ K (.tup [encV (q2n v nm), .bool (hasV v nm)]) objs 0)
  | _ => False
theorem q62 : CtrOk Tryz.prog f_val_Field (q2c) := by
  intro args objs K h
  unfold q2c at h
  split at h
  · rename_i a0 nm
    obtain ⟨v, rfl, h1, h2, hk⟩ := h
    exact ⟨_, _, _, .pure _ rfl (field_spec' v nm h1 h2), hk⟩
  · exact h.elim
end Lp

/-! LpD10 -/

namespace Lp
open Go Go.Proofs Go.RowKit Go.Sort
set_option maxHeartbeats 4000000
set_option maxRecDepth 100000
def sortS (ss : List (List UInt8)) : List (List UInt8) := ss.mergeSort fun x y => decide (x ≤ y)
theorem q3j (ss : List (List UInt8)) : (sortS ss).length = ss.length := List.length_mergeSort _
theorem oneT {R : PV → Value → Prop} {p : PV} {vs : List Value} (h : RepL R [p] vs) : ∃ u, vs = [u] ∧ R p u := by
  obtain ⟨hl, h⟩ := h
  match vs, hl with
  | [u], _ => exact ⟨u, rfl, h 0 _ _ rfl rfl⟩
theorem frozen_row' {w : World} {g : Nat} {cur : Array Value} {t : TypeId} (hg : w.heap[g]? = some (.cells cur t (0, 0))) (o : Nat) : w.frozen? ⟨g, o, none⟩ = false := by
  simp [World.frozen?, hg]
theorem set_eqk {α : Type} {l : List α} {k : Nat} {x : α} (h : l[k]? = some x) : l.set k x = l := by
  refine List.ext_getElem? fun i => ?_
  rw [List.getElem?_set]
  split
  · rename_i e
    subst e
    rw [if_pos (List.getElem?_eq_some_iff.1 h).1, h]
  · rfl
theorem sort_use {objs : List Obj} {k ver : Nat} (ss : List (List UInt8)) (h1 : objs[k]? = some ⟨t_string, 1, ss.map .str, true, ver⟩) (hl : ss.length ≤ 1000000) :
    FnUse Tryz.prog f_slices_Sort_L_string_string_ [.osl k ver] objs (.tup []) (objs.set k ⟨t_string, 1, (sortS ss).map .str, true, ver⟩) := by
  refine ⟨⟨_, Tryz.lays190.f190, by kernel_rfl, by kernel_rfl⟩, by simp, fun base prot w0 tmps blk a w vs R hargs => ?_⟩
  obtain ⟨u, rfl, r⟩ := oneT hargs
  have hh := r.osl h1 rfl rfl
  have hob := R.objs.ob k _ h1 rfl
  unfold Hdr at hh
  unfold ObjRep at hob
  cases hb : blk k with
  | none =>
    rw [hb] at hh
    obtain ⟨rfl, hx⟩ := hh
    have hx' : ss.map PV.str = [] := hx
    have hs : ss = [] := List.map_eq_nil_iff.1 hx'
    subst hs
    refine (Any.slices_Sort_string_none Tryz.lays190 none 0 w).mono ?_
    rintro e w' ⟨h2, rfl⟩
    have hs0 : sortS [] = [] := List.mergeSort_nil
    have hset : objs.set k ⟨t_string, 1, (sortS []).map .str, true, ver⟩ = objs := by rw [hs0]; exact set_eqk h1
    rw [hset]
    exact ⟨_, blk, h2, R, ⟨[], rfl, rfl, fun i p v h => by simp at h⟩⟩
  | some g =>
    rw [hb] at hh hob
    obtain ⟨cap, c, hv, hc, h3, h4, h5⟩ := hh
    obtain ⟨c', hc', _, hcell⟩ := hob
    obtain ⟨_, ec, _, _⟩ := hobj_cells (hc'.symm.trans hc |> Option.some.inj)
    rw [ec] at hcell
    clear hc' ec
    have hv2 : u = .slice (some ⟨g, 0, none⟩) ss.length cap := by rw [hv]; simp
    clear hv
    subst hv2
    simp only [Nat.mul_one] at h5
    have hg := (Array.getElem?_eq_some_iff.1 hc).1
    have hsl : (ss.map PV.str).length = ss.length := List.length_map ..
    have hcl : ∀ (j : Nat) (x : List UInt8), ss[j]? = some x → c[j]? = some (encStr x) := fun j x hx => by
      obtain ⟨_, h⟩ := hcell j (.str x) (by simp only [List.getElem?_map, hx]; rfl)
      obtain ⟨v, h6, h7⟩ := h 0 (.str x) rfl
      cases h7
      simpa using h6
    have hH : Holds encStr w g 0 ss.toArray := fun j hj => by
      have hj' : j < ss.length := by simpa using hj
      refine ⟨?_, frozen_row' hc _⟩
      have e := hcl j ss[j] (List.getElem?_eq_getElem hj')
      have e2 : ss.toArray[j]! = ss[j] := by rw [getElem!_pos _ j (by simpa using hj')]; simp
      rw [e2, Nat.zero_add]
      simp only [World.cell?, hc]
      exact e
    refine (Any.slices_Sort_string Tryz.lays190 g 0 cap ss w hH hg (by omega)).mono ?_
    rintro e W ⟨h6, n, os, hW⟩
    have hW : W = grow (putRow encStr (ahead w n) g 0 (sortS ss).toArray) os := hW
    have h3' : ss.length ≤ cap := by simpa using h3
    have hsz : (sortS ss).length ≤ c.size := by rw [q3j]; omega
    have hheap : W.heap[g]? = some (.cells (putCells encStr 0 (sortS ss).toArray c) t_string (0, 0)) := by
      rw [hW]
      simp only [grow, putRow, mapBlock, heap_ahead]
      rw [Array.getElem?_append_left (by simpa using hg), Array.getElem?_modify, if_pos rfl, hc]
      rfl
    have hoth : ∀ b z, g ≠ b → w.heap[b]? = some z → W.heap[b]? = some z := fun b z hb hz => by
      rw [hW]
      have hbl := (Array.getElem?_eq_some_iff.1 hz).1
      simp only [grow, putRow, mapBlock, heap_ahead]
      rw [Array.getElem?_append_left (by simpa using hbl), Array.getElem?_modify, if_neg hb, hz]
    have hput : ∀ (j : Nat) (x : List UInt8), (sortS ss)[j]? = some x → (putCells encStr 0 (sortS ss).toArray c)[j]? = some (encStr x) := fun j x hx => by
      have hj := (List.getElem?_eq_some_iff.1 hx).1
      unfold putCells
      rw [Array.getElem?_mapIdx, Array.getElem?_eq_getElem (by omega : j < c.size)]
      simp only [Option.map_some, Nat.zero_le, true_and, Nat.zero_add, List.size_toArray, hj, if_true, Nat.sub_zero]
      rw [getElem!_pos _ j (by simpa using hj)]
      obtain ⟨_, rfl⟩ := List.getElem?_eq_some_iff.1 hx
      simp
    have hWs : w.heap.size ≤ W.heap.size := by rw [hW]; simp [grow]
    have hWo : W.os = w.os ∧ W.output = w.output := by rw [hW]; exact ⟨rfl, rfl⟩
    refine ⟨_, q0f blk k (blk k), h6, ?_, ⟨[], rfl, rfl, fun i p v h => by simp at h⟩⟩
    refine R.setObj (o' := ⟨t_string, 1, (sortS ss).map .str, true, ver⟩) hWo h1 rfl rfl hWs ?_ (fun g' hg' => .inl hg') (Nat.le_refl _) ?_ ?_
    · intro b z hbz hz
      exact hoth b z (fun e => hbz (by rw [hb, e])) hz
    · intro _
      refine ⟨rfl, rfl, rfl, fun _ => by simp [q3j], fun g' c' hg' hc' => ?_⟩
      rw [hb] at hg'; cases hg'
      rw [hc] at hc'; cases hc'
      exact ⟨_, hheap, by unfold putCells; simp⟩
    · intro hmono
      unfold ObjRep
      have hbk : q0f blk k (blk k) k = some g := by unfold q0f; rw [if_pos rfl, hb]
      rw [hbk]
      have hMT : t_string ≠ MT := by decide
      refine ⟨_, (by rw [q28 hMT]; exact hheap), q4t hMT (by simp [putCells, q3j]; omega), fun i' x' hx' => ?_⟩
      rw [List.getElem?_map] at hx'
      cases hi : (sortS ss)[i']? with
      | none => rw [hi] at hx'; simp at hx'
      | some x =>
        rw [hi] at hx'
        simp only [Option.map_some, Option.some.injEq] at hx'
        subst hx'
        refine ⟨rfl, fun j p hp => ?_⟩
        match j, hp with
        | 0, hp =>
          cases hp
          exact ⟨_, by simpa using hput i' x hi, .of_rep (.str x)⟩
        | _ + 1, hp => simp [PV.cells] at hp
end Lp

/-! LpD11 -/

namespace Lp
open Go Go.Proofs Go.RowKit
set_option maxHeartbeats 4000000
set_option maxRecDepth 20000
set_option linter.unusedSimpArgs false
theorem lt_bl : ∀ x y : List UInt8, x < y ↔ Op.bytesLess x y = true
  | [], [] => by simp [Op.bytesLess]
  | [], b :: y => by simp [Op.bytesLess]
  | a :: x, [] => by simp [Op.bytesLess]
  | a :: x, b :: y => by
    have ih := lt_bl x y
    rw [List.cons_lt_cons_iff, ih]
    simp only [Op.bytesLess]
    by_cases h1 : a < b
    · simp [h1]
    · by_cases h2 : a = b
      · subst h2; simp [h1]
      · simp [h1, h2]
theorem le_bl (x y : List UInt8) : decide (x ≤ y) = !Op.bytesLess y x := by
  have : x ≤ y ↔ ¬ y < x := Iff.rfl
  rw [Bool.eq_iff_iff, decide_eq_true_iff, this, lt_bl]
  simp
theorem q5q (ss : List (List UInt8)) : (sortS ss).Perm ss := List.mergeSort_perm ..
theorem sortS_rise {ss : List (List UInt8)} (h : ss.Nodup) : Rise (sortS ss) := by
  have h1 : (sortS ss).Pairwise fun x y => decide (x ≤ y) = true := List.pairwise_mergeSort
    (fun a b c h1 h2 => by
      rw [le_bl, Bool.not_eq_true'] at *
      cases h : Op.bytesLess c a with
      | false => rfl
      | true =>
        rcases bl_tri a b with g | g | g
        · rw [q3e _ _ _ h g] at h2; cases h2
        · subst g; rw [h] at h2; cases h2
        · rw [g] at h1; cases h1)
    (fun a b => by
      rw [le_bl, le_bl]
      cases h : Op.bytesLess b a with
      | false => rfl
      | true => rw [bl_asymm _ _ h]; rfl) ss
  have h2 : (sortS ss).Nodup := (q5q ss).nodup_iff.2 h
  refine List.Pairwise.imp ?_ (h1.and h2)
  rintro a b ⟨h3, h4⟩
  rw [le_bl] at h3
  rcases bl_tri a b with g | g | g
  · exact g
  · exact absurd g h4
  · rw [g] at h3; cases h3
theorem values_spec (l : List (List UInt8)) : FnSpec Tryz.prog f_slices_Values_L_string_string_ [encT l] [] (.fn f_slices_Values_L_string_string__1 [] [.addr (encT l)]) [] := by
  refine k_slices_Values_L_string_string_.pureG (T := tabL Tryz.prog []) 1 hD (q0g q0d) hmix (by decide) fun Q hQ => ?_
  try simp only [F_all]
  simp (maxSteps := 400000) only [↓preZ, postZ, coreZ, ↓preU, postU, D_all, F_all, unR, outL, onePV, binS, ↓binS, q03, ↓q03, q01, ↓q01, boxR, q0b, newObj, q05, q00, q07, q09, q0a, St.freeze, q02, q08, q04, BEq.rfl, reduceIte, reduceCtorEq, Nat.reduceLT, Nat.reduceAdd, Nat.reduceSub, Nat.reduceMul, Nat.reduceBEq, Nat.reduceLeDiff, Int.reduceToNat, Int.reduceLE, hQ, q1c]
  rfl
def encSeq (l : List (List UInt8)) : PV := .fn f_slices_Values_L_string_string__1 [] [.addr (encT l)]
theorem encSeq_inj : ∀ a b, encSeq a = encSeq b → a = b := by
  intro a b h
  simp only [encSeq, PV.fn.injEq, List.cons.injEq, PV.addr.injEq, and_true, true_and] at h
  exact q71 _ _ h
theorem seqB : type_of% (q0p encSeq_inj) := q0p encSeq_inj
def q7c : Ctr := fun args objs K => match args with
  | [a0] => ofE encT a0 (HK.mk : HK fun l => K (encSeq l) objs 0)
  | _ => False
theorem ctrValues_ok : CtrOk Tryz.prog f_slices_Values_L_string_string_ (q7c) := by
  intro args objs K h
  unfold q7c at h
  split at h
  · rename_i a0
    obtain ⟨l, rfl, hk⟩ := h
    exact ⟨_, _, _, .pure _ rfl (values_spec l), hk⟩
  · exact h.elim
theorem q7d (l : List (List UInt8)) (hl : l.length ≤ 1000000) : Gives Tryz.prog f_slices_Values_L_string_string__1 [.addr (encT l)] (l.map fun s => [.str s]) := by
  refine k_slices_Values_L_string_string__1.gives (fnT := tabF []) hD q0d hmix ?_
  intro I J objs y hI hIl hJl
  simp (maxSteps := 400000) only [↓preZ, postZ, coreZ, ↓preU, postU, D_all, F_all, unR, outL, onePV, binS, ↓binS, q03, ↓q03, q01, ↓q01, boxR, q0b, newObj, q05, q00, q07, q09, q0a, St.freeze, q02, q08, q04, BEq.rfl, reduceIte, reduceCtorEq, Nat.reduceLT, Nat.reduceAdd, Nat.reduceSub, Nat.reduceMul, Nat.reduceBEq, Nat.reduceLeDiff, Int.reduceToNat, Int.reduceLE, q14]
  refine q0t (fun m S => ∃ (i : Nat) (O : List Obj), i + m = l.length ∧ I i O ∧ S = ⟨tmA 16 [(0, .yld y), (5, encT l), (6, .int .i64 l.length), (7, .int .i64 i)], O⟩) l.length ⟨0, objs, by omega, hI, ?_⟩ ?_
  · simp only [normR, keepR, Nat.reduceAdd, lkR, Nat.reduceBEq, F_all, List.map_nil]
    rfl
  rintro m S ⟨i, O, him, hIi, rfl⟩
  rcases Nat.lt_or_ge i l.length with h | h
  · have hlt : ((i : Int) < (l.length : Int)) = True := eq_true (by omega)
    have zi : (0 ≤ (i : Int)) = True := eq_true (by omega)
    have hgi := List.getElem?_eq_getElem h
    generalize l[i] = s at hgi
    simp (maxSteps := 400000) only [↓preZ, postZ, coreZ, ↓preU, postU, D_all, F_all, unR, outL, onePV, binS, ↓binS, q03, ↓q03, q01, ↓q01, boxR, q0b, newObj, q05, q00, q07, q09, q0a, St.freeze, q02, q08, q04, BEq.rfl, reduceIte, reduceCtorEq, Nat.reduceLT, Nat.reduceAdd, Nat.reduceSub, Nat.reduceMul, Nat.reduceBEq, Nat.reduceLeDiff, Int.reduceToNat, Int.reduceLE, hlt, zi, hgi, Yof]
    refine ⟨rfl, i, hIi, by rw [hgi]; rfl, fun O' hI' => ⟨⟨by omega, by omega⟩, m - 1, by omega, i + 1, O', by omega, hI', rfl⟩, fun O' hJ' => ⟨.inr rfl, .inr ⟨i, h, hJ'⟩⟩⟩
  · have hlt : ((i : Int) < (l.length : Int)) = False := eq_false (by omega)
    simp (maxSteps := 400000) only [↓preZ, postZ, coreZ, ↓preU, postU, D_all, F_all, unR, outL, onePV, binS, ↓binS, q03, ↓q03, q01, ↓q01, boxR, q0b, newObj, q05, q00, q07, q09, q0a, St.freeze, q02, q08, q04, BEq.rfl, reduceIte, reduceCtorEq, Nat.reduceLT, Nat.reduceAdd, Nat.reduceSub, Nat.reduceMul, Nat.reduceBEq, Nat.reduceLeDiff, Int.reduceToNat, Int.reduceLE, hlt]
    have hi : i = l.length := by omega
    subst hi
    exact ⟨.inl rfl, .inl hIi⟩
theorem qag (l : List (List UInt8)) : ∀ y ∈ l.map (fun s => [PV.str s]), y.length = 1 := by
  intro y hy
  obtain ⟨p, _, rfl⟩ := List.mem_map.1 hy
  rfl
theorem strArgs_get {l : List (List UInt8)} {i : Nat} {args : List PV} (h : (l.map fun s => [PV.str s])[i]? = some args) : ∃ s, l[i]? = some s ∧ args = [.str s] := by
  rw [List.getElem?_map] at h
  cases hx : l[i]? with
  | none => rw [hx] at h; simp at h
  | some p => rw [hx] at h; exact ⟨p, rfl, by simpa using h.symm⟩
def seqO (l : List (List UInt8)) (i : Nat) : List Obj → Prop := fun O =>
  (i = 0 ∧ O = [⟨t_L_string, 1, [.sl 0 [] (some true)], true, 1⟩]) ∨ (0 < i ∧ ∃ ver, O = [⟨t_L_string, 1, [.osl 1 ver], true, 1⟩, ⟨t_string, 1, (l.take i).map .str, true, ver⟩])
theorem strRefs (l : List (List UInt8)) {ver : Nat} : NoRefs [⟨t_string, 1, l.map .str, true, ver⟩] := by
  intro o ho x hx c hc
  simp only [List.mem_singleton] at ho; subst ho
  obtain ⟨p, _, rfl⟩ := List.mem_map.1 hx
  simp only [PV.cells, List.mem_singleton] at hc; subst hc; rfl
theorem qav (l : List (List UInt8)) (h0 : l ≠ []) (hl : l.length ≤ 1000000) : FnSpec Tryz.prog f_slices_AppendSeq_L_string_string_ [.sl 0 [] (some true), .fn f_slices_Values_L_string_string__1 [] [.addr (encT l)]] [] (.osl 0 0) [⟨t_string, 1, l.map .str, true, 0⟩] := by
  refine k_slices_AppendSeq_L_string_string_.madeG (T := tabL Tryz.prog []) 0 hD (q0g q0d) hmix fun Q hQ => ?_
  try simp only [F_all]
  simp (maxSteps := 400000) only [↓preZ, postZ, coreZ, ↓preU, postU, D_all, F_all, unR, outL, onePV, binS, ↓binS, q03, ↓q03, q01, ↓q01, boxR, q0b, newObj, q05, q00, q07, q09, q0a, St.freeze, q02, q08, q04, BEq.rfl, reduceIte, reduceCtorEq, Nat.reduceLT, Nat.reduceAdd, Nat.reduceSub, Nat.reduceMul, Nat.reduceBEq, Nat.reduceLeDiff, Int.reduceToNat, Int.reduceLE, hQ, q0n]
  refine q8f f_slices_Values_L_string_string__1 [.addr (encT l)] (l.map fun s => [.str s]) (fun i O => seqO l i O ∧ i ≤ l.length) rfl rfl rfl trivial (q7d l hl) (qag l) ⟨.inl ⟨rfl, rfl⟩, Nat.zero_le _⟩ ?_ ?_ ?_
  · rintro i O ⟨⟨_, rfl⟩ | ⟨_, ver, rfl⟩, _⟩
    · refine ⟨Nat.le_refl _, ?_⟩
      intro o ho x hx c hc
      simp only [List.mem_singleton] at ho; subst ho
      simp only [List.mem_singleton] at hx; subst hx
      simp only [PV.cells, List.mem_singleton] at hc; subst hc; rfl
    · refine ⟨by simp, ?_⟩
      intro o ho x hx c hc
      simp only [List.mem_cons, List.not_mem_nil, or_false] at ho
      rcases ho with rfl | rfl
      · simp only [List.mem_singleton] at hx; subst hx
        simp only [PV.cells, List.mem_singleton] at hc; subst hc; rfl
      · obtain ⟨p, _, rfl⟩ := List.mem_map.1 hx
        simp only [PV.cells, List.mem_singleton] at hc; subst hc; rfl
  · rintro i args O ⟨hO, hi⟩ ha
    obtain ⟨s, hs, rfl⟩ := strArgs_get ha
    have hil := (List.getElem?_eq_some_iff.1 hs).1
    have htk : l.take (i + 1) = l.take i ++ [s] := by rw [List.take_add_one, hs]; rfl
    rcases hO with ⟨rfl, rfl⟩ | ⟨h1, ver, rfl⟩
    · simp (maxSteps := 400000) only [↓preZ, postZ, coreZ, ↓preU, postU, D_all, F_all, unR, outL, onePV, binS, ↓binS, q03, ↓q03, q01, ↓q01, boxR, q0b, newObj, q05, q00, q07, q09, q0a, St.freeze, q02, q08, q04, BEq.rfl, reduceIte, reduceCtorEq, Nat.reduceLT, Nat.reduceAdd, Nat.reduceSub, Nat.reduceMul, Nat.reduceBEq, Nat.reduceLeDiff, Int.reduceToNat, Int.reduceLE, hQ, setL, knI]
      exact ⟨.inr ⟨by omega, 1, by rw [htk]; rfl⟩, by omega⟩
    · simp (maxSteps := 400000) only [↓preZ, postZ, coreZ, ↓preU, postU, D_all, F_all, unR, outL, onePV, binS, ↓binS, q03, ↓q03, q01, ↓q01, boxR, q0b, newObj, q05, q00, q07, q09, q0a, St.freeze, q02, q08, q04, BEq.rfl, reduceIte, reduceCtorEq, Nat.reduceLT, Nat.reduceAdd, Nat.reduceSub, Nat.reduceMul, Nat.reduceBEq, Nat.reduceLeDiff, Int.reduceToNat, Int.reduceLE, hQ, setL, knI]
      have := List.length_take_le i l
      exact ⟨by omega, by omega, .inr ⟨by omega, ver + 1, by rw [htk, List.map_append]; rfl⟩, by omega⟩
  · rintro O ⟨hO, _⟩
    rw [List.length_map] at hO
    rcases hO with ⟨h1, rfl⟩ | ⟨h1, ver, rfl⟩
    · exact absurd (List.length_eq_zero_iff.1 h1) h0
    · simp (maxSteps := 400000) only [↓preZ, postZ, coreZ, ↓preU, postU, D_all, F_all, unR, outL, onePV, binS, ↓binS, q03, ↓q03, q01, ↓q01, boxR, q0b, newObj, q05, q00, q07, q09, q0a, St.freeze, q02, q08, q04, BEq.rfl, reduceIte, reduceCtorEq, Nat.reduceLT, Nat.reduceAdd, Nat.reduceSub, Nat.reduceMul, Nat.reduceBEq, Nat.reduceLeDiff, Int.reduceToNat, Int.reduceLE, hQ]
      refine endM (k := 1) (ver := ver) rfl rfl rfl rfl ?_ (strRefs l)
      simp only [frzO, List.take_length]
      rw [q45 PV.str fun _ => rfl]
theorem appendSeq_nil : FnSpec Tryz.prog f_slices_AppendSeq_L_string_string_ [.sl 0 [] (some true), .fn f_slices_Values_L_string_string__1 [] [.addr (encT [])]] [] (.sl 0 [] (some true)) [] := by
  refine k_slices_AppendSeq_L_string_string_.pureG (T := tabL Tryz.prog []) 0 hD (q0g q0d) hmix (by decide) fun Q hQ => ?_
  try simp only [F_all]
  simp (maxSteps := 400000) only [↓preZ, postZ, coreZ, ↓preU, postU, D_all, F_all, unR, outL, onePV, binS, ↓binS, q03, ↓q03, q01, ↓q01, boxR, q0b, newObj, q05, q00, q07, q09, q0a, St.freeze, q02, q08, q04, BEq.rfl, reduceIte, reduceCtorEq, Nat.reduceLT, Nat.reduceAdd, Nat.reduceSub, Nat.reduceMul, Nat.reduceBEq, Nat.reduceLeDiff, Int.reduceToNat, Int.reduceLE, hQ, q0n]
  refine q8f f_slices_Values_L_string_string__1 [.addr (encT [])] ([].map fun s => [PV.str s]) (fun i O => i ≤ 0 ∧ O = [⟨t_L_string, 1, [.sl 0 [] (some true)], true, 1⟩]) rfl rfl rfl trivial (q7d [] (by simp)) (qag []) ⟨Nat.le_refl _, rfl⟩ ?_ ?_ ?_
  · rintro i O ⟨_, rfl⟩
    refine ⟨Nat.le_refl _, ?_⟩
    intro o ho x hx c hc
    simp only [List.mem_singleton] at ho; subst ho
    simp only [List.mem_singleton] at hx; subst hx
    simp only [PV.cells, List.mem_singleton] at hc; subst hc; rfl
  · rintro i args O _ ha
    simp at ha
  · rintro O ⟨_, rfl⟩
    simp (maxSteps := 400000) only [↓preZ, postZ, coreZ, ↓preU, postU, D_all, F_all, unR, outL, onePV, binS, ↓binS, q03, ↓q03, q01, ↓q01, boxR, q0b, newObj, q05, q00, q07, q09, q0a, St.freeze, q02, q08, q04, BEq.rfl, reduceIte, reduceCtorEq, Nat.reduceLT, Nat.reduceAdd, Nat.reduceSub, Nat.reduceMul, Nat.reduceBEq, Nat.reduceLeDiff, Int.reduceToNat, Int.reduceLE, hQ]
def q81 : Ctr := fun args objs K => ∃ l : List (List UInt8), args = [.sl 0 [] (some true), .fn f_slices_Values_L_string_string__1 [] [.addr (encT l)]] ∧ l ≠ [] ∧ l.length ≤ 1000000 ∧ K (.osl objs.length 0) (objs ++ [⟨t_string, 1, l.map .str, true, 0⟩]) 2
theorem ctrAppSeqM_ok : CtrOk Tryz.prog f_slices_AppendSeq_L_string_string_ q81 := by
  rintro args objs K ⟨l, rfl, h0, h1, hk⟩
  exact ⟨_, _, _, CallR.made (objs := objs) _ _ rfl (strRefs l) (qav l h0 h1), by simpa [PV.shift, PV.shiftS] using hk⟩
def q5r : Ctr := fun args objs K => match args with
  | [a0, a1] => a0 = (.sl 0 [] (some true)) ∧ a1 = (.fn f_slices_Values_L_string_string__1 [] [.addr (encT [])]) ∧ K (.sl 0 [] (some true)) objs 0
  | _ => False
theorem ctrAppSeq0_ok : CtrOk Tryz.prog f_slices_AppendSeq_L_string_string_ (q5r) := by
  intro args objs K h
  unfold q5r at h
  split at h
  · rename_i a0 a1
    obtain ⟨rfl, rfl, hk⟩ := h
    exact ⟨_, _, _, .pure _ rfl (appendSeq_nil), hk⟩
  · exact h.elim
theorem collect_made (l : List (List UInt8)) (h0 : l ≠ []) (hl : l.length ≤ 1000000) : FnSpec Tryz.prog f_slices_Collect_string_ [.fn f_slices_Values_L_string_string__1 [] [.addr (encT l)]] [] (.osl 0 0) [⟨t_string, 1, l.map .str, true, 0⟩] := by
  refine k_slices_Collect_string_.madeG (T := tabL Tryz.prog [(f_slices_AppendSeq_L_string_string_, q81)]) 0 hD (q0g (q0c ctrAppSeqM_ok q0d)) hmix fun Q hQ => ?_
  try simp only [F_all]
  simp (maxSteps := 400000) only [↓preZ, postZ, coreZ, ↓preU, postU, D_all, F_all, unR, outL, onePV, binS, ↓binS, q03, ↓q03, q01, ↓q01, boxR, q0b, newObj, q05, q00, q07, q09, q0a, St.freeze, q02, q08, q04, BEq.rfl, reduceIte, reduceCtorEq, Nat.reduceLT, Nat.reduceAdd, Nat.reduceSub, Nat.reduceMul, Nat.reduceBEq, Nat.reduceLeDiff, Int.reduceToNat, Int.reduceLE, hQ, q1i, ↓q81]
  refine ⟨l, rfl, h0, hl, endM (k := 0) (ver := 0) rfl rfl rfl rfl ?_ (strRefs l)⟩
  simp only [frzO]
  rw [q45 PV.str fun _ => rfl]
def q6l : Ctr := fun args objs K => ∃ l : List (List UInt8), args = [.fn f_slices_Values_L_string_string__1 [] [.addr (encT l)]] ∧ l ≠ [] ∧ l.length ≤ 1000000 ∧ K (.osl objs.length 0) (objs ++ [⟨t_string, 1, l.map .str, true, 0⟩]) 2
theorem qaw : CtrOk Tryz.prog f_slices_Collect_string_ q6l := by
  rintro args objs K ⟨l, rfl, h0, h1, hk⟩
  exact ⟨_, _, _, CallR.made (objs := objs) _ _ rfl (strRefs l) (collect_made l h0 h1), by simpa [PV.shift, PV.shiftS] using hk⟩
def ctrSortM : Ctr := fun args objs K => ∃ (k ver : Nat) (ss : List (List UInt8)), args = [.osl k ver] ∧ objs[k]? = some ⟨t_string, 1, ss.map .str, true, ver⟩ ∧ ss.length ≤ 1000000 ∧ K (.tup []) (objs.set k ⟨t_string, 1, (sortS ss).map .str, true, ver⟩) 2
theorem ctrSortM_ok : CtrOk Tryz.prog f_slices_Sort_L_string_string_ ctrSortM := by
  rintro args objs K ⟨k, ver, ss, rfl, h1, h2, hk⟩
  exact ⟨_, _, _, .used _ _ (sort_use ss h1 h2), hk⟩
theorem collect_nil : FnSpec Tryz.prog f_slices_Collect_string_ [.fn f_slices_Values_L_string_string__1 [] [.addr (encT [])]] [] (.sl 0 [] (some true)) [] := by
  refine k_slices_Collect_string_.pureG (T := tabL Tryz.prog [(f_slices_AppendSeq_L_string_string_, q5r)]) 0 hD (q0g (q0c ctrAppSeq0_ok q0d)) hmix (by decide) fun Q hQ => ?_
  try simp only [F_all]
  simp (maxSteps := 400000) only [↓preZ, postZ, coreZ, ↓preU, postU, D_all, F_all, unR, outL, onePV, binS, ↓binS, q03, ↓q03, q01, ↓q01, boxR, q0b, newObj, q05, q00, q07, q09, q0a, St.freeze, q02, q08, q04, BEq.rfl, reduceIte, reduceCtorEq, Nat.reduceLT, Nat.reduceAdd, Nat.reduceSub, Nat.reduceMul, Nat.reduceBEq, Nat.reduceLeDiff, Int.reduceToNat, Int.reduceLE, hQ, q1i, ↓q5r]
def q4l : Ctr := fun args objs K => match args with
  | [a0] => a0 = (.fn f_slices_Values_L_string_string__1 [] [.addr (encT [])]) ∧ K (.sl 0 [] (some true)) objs 0
  | _ => False
theorem qax : CtrOk Tryz.prog f_slices_Collect_string_ (q4l) := by
  intro args objs K h
  unfold q4l at h
  split at h
  · rename_i a0
    obtain ⟨rfl, hk⟩ := h
    exact ⟨_, _, _, .pure _ rfl (collect_nil), hk⟩
  · exact h.elim
theorem sortNil_spec : FnSpec Tryz.prog f_slices_Sort_L_string_string_ [.sl 0 [] (some true)] [] (.tup []) [] := by
  refine FnSpec.of_keep ⟨_, Tryz.lays190.f190, by kernel_rfl, by kernel_rfl⟩ fun w vs ok hg hr => ?_
  obtain ⟨u, rfl, h⟩ := rep1 hr
  have hu : u = .slice none 0 0 := by
    cases h with
    | slnil => rfl
    | slz _ _ hq => exact absurd rfl hq
    | sl _ _ _ hq => exact absurd rfl hq
  subst hu
  refine (Any.slices_Sort_string_none Tryz.lays190 none 0 w).mono ?_
  rintro e w' ⟨h1, rfl⟩
  exact ⟨_, h1, fun w ok => .tup _ _ rfl (fun i p v h => by simp at h), .refl _ _⟩
def q95 : Ctr := fun args objs K => match args with
  | [a0] => a0 = (.sl 0 [] (some true)) ∧ K (.tup []) objs 0
  | _ => False
theorem ctrSort0_ok : CtrOk Tryz.prog f_slices_Sort_L_string_string_ (q95) := by
  intro args objs K h
  unfold q95 at h
  split at h
  · rename_i a0
    obtain ⟨rfl, hk⟩ := h
    exact ⟨_, _, _, .pure _ rfl (sortNil_spec), hk⟩
  · exact h.elim
theorem sorted_spec (l : List (List UInt8)) (hl : l.length ≤ 1000000) : FnSpec Tryz.prog f_slices_Sorted_string_ [.fn f_slices_Values_L_string_string__1 [] [.addr (encT l)]] [] (encT (sortS l)) [] := by
  by_cases h0 : l = []
  · subst h0
    refine FnSpec.res (r := .sl 0 [] (some true)) ?_ (by have : sortS [] = [] := List.mergeSort_nil; rw [this]; exact q53 0 1)
    refine k_slices_Sorted_string_.pureG (T := tabL Tryz.prog [(f_slices_Collect_string_, q4l), (f_slices_Sort_L_string_string_, q95)]) 0 hD (q0g (q0c qax (q0c ctrSort0_ok q0d))) hmix (by decide) fun Q hQ => ?_
    try simp only [F_all]
    simp (maxSteps := 400000) only [↓preZ, postZ, coreZ, ↓preU, postU, D_all, F_all, unR, outL, onePV, binS, ↓binS, q03, ↓q03, q01, ↓q01, boxR, q0b, newObj, q05, q00, q07, q09, q0a, St.freeze, q02, q08, q04, BEq.rfl, reduceIte, reduceCtorEq, Nat.reduceLT, Nat.reduceAdd, Nat.reduceSub, Nat.reduceMul, Nat.reduceBEq, Nat.reduceLeDiff, Int.reduceToNat, Int.reduceLE, hQ, q1j, ↓q4l, ↓q95]
  refine k_slices_Sorted_string_.pureG (T := tabL Tryz.prog [(f_slices_Collect_string_, q6l), (f_slices_Sort_L_string_string_, ctrSortM)]) 1 hD (q0g (q0c qaw (q0c ctrSortM_ok q0d))) hmix (by decide) fun Q hQ => ?_
  try simp only [F_all]
  simp (maxSteps := 400000) only [↓preZ, postZ, coreZ, ↓preU, postU, D_all, F_all, unR, outL, onePV, binS, ↓binS, q03, ↓q03, q01, ↓q01, boxR, q0b, newObj, q05, q00, q07, q09, q0a, St.freeze, q02, q08, q04, BEq.rfl, reduceIte, reduceCtorEq, Nat.reduceLT, Nat.reduceAdd, Nat.reduceSub, Nat.reduceMul, Nat.reduceBEq, Nat.reduceLeDiff, Int.reduceToNat, Int.reduceLE, hQ, q1j, ↓q6l]
  refine ⟨l, rfl, h0, hl, ?_⟩
  simp (maxSteps := 400000) only [↓preZ, postZ, coreZ, ↓preU, postU, D_all, F_all, unR, outL, onePV, binS, ↓binS, q03, ↓q03, q01, ↓q01, boxR, q0b, newObj, q05, q00, q07, q09, q0a, St.freeze, q02, q08, q04, BEq.rfl, reduceIte, reduceCtorEq, Nat.reduceLT, Nat.reduceAdd, Nat.reduceSub, Nat.reduceMul, Nat.reduceBEq, Nat.reduceLeDiff, Int.reduceToNat, Int.reduceLE, hQ, ↓ctrSortM]
  refine ⟨0, 0, l, rfl, rfl, hl, ?_⟩
  simp only [List.set_cons_zero, frz, Nat.not_lt_zero, if_false, frzI, List.getElem?_cons_zero, Nat.le_refl, decide_true, Bool.true_and, beq_self_eq_true, if_true]
  rw [q45 PV.str fun _ => rfl]
  rfl
def q7e : Ctr := fun args objs K => match args with
  | [a0] => ofE encSeq a0 (HK.mk : HK fun l => (l.length ≤ 1000000) ∧ K (encT (sortS l)) objs 0)
  | _ => False
theorem ctrSorted_ok : CtrOk Tryz.prog f_slices_Sorted_string_ (q7e) := by
  intro args objs K h
  unfold q7e at h
  split at h
  · rename_i a0
    obtain ⟨l, rfl, h1, hk⟩ := h
    exact ⟨_, _, _, .pure _ rfl (sorted_spec l h1), hk⟩
  · exact h.elim
end Lp
