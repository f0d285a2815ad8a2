/-
  Part 4 of what the statement rests on: LpW11, LpW12, LpC2, LpW25, LpW14, LpW15, LpW16, LpW17, LpW18, LpW19, LpW13, LpW20, LpW21, LpW22, LpW23, LpW24, LpW26. No condition.
-/
import Derived.Test.YtodbjiolgapbfaaLp3

set_option linter.all false

/-! LpW11 -/

namespace Lp
open Go Go.Proofs

set_option maxHeartbeats 4000000
set_option maxRecDepth 20000
set_option linter.unusedSimpArgs false

/-- Is the key at a place less than that at another? -/
def ltK (f : Nat) (keys : List Vl) (x y : Int) : Bool := match keys[x.toNat]?, keys[y.toNat]? with
  | some a, some b => decide (cmpV f a b < 0)
  | _, _ => false

def InL (keys : List Vl) (x : Int) : Prop := 0 ≤ x ∧ x < keys.length

theorem sort1_spec (f : Nat) (keys : List Vl) (hk : OkL f keys) (x y : Int) (hx : InL keys x) (hy : InL keys y) : FnSpec Try.prog f_order_Sort_1 [.int .i64 x, .int .i64 y, .addr (encL keys)] [] (.bool (ltK f keys x y)) [] := by
  obtain ⟨hl, hk⟩ := hk
  obtain ⟨x, rfl⟩ : ∃ k : Nat, x = k := ⟨x.toNat, by have := hx.1; omega⟩
  obtain ⟨y, rfl⟩ : ∃ k : Nat, y = k := ⟨y.toNat, by have := hy.1; omega⟩
  have hx2 := hx.2
  have hy2 := hy.2
  have g1 : keys[x]? = some keys[x] := List.getElem?_eq_getElem (by omega)
  have g2 : keys[y]? = some keys[y] := List.getElem?_eq_getElem (by omega)
  have o1 := hk keys[x] (List.getElem_mem _)
  have o2 := hk keys[y] (List.getElem_mem _)
  refine k_order_Sort_1.pure (T := tabL Try.prog [(f_order_Cmp, (ctrOrdCmp f))]) 0 hD (kOk_tabL (tabOk_cons (ctrOrdCmp_ok f) tabOk_nil)) hmix (by decide) ?_
  try simp only [F_all]
  simp (maxSteps := 400000) only [↓preZ, postZ, coreZ, ↓preU, postU, D_all, F_all, unR, outL, onePV, binS, ↓binS, boundR, ↓boundR, fieldOf, ↓fieldOf, boxR, allocR, newObj, zeroElem, buildSliceR, appendR, setAll, storeR, St.freeze, makeSliceR, minmaxR, makeFuncR, BEq.rfl, reduceIte, reduceCtorEq, Nat.reduceLT, Nat.reduceAdd, Nat.reduceSub, Nat.reduceMul, Nat.reduceBEq, Nat.reduceLeDiff, Int.reduceToNat, Int.reduceLE, c_order_Sort_1, ↓ctrOrdCmp, g1, g2]
  refine ⟨by omega, by omega, o1.1, o1.2, o2.2, ?_⟩
  simp only [ltK, Int.toNat_natCast, g1, g2]

def ctrLess (f : Nat) (keys : List Vl) : Ctr := fun args objs K => match args with
  | [.int .i64 x, .int .i64 y, a2] => a2 = (.addr (encL keys)) ∧ (OkL f keys) ∧ (InL keys x) ∧ (InL keys y) ∧ K (.bool (ltK f keys x y)) objs 0
  | _ => False
theorem ctrLess_ok (f : Nat) (keys : List Vl) : CtrOk Try.prog f_order_Sort_1 (ctrLess f keys) := by
  intro args objs K h
  unfold ctrLess at h
  split at h
  · rename_i x y a2
    obtain ⟨rfl, h1, h2, h3, hk⟩ := h
    exact ⟨_, _, _, .pure _ rfl (sort1_spec f keys h1 x y h2 h3), hk⟩
  · exact h.elim

theorem merged_spec (f : Nat) (keys : List Vl) (hk : OkL f keys) (a b : List Int) (ha : ∀ x ∈ a, InL keys x) (hb : ∀ x ∈ b, InL keys x) (hl : a.length + b.length ≤ 1000000) :
    FnSpec Try.prog f_order_merged_int_ [encI a, encI b, .fn f_order_Sort_1 [] [.addr (encL keys)]] [] (encI (List.merge a b fun x y => !ltK f keys y x)) [] := by
  refine k_order_merged_int_.pure (T := tabL Try.prog [(f_order_Sort_1, (ctrLess f keys))]) 1 hD (kOk_tabL (tabOk_cons (ctrLess_ok f keys) tabOk_nil)) hmix (by decide) ?_
  try simp only [F_all]
  simp (maxSteps := 400000) only [↓preZ, postZ, coreZ, ↓preU, postU, D_all, F_all, unR, outL, onePV, binS, ↓binS, boundR, ↓boundR, fieldOf, ↓fieldOf, boxR, allocR, newObj, zeroElem, buildSliceR, appendR, setAll, storeR, St.freeze, makeSliceR, minmaxR, makeFuncR, BEq.rfl, reduceIte, reduceCtorEq, Nat.reduceLT, Nat.reduceAdd, Nat.reduceSub, Nat.reduceMul, Nat.reduceBEq, Nat.reduceLeDiff, Int.reduceToNat, Int.reduceLE, c_order_merged_int_]
  refine ⟨⟨by omega, by omega⟩, by omega, by omega, by omega, ?_⟩
  refine wpc_loop (fun m S => ∃ (done a' b' : List Int) (ver : Nat), m = a'.length + b'.length ∧ (∀ x ∈ a', InL keys x) ∧ (∀ x ∈ b', InL keys x) ∧ (done ++ List.merge a' b' fun x y => !ltK f keys y x) = (List.merge a b fun x y => !ltK f keys y x) ∧
    done.length + a'.length + b'.length ≤ 1000000 ∧
    S = ⟨tmA 51 [(0, encI a'), (1, encI b'), (2, .fn f_order_Sort_1 [] [.addr (encL keys)]), (7, .osl 0 ver)], [⟨t_int, 1, done.map (.int .i64), true, ver⟩]⟩) (a.length + b.length) ⟨[], a, b, 1, rfl, ha, hb, rfl, by simpa using hl, ?_⟩ ?_
  · simp only [normR, keepR, Nat.reduceAdd, lkR, Nat.reduceBEq, F_all, List.map_nil]
  rintro m S ⟨done, a', b', ver, rfl, ha', hb', hmg, hlen, rfl⟩
  simp (maxSteps := 400000) only [↓preZ, postZ, coreZ, ↓preU, postU, D_all, F_all, unR, outL, onePV, binS, ↓binS, boundR, ↓boundR, fieldOf, ↓fieldOf, boxR, allocR, newObj, zeroElem, buildSliceR, appendR, setAll, storeR, St.freeze, makeSliceR, minmaxR, makeFuncR, BEq.rfl, reduceIte, reduceCtorEq, Nat.reduceLT, Nat.reduceAdd, Nat.reduceSub, Nat.reduceMul, Nat.reduceBEq, Nat.reduceLeDiff, Int.reduceToNat, Int.reduceLE]
  have fin : a' = [] ∨ b' = [] → (a.merge b fun x y => !ltK f keys y x) = done ++ a' ++ b' := by
    intro h
    rw [← hmg]
    rcases h with rfl | rfl <;> simp
  refine ⟨fun h1 => ⟨fun h2 => ?_, fun h2 => ⟨by omega, by omega, by omega, by omega, ?_⟩⟩, fun h1 => ⟨by omega, by omega, by omega, by omega, ?_⟩⟩
  · cases a' with
    | nil => simp at h1
    | cons x xs =>
      cases b' with
      | nil => simp at h2
      | cons y ys =>
        have kx := ha' x (List.mem_cons_self ..)
        have ky := hb' y (List.mem_cons_self ..)
        simp only [List.length_cons] at hlen
        simp (maxSteps := 400000) only [↓preZ, postZ, coreZ, ↓preU, postU, D_all, F_all, unR, outL, onePV, binS, ↓binS, boundR, ↓boundR, fieldOf, ↓fieldOf, boxR, allocR, newObj, zeroElem, buildSliceR, appendR, setAll, storeR, St.freeze, makeSliceR, minmaxR, makeFuncR, BEq.rfl, reduceIte, reduceCtorEq, Nat.reduceLT, Nat.reduceAdd, Nat.reduceSub, Nat.reduceMul, Nat.reduceBEq, Nat.reduceLeDiff, Int.reduceToNat, Int.reduceLE, ↓ctrLess]
        have app : ∀ z : Int, List.map (PV.int .i64) done ++ [PV.int .i64 z] = List.map (PV.int .i64) (done ++ [z]) := fun z => by simp
        have t1 : ∀ (z : Int) (l : List Int), List.drop 1 (List.take (l.length + 1) (z :: l)) = l := fun z l => by simp
        have hxs : ∀ z ∈ xs, InL keys z := fun z hz => ha' z (List.mem_cons_of_mem _ hz)
        have hys : ∀ z ∈ ys, InL keys z := fun z hz => hb' z (List.mem_cons_of_mem _ hz)
        simp only [List.merge] at hmg
        simp only [app, t1]
        refine ⟨hk, ky, kx, fun h => ?_, fun h => ?_⟩
        · simp only [h, Bool.not_true, Bool.false_eq_true, if_false] at hmg
          refine ⟨by omega, by omega, by omega, by omega, rfl, _, ?_, done ++ [y], x :: xs, ys, ver + 1, rfl, ha', hys, ?_, ?_, rfl⟩
          · simp only [List.length_cons]; omega
          · rw [← hmg]; simp
          · simp only [List.length_append, List.length_cons, List.length_nil]; omega
        · simp only [h, Bool.not_false, if_true] at hmg
          refine ⟨by omega, by omega, by omega, by omega, rfl, _, ?_, done ++ [x], xs, y :: ys, ver + 1, rfl, hxs, hb', ?_, ?_, rfl⟩
          · simp only [List.length_cons]; omega
          · rw [← hmg]; simp
          · simp only [List.length_append, List.length_cons, List.length_nil]; omega
  · rw [fin (.inr (List.length_eq_zero_iff.1 (by omega)))]
  · rw [fin (.inl (List.length_eq_zero_iff.1 (by omega)))]
end Lp

/-! LpW12 -/

namespace Lp
open Go Go.Proofs

set_option maxHeartbeats 4000000
set_option maxRecDepth 20000
set_option linter.unusedSimpArgs false

/-- Sorting by halves. -/
def sortF (lt : Int → Int → Bool) : Nat → List Int → List Int
  | 0, l => l
  | k + 1, l => if l.length < 2 then l else List.merge (sortF lt k (l.take (l.length / 2))) (sortF lt k (l.drop (l.length / 2))) fun x y => !lt y x

theorem sortF_perm (lt : Int → Int → Bool) : ∀ (k : Nat) (l : List Int), (sortF lt k l).Perm l
  | 0, l => .refl _
  | k + 1, l => by
    simp only [sortF]
    split
    · exact .refl _
    · have h := (List.merge_perm_append (xs := sortF lt k (l.take (l.length / 2))) (ys := sortF lt k (l.drop (l.length / 2))) (le := fun x y => !lt y x)).trans ((sortF_perm lt k (l.take (l.length / 2))).append (sortF_perm lt k (l.drop (l.length / 2))))
      rwa [List.take_append_drop] at h

def ctrMerged (f : Nat) (keys : List Vl) : Ctr := fun args objs K => match args with
  | [a0, a1, a2] => ofE encI a0 (HK.mk : HK fun a => ofE encI a1 (HK.mk : HK fun b => a2 = (.fn f_order_Sort_1 [] [.addr (encL keys)]) ∧ (OkL f keys) ∧ (∀ x ∈ a, InL keys x) ∧ (∀ x ∈ b, InL keys x) ∧ (a.length + b.length ≤ 1000000) ∧ K (encI (List.merge a b fun x y => !ltK f keys y x)) objs 0))
  | _ => False
theorem ctrMerged_ok (f : Nat) (keys : List Vl) : CtrOk Try.prog f_order_merged_int_ (ctrMerged f keys) := by
  intro args objs K h
  unfold ctrMerged at h
  split at h
  · rename_i a0 a1 a2
    obtain ⟨a, rfl, b, rfl, rfl, h1, h2, h3, h4, hk⟩ := h
    exact ⟨_, _, _, .pure _ rfl (merged_spec f keys h1 a b h2 h3 h4), hk⟩
  · exact h.elim

def ctrSd (f : Nat) (keys : List Vl) (k : Nat) : Ctr := fun args objs K => match args with
  | [a0, a1] => ofE encI a0 (HK.mk : HK fun l => a1 = (.fn f_order_Sort_1 [] [.addr (encL keys)]) ∧ (FnSpec Try.prog f_order_sorted_int_ [encI l, .fn f_order_Sort_1 [] [.addr (encL keys)]] [] (encI (sortF (ltK f keys) k l)) []) ∧ K (encI (sortF (ltK f keys) k l)) objs 0)
  | _ => False
theorem ctrSd_ok (f : Nat) (keys : List Vl) (k : Nat) : CtrOk Try.prog f_order_sorted_int_ (ctrSd f keys k) := by
  intro args objs K h
  unfold ctrSd at h
  split at h
  · rename_i a0 a1
    obtain ⟨l, rfl, rfl, h1, hk⟩ := h
    exact ⟨_, _, _, .pure _ rfl (h1), hk⟩
  · exact h.elim

theorem sorted_spec (f : Nat) (keys : List Vl) (hk : OkL f keys) : ∀ (k : Nat) (l : List Int), l.length ≤ k + 1 → (∀ x ∈ l, InL keys x) → l.length ≤ 1000000 →
    FnSpec Try.prog f_order_sorted_int_ [encI l, .fn f_order_Sort_1 [] [.addr (encL keys)]] [] (encI (sortF (ltK f keys) k l)) []
  | 0, l, hl, hi, hm => by
    refine k_order_sorted_int_.pure (T := tabL Try.prog []) 0 hD (kOk_tabL tabOk_nil) hmix (by decide) ?_
    try simp only [F_all]
    simp (maxSteps := 400000) only [↓preZ, postZ, coreZ, ↓preU, postU, D_all, F_all, unR, outL, onePV, binS, ↓binS, boundR, ↓boundR, fieldOf, ↓fieldOf, boxR, allocR, newObj, zeroElem, buildSliceR, appendR, setAll, storeR, St.freeze, makeSliceR, minmaxR, makeFuncR, BEq.rfl, reduceIte, reduceCtorEq, Nat.reduceLT, Nat.reduceAdd, Nat.reduceSub, Nat.reduceMul, Nat.reduceBEq, Nat.reduceLeDiff, Int.reduceToNat, Int.reduceLE, c_order_sorted_int_]
    refine ⟨fun _ => rfl, fun h => absurd h (by omega)⟩
  | k + 1, l, hl, hi, hm => by
    have i1 := sorted_spec f keys hk k (l.take (l.length / 2))
    have i2 := sorted_spec f keys hk k (l.drop (l.length / 2))
    refine k_order_sorted_int_.pure (T := tabL Try.prog [(f_order_sorted_int_, (ctrSd f keys k)), (f_order_merged_int_, (ctrMerged f keys))]) 0 hD (kOk_tabL (tabOk_cons (ctrSd_ok f keys k) (tabOk_cons (ctrMerged_ok f keys) tabOk_nil))) hmix (by decide) ?_
    try simp only [F_all]
    simp (maxSteps := 400000) only [↓preZ, postZ, coreZ, ↓preU, postU, D_all, F_all, unR, outL, onePV, binS, ↓binS, boundR, ↓boundR, fieldOf, ↓fieldOf, boxR, allocR, newObj, zeroElem, buildSliceR, appendR, setAll, storeR, St.freeze, makeSliceR, minmaxR, makeFuncR, BEq.rfl, reduceIte, reduceCtorEq, Nat.reduceLT, Nat.reduceAdd, Nat.reduceSub, Nat.reduceMul, Nat.reduceBEq, Nat.reduceLeDiff, Int.reduceToNat, Int.reduceLE, c_order_sorted_int_, ↓ctrSd, ↓ctrMerged]
    have q : ((l.length : Int).tdiv 2) = ((l.length / 2 : Nat) : Int) := by
      rw [Int.tdiv_eq_ediv_of_nonneg (by omega)]; omega
    have hh : l.length / 2 ≤ l.length := by omega
    refine ⟨fun h => ?_, fun h => ?_⟩
    · rw [sortF, if_pos (by omega)]
    · have m1 : ∀ x ∈ l.take (l.length / 2), InL keys x := fun x hx => hi x (List.mem_of_mem_take hx)
      have m2 : ∀ x ∈ l.drop (l.length / 2), InL keys x := fun x hx => hi x (List.mem_of_mem_drop hx)
      have p1 := sortF_perm (ltK f keys) k (l.take (l.length / 2))
      have p2 := sortF_perm (ltK f keys) k (l.drop (l.length / 2))
      simp only [q, Int.toNat_natCast, List.drop_zero, List.take_length]
      refine ⟨by omega, ⟨by omega, by omega⟩, by omega, by omega, i1 (by simp; omega) m1 (by simp; omega), by omega, by omega, by omega, i2 (by simp; omega) m2 (by simp; omega), hk, fun x hx => m1 x (p1.mem_iff.1 hx), fun x hx => m2 x (p2.mem_iff.1 hx), ?_, ?_⟩
      · rw [p1.length_eq, p2.length_eq, List.length_take, List.length_drop]; omega
      · rw [sortF, if_neg (by omega)]

/-- The places 0, 1, .. -/
def places (n : Nat) : List Int := List.map (fun i : Nat => (i : Int)) (List.range n)

def sortV (f : Nat) (keys : List Vl) : List Int := sortF (ltK f keys) keys.length (places keys.length)

def ctrSorted (f : Nat) (keys : List Vl) : Ctr := fun args objs K => match args with
  | [a0, a1] => ofE encI a0 (HK.mk : HK fun l => a1 = (.fn f_order_Sort_1 [] [.addr (encL keys)]) ∧ (OkL f keys) ∧ (l.length ≤ keys.length) ∧ (∀ x ∈ l, InL keys x) ∧ (l.length ≤ 1000000) ∧ K (encI (sortF (ltK f keys) keys.length l)) objs 0)
  | _ => False
theorem ctrSorted_ok (f : Nat) (keys : List Vl) : CtrOk Try.prog f_order_sorted_int_ (ctrSorted f keys) := by
  intro args objs K h
  unfold ctrSorted at h
  split at h
  · rename_i a0 a1
    obtain ⟨l, rfl, rfl, h1, h2, h3, h4, hk⟩ := h
    exact ⟨_, _, _, .pure _ rfl (sorted_spec f keys h1 keys.length l (by omega) h3 h4), hk⟩
  · exact h.elim

theorem sort_spec (f : Nat) (keys : List Vl) (hk : OkL f keys) (hl : keys.length ≤ 1000000) : FnSpec Try.prog f_order_Sort [encL keys] [] (encI (sortV f keys)) [] := by
  refine k_order_Sort.pure (T := tabL Try.prog [(f_order_sorted_int_, (ctrSorted f keys))]) 1 hD (kOk_tabL (tabOk_cons (ctrSorted_ok f keys) tabOk_nil)) hmix (by decide) ?_
  try simp only [F_all]
  simp (maxSteps := 400000) only [↓preZ, postZ, coreZ, ↓preU, postU, D_all, F_all, unR, outL, onePV, binS, ↓binS, boundR, ↓boundR, fieldOf, ↓fieldOf, boxR, allocR, newObj, zeroElem, buildSliceR, appendR, setAll, storeR, St.freeze, makeSliceR, minmaxR, makeFuncR, BEq.rfl, reduceIte, reduceCtorEq, Nat.reduceLT, Nat.reduceAdd, Nat.reduceSub, Nat.reduceMul, Nat.reduceBEq, Nat.reduceLeDiff, Int.reduceToNat, Int.reduceLE, c_order_Sort]
  refine ⟨by omega, by omega, by omega, by omega, ?_⟩
  refine wpc_loop (fun m S => ∃ i : Nat, i + m = keys.length ∧
    S = ⟨tmA 21 [(1, .optr 0 1 0 0), (3, .osl 1 1), (9, .int .i64 keys.length), (10, .int .i64 i)], [⟨t_L_api_Val, 1, [encL keys], true, 1⟩, ⟨t_int, 1, List.map (PV.int .i64) (places i ++ List.replicate (keys.length - i) 0), true, 1⟩]⟩) keys.length ⟨0, by omega, ?_⟩ ?_
  · simp only [normR, keepR, Nat.reduceAdd, lkR, Nat.reduceBEq, places, List.range_zero, List.map_nil, List.nil_append, Nat.sub_zero, List.map_replicate]
    rfl
  rintro m S ⟨i, him, rfl⟩
  simp (maxSteps := 400000) only [↓preZ, postZ, coreZ, ↓preU, postU, D_all, F_all, unR, outL, onePV, binS, ↓binS, boundR, ↓boundR, fieldOf, ↓fieldOf, boxR, allocR, newObj, zeroElem, buildSliceR, appendR, setAll, storeR, St.freeze, makeSliceR, minmaxR, makeFuncR, BEq.rfl, reduceIte, reduceCtorEq, Nat.reduceLT, Nat.reduceAdd, Nat.reduceSub, Nat.reduceMul, Nat.reduceBEq, Nat.reduceLeDiff, Int.reduceToNat, Int.reduceLE, ↓ctrSorted]
  refine ⟨fun h => ?_, fun h => ?_⟩
  · have hi : i < keys.length := by omega
    have hr : keys.length - i = (keys.length - (i + 1)) + 1 := by omega
    have hpl : (places i).length = i := by simp [places]
    have hps : places (i + 1) = places i ++ [(i : Int)] := by simp [places, List.range_succ]
    have hg : (places i ++ List.replicate (keys.length - i) (0 : Int))[i]? = some 0 := by
      rw [List.getElem?_append_right (by omega), hpl, hr]; simp
    have hs : (places i ++ List.replicate (keys.length - i) (0 : Int)).set i (i : Int) = places (i + 1) ++ List.replicate (keys.length - (i + 1)) 0 := by
      rw [List.set_append_right _ _ (by omega), hpl, hr, hps]
      simp [List.replicate_succ]
    refine ⟨by omega, by omega, PV.int .i64 0, by rw [hg]; rfl, by decide, ⟨by omega, by omega⟩, m - 1, by omega, i + 1, by omega, ?_⟩
    have hset := setRow (enc := PV.int .i64) (fun _ _ => rfl) (places i ++ List.replicate (keys.length - i) (0 : Int)) i 0 (i : Int)
    rw [hs] at hset
    rw [← hset]
    rfl
  · have hi : i = keys.length := by omega
    subst hi
    refine wpc_weak _ (Weak.freeze 1 0 (Nat.le_refl _) _) ?_
    have hb : ∀ o, frz 1 0 [⟨t_L_api_Val, 1, [encL keys], true, 1⟩, o] (.optr 0 1 0 0) = .addr (encL keys) := fun _ => rfl
    have hin : ∀ x ∈ places keys.length, InL keys x := by
      intro x hx
      simp only [places, List.mem_map, List.mem_range] at hx
      obtain ⟨j, hj, rfl⟩ := hx
      exact ⟨by omega, by omega⟩
    have hpl : (places keys.length).length = keys.length := by simp [places]
    simp (maxSteps := 400000) only [↓preZ, postZ, coreZ, ↓preU, postU, D_all, F_all, unR, outL, onePV, binS, ↓binS, boundR, ↓boundR, fieldOf, ↓fieldOf, boxR, allocR, newObj, zeroElem, buildSliceR, appendR, setAll, storeR, St.freeze, makeSliceR, minmaxR, makeFuncR, BEq.rfl, reduceIte, reduceCtorEq, Nat.reduceLT, Nat.reduceAdd, Nat.reduceSub, Nat.reduceMul, Nat.reduceBEq, Nat.reduceLeDiff, Int.reduceToNat, Int.reduceLE, ↓ctrSorted, hb, Nat.sub_self, List.replicate_zero, List.append_nil]
    exact ⟨hk, by omega, hin, by omega, rfl⟩

def ctrSort (f : Nat) : Ctr := fun args objs K => match args with
  | [a0] => ofE encL a0 (HK.mk : HK fun keys => (OkL f keys) ∧ (keys.length ≤ 1000000) ∧ K (encI (sortV f keys)) objs 0)
  | _ => False
theorem ctrSort_ok (f : Nat) : CtrOk Try.prog f_order_Sort (ctrSort f) := by
  intro args objs K h
  unfold ctrSort at h
  split at h
  · rename_i a0
    obtain ⟨keys, rfl, h1, h2, hk⟩ := h
    exact ⟨_, _, _, .pure _ rfl (sort_spec f keys h1 h2), hk⟩
  · exact h.elim
end Lp

/-! LpC2 -/

namespace Lp
open Go Go.Proofs
def c_order_Groups : LC :=
  (.seq (.reg [⟨some 2, .assign (.const (.slice none 0 0)), none, false⟩])
  (.seq (.reg [⟨some 3, .assign (.const (.slice none 0 0)), none, false⟩])
  (.seq (.seq (.reg [⟨some 7, .move (.tmp 0), none, false⟩,
   ⟨some 8, .call ⟨.value (.func f_order_Sort), ⟨[(.tmp 7)]⟩, ⟨[t_L_api_Val]⟩⟩, none, false⟩,
   ⟨some 9, .call ⟨.builtin .len, ⟨[(.tmp 8)]⟩, ⟨[t_L_int]⟩⟩, none, false⟩,
   ⟨some 10, .move (.const (.int .i64 0)), none, false⟩])
  (.block 0 (.loop [true, false, false, true, false, false, false, false, true, true, true, false, false, false, false, false, false, false, false, false, false, false, false, false, false, false, false, false, false, false, false, false, false, false, false, false, false, false, false, false, false, false, false, false, false, false, false, false, false, false, false, false, false, false] (some (1, 2))
   (.seq (.reg [⟨some 11, .binOp .lss t_int (.tmp 10) (.tmp 9) t_int, none, false⟩])
    (.seq (.cond (.tmp 11)
     .skip
     (.exit 0))
    (.seq (.block 1 (.seq (.reg [⟨some 12, .move (.tmp 10), none, false⟩,
      ⟨some 13, .indexAddr t_L_int (.tmp 8) (.tmp 10), none, false⟩,
      ⟨some 14, .load t_int (.tmp 13), none, false⟩,
      ⟨some 4, .assign (.tmp 12), none, false⟩,
      ⟨some 5, .assign (.tmp 14), none, false⟩])
     (.seq (.reg [⟨some 15, .move (.tmp 3), none, false⟩,
      ⟨some 16, .call ⟨.builtin .len, ⟨[(.tmp 15)]⟩, ⟨[t_L_L_int]⟩⟩, none, false⟩,
      ⟨some 17, .binOp .sub t_int (.tmp 16) (.const (.int .i64 1)) t_int, none, false⟩,
      ⟨some 6, .assign (.tmp 17), none, false⟩])
     (.seq (.seq (.draw [⟨some 18, .move (.tmp 4), none, false⟩,
      ⟨some 19, .binOp .eql t_int (.tmp 18) (.const (.int .i64 0)) t_int, none, false⟩,
      ⟨some 20, .move (.tmp 19), none, false⟩,
      ⟨some 21, .move (.tmp 0), some (some 20, false), false⟩,
      ⟨some 22, .move (.tmp 5), some (some 20, false), false⟩,
      ⟨some 23, .indexAddr t_L_api_Val (.tmp 21) (.tmp 22), some (some 20, false), false⟩,
      ⟨some 24, .load t_api_Val (.tmp 23), some (some 20, false), false⟩,
      ⟨some 25, .move (.tmp 0), some (some 20, false), false⟩,
      ⟨some 26, .move (.tmp 3), some (some 20, false), false⟩,
      ⟨some 27, .move (.tmp 6), some (some 20, false), false⟩,
      ⟨some 28, .indexAddr t_L_L_int (.tmp 26) (.tmp 27), some (some 20, false), false⟩,
      ⟨some 29, .load t_L_int (.tmp 28), some (some 20, false), false⟩,
      ⟨some 30, .indexAddr t_L_int (.tmp 29) (.const (.int .i64 0)), some (some 20, false), false⟩,
      ⟨some 31, .load t_int (.tmp 30), some (some 20, false), false⟩,
      ⟨some 32, .indexAddr t_L_api_Val (.tmp 25) (.tmp 31), some (some 20, false), false⟩,
      ⟨some 33, .load t_api_Val (.tmp 32), some (some 20, false), false⟩,
      ⟨some 34, .call ⟨.value (.func f_order_Cmp), ⟨[(.tmp 24), (.tmp 33)]⟩, ⟨[t_api_Val, t_api_Val]⟩⟩, some (some 20, false), false⟩,
      ⟨some 35, .binOp .neq t_int (.tmp 34) (.const (.int .i64 0)) t_int, some (some 20, false), false⟩,
      ⟨some 36, .pick (.tmp 20) (.const (.bool true)) (.tmp 35), none, false⟩]
     [0, 0, 0, 0, 8, 0, 0, 120, 248, 504, 248, 248, 248, 248, 120, 120, 0, 0, 0])
     (.cond (.tmp 36)
      (.seq (.weak (.reg [⟨some 37, .move (.tmp 3), none, false⟩,
       ⟨some 38, .move (.tmp 5), none, false⟩,
       ⟨some 39, .buildSlice t_L_int 1 ⟨[(0, (.tmp 38))]⟩, none, true⟩,
       ⟨some 40, .buildSlice t_L_L_int 1 ⟨[(0, (.tmp 39))]⟩, none, true⟩,
       ⟨some 41, .call ⟨.builtin .append, ⟨[(.tmp 37), (.tmp 40)]⟩, ⟨[t_L_L_int, t_L_L_int]⟩⟩, none, false⟩,
       ⟨some 3, .assign (.tmp 41), none, false⟩]))
      (.exit 1))
      .skip))
     (.reg [⟨some 42, .move (.tmp 3), none, false⟩,
      ⟨some 43, .move (.tmp 6), none, false⟩,
      ⟨some 44, .move (.tmp 3), none, false⟩,
      ⟨some 45, .move (.tmp 6), none, false⟩,
      ⟨some 46, .indexAddr t_L_L_int (.tmp 44) (.tmp 45), none, false⟩,
      ⟨some 47, .load t_L_int (.tmp 46), none, false⟩,
      ⟨some 48, .move (.tmp 5), none, false⟩,
      ⟨some 49, .buildSlice t_L_int 1 ⟨[(0, (.tmp 48))]⟩, none, false⟩,
      ⟨some 50, .call ⟨.builtin .append, ⟨[(.tmp 47), (.tmp 49)]⟩, ⟨[t_L_int, t_L_int]⟩⟩, none, false⟩,
      ⟨some 51, .indexAddr t_L_L_int (.tmp 42) (.tmp 43), none, false⟩,
      ⟨none, .store t_L_int (.tmp 51) (.tmp 50), none, false⟩])))))
    (.reg [⟨some 52, .binOp .add t_int (.tmp 10) (.const (.int .i64 1)) t_int, none, false⟩,
     ⟨some 10, .move (.tmp 52), none, false⟩])))))))
  (.seq (.reg [⟨some 53, .move (.tmp 3), none, false⟩,
   ⟨some 2, .assign (.tmp 53), none, false⟩])
  .ret))))
theorem k_order_Groups : FnOk Try.prog f_order_Groups 54 [.tmp 2] c_order_Groups := ⟨_, _, Try.func26, by kernel_rfl, rfl, Try.ntmps26, rfl, by kernel_rfl⟩

def c_louperef05_Groups : LC :=
  (.seq (.reg [⟨some 2, .assign (.const (.slice none 0 0)), none, false⟩])
  (.seq (.reg [⟨some 7, .buildSlice t_L_L_int 0 ⟨[]⟩, none, true⟩,
   ⟨some 3, .assign (.tmp 7), none, false⟩])
  (.seq (.reg [⟨some 8, .move (.tmp 0), none, false⟩,
   ⟨some 9, .call ⟨.value (.func f_louperef05_Sort), ⟨[(.tmp 8)]⟩, ⟨[t_L_api_Val]⟩⟩, none, false⟩,
   ⟨some 4, .assign (.tmp 9), none, false⟩])
  (.seq (.reg [⟨some 10, .buildSlice t_L_int 0 ⟨[]⟩, none, true⟩,
   ⟨some 5, .assign (.tmp 10), none, false⟩])
  (.seq (.seq (.reg [⟨some 6, .assign (.const (.int .i64 0)), none, false⟩])
  (.block 0 (.loop [true, false, false, true, true, true, true, false, false, false, false, false, false, false, false, false, false, false, false, false, false, false, false, false, false, false, false, false, false, false, false, false, false, false, false, false, false, false, false, false, false, false, false, false, false, false, false, false, false, false, false, false, false, false, false, false, false] none
   (.seq (.seq (.reg [⟨some 11, .move (.tmp 6), none, false⟩,
     ⟨some 12, .move (.tmp 4), none, false⟩,
     ⟨some 13, .call ⟨.builtin .len, ⟨[(.tmp 12)]⟩, ⟨[t_L_int]⟩⟩, none, false⟩,
     ⟨some 14, .binOp .lss t_int (.tmp 11) (.tmp 13) t_int, none, false⟩])
    (.cond (.tmp 14)
     .skip
     (.exit 0)))
    (.seq (.block 1 (.seq (.seq (.draw [⟨some 17, .move (.tmp 5), none, false⟩,
      ⟨some 18, .call ⟨.builtin .len, ⟨[(.tmp 17)]⟩, ⟨[t_L_int]⟩⟩, none, false⟩,
      ⟨some 19, .binOp .gtr t_int (.tmp 18) (.const (.int .i64 0)) t_int, none, false⟩,
      ⟨some 20, .move (.tmp 19), none, false⟩,
      ⟨some 21, .move (.tmp 0), some (some 20, true), false⟩,
      ⟨some 22, .move (.tmp 4), some (some 20, true), false⟩,
      ⟨some 23, .move (.tmp 6), some (some 20, true), false⟩,
      ⟨some 24, .indexAddr t_L_int (.tmp 22) (.tmp 23), some (some 20, true), false⟩,
      ⟨some 25, .load t_int (.tmp 24), some (some 20, true), false⟩,
      ⟨some 26, .indexAddr t_L_api_Val (.tmp 21) (.tmp 25), some (some 20, true), false⟩,
      ⟨some 27, .load t_api_Val (.tmp 26), some (some 20, true), false⟩,
      ⟨some 28, .move (.tmp 0), some (some 20, true), false⟩,
      ⟨some 29, .move (.tmp 5), some (some 20, true), false⟩,
      ⟨some 30, .indexAddr t_L_int (.tmp 29) (.const (.int .i64 0)), some (some 20, true), false⟩,
      ⟨some 31, .load t_int (.tmp 30), some (some 20, true), false⟩,
      ⟨some 32, .indexAddr t_L_api_Val (.tmp 28) (.tmp 31), some (some 20, true), false⟩,
      ⟨some 33, .load t_api_Val (.tmp 32), some (some 20, true), false⟩,
      ⟨some 34, .call ⟨.value (.func f_louperef05_Cmp), ⟨[(.tmp 27), (.tmp 33)]⟩, ⟨[t_api_Val, t_api_Val]⟩⟩, some (some 20, true), false⟩,
      ⟨some 35, .binOp .neq t_int (.tmp 34) (.const (.int .i64 0)) t_int, some (some 20, true), false⟩,
      ⟨some 36, .pick (.tmp 20) (.tmp 35) (.const (.bool false)), none, false⟩]
     [0, 0, 0, 0, 0, 16, 48, 16, 16, 0, 0, 2032, 4080, 4080, 4080, 2032, 2032, 0, 0, 0])
     (.cond (.tmp 36)
      (.seq (.weak (.reg [⟨some 37, .move (.tmp 3), none, false⟩,
       ⟨some 38, .move (.tmp 5), none, false⟩,
       ⟨some 39, .buildSlice t_L_L_int 1 ⟨[(0, (.tmp 38))]⟩, none, false⟩,
       ⟨some 40, .call ⟨.builtin .append, ⟨[(.tmp 37), (.tmp 39)]⟩, ⟨[t_L_L_int, t_L_L_int]⟩⟩, none, false⟩,
       ⟨some 3, .assign (.tmp 40), none, false⟩]))
      (.reg [⟨some 41, .buildSlice t_L_int 0 ⟨[]⟩, none, true⟩,
       ⟨some 5, .assign (.tmp 41), none, false⟩]))
      .skip))
     (.reg [⟨some 42, .move (.tmp 5), none, false⟩,
      ⟨some 43, .move (.tmp 4), none, false⟩,
      ⟨some 44, .move (.tmp 6), none, false⟩,
      ⟨some 45, .indexAddr t_L_int (.tmp 43) (.tmp 44), none, false⟩,
      ⟨some 46, .load t_int (.tmp 45), none, false⟩,
      ⟨some 47, .buildSlice t_L_int 1 ⟨[(0, (.tmp 46))]⟩, none, false⟩,
      ⟨some 48, .call ⟨.builtin .append, ⟨[(.tmp 42), (.tmp 47)]⟩, ⟨[t_L_int, t_L_int]⟩⟩, none, false⟩,
      ⟨some 5, .assign (.tmp 48), none, false⟩])))
    (.reg [⟨some 15, .move (.tmp 6), none, false⟩,
     ⟨some 16, .binOp .add t_int (.tmp 15) (.const (.int .i64 1)) t_int, none, false⟩,
     ⟨some 6, .assign (.tmp 16), none, false⟩]))))))
  (.seq (.seq (.reg [⟨some 49, .move (.tmp 5), none, false⟩,
   ⟨some 50, .call ⟨.builtin .len, ⟨[(.tmp 49)]⟩, ⟨[t_L_int]⟩⟩, none, false⟩,
   ⟨some 51, .binOp .gtr t_int (.tmp 50) (.const (.int .i64 0)) t_int, none, false⟩])
  (.cond (.tmp 51)
   (.weak (.reg [⟨some 52, .move (.tmp 3), none, false⟩,
    ⟨some 53, .move (.tmp 5), none, false⟩,
    ⟨some 54, .buildSlice t_L_L_int 1 ⟨[(0, (.tmp 53))]⟩, none, false⟩,
    ⟨some 55, .call ⟨.builtin .append, ⟨[(.tmp 52), (.tmp 54)]⟩, ⟨[t_L_L_int, t_L_L_int]⟩⟩, none, false⟩,
    ⟨some 3, .assign (.tmp 55), none, false⟩]))
   .skip))
  (.seq (.reg [⟨some 56, .move (.tmp 3), none, false⟩,
   ⟨some 2, .assign (.tmp 56), none, false⟩])
  .ret)))))))
theorem k_louperef05_Groups : FnOk Try.prog f_louperef05_Groups 57 [.tmp 2] c_louperef05_Groups := ⟨_, _, Try.func27, by kernel_rfl, rfl, Try.ntmps27, rfl, by kernel_rfl⟩

def c_louperef05_Pick : LC :=
  (.seq (.reg [⟨some 4, .assign (.const (.slice none 0 0)), none, false⟩])
  (.seq (.reg [⟨some 7, .buildSlice t_L_api_Val 0 ⟨[]⟩, none, true⟩,
   ⟨some 5, .assign (.tmp 7), none, false⟩])
  (.seq (.seq (.reg [⟨some 6, .assign (.const (.int .i64 0)), none, false⟩])
  (.block 0 (.loop [true, true, false, false, false, true, true, false, false, false, false, false, false, false, false, false, false, false, false, false, false, false, false, false, false] none
   (.seq (.seq (.reg [⟨some 8, .move (.tmp 6), none, false⟩,
     ⟨some 9, .move (.tmp 1), none, false⟩,
     ⟨some 10, .call ⟨.builtin .len, ⟨[(.tmp 9)]⟩, ⟨[t_L_int]⟩⟩, none, false⟩,
     ⟨some 11, .binOp .lss t_int (.tmp 8) (.tmp 10) t_int, none, false⟩])
    (.cond (.tmp 11)
     .skip
     (.exit 0)))
    (.seq (.block 1 (.reg [⟨some 14, .move (.tmp 5), none, false⟩,
      ⟨some 15, .move (.tmp 0), none, false⟩,
      ⟨some 16, .move (.tmp 1), none, false⟩,
      ⟨some 17, .move (.tmp 6), none, false⟩,
      ⟨some 18, .indexAddr t_L_int (.tmp 16) (.tmp 17), none, false⟩,
      ⟨some 19, .load t_int (.tmp 18), none, false⟩,
      ⟨some 20, .indexAddr t_L_api_Val (.tmp 15) (.tmp 19), none, false⟩,
      ⟨some 21, .load t_api_Val (.tmp 20), none, false⟩,
      ⟨some 22, .buildSlice t_L_api_Val 1 ⟨[(0, (.tmp 21))]⟩, none, false⟩,
      ⟨some 23, .call ⟨.builtin .append, ⟨[(.tmp 14), (.tmp 22)]⟩, ⟨[t_L_api_Val, t_L_api_Val]⟩⟩, none, false⟩,
      ⟨some 5, .assign (.tmp 23), none, false⟩]))
    (.reg [⟨some 12, .move (.tmp 6), none, false⟩,
     ⟨some 13, .binOp .add t_int (.tmp 12) (.const (.int .i64 1)) t_int, none, false⟩,
     ⟨some 6, .assign (.tmp 13), none, false⟩]))))))
  (.seq (.reg [⟨some 24, .move (.tmp 5), none, false⟩,
   ⟨some 4, .assign (.tmp 24), none, false⟩])
  .ret))))
theorem k_louperef05_Pick : FnOk Try.prog f_louperef05_Pick 25 [.tmp 4] c_louperef05_Pick := ⟨_, _, Try.func29, by kernel_rfl, rfl, Try.ntmps29, rfl, by kernel_rfl⟩

def c_louperef05_Sort : LC :=
  (.seq (.reg [⟨some 2, .assign (.const (.slice none 0 0)), none, false⟩])
  (.seq (.reg [⟨some 8, .move (.tmp 0), none, false⟩,
   ⟨some 9, .call ⟨.builtin .len, ⟨[(.tmp 8)]⟩, ⟨[t_L_api_Val]⟩⟩, none, false⟩,
   ⟨some 10, .makeSlice t_L_int (.tmp 9) (.tmp 9), none, false⟩,
   ⟨some 3, .assign (.tmp 10), none, false⟩])
  (.seq (.seq (.reg [⟨some 4, .assign (.const (.int .i64 0)), none, false⟩])
  (.block 0 (.loop [true, false, false, true, true, false, false, false, false, false, false, false, false, false, false, false, false, false, false, false, false, false, false, false, false, false, false, false, false, false, false, false, false, false, false, false, false, false, false, false, false, false, false, false, false, false, false, false, false, false] none
   (.seq (.seq (.reg [⟨some 11, .move (.tmp 4), none, false⟩,
     ⟨some 12, .move (.tmp 0), none, false⟩,
     ⟨some 13, .call ⟨.builtin .len, ⟨[(.tmp 12)]⟩, ⟨[t_L_api_Val]⟩⟩, none, false⟩,
     ⟨some 14, .binOp .lss t_int (.tmp 11) (.tmp 13) t_int, none, false⟩])
    (.cond (.tmp 14)
     .skip
     (.exit 0)))
    (.seq (.block 1 (.seq (.reg [⟨some 5, .assign (.const (.int .i64 0)), none, false⟩])
     (.seq (.seq (.reg [⟨some 6, .assign (.const (.int .i64 0)), none, false⟩])
     (.block 2 (.loop [true, false, false, true, true, true, true, false, false, false, false, false, false, false, false, false, false, false, false, false, false, false, false, false, false, false, false, false, false, false, false, false, false, false, false, false, false, false, false, false, false, false, false, false, false, false, false, false, false, false] none
      (.seq (.seq (.reg [⟨some 17, .move (.tmp 6), none, false⟩,
        ⟨some 18, .move (.tmp 0), none, false⟩,
        ⟨some 19, .call ⟨.builtin .len, ⟨[(.tmp 18)]⟩, ⟨[t_L_api_Val]⟩⟩, none, false⟩,
        ⟨some 20, .binOp .lss t_int (.tmp 17) (.tmp 19) t_int, none, false⟩])
       (.cond (.tmp 20)
        .skip
        (.exit 2)))
       (.seq (.block 3 (.seq (.draw [⟨some 23, .move (.tmp 0), none, false⟩,
         ⟨some 24, .move (.tmp 6), none, false⟩,
         ⟨some 25, .indexAddr t_L_api_Val (.tmp 23) (.tmp 24), none, false⟩,
         ⟨some 26, .load t_api_Val (.tmp 25), none, false⟩,
         ⟨some 27, .move (.tmp 0), none, false⟩,
         ⟨some 28, .move (.tmp 4), none, false⟩,
         ⟨some 29, .indexAddr t_L_api_Val (.tmp 27) (.tmp 28), none, false⟩,
         ⟨some 30, .load t_api_Val (.tmp 29), none, false⟩,
         ⟨some 31, .call ⟨.value (.func f_louperef05_Cmp), ⟨[(.tmp 26), (.tmp 30)]⟩, ⟨[t_api_Val, t_api_Val]⟩⟩, none, false⟩,
         ⟨some 7, .assign (.tmp 31), none, false⟩]
        [0, 1, 0, 0, 15, 31, 15, 15, 0, 0])
        (.seq (.reg [⟨some 32, .move (.tmp 7), none, false⟩,
         ⟨some 33, .binOp .lss t_int (.tmp 32) (.const (.int .i64 0)) t_int, none, false⟩,
         ⟨some 34, .move (.tmp 33), none, false⟩,
         ⟨some 35, .move (.tmp 7), some (some 34, false), false⟩,
         ⟨some 36, .binOp .eql t_int (.tmp 35) (.const (.int .i64 0)) t_int, some (some 34, false), false⟩,
         ⟨some 37, .move (.tmp 36), some (some 34, false), false⟩,
         ⟨some 38, .move (.tmp 6), some (some 37, true), false⟩,
         ⟨some 39, .move (.tmp 4), some (some 37, true), false⟩,
         ⟨some 40, .binOp .lss t_int (.tmp 38) (.tmp 39) t_int, some (some 37, true), false⟩,
         ⟨some 41, .pick (.tmp 37) (.tmp 40) (.const (.bool false)), some (some 34, false), false⟩,
         ⟨some 42, .pick (.tmp 34) (.const (.bool true)) (.tmp 41), none, false⟩])
        (.cond (.tmp 42)
         (.reg [⟨some 43, .move (.tmp 5), none, false⟩,
          ⟨some 44, .binOp .add t_int (.tmp 43) (.const (.int .i64 1)) t_int, none, false⟩,
          ⟨some 5, .assign (.tmp 44), none, false⟩])
         .skip))))
       (.reg [⟨some 21, .move (.tmp 6), none, false⟩,
        ⟨some 22, .binOp .add t_int (.tmp 21) (.const (.int .i64 1)) t_int, none, false⟩,
        ⟨some 6, .assign (.tmp 22), none, false⟩]))))))
     (.reg [⟨some 45, .move (.tmp 3), none, false⟩,
      ⟨some 46, .move (.tmp 5), none, false⟩,
      ⟨some 47, .move (.tmp 4), none, false⟩,
      ⟨some 48, .indexAddr t_L_int (.tmp 45) (.tmp 46), none, false⟩,
      ⟨none, .store t_int (.tmp 48) (.tmp 47), none, false⟩]))))
    (.reg [⟨some 15, .move (.tmp 4), none, false⟩,
     ⟨some 16, .binOp .add t_int (.tmp 15) (.const (.int .i64 1)) t_int, none, false⟩,
     ⟨some 4, .assign (.tmp 16), none, false⟩]))))))
  (.seq (.reg [⟨some 49, .move (.tmp 3), none, false⟩,
   ⟨some 2, .assign (.tmp 49), none, false⟩])
  .ret))))
theorem k_louperef05_Sort : FnOk Try.prog f_louperef05_Sort 50 [.tmp 2] c_louperef05_Sort := ⟨_, _, Try.func25, by kernel_rfl, rfl, Try.ntmps25, rfl, by kernel_rfl⟩

def c_loupelaw05_alive : LC :=
  (.seq (.reg [⟨some 0, .assign (.const (.bool false)), none, false⟩])
  (.seq (.reg [⟨some 5, .build t_api_Node ⟨[(0, (.const (.int .i64 3))), (3, (.const (.string ⟨⟨[49]⟩⟩)))]⟩, none, false⟩,
   ⟨some 6, .buildSlice t_api_Val 1 ⟨[(0, (.tmp 5))]⟩, none, false⟩,
   ⟨some 7, .build t_api_Node ⟨[(0, (.const (.int .i64 3))), (3, (.const (.string ⟨⟨[50]⟩⟩)))]⟩, none, false⟩,
   ⟨some 8, .buildSlice t_api_Val 1 ⟨[(0, (.tmp 7))]⟩, none, false⟩,
   ⟨some 1, .assign (.tmp 6), none, false⟩,
   ⟨some 2, .assign (.tmp 8), none, false⟩])
  (.seq (.reg [⟨some 9, .move (.tmp 2), none, false⟩,
   ⟨some 10, .move (.tmp 1), none, false⟩,
   ⟨some 11, .move (.tmp 2), none, false⟩,
   ⟨some 12, .buildSlice t_L_api_Val 3 ⟨[(0, (.tmp 9)), (1, (.tmp 10)), (2, (.tmp 11))]⟩, none, false⟩,
   ⟨some 13, .call ⟨.value (.func f_order_Sort), ⟨[(.tmp 12)]⟩, ⟨[t_L_api_Val]⟩⟩, none, false⟩,
   ⟨some 3, .assign (.tmp 13), none, false⟩])
  (.seq (.reg [⟨some 14, .move (.tmp 2), none, false⟩,
   ⟨some 15, .move (.tmp 1), none, false⟩,
   ⟨some 16, .move (.tmp 2), none, false⟩,
   ⟨some 17, .buildSlice t_L_api_Val 3 ⟨[(0, (.tmp 14)), (1, (.tmp 15)), (2, (.tmp 16))]⟩, none, false⟩,
   ⟨some 18, .call ⟨.value (.func f_order_Groups), ⟨[(.tmp 17)]⟩, ⟨[t_L_api_Val]⟩⟩, none, false⟩,
   ⟨some 4, .assign (.tmp 18), none, false⟩])
  (.seq (.reg [⟨some 19, .move (.tmp 1), none, false⟩,
   ⟨some 20, .move (.tmp 2), none, false⟩,
   ⟨some 21, .call ⟨.value (.func f_order_Cmp), ⟨[(.tmp 19), (.tmp 20)]⟩, ⟨[t_api_Val, t_api_Val]⟩⟩, none, false⟩,
   ⟨some 22, .binOp .eql t_int (.tmp 21) (.const (.int .i64 (-1))) t_int, none, false⟩,
   ⟨some 23, .move (.tmp 22), none, false⟩,
   ⟨some 24, .move (.tmp 3), some (some 23, true), false⟩,
   ⟨some 25, .buildSlice t_L_int 3 ⟨[(0, (.const (.int .i64 1))), (1, (.const (.int .i64 0))), (2, (.const (.int .i64 2)))]⟩, some (some 23, true), false⟩,
   ⟨some 26, .call ⟨.value (.func f_louperef05_Ints), ⟨[(.tmp 24), (.tmp 25)]⟩, ⟨[t_L_int, t_L_int]⟩⟩, some (some 23, true), false⟩,
   ⟨some 27, .pick (.tmp 23) (.tmp 26) (.const (.bool false)), none, false⟩,
   ⟨some 28, .move (.tmp 27), none, false⟩,
   ⟨some 29, .move (.tmp 4), some (some 28, true), false⟩,
   ⟨some 30, .call ⟨.builtin .len, ⟨[(.tmp 29)]⟩, ⟨[t_L_L_int]⟩⟩, some (some 28, true), false⟩,
   ⟨some 31, .binOp .eql t_int (.tmp 30) (.const (.int .i64 2)) t_int, some (some 28, true), false⟩,
   ⟨some 32, .pick (.tmp 28) (.tmp 31) (.const (.bool false)), none, false⟩,
   ⟨some 33, .move (.tmp 32), none, false⟩,
   ⟨some 34, .move (.tmp 4), some (some 33, true), false⟩,
   ⟨some 35, .indexAddr t_L_L_int (.tmp 34) (.const (.int .i64 1)), some (some 33, true), false⟩,
   ⟨some 36, .load t_L_int (.tmp 35), some (some 33, true), false⟩,
   ⟨some 37, .call ⟨.builtin .len, ⟨[(.tmp 36)]⟩, ⟨[t_L_int]⟩⟩, some (some 33, true), false⟩,
   ⟨some 38, .binOp .eql t_int (.tmp 37) (.const (.int .i64 2)) t_int, some (some 33, true), false⟩,
   ⟨some 39, .pick (.tmp 33) (.tmp 38) (.const (.bool false)), none, false⟩,
   ⟨some 40, .move (.tmp 39), none, false⟩,
   ⟨some 41, .move (.tmp 1), some (some 40, true), false⟩,
   ⟨some 42, .move (.tmp 1), some (some 40, true), false⟩,
   ⟨some 43, .buildSlice t_L_api_Val 2 ⟨[(0, (.tmp 41)), (1, (.tmp 42))]⟩, some (some 40, true), false⟩,
   ⟨some 44, .call ⟨.value (.func f_order_Rises), ⟨[(.tmp 43)]⟩, ⟨[t_L_api_Val]⟩⟩, some (some 40, true), false⟩,
   ⟨some 45, .pick (.tmp 40) (.tmp 44) (.const (.bool false)), none, false⟩,
   ⟨some 46, .move (.tmp 45), none, false⟩,
   ⟨some 47, .move (.tmp 2), some (some 46, true), false⟩,
   ⟨some 48, .move (.tmp 1), some (some 46, true), false⟩,
   ⟨some 49, .buildSlice t_L_api_Val 2 ⟨[(0, (.tmp 47)), (1, (.tmp 48))]⟩, some (some 46, true), false⟩,
   ⟨some 50, .call ⟨.value (.func f_order_Rises), ⟨[(.tmp 49)]⟩, ⟨[t_L_api_Val]⟩⟩, some (some 46, true), false⟩,
   ⟨some 51, .unOp .not t_bool (.tmp 50), some (some 46, true), false⟩,
   ⟨some 52, .pick (.tmp 46) (.tmp 51) (.const (.bool false)), none, false⟩,
   ⟨some 0, .assign (.tmp 52), none, false⟩])
  .ret)))))
theorem k_loupelaw05_alive : FnOk Try.prog f_loupelaw05_alive 53 [.tmp 0] c_loupelaw05_alive := ⟨_, _, Try.func18, by kernel_rfl, rfl, Try.ntmps18, rfl, by kernel_rfl⟩

def c_loupelaw05_OrderTells : LC :=
  (.seq (.reg [⟨some 6, .assign (.const (.bool false)), none, false⟩])
  (.seq (.seq (.reg [⟨some 7, .move (.tmp 0), none, false⟩,
   ⟨some 8, .call ⟨.value (.func f_louperef02_Few), ⟨[(.tmp 7), (.const (.int .i64 60))]⟩, ⟨[t_api_Val, t_int]⟩⟩, none, false⟩,
   ⟨some 9, .unOp .not t_bool (.tmp 8), none, false⟩,
   ⟨some 10, .move (.tmp 9), none, false⟩,
   ⟨some 11, .move (.tmp 1), some (some 10, false), false⟩,
   ⟨some 12, .call ⟨.value (.func f_louperef02_Few), ⟨[(.tmp 11), (.const (.int .i64 60))]⟩, ⟨[t_api_Val, t_int]⟩⟩, some (some 10, false), false⟩,
   ⟨some 13, .unOp .not t_bool (.tmp 12), some (some 10, false), false⟩,
   ⟨some 14, .pick (.tmp 10) (.const (.bool true)) (.tmp 13), none, false⟩,
   ⟨some 15, .move (.tmp 14), none, false⟩,
   ⟨some 16, .move (.tmp 2), some (some 15, false), false⟩,
   ⟨some 17, .call ⟨.value (.func f_louperef02_All), ⟨[(.tmp 16), (.const (.int .i64 60))]⟩, ⟨[t_L_api_Val, t_int]⟩⟩, some (some 15, false), false⟩,
   ⟨some 18, .unOp .not t_bool (.tmp 17), some (some 15, false), false⟩,
   ⟨some 19, .pick (.tmp 15) (.const (.bool true)) (.tmp 18), none, false⟩])
  (.cond (.tmp 19)
   (.seq (.reg [⟨some 20, .call ⟨.value (.func f_loupelaw05_alive), ⟨[]⟩, ⟨[]⟩⟩, none, false⟩,
    ⟨some 6, .assign (.tmp 20), none, false⟩])
   .ret)
   .skip))
  (.seq (.reg [⟨some 21, .call ⟨.value (.func f_loupelaw05_alive), ⟨[]⟩, ⟨[]⟩⟩, none, false⟩,
   ⟨some 22, .move (.tmp 21), none, false⟩,
   ⟨some 23, .move (.tmp 0), some (some 22, true), false⟩,
   ⟨some 24, .move (.tmp 1), some (some 22, true), false⟩,
   ⟨some 25, .call ⟨.value (.func f_order_Cmp), ⟨[(.tmp 23), (.tmp 24)]⟩, ⟨[t_api_Val, t_api_Val]⟩⟩, some (some 22, true), false⟩,
   ⟨some 26, .move (.tmp 0), some (some 22, true), false⟩,
   ⟨some 27, .move (.tmp 1), some (some 22, true), false⟩,
   ⟨some 28, .call ⟨.value (.func f_louperef05_Cmp), ⟨[(.tmp 26), (.tmp 27)]⟩, ⟨[t_api_Val, t_api_Val]⟩⟩, some (some 22, true), false⟩,
   ⟨some 29, .binOp .eql t_int (.tmp 25) (.tmp 28) t_int, some (some 22, true), false⟩,
   ⟨some 30, .pick (.tmp 22) (.tmp 29) (.const (.bool false)), none, false⟩,
   ⟨some 31, .move (.tmp 30), none, false⟩,
   ⟨some 32, .move (.tmp 2), some (some 31, true), false⟩,
   ⟨some 33, .call ⟨.value (.func f_order_Rises), ⟨[(.tmp 32)]⟩, ⟨[t_L_api_Val]⟩⟩, some (some 31, true), false⟩,
   ⟨some 34, .move (.tmp 2), some (some 31, true), false⟩,
   ⟨some 35, .call ⟨.value (.func f_louperef05_Rises), ⟨[(.tmp 34)]⟩, ⟨[t_L_api_Val]⟩⟩, some (some 31, true), false⟩,
   ⟨some 36, .binOp .eql t_bool (.tmp 33) (.tmp 35) t_bool, some (some 31, true), false⟩,
   ⟨some 37, .pick (.tmp 31) (.tmp 36) (.const (.bool false)), none, false⟩,
   ⟨some 38, .move (.tmp 37), none, false⟩,
   ⟨some 39, .move (.tmp 2), some (some 38, true), false⟩,
   ⟨some 40, .call ⟨.value (.func f_order_Sort), ⟨[(.tmp 39)]⟩, ⟨[t_L_api_Val]⟩⟩, some (some 38, true), false⟩,
   ⟨some 41, .move (.tmp 2), some (some 38, true), false⟩,
   ⟨some 42, .call ⟨.value (.func f_louperef05_Sort), ⟨[(.tmp 41)]⟩, ⟨[t_L_api_Val]⟩⟩, some (some 38, true), false⟩,
   ⟨some 43, .call ⟨.value (.func f_louperef05_Ints), ⟨[(.tmp 40), (.tmp 42)]⟩, ⟨[t_L_int, t_L_int]⟩⟩, some (some 38, true), false⟩,
   ⟨some 44, .pick (.tmp 38) (.tmp 43) (.const (.bool false)), none, false⟩,
   ⟨some 6, .assign (.tmp 44), none, false⟩])
  .ret)))
theorem k_loupelaw05_OrderTells : FnOk Try.prog f_loupelaw05_OrderTells 45 [.tmp 6] c_loupelaw05_OrderTells := ⟨_, _, Try.func3, by kernel_rfl, rfl, Try.ntmps3, rfl, by kernel_rfl⟩

def c_loupelaw05_OrderGroups : LC :=
  (.seq (.reg [⟨some 2, .assign (.const (.bool false)), none, false⟩])
  (.seq (.seq (.reg [⟨some 6, .move (.tmp 0), none, false⟩,
   ⟨some 7, .call ⟨.value (.func f_louperef02_All), ⟨[(.tmp 6), (.const (.int .i64 60))]⟩, ⟨[t_L_api_Val, t_int]⟩⟩, none, false⟩,
   ⟨some 8, .unOp .not t_bool (.tmp 7), none, false⟩])
  (.cond (.tmp 8)
   (.seq (.reg [⟨some 9, .call ⟨.value (.func f_loupelaw05_alive), ⟨[]⟩, ⟨[]⟩⟩, none, false⟩,
    ⟨some 2, .assign (.tmp 9), none, false⟩])
   .ret)
   .skip))
  (.seq (.reg [⟨some 10, .move (.tmp 0), none, false⟩,
   ⟨some 11, .call ⟨.value (.func f_order_Groups), ⟨[(.tmp 10)]⟩, ⟨[t_L_api_Val]⟩⟩, none, false⟩,
   ⟨some 12, .move (.tmp 0), none, false⟩,
   ⟨some 13, .call ⟨.value (.func f_louperef05_Groups), ⟨[(.tmp 12)]⟩, ⟨[t_L_api_Val]⟩⟩, none, false⟩,
   ⟨some 3, .assign (.tmp 11), none, false⟩,
   ⟨some 4, .assign (.tmp 13), none, false⟩])
  (.seq (.seq (.reg [⟨some 14, .move (.tmp 3), none, false⟩,
   ⟨some 15, .call ⟨.builtin .len, ⟨[(.tmp 14)]⟩, ⟨[t_L_L_int]⟩⟩, none, false⟩,
   ⟨some 16, .move (.tmp 4), none, false⟩,
   ⟨some 17, .call ⟨.builtin .len, ⟨[(.tmp 16)]⟩, ⟨[t_L_L_int]⟩⟩, none, false⟩,
   ⟨some 18, .binOp .neq t_int (.tmp 15) (.tmp 17) t_int, none, false⟩])
  (.cond (.tmp 18)
   (.seq (.reg [⟨some 2, .assign (.const (.bool false)), none, false⟩])
   .ret)
   .skip))
  (.seq (.seq (.reg [⟨some 5, .assign (.const (.int .i64 0)), none, false⟩])
  (.block 0 (.loop [false, false, false, true, true, true, false, false, false, false, false, false, false, false, false, false, false, false, false, false, false, false, false, false, false, false, false, false, false, false, false, false, false, false, false, false] none
   (.seq (.seq (.reg [⟨some 19, .move (.tmp 5), none, false⟩,
     ⟨some 20, .move (.tmp 3), none, false⟩,
     ⟨some 21, .call ⟨.builtin .len, ⟨[(.tmp 20)]⟩, ⟨[t_L_L_int]⟩⟩, none, false⟩,
     ⟨some 22, .binOp .lss t_int (.tmp 19) (.tmp 21) t_int, none, false⟩])
    (.cond (.tmp 22)
     .skip
     (.exit 0)))
    (.seq (.block 1 (.seq (.draw [⟨some 25, .move (.tmp 3), none, false⟩,
      ⟨some 26, .move (.tmp 5), none, false⟩,
      ⟨some 27, .indexAddr t_L_L_int (.tmp 25) (.tmp 26), none, false⟩,
      ⟨some 28, .load t_L_int (.tmp 27), none, false⟩,
      ⟨some 29, .move (.tmp 4), none, false⟩,
      ⟨some 30, .move (.tmp 5), none, false⟩,
      ⟨some 31, .indexAddr t_L_L_int (.tmp 29) (.tmp 30), none, false⟩,
      ⟨some 32, .load t_L_int (.tmp 31), none, false⟩,
      ⟨some 33, .call ⟨.value (.func f_louperef05_Ints), ⟨[(.tmp 28), (.tmp 32)]⟩, ⟨[t_L_int, t_L_int]⟩⟩, none, false⟩,
      ⟨some 34, .unOp .not t_bool (.tmp 33), none, false⟩]
     [0, 1, 0, 0, 15, 31, 15, 15, 0, 0])
     (.cond (.tmp 34)
      (.seq (.reg [⟨some 2, .assign (.const (.bool false)), none, false⟩])
      .ret)
      .skip)))
    (.reg [⟨some 23, .move (.tmp 5), none, false⟩,
     ⟨some 24, .binOp .add t_int (.tmp 23) (.const (.int .i64 1)) t_int, none, false⟩,
     ⟨some 5, .assign (.tmp 24), none, false⟩]))))))
  (.seq (.reg [⟨some 35, .call ⟨.value (.func f_loupelaw05_alive), ⟨[]⟩, ⟨[]⟩⟩, none, false⟩,
   ⟨some 2, .assign (.tmp 35), none, false⟩])
  .ret))))))
theorem k_loupelaw05_OrderGroups : FnOk Try.prog f_loupelaw05_OrderGroups 36 [.tmp 2] c_loupelaw05_OrderGroups := ⟨_, _, Try.func4, by kernel_rfl, rfl, Try.ntmps4, rfl, by kernel_rfl⟩

def c_loupelaw05_OrderTotal : LC :=
  (.seq (.reg [⟨some 6, .assign (.const (.bool false)), none, false⟩])
  (.seq (.seq (.reg [⟨some 8, .move (.tmp 0), none, false⟩,
   ⟨some 9, .call ⟨.value (.func f_louperef02_Few), ⟨[(.tmp 8), (.const (.int .i64 60))]⟩, ⟨[t_api_Val, t_int]⟩⟩, none, false⟩,
   ⟨some 10, .unOp .not t_bool (.tmp 9), none, false⟩,
   ⟨some 11, .move (.tmp 10), none, false⟩,
   ⟨some 12, .move (.tmp 1), some (some 11, false), false⟩,
   ⟨some 13, .call ⟨.value (.func f_louperef02_Few), ⟨[(.tmp 12), (.const (.int .i64 60))]⟩, ⟨[t_api_Val, t_int]⟩⟩, some (some 11, false), false⟩,
   ⟨some 14, .unOp .not t_bool (.tmp 13), some (some 11, false), false⟩,
   ⟨some 15, .pick (.tmp 11) (.const (.bool true)) (.tmp 14), none, false⟩,
   ⟨some 16, .move (.tmp 15), none, false⟩,
   ⟨some 17, .move (.tmp 2), some (some 16, false), false⟩,
   ⟨some 18, .call ⟨.value (.func f_louperef02_Few), ⟨[(.tmp 17), (.const (.int .i64 60))]⟩, ⟨[t_api_Val, t_int]⟩⟩, some (some 16, false), false⟩,
   ⟨some 19, .unOp .not t_bool (.tmp 18), some (some 16, false), false⟩,
   ⟨some 20, .pick (.tmp 16) (.const (.bool true)) (.tmp 19), none, false⟩])
  (.cond (.tmp 20)
   (.seq (.reg [⟨some 21, .call ⟨.value (.func f_loupelaw05_alive), ⟨[]⟩, ⟨[]⟩⟩, none, false⟩,
    ⟨some 6, .assign (.tmp 21), none, false⟩])
   .ret)
   .skip))
  (.seq (.reg [⟨some 22, .move (.tmp 0), none, false⟩,
   ⟨some 23, .move (.tmp 1), none, false⟩,
   ⟨some 24, .call ⟨.value (.func f_order_Cmp), ⟨[(.tmp 22), (.tmp 23)]⟩, ⟨[t_api_Val, t_api_Val]⟩⟩, none, false⟩,
   ⟨some 7, .assign (.tmp 24), none, false⟩])
  (.seq (.seq (.reg [⟨some 25, .move (.tmp 7), none, false⟩,
   ⟨some 26, .binOp .lss t_int (.tmp 25) (.const (.int .i64 (-1))) t_int, none, false⟩,
   ⟨some 27, .move (.tmp 26), none, false⟩,
   ⟨some 28, .move (.tmp 7), some (some 27, false), false⟩,
   ⟨some 29, .binOp .gtr t_int (.tmp 28) (.const (.int .i64 1)) t_int, some (some 27, false), false⟩,
   ⟨some 30, .pick (.tmp 27) (.const (.bool true)) (.tmp 29), none, false⟩,
   ⟨some 31, .move (.tmp 30), none, false⟩,
   ⟨some 32, .move (.tmp 1), some (some 31, false), false⟩,
   ⟨some 33, .move (.tmp 0), some (some 31, false), false⟩,
   ⟨some 34, .call ⟨.value (.func f_order_Cmp), ⟨[(.tmp 32), (.tmp 33)]⟩, ⟨[t_api_Val, t_api_Val]⟩⟩, some (some 31, false), false⟩,
   ⟨some 35, .move (.tmp 7), some (some 31, false), false⟩,
   ⟨some 36, .unOp .neg t_int (.tmp 35), some (some 31, false), false⟩,
   ⟨some 37, .binOp .neq t_int (.tmp 34) (.tmp 36) t_int, some (some 31, false), false⟩,
   ⟨some 38, .pick (.tmp 31) (.const (.bool true)) (.tmp 37), none, false⟩,
   ⟨some 39, .move (.tmp 38), none, false⟩,
   ⟨some 40, .move (.tmp 7), some (some 39, false), false⟩,
   ⟨some 41, .binOp .eql t_int (.tmp 40) (.const (.int .i64 0)) t_int, some (some 39, false), false⟩,
   ⟨some 42, .move (.tmp 0), some (some 39, false), false⟩,
   ⟨some 43, .move (.tmp 1), some (some 39, false), false⟩,
   ⟨some 44, .call ⟨.value (.func f_louperef02_Same), ⟨[(.tmp 42), (.tmp 43)]⟩, ⟨[t_api_Val, t_api_Val]⟩⟩, some (some 39, false), false⟩,
   ⟨some 45, .binOp .neq t_bool (.tmp 41) (.tmp 44) t_bool, some (some 39, false), false⟩,
   ⟨some 46, .pick (.tmp 39) (.const (.bool true)) (.tmp 45), none, false⟩,
   ⟨some 47, .move (.tmp 46), none, false⟩,
   ⟨some 48, .move (.tmp 0), some (some 47, false), false⟩,
   ⟨some 49, .move (.tmp 0), some (some 47, false), false⟩,
   ⟨some 50, .call ⟨.value (.func f_order_Cmp), ⟨[(.tmp 48), (.tmp 49)]⟩, ⟨[t_api_Val, t_api_Val]⟩⟩, some (some 47, false), false⟩,
   ⟨some 51, .binOp .neq t_int (.tmp 50) (.const (.int .i64 0)) t_int, some (some 47, false), false⟩,
   ⟨some 52, .pick (.tmp 47) (.const (.bool true)) (.tmp 51), none, false⟩])
  (.cond (.tmp 52)
   (.seq (.reg [⟨some 6, .assign (.const (.bool false)), none, false⟩])
   .ret)
   .skip))
  (.seq (.draw [⟨some 53, .call ⟨.value (.func f_loupelaw05_alive), ⟨[]⟩, ⟨[]⟩⟩, none, false⟩,
   ⟨some 54, .move (.tmp 53), none, false⟩,
   ⟨some 55, .move (.tmp 7), some (some 54, true), false⟩,
   ⟨some 56, .binOp .gtr t_int (.tmp 55) (.const (.int .i64 0)) t_int, some (some 54, true), false⟩,
   ⟨some 57, .move (.tmp 56), some (some 54, true), false⟩,
   ⟨some 58, .move (.tmp 1), some (some 57, false), false⟩,
   ⟨some 59, .move (.tmp 2), some (some 57, false), false⟩,
   ⟨some 60, .call ⟨.value (.func f_order_Cmp), ⟨[(.tmp 58), (.tmp 59)]⟩, ⟨[t_api_Val, t_api_Val]⟩⟩, some (some 57, false), false⟩,
   ⟨some 61, .binOp .gtr t_int (.tmp 60) (.const (.int .i64 0)) t_int, some (some 57, false), false⟩,
   ⟨some 62, .pick (.tmp 57) (.const (.bool true)) (.tmp 61), some (some 54, true), false⟩,
   ⟨some 63, .move (.tmp 62), some (some 54, true), false⟩,
   ⟨some 64, .move (.tmp 0), some (some 63, false), false⟩,
   ⟨some 65, .move (.tmp 2), some (some 63, false), false⟩,
   ⟨some 66, .call ⟨.value (.func f_order_Cmp), ⟨[(.tmp 64), (.tmp 65)]⟩, ⟨[t_api_Val, t_api_Val]⟩⟩, some (some 63, false), false⟩,
   ⟨some 67, .binOp .leq t_int (.tmp 66) (.const (.int .i64 0)) t_int, some (some 63, false), false⟩,
   ⟨some 68, .pick (.tmp 63) (.const (.bool true)) (.tmp 67), some (some 54, true), false⟩,
   ⟨some 69, .pick (.tmp 54) (.tmp 68) (.const (.bool false)), none, false⟩,
   ⟨some 70, .move (.tmp 69), none, false⟩,
   ⟨some 71, .move (.tmp 0), some (some 70, true), false⟩,
   ⟨some 72, .indexAddr t_api_Val (.tmp 71) (.const (.int .i64 0)), some (some 70, true), false⟩,
   ⟨some 73, .fieldAddr t_api_Node (.tmp 72) 0, some (some 70, true), false⟩,
   ⟨some 74, .load t_int (.tmp 73), some (some 70, true), false⟩,
   ⟨some 75, .move (.tmp 1), some (some 70, true), false⟩,
   ⟨some 76, .indexAddr t_api_Val (.tmp 75) (.const (.int .i64 0)), some (some 70, true), false⟩,
   ⟨some 77, .fieldAddr t_api_Node (.tmp 76) 0, some (some 70, true), false⟩,
   ⟨some 78, .load t_int (.tmp 77), some (some 70, true), false⟩,
   ⟨some 79, .binOp .eql t_int (.tmp 74) (.tmp 78) t_int, some (some 70, true), false⟩,
   ⟨some 80, .move (.tmp 79), some (some 70, true), false⟩,
   ⟨some 81, .move (.tmp 7), some (some 80, false), false⟩,
   ⟨some 82, .binOp .lss t_int (.tmp 81) (.const (.int .i64 0)) t_int, some (some 80, false), false⟩,
   ⟨some 83, .move (.tmp 0), some (some 80, false), false⟩,
   ⟨some 84, .indexAddr t_api_Val (.tmp 83) (.const (.int .i64 0)), some (some 80, false), false⟩,
   ⟨some 85, .fieldAddr t_api_Node (.tmp 84) 0, some (some 80, false), false⟩,
   ⟨some 86, .load t_int (.tmp 85), some (some 80, false), false⟩,
   ⟨some 87, .move (.tmp 1), some (some 80, false), false⟩,
   ⟨some 88, .indexAddr t_api_Val (.tmp 87) (.const (.int .i64 0)), some (some 80, false), false⟩,
   ⟨some 89, .fieldAddr t_api_Node (.tmp 88) 0, some (some 80, false), false⟩,
   ⟨some 90, .load t_int (.tmp 89), some (some 80, false), false⟩,
   ⟨some 91, .binOp .lss t_int (.tmp 86) (.tmp 90) t_int, some (some 80, false), false⟩,
   ⟨some 92, .binOp .eql t_bool (.tmp 82) (.tmp 91) t_bool, some (some 80, false), false⟩,
   ⟨some 93, .pick (.tmp 80) (.const (.bool true)) (.tmp 92), some (some 70, true), false⟩,
   ⟨some 94, .pick (.tmp 70) (.tmp 93) (.const (.bool false)), none, false⟩,
   ⟨some 6, .assign (.tmp 94), none, false⟩]
  [0, 0, 0, 0, 0, 0, 32, 0, 0, 0, 0, 0, 2048, 0, 0, 0, 0, 0, 0, 0, 0, 0, 3932160, 3932160, 3932160, 3932160, 0, 0, 0, 0, 805306368, 805306368, 805306368, 805306368, 16911433728, 16911433728, 16911433728, 16911433728, 805306368, 0, 0, 0, 0])
  .ret)))))
theorem k_loupelaw05_OrderTotal : FnOk Try.prog f_loupelaw05_OrderTotal 95 [.tmp 6] c_loupelaw05_OrderTotal := ⟨_, _, Try.func5, by kernel_rfl, rfl, Try.ntmps5, rfl, by kernel_rfl⟩

def c_loupelaw05_OrderSorted : LC :=
  (.seq (.reg [⟨some 2, .assign (.const (.bool false)), none, false⟩])
  (.seq (.seq (.reg [⟨some 8, .move (.tmp 0), none, false⟩,
   ⟨some 9, .call ⟨.value (.func f_louperef02_All), ⟨[(.tmp 8), (.const (.int .i64 60))]⟩, ⟨[t_L_api_Val, t_int]⟩⟩, none, false⟩,
   ⟨some 10, .unOp .not t_bool (.tmp 9), none, false⟩])
  (.cond (.tmp 10)
   (.seq (.reg [⟨some 11, .call ⟨.value (.func f_loupelaw05_alive), ⟨[]⟩, ⟨[]⟩⟩, none, false⟩,
    ⟨some 2, .assign (.tmp 11), none, false⟩])
   .ret)
   .skip))
  (.seq (.reg [⟨some 12, .move (.tmp 0), none, false⟩,
   ⟨some 13, .call ⟨.value (.func f_order_Sort), ⟨[(.tmp 12)]⟩, ⟨[t_L_api_Val]⟩⟩, none, false⟩,
   ⟨some 3, .assign (.tmp 13), none, false⟩])
  (.seq (.seq (.reg [⟨some 14, .move (.tmp 3), none, false⟩,
   ⟨some 15, .call ⟨.builtin .len, ⟨[(.tmp 14)]⟩, ⟨[t_L_int]⟩⟩, none, false⟩,
   ⟨some 16, .move (.tmp 0), none, false⟩,
   ⟨some 17, .call ⟨.builtin .len, ⟨[(.tmp 16)]⟩, ⟨[t_L_api_Val]⟩⟩, none, false⟩,
   ⟨some 18, .binOp .neq t_int (.tmp 15) (.tmp 17) t_int, none, false⟩])
  (.cond (.tmp 18)
   (.seq (.reg [⟨some 2, .assign (.const (.bool false)), none, false⟩])
   .ret)
   .skip))
  (.seq (.reg [⟨some 19, .move (.tmp 0), none, false⟩,
   ⟨some 20, .call ⟨.builtin .len, ⟨[(.tmp 19)]⟩, ⟨[t_L_api_Val]⟩⟩, none, false⟩,
   ⟨some 21, .makeSlice t_L_bool (.tmp 20) (.tmp 20), none, false⟩,
   ⟨some 4, .assign (.tmp 21), none, false⟩])
  (.seq (.seq (.reg [⟨some 5, .assign (.const (.int .i64 0)), none, false⟩])
  (.block 0 (.loop [true, false, false, true, true, true, false, false, false, false, false, false, false, false, false, false, false, false, false, false, false, false, false, false, false, false, false, false, false, false, false, false, false, false, false, false, false, false, false, false, false, false, false, false, false, false, false, false, false, false, false, false, false, false, false, false, false, false, false, false, false, false, false, false, false, false, false, false, false, false, false, false, false, false, false, false, false, false, false, false, false, false, false, false, false, false, false, false, false, false, false, false, false, false, false, false, false, false, false, false, false, false, false, false, false, false, false, false, false, false, false, false, false, false, false, false, false] none
   (.seq (.seq (.reg [⟨some 22, .move (.tmp 5), none, false⟩,
     ⟨some 23, .move (.tmp 3), none, false⟩,
     ⟨some 24, .call ⟨.builtin .len, ⟨[(.tmp 23)]⟩, ⟨[t_L_int]⟩⟩, none, false⟩,
     ⟨some 25, .binOp .lss t_int (.tmp 22) (.tmp 24) t_int, none, false⟩])
    (.cond (.tmp 25)
     .skip
     (.exit 0)))
    (.seq (.block 1 (.seq (.seq (.reg [⟨some 28, .move (.tmp 3), none, false⟩,
      ⟨some 29, .move (.tmp 5), none, false⟩,
      ⟨some 30, .indexAddr t_L_int (.tmp 28) (.tmp 29), none, false⟩,
      ⟨some 31, .load t_int (.tmp 30), none, false⟩,
      ⟨some 32, .binOp .lss t_int (.tmp 31) (.const (.int .i64 0)) t_int, none, false⟩,
      ⟨some 33, .move (.tmp 32), none, false⟩,
      ⟨some 34, .move (.tmp 3), some (some 33, false), false⟩,
      ⟨some 35, .move (.tmp 5), some (some 33, false), false⟩,
      ⟨some 36, .indexAddr t_L_int (.tmp 34) (.tmp 35), some (some 33, false), false⟩,
      ⟨some 37, .load t_int (.tmp 36), some (some 33, false), false⟩,
      ⟨some 38, .move (.tmp 0), some (some 33, false), false⟩,
      ⟨some 39, .call ⟨.builtin .len, ⟨[(.tmp 38)]⟩, ⟨[t_L_api_Val]⟩⟩, some (some 33, false), false⟩,
      ⟨some 40, .binOp .geq t_int (.tmp 37) (.tmp 39) t_int, some (some 33, false), false⟩,
      ⟨some 41, .pick (.tmp 33) (.const (.bool true)) (.tmp 40), none, false⟩,
      ⟨some 42, .move (.tmp 41), none, false⟩,
      ⟨some 43, .move (.tmp 4), some (some 42, false), false⟩,
      ⟨some 44, .move (.tmp 3), some (some 42, false), false⟩,
      ⟨some 45, .move (.tmp 5), some (some 42, false), false⟩,
      ⟨some 46, .indexAddr t_L_int (.tmp 44) (.tmp 45), some (some 42, false), false⟩,
      ⟨some 47, .load t_int (.tmp 46), some (some 42, false), false⟩,
      ⟨some 48, .indexAddr t_L_bool (.tmp 43) (.tmp 47), some (some 42, false), false⟩,
      ⟨some 49, .load t_bool (.tmp 48), some (some 42, false), false⟩,
      ⟨some 50, .pick (.tmp 42) (.const (.bool true)) (.tmp 49), none, false⟩])
     (.cond (.tmp 50)
      (.seq (.reg [⟨some 2, .assign (.const (.bool false)), none, false⟩])
      .ret)
      .skip))
     (.seq (.reg [⟨some 51, .move (.tmp 4), none, false⟩,
      ⟨some 52, .move (.tmp 3), none, false⟩,
      ⟨some 53, .move (.tmp 5), none, false⟩,
      ⟨some 54, .indexAddr t_L_int (.tmp 52) (.tmp 53), none, false⟩,
      ⟨some 55, .load t_int (.tmp 54), none, false⟩,
      ⟨some 56, .indexAddr t_L_bool (.tmp 51) (.tmp 55), none, false⟩,
      ⟨none, .store t_bool (.tmp 56) (.const (.bool true)), none, false⟩])
     (.seq (.draw [⟨some 57, .move (.tmp 5), none, false⟩,
      ⟨some 58, .binOp .gtr t_int (.tmp 57) (.const (.int .i64 0)) t_int, none, false⟩,
      ⟨some 59, .move (.tmp 58), none, false⟩,
      ⟨some 60, .move (.tmp 0), some (some 59, true), false⟩,
      ⟨some 61, .move (.tmp 3), some (some 59, true), false⟩,
      ⟨some 62, .move (.tmp 5), some (some 59, true), false⟩,
      ⟨some 63, .indexAddr t_L_int (.tmp 61) (.tmp 62), some (some 59, true), false⟩,
      ⟨some 64, .load t_int (.tmp 63), some (some 59, true), false⟩,
      ⟨some 65, .indexAddr t_L_api_Val (.tmp 60) (.tmp 64), some (some 59, true), false⟩,
      ⟨some 66, .load t_api_Val (.tmp 65), some (some 59, true), false⟩,
      ⟨some 67, .move (.tmp 0), some (some 59, true), false⟩,
      ⟨some 68, .move (.tmp 3), some (some 59, true), false⟩,
      ⟨some 69, .move (.tmp 5), some (some 59, true), false⟩,
      ⟨some 70, .binOp .sub t_int (.tmp 69) (.const (.int .i64 1)) t_int, some (some 59, true), false⟩,
      ⟨some 71, .indexAddr t_L_int (.tmp 68) (.tmp 70), some (some 59, true), false⟩,
      ⟨some 72, .load t_int (.tmp 71), some (some 59, true), false⟩,
      ⟨some 73, .indexAddr t_L_api_Val (.tmp 67) (.tmp 72), some (some 59, true), false⟩,
      ⟨some 74, .load t_api_Val (.tmp 73), some (some 59, true), false⟩,
      ⟨some 75, .call ⟨.value (.func f_louperef02_Same), ⟨[(.tmp 66), (.tmp 74)]⟩, ⟨[t_api_Val, t_api_Val]⟩⟩, some (some 59, true), false⟩,
      ⟨some 76, .pick (.tmp 59) (.tmp 75) (.const (.bool false)), none, false⟩,
      ⟨some 77, .move (.tmp 76), none, false⟩,
      ⟨some 78, .move (.tmp 3), some (some 77, true), false⟩,
      ⟨some 79, .move (.tmp 5), some (some 77, true), false⟩,
      ⟨some 80, .indexAddr t_L_int (.tmp 78) (.tmp 79), some (some 77, true), false⟩,
      ⟨some 81, .load t_int (.tmp 80), some (some 77, true), false⟩,
      ⟨some 82, .move (.tmp 3), some (some 77, true), false⟩,
      ⟨some 83, .move (.tmp 5), some (some 77, true), false⟩,
      ⟨some 84, .binOp .sub t_int (.tmp 83) (.const (.int .i64 1)) t_int, some (some 77, true), false⟩,
      ⟨some 85, .indexAddr t_L_int (.tmp 82) (.tmp 84), some (some 77, true), false⟩,
      ⟨some 86, .load t_int (.tmp 85), some (some 77, true), false⟩,
      ⟨some 87, .binOp .lss t_int (.tmp 81) (.tmp 86) t_int, some (some 77, true), false⟩,
      ⟨some 88, .pick (.tmp 77) (.tmp 87) (.const (.bool false)), none, false⟩]
     [0, 0, 0, 0, 8, 24, 8, 8, 0, 0, 1016, 2040, 4088, 4088, 2040, 2040, 1016, 1016, 0, 0, 0, 0, 2097152, 0, 0, 31457280, 65011712, 65011712, 31457280, 31457280, 0, 0])
     (.cond (.tmp 88)
      (.seq (.reg [⟨some 2, .assign (.const (.bool false)), none, false⟩])
      .ret)
      .skip)))))
    (.reg [⟨some 26, .move (.tmp 5), none, false⟩,
     ⟨some 27, .binOp .add t_int (.tmp 26) (.const (.int .i64 1)) t_int, none, false⟩,
     ⟨some 5, .assign (.tmp 27), none, false⟩]))))))
  (.seq (.reg [⟨some 6, .assign (.const (.bool true)), none, false⟩])
  (.seq (.seq (.reg [⟨some 7, .assign (.const (.int .i64 0)), none, false⟩])
  (.block 2 (.loop [true, false, false, true, false, false, true, true, false, false, false, false, false, false, false, false, false, false, false, false, false, false, false, false, false, false, false, false, false, false, false, false, false, false, false, false, false, false, false, false, false, false, false, false, false, false, false, false, false, false, false, false, false, false, false, false, false, false, false, false, false, false, false, false, false, false, false, false, false, false, false, false, false, false, false, false, false, false, false, false, false, false, false, false, false, false, false, false, false, false, false, false, false, false, false, false, false, false, false, false, false, false, false, false, false, false, false, false, false, false, false, false, false, false, false, false, false] none
   (.seq (.seq (.reg [⟨some 89, .move (.tmp 7), none, false⟩,
     ⟨some 90, .move (.tmp 3), none, false⟩,
     ⟨some 91, .call ⟨.builtin .len, ⟨[(.tmp 90)]⟩, ⟨[t_L_int]⟩⟩, none, false⟩,
     ⟨some 92, .binOp .lss t_int (.tmp 89) (.tmp 91) t_int, none, false⟩])
    (.cond (.tmp 92)
     .skip
     (.exit 2)))
    (.seq (.block 3 (.reg [⟨some 95, .move (.tmp 6), none, false⟩,
      ⟨some 96, .move (.tmp 95), none, false⟩,
      ⟨some 97, .move (.tmp 3), some (some 96, true), false⟩,
      ⟨some 98, .move (.tmp 7), some (some 96, true), false⟩,
      ⟨some 99, .indexAddr t_L_int (.tmp 97) (.tmp 98), some (some 96, true), false⟩,
      ⟨some 100, .load t_int (.tmp 99), some (some 96, true), false⟩,
      ⟨some 101, .move (.tmp 7), some (some 96, true), false⟩,
      ⟨some 102, .binOp .eql t_int (.tmp 100) (.tmp 101) t_int, some (some 96, true), false⟩,
      ⟨some 103, .pick (.tmp 96) (.tmp 102) (.const (.bool false)), none, false⟩,
      ⟨some 6, .assign (.tmp 103), none, false⟩]))
    (.reg [⟨some 93, .move (.tmp 7), none, false⟩,
     ⟨some 94, .binOp .add t_int (.tmp 93) (.const (.int .i64 1)) t_int, none, false⟩,
     ⟨some 7, .assign (.tmp 94), none, false⟩]))))))
  (.seq (.reg [⟨some 104, .call ⟨.value (.func f_loupelaw05_alive), ⟨[]⟩, ⟨[]⟩⟩, none, false⟩,
   ⟨some 105, .move (.tmp 104), none, false⟩,
   ⟨some 106, .move (.tmp 0), some (some 105, true), false⟩,
   ⟨some 107, .move (.tmp 3), some (some 105, true), false⟩,
   ⟨some 108, .call ⟨.value (.func f_louperef05_Pick), ⟨[(.tmp 106), (.tmp 107)]⟩, ⟨[t_L_api_Val, t_L_int]⟩⟩, some (some 105, true), false⟩,
   ⟨some 109, .call ⟨.value (.func f_order_Rises), ⟨[(.tmp 108)]⟩, ⟨[t_L_api_Val]⟩⟩, some (some 105, true), false⟩,
   ⟨some 110, .pick (.tmp 105) (.tmp 109) (.const (.bool false)), none, false⟩,
   ⟨some 111, .move (.tmp 110), none, false⟩,
   ⟨some 112, .move (.tmp 6), some (some 111, true), false⟩,
   ⟨some 113, .move (.tmp 0), some (some 111, true), false⟩,
   ⟨some 114, .call ⟨.value (.func f_order_Rises), ⟨[(.tmp 113)]⟩, ⟨[t_L_api_Val]⟩⟩, some (some 111, true), false⟩,
   ⟨some 115, .binOp .eql t_bool (.tmp 112) (.tmp 114) t_bool, some (some 111, true), false⟩,
   ⟨some 116, .pick (.tmp 111) (.tmp 115) (.const (.bool false)), none, false⟩,
   ⟨some 2, .assign (.tmp 116), none, false⟩])
  .ret)))))))))
theorem k_loupelaw05_OrderSorted : FnOk Try.prog f_loupelaw05_OrderSorted 117 [.tmp 2] c_loupelaw05_OrderSorted := ⟨_, _, Try.func6, by kernel_rfl, rfl, Try.ntmps6, rfl, by kernel_rfl⟩

def c_loupelaw05_OrderJoined : LC :=
  (.seq (.reg [⟨some 2, .assign (.const (.bool false)), none, false⟩])
  (.seq (.seq (.reg [⟨some 7, .move (.tmp 0), none, false⟩,
   ⟨some 8, .call ⟨.value (.func f_louperef02_All), ⟨[(.tmp 7), (.const (.int .i64 60))]⟩, ⟨[t_L_api_Val, t_int]⟩⟩, none, false⟩,
   ⟨some 9, .unOp .not t_bool (.tmp 8), none, false⟩])
  (.cond (.tmp 9)
   (.seq (.reg [⟨some 10, .call ⟨.value (.func f_loupelaw05_alive), ⟨[]⟩, ⟨[]⟩⟩, none, false⟩,
    ⟨some 2, .assign (.tmp 10), none, false⟩])
   .ret)
   .skip))
  (.seq (.reg [⟨some 11, .move (.tmp 0), none, false⟩,
   ⟨some 12, .call ⟨.value (.func f_order_Groups), ⟨[(.tmp 11)]⟩, ⟨[t_L_api_Val]⟩⟩, none, false⟩,
   ⟨some 3, .assign (.tmp 12), none, false⟩])
  (.seq (.reg [⟨some 13, .buildSlice t_L_int 0 ⟨[]⟩, none, true⟩,
   ⟨some 4, .assign (.tmp 13), none, false⟩])
  (.seq (.seq (.reg [⟨some 5, .assign (.const (.int .i64 0)), none, false⟩])
  (.block 0 (.loop [true, false, false, true, true, true, false, false, false, false, false, false, false, false, false, false, false, false, false, false, false, false, false, false, false, false, false, false, false, false, false, false, false, false, false, false, false, false, false, false, false, false, false, false, false, false, false, false, false, false, false, false, false, false, false, false, false, false, false, false, false, false, false, false, false, false, false, false, false, false, false, false, false, false, false, false, false, false, false, false, false, false, false, false, false, false, false, false, false, false, false, false, false, false, false, false, false, false, false, false, false, false, false, false, false, false, false, false, false, false, false, false, false, false, false, false] none
   (.seq (.seq (.reg [⟨some 14, .move (.tmp 5), none, false⟩,
     ⟨some 15, .move (.tmp 3), none, false⟩,
     ⟨some 16, .call ⟨.builtin .len, ⟨[(.tmp 15)]⟩, ⟨[t_L_L_int]⟩⟩, none, false⟩,
     ⟨some 17, .binOp .lss t_int (.tmp 14) (.tmp 16) t_int, none, false⟩])
    (.cond (.tmp 17)
     .skip
     (.exit 0)))
    (.seq (.block 1 (.seq (.seq (.reg [⟨some 20, .move (.tmp 3), none, false⟩,
      ⟨some 21, .move (.tmp 5), none, false⟩,
      ⟨some 22, .indexAddr t_L_L_int (.tmp 20) (.tmp 21), none, false⟩,
      ⟨some 23, .load t_L_int (.tmp 22), none, false⟩,
      ⟨some 24, .call ⟨.builtin .len, ⟨[(.tmp 23)]⟩, ⟨[t_L_int]⟩⟩, none, false⟩,
      ⟨some 25, .binOp .eql t_int (.tmp 24) (.const (.int .i64 0)) t_int, none, false⟩])
     (.cond (.tmp 25)
      (.seq (.reg [⟨some 2, .assign (.const (.bool false)), none, false⟩])
      .ret)
      .skip))
     (.seq (.seq (.reg [⟨some 6, .assign (.const (.int .i64 0)), none, false⟩])
     (.block 2 (.loop [true, false, false, true, true, true, true, false, false, false, false, false, false, false, false, false, false, false, false, false, false, false, false, false, false, false, false, false, false, false, false, false, false, false, false, false, false, false, false, false, false, false, false, false, false, false, false, false, false, false, false, false, false, false, false, false, false, false, false, false, false, false, false, false, false, false, false, false, false, false, false, false, false, false, false, false, false, false, false, false, false, false, false, false, false, false, false, false, false, false, false, false, false, false, false, false, false, false, false, false, false, false, false, false, false, false, false, false, false, false, false, false, false, false, false, false] none
      (.seq (.seq (.reg [⟨some 26, .move (.tmp 6), none, false⟩,
        ⟨some 27, .move (.tmp 3), none, false⟩,
        ⟨some 28, .move (.tmp 5), none, false⟩,
        ⟨some 29, .indexAddr t_L_L_int (.tmp 27) (.tmp 28), none, false⟩,
        ⟨some 30, .load t_L_int (.tmp 29), none, false⟩,
        ⟨some 31, .call ⟨.builtin .len, ⟨[(.tmp 30)]⟩, ⟨[t_L_int]⟩⟩, none, false⟩,
        ⟨some 32, .binOp .lss t_int (.tmp 26) (.tmp 31) t_int, none, false⟩])
       (.cond (.tmp 32)
        .skip
        (.exit 2)))
       (.seq (.block 3 (.seq (.draw [⟨some 35, .move (.tmp 3), none, false⟩,
         ⟨some 36, .move (.tmp 5), none, false⟩,
         ⟨some 37, .indexAddr t_L_L_int (.tmp 35) (.tmp 36), none, false⟩,
         ⟨some 38, .load t_L_int (.tmp 37), none, false⟩,
         ⟨some 39, .move (.tmp 6), none, false⟩,
         ⟨some 40, .indexAddr t_L_int (.tmp 38) (.tmp 39), none, false⟩,
         ⟨some 41, .load t_int (.tmp 40), none, false⟩,
         ⟨some 42, .binOp .lss t_int (.tmp 41) (.const (.int .i64 0)) t_int, none, false⟩,
         ⟨some 43, .move (.tmp 42), none, false⟩,
         ⟨some 44, .move (.tmp 3), some (some 43, false), false⟩,
         ⟨some 45, .move (.tmp 5), some (some 43, false), false⟩,
         ⟨some 46, .indexAddr t_L_L_int (.tmp 44) (.tmp 45), some (some 43, false), false⟩,
         ⟨some 47, .load t_L_int (.tmp 46), some (some 43, false), false⟩,
         ⟨some 48, .move (.tmp 6), some (some 43, false), false⟩,
         ⟨some 49, .indexAddr t_L_int (.tmp 47) (.tmp 48), some (some 43, false), false⟩,
         ⟨some 50, .load t_int (.tmp 49), some (some 43, false), false⟩,
         ⟨some 51, .move (.tmp 0), some (some 43, false), false⟩,
         ⟨some 52, .call ⟨.builtin .len, ⟨[(.tmp 51)]⟩, ⟨[t_L_api_Val]⟩⟩, some (some 43, false), false⟩,
         ⟨some 53, .binOp .geq t_int (.tmp 50) (.tmp 52) t_int, some (some 43, false), false⟩,
         ⟨some 54, .pick (.tmp 43) (.const (.bool true)) (.tmp 53), none, false⟩,
         ⟨some 55, .move (.tmp 54), none, false⟩,
         ⟨some 56, .move (.tmp 0), some (some 55, false), false⟩,
         ⟨some 57, .move (.tmp 3), some (some 55, false), false⟩,
         ⟨some 58, .move (.tmp 5), some (some 55, false), false⟩,
         ⟨some 59, .indexAddr t_L_L_int (.tmp 57) (.tmp 58), some (some 55, false), false⟩,
         ⟨some 60, .load t_L_int (.tmp 59), some (some 55, false), false⟩,
         ⟨some 61, .move (.tmp 6), some (some 55, false), false⟩,
         ⟨some 62, .indexAddr t_L_int (.tmp 60) (.tmp 61), some (some 55, false), false⟩,
         ⟨some 63, .load t_int (.tmp 62), some (some 55, false), false⟩,
         ⟨some 64, .indexAddr t_L_api_Val (.tmp 56) (.tmp 63), some (some 55, false), false⟩,
         ⟨some 65, .load t_api_Val (.tmp 64), some (some 55, false), false⟩,
         ⟨some 66, .move (.tmp 0), some (some 55, false), false⟩,
         ⟨some 67, .move (.tmp 3), some (some 55, false), false⟩,
         ⟨some 68, .move (.tmp 5), some (some 55, false), false⟩,
         ⟨some 69, .indexAddr t_L_L_int (.tmp 67) (.tmp 68), some (some 55, false), false⟩,
         ⟨some 70, .load t_L_int (.tmp 69), some (some 55, false), false⟩,
         ⟨some 71, .indexAddr t_L_int (.tmp 70) (.const (.int .i64 0)), some (some 55, false), false⟩,
         ⟨some 72, .load t_int (.tmp 71), some (some 55, false), false⟩,
         ⟨some 73, .indexAddr t_L_api_Val (.tmp 66) (.tmp 72), some (some 55, false), false⟩,
         ⟨some 74, .load t_api_Val (.tmp 73), some (some 55, false), false⟩,
         ⟨some 75, .call ⟨.value (.func f_louperef02_Same), ⟨[(.tmp 65), (.tmp 74)]⟩, ⟨[t_api_Val, t_api_Val]⟩⟩, some (some 55, false), false⟩,
         ⟨some 76, .unOp .not t_bool (.tmp 75), some (some 55, false), false⟩,
         ⟨some 77, .pick (.tmp 55) (.const (.bool true)) (.tmp 76), none, false⟩]
        [0, 1, 0, 0, 15, 0, 0, 0, 0, 0, 512, 0, 0, 7680, 0, 0, 65024, 65024, 0, 0, 0, 0, 2097152, 6291456, 2097152, 2097152, 65011712, 2097152, 2097152, 0, 0, 2145386496, 4292870144, 8587837440, 4292870144, 4292870144, 4292870144, 4292870144, 2145386496, 2145386496, 0, 0, 0])
        (.cond (.tmp 77)
         (.seq (.reg [⟨some 2, .assign (.const (.bool false)), none, false⟩])
         .ret)
         .skip)))
       (.reg [⟨some 33, .move (.tmp 6), none, false⟩,
        ⟨some 34, .binOp .add t_int (.tmp 33) (.const (.int .i64 1)) t_int, none, false⟩,
        ⟨some 6, .assign (.tmp 34), none, false⟩]))))))
     (.seq (.seq (.draw [⟨some 78, .move (.tmp 5), none, false⟩,
      ⟨some 79, .binOp .gtr t_int (.tmp 78) (.const (.int .i64 0)) t_int, none, false⟩,
      ⟨some 80, .move (.tmp 79), none, false⟩,
      ⟨some 81, .move (.tmp 0), some (some 80, true), false⟩,
      ⟨some 82, .move (.tmp 3), some (some 80, true), false⟩,
      ⟨some 83, .move (.tmp 5), some (some 80, true), false⟩,
      ⟨some 84, .binOp .sub t_int (.tmp 83) (.const (.int .i64 1)) t_int, some (some 80, true), false⟩,
      ⟨some 85, .indexAddr t_L_L_int (.tmp 82) (.tmp 84), some (some 80, true), false⟩,
      ⟨some 86, .load t_L_int (.tmp 85), some (some 80, true), false⟩,
      ⟨some 87, .indexAddr t_L_int (.tmp 86) (.const (.int .i64 0)), some (some 80, true), false⟩,
      ⟨some 88, .load t_int (.tmp 87), some (some 80, true), false⟩,
      ⟨some 89, .indexAddr t_L_api_Val (.tmp 81) (.tmp 88), some (some 80, true), false⟩,
      ⟨some 90, .load t_api_Val (.tmp 89), some (some 80, true), false⟩,
      ⟨some 91, .move (.tmp 0), some (some 80, true), false⟩,
      ⟨some 92, .move (.tmp 3), some (some 80, true), false⟩,
      ⟨some 93, .move (.tmp 5), some (some 80, true), false⟩,
      ⟨some 94, .indexAddr t_L_L_int (.tmp 92) (.tmp 93), some (some 80, true), false⟩,
      ⟨some 95, .load t_L_int (.tmp 94), some (some 80, true), false⟩,
      ⟨some 96, .indexAddr t_L_int (.tmp 95) (.const (.int .i64 0)), some (some 80, true), false⟩,
      ⟨some 97, .load t_int (.tmp 96), some (some 80, true), false⟩,
      ⟨some 98, .indexAddr t_L_api_Val (.tmp 91) (.tmp 97), some (some 80, true), false⟩,
      ⟨some 99, .load t_api_Val (.tmp 98), some (some 80, true), false⟩,
      ⟨some 100, .call ⟨.value (.func f_order_Cmp), ⟨[(.tmp 90), (.tmp 99)]⟩, ⟨[t_api_Val, t_api_Val]⟩⟩, some (some 80, true), false⟩,
      ⟨some 101, .binOp .geq t_int (.tmp 100) (.const (.int .i64 0)) t_int, some (some 80, true), false⟩,
      ⟨some 102, .pick (.tmp 80) (.tmp 101) (.const (.bool false)), none, false⟩]
     [0, 0, 0, 0, 8, 24, 24, 8, 8, 8, 8, 0, 0, 8184, 16376, 32760, 16376, 16376, 16376, 16376, 8184, 8184, 0, 0, 0])
     (.cond (.tmp 102)
      (.seq (.reg [⟨some 2, .assign (.const (.bool false)), none, false⟩])
      .ret)
      .skip))
     (.reg [⟨some 103, .move (.tmp 4), none, false⟩,
      ⟨some 104, .move (.tmp 3), none, false⟩,
      ⟨some 105, .move (.tmp 5), none, false⟩,
      ⟨some 106, .indexAddr t_L_L_int (.tmp 104) (.tmp 105), none, false⟩,
      ⟨some 107, .load t_L_int (.tmp 106), none, false⟩,
      ⟨some 108, .call ⟨.builtin .append, ⟨[(.tmp 103), (.tmp 107)]⟩, ⟨[t_L_int, t_L_int]⟩⟩, none, false⟩,
      ⟨some 4, .assign (.tmp 108), none, false⟩])))))
    (.reg [⟨some 18, .move (.tmp 5), none, false⟩,
     ⟨some 19, .binOp .add t_int (.tmp 18) (.const (.int .i64 1)) t_int, none, false⟩,
     ⟨some 5, .assign (.tmp 19), none, false⟩]))))))
  (.seq (.weak (.reg [⟨some 109, .call ⟨.value (.func f_loupelaw05_alive), ⟨[]⟩, ⟨[]⟩⟩, none, false⟩,
   ⟨some 110, .move (.tmp 109), none, false⟩,
   ⟨some 111, .move (.tmp 4), some (some 110, true), false⟩,
   ⟨some 112, .move (.tmp 0), some (some 110, true), false⟩,
   ⟨some 113, .call ⟨.value (.func f_order_Sort), ⟨[(.tmp 112)]⟩, ⟨[t_L_api_Val]⟩⟩, some (some 110, true), false⟩,
   ⟨some 114, .call ⟨.value (.func f_louperef05_Ints), ⟨[(.tmp 111), (.tmp 113)]⟩, ⟨[t_L_int, t_L_int]⟩⟩, some (some 110, true), false⟩,
   ⟨some 115, .pick (.tmp 110) (.tmp 114) (.const (.bool false)), none, false⟩,
   ⟨some 2, .assign (.tmp 115), none, false⟩]))
  .ret))))))
theorem k_loupelaw05_OrderJoined : FnOk Try.prog f_loupelaw05_OrderJoined 116 [.tmp 2] c_loupelaw05_OrderJoined := ⟨_, _, Try.func7, by kernel_rfl, rfl, Try.ntmps7, rfl, by kernel_rfl⟩

end Lp

/-! LpW25 -/

namespace Lp
open Go Go.Proofs

set_option maxHeartbeats 4000000
set_option maxRecDepth 20000
set_option linter.unusedSimpArgs false

/-- Are the keys at two places the same? -/
def sameK (num : Nd → Nd → Int) (f : Nat) (keys : List Vl) (x y : Int) : Bool := match keys[x.toNat]?, keys[y.toNat]? with
  | some a, some b => decide (cmpW num f a b = 0)
  | _, _ => false

/-- Groups of what is the same as the group's first: done ones, the last one, what is to come. -/
def grpF (same : Int → Int → Bool) : List (List Int) → Int → List Int → List Int → List (List Int)
  | D, c, cs, [] => D ++ [c :: cs]
  | D, c, cs, x :: l => if same x c then grpF same D c (cs ++ [x]) l else grpF same (D ++ [c :: cs]) x [] l

def groupsF (same : Int → Int → Bool) : List Int → List (List Int)
  | [] => []
  | x :: l => grpF same [] x [] l

def groupsV (f : Nat) (keys : List Vl) : List (List Int) := groupsF (sameK numN f keys) (sortV f keys)

theorem sortV_len (f : Nat) (keys : List Vl) : (sortV f keys).length = keys.length := by
  rw [sortV, (sortF_perm _ _ _).length_eq]; simp [places]

theorem sortV_in (f : Nat) (keys : List Vl) : ∀ x ∈ sortV f keys, InL keys x := by
  intro x hx
  rw [sortV, (sortF_perm _ _ _).mem_iff, places, List.mem_map] at hx
  obtain ⟨i, hi, rfl⟩ := hx
  rw [List.mem_range] at hi
  exact ⟨by omega, by omega⟩

theorem tmA_same {n : Nat} {l m : List (Nat × PV)} (h : ∀ i, lkA l i = lkA m i) : tmA n l = tmA n m :=
  tmA_ext (by simp [tmA_length]) fun i hi => by rw [tmA_get, if_pos hi, h]

/-- The groups' list, and the last group's, as they lie. -/
def outO (D : List (List Int)) (v u : Nat) : Obj := ⟨t_L_int, 1, D.map encI ++ [.osl 1 v], true, u⟩
def grpO (g : List Int) (v : Nat) : Obj := ⟨t_int, 1, g.map (.int .i64), true, v⟩

theorem mapI (f : PV → PV) (hf : ∀ l, f (encI l) = encI l) (D : List (List Int)) : (D.map encI).map (PV.mapCells f) = D.map encI := by
  rw [List.map_map]
  exact List.map_congr_left fun x _ => hf x

theorem outO_frz (d n : Nat) (O : List Obj) (D : List (List Int)) (v u : Nat) (h : 1 < n) : frzO d n O (outO D v u) = outO D v u := by
  unfold frzO outO
  simp only [List.map_append, mapI (frz d n O) (fun _ => rfl), List.map_cons, List.map_nil, PV.mapCells, frz, if_pos h]

theorem grpO_frz (d n : Nat) (O : List Obj) (g : List Int) (v : Nat) : frzO d n O (grpO g v) = grpO g v := by
  unfold frzO grpO
  simp only [List.map_map, Obj.mk.injEq, true_and, and_true]
  exact List.map_congr_left fun x _ => rfl

/-- The last group becomes one of the others. -/
theorem outO_done (d : Nat) (D : List (List Int)) (g : List Int) (v u : Nat) (rest : List Obj) :
    frzO (d + 1) 1 (outO D v u :: grpO g v :: rest) (outO D v u) = ⟨t_L_int, 1, (D ++ [g]).map encI, true, u⟩ := by
  unfold frzO
  simp only [outO, List.map_append, mapI (frz (d + 1) 1 _) (fun _ => rfl), List.map_cons, List.map_nil, PV.mapCells]
  have e : frz (d + 1) 1 (⟨t_L_int, 1, List.map encI D ++ [PV.osl 1 v], true, u⟩ :: grpO g v :: rest) (PV.osl 1 v) = encI g := by
    simp only [frz, Nat.lt_irrefl, if_false, frzI, List.getElem?_cons_succ, List.getElem?_cons_zero, grpO, Nat.le_refl, decide_true, Bool.and_self, BEq.rfl, if_true, encI, List.map_map]
    congr 1
    exact List.map_congr_left fun x _ => by cases d <;> rfl
  rw [e]

theorem out_end (D : List (List Int)) (g : List Int) (v u : Nat) : frzT 2 0 [outO D v u, grpO g v] (.osl 0 u) = encG (D ++ [g]) := by
  have : frzT 2 0 [outO D v u, grpO g v] (.osl 0 u) = .sl 1 ((D.map encI ++ [PV.osl 1 v]).map (PV.mapCells (frzI 1 0 [outO D v u, grpO g v]))) none := by
    simp only [frzT, frz, Nat.not_lt_zero, if_false, frzI, List.getElem?_cons_zero, outO, Nat.le_refl, decide_true, Bool.and_self, BEq.rfl, if_true]
  rw [this, List.map_append, mapI _ (fun _ => rfl)]
  simp only [encG, List.map_append, List.map_cons, List.map_nil]
  have e : PV.mapCells (frzI 1 0 [outO D v u, grpO g v]) (PV.osl 1 v) = encI g := by
    simp only [PV.mapCells, frzI, List.getElem?_cons_succ, List.getElem?_cons_zero, grpO, Nat.zero_le, decide_true, Bool.and_self, BEq.rfl, if_true, encI, List.map_map]
    congr 1
  rw [e]

theorem out_end0 (u : Nat) : frzT 2 0 [⟨t_L_int, 1, [], true, u⟩] (.osl 0 u) = encG [] := by
  simp only [frzT, frz, Nat.not_lt_zero, if_false, frzI, List.getElem?_cons_zero, Nat.le_refl, decide_true, Bool.and_self, BEq.rfl, if_true]
  rfl

theorem outR (D : List (List Int)) (v u : Nat) : (outO D v u).live = true ∧ (outO D v u).ver = u ∧ (outO D v u).ty = t_L_int ∧ (outO D v u).sz = 1 ∧ (outO D v u).xs.length = D.length + 1 ∧ (outO D v u).xs[D.length]? = some (.osl 1 v) := by
  refine ⟨rfl, rfl, rfl, rfl, by simp [outO], ?_⟩
  simp only [outO]
  rw [List.getElem?_append_right (by simp)]
  simp

theorem grpR (c : Int) (cs : List Int) (v : Nat) : (grpO (c :: cs) v).live = true ∧ (grpO (c :: cs) v).ver = v ∧ (grpO (c :: cs) v).ty = t_int ∧ (grpO (c :: cs) v).sz = 1 ∧ (grpO (c :: cs) v).xs.length = cs.length + 1 ∧ (grpO (c :: cs) v).xs[0]? = some (.int .i64 c) :=
  ⟨rfl, rfl, rfl, rfl, by simp [grpO], rfl⟩

theorem groups_spec (f : Nat) (keys : List Vl) (hk : OkL f keys) (hl : keys.length ≤ 1000000) : FnSpec Try.prog f_order_Groups [encL keys] [] (encG (groupsV f keys)) [] := by
  have hlen := sortV_len f keys
  have hin := sortV_in f keys
  have hgv : groupsV f keys = groupsF (sameK numN f keys) (sortV f keys) := rfl
  refine k_order_Groups.pureG (T := tabL Try.prog [(f_order_Sort, (ctrSort f)), (f_order_Cmp, (ctrOrdCmp f))]) 2 hD (kOk_tabL (tabOk_cons (ctrSort_ok f) (tabOk_cons (ctrOrdCmp_ok f) tabOk_nil))) hmix (by decide) fun Q hQ => ?_
  try simp only [F_all]
  simp (maxSteps := 400000) only [↓preZ, postZ, coreZ, ↓preU, postU, D_all, F_all, unR, outL, onePV, binS, ↓binS, boundR, ↓boundR, fieldOf, ↓fieldOf, boxR, allocR, newObj, zeroElem, buildSliceR, appendR, setAll, storeR, St.freeze, makeSliceR, minmaxR, makeFuncR, BEq.rfl, reduceIte, reduceCtorEq, Nat.reduceLT, Nat.reduceAdd, Nat.reduceSub, Nat.reduceMul, Nat.reduceBEq, Nat.reduceLeDiff, Int.reduceToNat, Int.reduceLE, hQ, c_order_Groups, ↓ctrSort]
  generalize sortV f keys = l at *
  refine ⟨hk, hl, ?_⟩
  refine wpc_loopW (hz := Nat.zero_le _) ⟨tmA 54 [(0, encL keys), (3, .osl 0 0), (8, encI l), (9, .int .i64 l.length), (10, .int .i64 0)], [⟨t_L_int, 1, [], true, 0⟩]⟩ l.length ?_ ?_ ?_
    (I := fun m S => ∃ i : Nat, i + m = l.length ∧ ((i = 0 ∧ S = ⟨tmA 54 [(0, encL keys), (3, .osl 0 0), (8, encI l), (9, .int .i64 l.length), (10, .int .i64 i)], [⟨t_L_int, 1, [], true, 0⟩]⟩) ∨
      ∃ D c cs u v, grpF (sameK numN f keys) D c cs (l.drop i) = groupsF (sameK numN f keys) l ∧ D.length + 1 ≤ i ∧ cs.length + 1 ≤ i ∧ InL keys c ∧
      S = ⟨tmA 54 [(0, encL keys), (3, .osl 0 u), (8, encI l), (9, .int .i64 l.length), (10, .int .i64 i)], [outO D v u, grpO (c :: cs) v]⟩))
  · simp (maxSteps := 400000) only [↓preZ, postZ, coreZ, ↓preU, postU, D_all, F_all, unR, outL, onePV, binS, ↓binS, boundR, ↓boundR, fieldOf, ↓fieldOf, boxR, allocR, newObj, zeroElem, buildSliceR, appendR, setAll, storeR, St.freeze, makeSliceR, minmaxR, makeFuncR, BEq.rfl, reduceIte, reduceCtorEq, Nat.reduceLT, Nat.reduceAdd, Nat.reduceSub, Nat.reduceMul, Nat.reduceBEq, Nat.reduceLeDiff, Int.reduceToNat, Int.reduceLE, List.take_nil]
    refine (Weak.adopt 3 t_L_int 1 (by rfl)).trans ?_
    rw [taR2.1, tmA_same (m := [(0, encL keys), (3, .osl 0 0), (8, encI l), (9, .int .i64 l.length), (10, .int .i64 0)])]
    · exact Weak.refl _ _
    · intro i
      simp only [lkA]
      by_cases h3 : i = 3
      · subst h3; rfl
      · simp only [h3, if_false]
  · exact ⟨0, by omega, .inl ⟨rfl, rfl⟩⟩
  have z1 : ∀ d O v, frz d 1 O (.osl 0 v) = .osl 0 v := fun _ _ _ => rfl
  have z2 : ∀ d O v, frz d 2 O (.osl 0 v) = .osl 0 v := fun _ _ _ => rfl
  have z3 : ∀ d n O u, frzO d n O ⟨t_L_int, 1, [], true, u⟩ = ⟨t_L_int, 1, [], true, u⟩ := fun _ _ _ _ => rfl
  rintro m S ⟨i, him, hcase⟩
  rcases Nat.lt_or_ge i l.length with h | h
  rotate_left 1
  · have hlt : ((i : Int) < (l.length : Int)) = False := eq_false (by omega)
    rcases hcase with ⟨rfl, rfl⟩ | ⟨D, c, cs, u, v, hg, hD, hcs, hc, rfl⟩
    · simp (maxSteps := 400000) only [↓preZ, postZ, coreZ, ↓preU, postU, D_all, F_all, unR, outL, onePV, binS, ↓binS, boundR, ↓boundR, fieldOf, ↓fieldOf, boxR, allocR, newObj, zeroElem, buildSliceR, appendR, setAll, storeR, St.freeze, makeSliceR, minmaxR, makeFuncR, BEq.rfl, reduceIte, reduceCtorEq, Nat.reduceLT, Nat.reduceAdd, Nat.reduceSub, Nat.reduceMul, Nat.reduceBEq, Nat.reduceLeDiff, Int.reduceToNat, Int.reduceLE, hQ, hlt]
      have e : l = [] := List.length_eq_zero_iff.1 (by omega)
      rw [hgv, e]
      exact (out_end0 0).symm
    · simp (maxSteps := 400000) only [↓preZ, postZ, coreZ, ↓preU, postU, D_all, F_all, unR, outL, onePV, binS, ↓binS, boundR, ↓boundR, fieldOf, ↓fieldOf, boxR, allocR, newObj, zeroElem, buildSliceR, appendR, setAll, storeR, St.freeze, makeSliceR, minmaxR, makeFuncR, BEq.rfl, reduceIte, reduceCtorEq, Nat.reduceLT, Nat.reduceAdd, Nat.reduceSub, Nat.reduceMul, Nat.reduceBEq, Nat.reduceLeDiff, Int.reduceToNat, Int.reduceLE, hQ, hlt]
      rw [hgv, ← hg, List.drop_eq_nil_of_le h]
      exact (out_end D (c :: cs) v u).symm
  have hlt : ((i : Int) < (l.length : Int)) = True := eq_true (by omega)
  have hgi := List.getElem?_eq_getElem h
  have hdr := List.drop_eq_getElem_cons h
  have hini := hin _ (List.getElem_mem h)
  generalize l[i] = x at hgi hdr hini
  rcases hcase with ⟨rfl, rfl⟩ | ⟨D, c, cs, u, v, hg, hD, hcs, hc, rfl⟩
  · have h0 : (((0 : Nat) : Int) = 0) = True := eq_true rfl
    simp (maxSteps := 400000) only [↓preZ, postZ, coreZ, ↓preU, postU, D_all, F_all, unR, outL, onePV, binS, ↓binS, boundR, ↓boundR, fieldOf, ↓fieldOf, boxR, allocR, newObj, zeroElem, buildSliceR, appendR, setAll, storeR, St.freeze, makeSliceR, minmaxR, makeFuncR, BEq.rfl, reduceIte, reduceCtorEq, Nat.reduceLT, Nat.reduceAdd, Nat.reduceSub, Nat.reduceMul, Nat.reduceBEq, Nat.reduceLeDiff, Int.reduceToNat, Int.reduceLE, hQ, hlt, hgi, h0]
    refine ⟨by omega, ⟨by omega, by omega⟩, ?_⟩
    refine wpc_weak _ (Weak.freeze 1 1 (Nat.zero_le _) _) ?_
    simp (maxSteps := 400000) only [↓preZ, postZ, coreZ, ↓preU, postU, D_all, F_all, unR, outL, onePV, binS, ↓binS, boundR, ↓boundR, fieldOf, ↓fieldOf, boxR, allocR, newObj, zeroElem, buildSliceR, appendR, setAll, storeR, St.freeze, makeSliceR, minmaxR, makeFuncR, BEq.rfl, reduceIte, reduceCtorEq, Nat.reduceLT, Nat.reduceAdd, Nat.reduceSub, Nat.reduceMul, Nat.reduceBEq, Nat.reduceLeDiff, Int.reduceToNat, Int.reduceLE, hQ, z1, z2, z3, List.take_succ_cons]
    refine ⟨fun k' v' hkv => by cases hkv; decide, ⟨by omega, by omega⟩, m - 1, by omega, 1, by omega, .inr ⟨[], x, [], 1, 1, ?_, by simp, by simp, hini, ?_⟩⟩
    · rw [List.drop_zero] at hdr
      rw [hdr]; rfl
    · show St.mk _ [frzO 1 2 _ (outO [] 1 1), frzO 1 2 _ (grpO [x] 1)] = _
      rw [outO_frz _ _ _ _ _ _ (by decide), grpO_frz]
      rfl
  · have h0 : ((i : Int) = 0) = False := eq_false (by omega)
    obtain ⟨x, rfl⟩ : ∃ k : Nat, x = k := ⟨x.toNat, by have := hini.1; omega⟩
    obtain ⟨c, rfl⟩ : ∃ k : Nat, c = k := ⟨c.toNat, by have := hc.1; omega⟩
    have lx : x < keys.length := by have := hini.2; omega
    have lc : c < keys.length := by have := hc.2; omega
    have kx := List.getElem?_eq_getElem lx
    have kc := List.getElem?_eq_getElem lc
    have ox := hk.2 _ (List.getElem_mem lx)
    have oc := hk.2 _ (List.getElem_mem lc)
    generalize keys[x] = a at kx ox
    generalize keys[c] = b at kc oc
    have t1 : (((D.length + 1 : Nat) : Int) - 1).toNat = D.length := by omega
    have t2 : Int.toNat 0 = 0 := rfl
    have zx : (0 ≤ (x : Int)) = True := eq_true (by omega)
    have zc : (0 ≤ (c : Int)) = True := eq_true (by omega)
    have hsame : sameK numN f keys x c = decide (cmpV f a b = 0) := by
      simp only [sameK, Int.toNat_natCast, kx, kc]
    rw [hdr, grpF, hsame] at hg
    by_cases h1 : cmpV f a b = 0
    · have e1 : (cmpV f a b = 0) = True := eq_true h1
      rw [decide_eq_true h1, if_pos rfl] at hg
      have s1 : (outO D v u).xs.set D.length ((PV.osl 1 v).putCells 0 [PV.osl 1 (v + 1)]) = (outO D (v + 1) u).xs := by
        simp only [outO, PV.putCells, List.getD_cons_zero]
        rw [List.set_append_right _ _ (by simp)]
        simp
      have s2 : (grpO ((c : Int) :: cs) v).xs ++ [.int .i64 (x : Int)] = (grpO ((c : Int) :: (cs ++ [(x : Int)])) (v + 1)).xs := by simp [grpO]
      have hcl : cs.length ≤ l.length := by omega
      simp (maxSteps := 400000) only [↓preZ, postZ, coreZ, ↓preU, postU, D_all, F_all, unR, outL, onePV, binS, ↓binS, boundR, ↓boundR, fieldOf, ↓fieldOf, boxR, allocR, newObj, zeroElem, buildSliceR, appendR, setAll, storeR, St.freeze, makeSliceR, minmaxR, makeFuncR, BEq.rfl, reduceIte, reduceCtorEq, Nat.reduceLT, Nat.reduceAdd, Nat.reduceSub, Nat.reduceMul, Nat.reduceBEq, Nat.reduceLeDiff, Int.reduceToNat, Int.reduceLE, hQ, hlt, hgi, h0, ↓ctrOrdCmp, outR, grpR, kx, kc, t1, t2, zx, zc, e1, z2, s1, s2, List.take_succ_cons]
      refine ⟨by omega, ⟨by omega, by omega⟩, by omega, by omega, by omega, ox.1, ox.2, oc.2, by omega, by omega, by omega, by omega, by omega, by omega, ⟨by omega, by omega⟩, m - 1, by omega, i + 1, by omega, .inr ⟨D, c, cs ++ [(x : Int)], u, v + 1, hg, by omega, by simp; omega, hc, ?_⟩⟩
      show St.mk _ [frzO 1 2 _ (outO D (v + 1) u), frzO 1 2 _ (grpO ((c : Int) :: (cs ++ [(x : Int)])) (v + 1))] = _
      rw [outO_frz _ _ _ _ _ _ (by decide), grpO_frz]
      rfl
    · have e1 : (cmpV f a b = 0) = False := eq_false h1
      rw [decide_eq_false h1, if_neg (by simp)] at hg
      simp (maxSteps := 400000) only [↓preZ, postZ, coreZ, ↓preU, postU, D_all, F_all, unR, outL, onePV, binS, ↓binS, boundR, ↓boundR, fieldOf, ↓fieldOf, boxR, allocR, newObj, zeroElem, buildSliceR, appendR, setAll, storeR, St.freeze, makeSliceR, minmaxR, makeFuncR, BEq.rfl, reduceIte, reduceCtorEq, Nat.reduceLT, Nat.reduceAdd, Nat.reduceSub, Nat.reduceMul, Nat.reduceBEq, Nat.reduceLeDiff, Int.reduceToNat, Int.reduceLE, hQ, hlt, hgi, h0, ↓ctrOrdCmp, outR, grpR, kx, kc, t1, t2, zx, zc, e1]
      refine ⟨by omega, ⟨by omega, by omega⟩, by omega, by omega, by omega, ox.1, ox.2, oc.2, ?_⟩
      refine wpc_weak _ (Weak.freeze 1 1 (Nat.zero_le _) _) ?_
      simp (maxSteps := 400000) only [↓preZ, postZ, coreZ, ↓preU, postU, D_all, F_all, unR, outL, onePV, binS, ↓binS, boundR, ↓boundR, fieldOf, ↓fieldOf, boxR, allocR, newObj, zeroElem, buildSliceR, appendR, setAll, storeR, St.freeze, makeSliceR, minmaxR, makeFuncR, BEq.rfl, reduceIte, reduceCtorEq, Nat.reduceLT, Nat.reduceAdd, Nat.reduceSub, Nat.reduceMul, Nat.reduceBEq, Nat.reduceLeDiff, Int.reduceToNat, Int.reduceLE, hQ, z1, z2, outO_done, List.take_succ_cons]
      refine ⟨by omega, by omega, fun k' v' hkv => by cases hkv; decide, ⟨by omega, by omega⟩, m - 1, by omega, i + 1, by omega, .inr ⟨D ++ [(c : Int) :: cs], x, [], u + 1, 1, hg, by simp; omega, by simp, hini, ?_⟩⟩
      show St.mk _ [frzO 1 2 _ (outO (D ++ [(c : Int) :: cs]) 1 (u + 1)), frzO 1 2 _ (grpO [(x : Int)] 1)] = _
      rw [outO_frz _ _ _ _ _ _ (by decide), grpO_frz]
      rfl

def ctrGroups (f : Nat) : Ctr := fun args objs K => match args with
  | [a0] => ofE encL a0 (HK.mk : HK fun keys => (OkL f keys) ∧ (keys.length ≤ 1000000) ∧ K (encG (groupsV f keys)) objs 0)
  | _ => False
theorem ctrGroups_ok (f : Nat) : CtrOk Try.prog f_order_Groups (ctrGroups f) := by
  intro args objs K h
  unfold ctrGroups at h
  split at h
  · rename_i a0
    obtain ⟨keys, rfl, h1, h2, hk⟩ := h
    exact ⟨_, _, _, .pure _ rfl (groups_spec f keys h1 h2), hk⟩
  · exact h.elim
end Lp

/-! LpW14 -/

namespace Lp
open Go Go.Proofs

set_option maxHeartbeats 4000000
set_option maxRecDepth 20000
set_option linter.unusedSimpArgs false

theorem u8c (c : UInt8) (n : Nat) (h : n < 256) : (c < UInt8.ofNat n ↔ c.toNat < n) ∧ (UInt8.ofNat n ≤ c ↔ n ≤ c.toNat) := by
  have e : (UInt8.ofNat n).toNat = n := by simp [UInt8.toNat_ofNat']; omega
  constructor
  · rw [UInt8.lt_iff_toNat_lt, e]
  · rw [UInt8.le_iff_toNat_le, e]

theorem contB_some {s : List UInt8} {i : Nat} {c : UInt8} (h : s[i]? = some c) : contB s i = (decide (128 ≤ c.toNat) && decide (c.toNat < 192)) := by
  have h1 : 128 ≤ c ↔ 128 ≤ c.toNat := (u8c c 128 (by omega)).2
  have h2 : c < 192 ↔ c.toNat < 192 := (u8c c 192 (by omega)).1
  simp only [contB, h]
  rw [decide_eq_decide.2 h1, decide_eq_decide.2 h2]

theorem cont_spec (s : List UInt8) (i : Int) (hi : 0 ≤ i) : FnSpec Try.prog f_louperef02_cont [.str s, .int .i64 i] [] (.bool (contB s i.toNat)) [] := by
  refine k_louperef02_cont.pure (T := tabL Try.prog []) 0 hD (kOk_tabL tabOk_nil) hmix (by decide) ?_
  try simp only [F_all]
  rcases Nat.lt_or_ge i.toNat s.length with h | h
  · have hg := List.getElem?_eq_getElem h
    generalize s[i.toNat] = c at hg
    simp (maxSteps := 400000) only [↓preZ, postZ, coreZ, ↓preU, postU, D_all, F_all, unR, outL, onePV, binS, ↓binS, boundR, ↓boundR, fieldOf, ↓fieldOf, boxR, allocR, newObj, zeroElem, buildSliceR, appendR, setAll, storeR, St.freeze, makeSliceR, minmaxR, makeFuncR, BEq.rfl, reduceIte, reduceCtorEq, Nat.reduceLT, Nat.reduceAdd, Nat.reduceSub, Nat.reduceMul, Nat.reduceBEq, Nat.reduceLeDiff, Int.reduceToNat, Int.reduceLE, c_louperef02_cont, hg, contB_some hg]
    refine ⟨fun _ => ⟨hi, fun h1 => ⟨hi, ?_⟩, fun h1 => ?_⟩, fun h2 => absurd (by omega) h2⟩
    · have : 128 ≤ c.toNat := by omega
      simp only [this, decide_true, Bool.true_and]
      exact decide_eq_decide.2 (by omega)
    · have : ¬ 128 ≤ c.toNat := by omega
      simp only [this, decide_false, Bool.false_and]
  · have hn : s[i.toNat]? = none := List.getElem?_eq_none h
    simp (maxSteps := 400000) only [↓preZ, postZ, coreZ, ↓preU, postU, D_all, F_all, unR, outL, onePV, binS, ↓binS, boundR, ↓boundR, fieldOf, ↓fieldOf, boxR, allocR, newObj, zeroElem, buildSliceR, appendR, setAll, storeR, St.freeze, makeSliceR, minmaxR, makeFuncR, BEq.rfl, reduceIte, reduceCtorEq, Nat.reduceLT, Nat.reduceAdd, Nat.reduceSub, Nat.reduceMul, Nat.reduceBEq, Nat.reduceLeDiff, Int.reduceToNat, Int.reduceLE, c_louperef02_cont]
    simp only [contB, hn]
    exact ⟨fun hh => absurd hh (by omega), fun _ => trivial⟩

def ctrCont : Ctr := fun args objs K => match args with
  | [.str s, .int .i64 i] => (0 ≤ i) ∧ K (.bool (contB s i.toNat)) objs 0
  | _ => False
theorem ctrCont_ok : CtrOk Try.prog f_louperef02_cont (ctrCont) := by
  intro args objs K h
  unfold ctrCont at h
  split at h
  · rename_i s i
    obtain ⟨h1, hk⟩ := h
    exact ⟨_, _, _, .pure _ rfl (cont_spec s i h1), hk⟩
  · exact h.elim

theorem contB_drop (s : List UInt8) (i k : Nat) : contB (s.drop i) k = contB s (i + k) := by
  simp only [contB, List.getElem?_drop]

theorem contB_get {s : List UInt8} {i : Nat} (h : contB s i = true) : ∃ d, s[i]? = some d := by
  unfold contB at h
  split at h
  · rename_i b hb; exact ⟨b, hb⟩
  · cases h

theorem rune_spec (s : List UInt8) (i : Nat) (hi : i < s.length) (hl : s.length ≤ 4611686018427387904) : FnSpec Try.prog f_louperef02_Rune [.str s, .int .i64 i] [] (.int .i64 (runeN (s.drop i) : Nat)) [] := by
  have hg := List.getElem?_eq_getElem hi
  have hd := List.drop_eq_getElem_cons hi
  generalize s[i] = c at hg hd
  have c0 : contB (s.drop (i + 1)) 0 = contB s (i + 1) := contB_drop s (i + 1) 0
  have c1 : contB (s.drop (i + 1)) 1 = contB s (i + 2) := contB_drop s (i + 1) 1
  have c2 : contB (s.drop (i + 1)) 2 = contB s (i + 3) := contB_drop s (i + 1) 2
  have n1 : ((i : Int) + 1).toNat = i + 1 := by omega
  have n2 : ((i : Int) + 2).toNat = i + 2 := by omega
  have n3 : ((i : Int) + 3).toNat = i + 3 := by omega
  have z0 : (0 ≤ (i : Int)) = True := eq_true (by omega)
  have z1 : (0 ≤ (i : Int) + 1) = True := eq_true (by omega)
  have z2 : (0 ≤ (i : Int) + 2) = True := eq_true (by omega)
  have z3 : (0 ≤ (i : Int) + 3) = True := eq_true (by omega)
  have i1 : (-9223372036854775808 ≤ (i : Int) + 1 ∧ (i : Int) + 1 ≤ 9223372036854775807) = True := eq_true ⟨by omega, by omega⟩
  have i2 : (-9223372036854775808 ≤ (i : Int) + 2 ∧ (i : Int) + 2 ≤ 9223372036854775807) = True := eq_true ⟨by omega, by omega⟩
  have i3 : (-9223372036854775808 ≤ (i : Int) + 3 ∧ (i : Int) + 3 ≤ 9223372036854775807) = True := eq_true ⟨by omega, by omega⟩
  suffices gen : ∀ Q : Exit → St → Prop, (∀ (l : List (Nat × PV)) (v : Nat), lkA l 4 = .int .i64 v → v = runeN (c :: s.drop (i + 1)) → Q .ret ⟨tmA 109 l, []⟩) →
      wpc Try.prog D (tabL Try.prog [(f_louperef02_cont, ctrCont)]) c_louperef02_Rune Q (startS [.str s, .int .i64 i] 109) by
    rw [hd]
    refine k_louperef02_Rune.pure (T := tabL Try.prog [(f_louperef02_cont, ctrCont)]) 0 hD (kOk_tabL (tabOk_cons ctrCont_ok tabOk_nil)) hmix (by decide) ?_
    try simp only [F_all]
    refine gen _ fun l v h1 h2 => ?_
    subst h2
    simp only [retR, outL, onePV, stR2, taR2, Nat.reduceLT, h1, List.map_cons, List.map_nil, frR]
  intro Q hQ
  have hc : c.toNat < 256 := c.toNat_lt
  have h6 : c.toNat < 128 ∨ (128 ≤ c.toNat ∧ c.toNat < 194) ∨ (194 ≤ c.toNat ∧ c.toNat < 224) ∨ (224 ≤ c.toNat ∧ c.toNat < 240) ∨ (240 ≤ c.toNat ∧ c.toNat < 245) ∨ 245 ≤ c.toNat := by omega
  rcases h6 with h | h | h | h | h | h
  · skip
    have f0 : (((c.toNat : Int) < 128) = True) := eq_true (by omega)
    have f1 : ((128 ≤ (c.toNat : Int)) = False) := eq_false (by omega)
    have f2 : ((c < 128) = True) := eq_true ((u8c c 128 (by omega)).1.2 (by omega))
    have f3 : ((128 ≤ c) = False) := eq_false fun hh => by have := (u8c c 128 (by omega)).2.1 hh; omega
    have f4 : (((c.toNat : Int) < 194) = True) := eq_true (by omega)
    have f5 : ((194 ≤ (c.toNat : Int)) = False) := eq_false (by omega)
    have f6 : ((c < 194) = True) := eq_true ((u8c c 194 (by omega)).1.2 (by omega))
    have f7 : ((194 ≤ c) = False) := eq_false fun hh => by have := (u8c c 194 (by omega)).2.1 hh; omega
    have f8 : (((c.toNat : Int) < 224) = True) := eq_true (by omega)
    have f9 : ((224 ≤ (c.toNat : Int)) = False) := eq_false (by omega)
    have f10 : ((c < 224) = True) := eq_true ((u8c c 224 (by omega)).1.2 (by omega))
    have f11 : ((224 ≤ c) = False) := eq_false fun hh => by have := (u8c c 224 (by omega)).2.1 hh; omega
    have f12 : (((c.toNat : Int) < 240) = True) := eq_true (by omega)
    have f13 : ((240 ≤ (c.toNat : Int)) = False) := eq_false (by omega)
    have f14 : ((c < 240) = True) := eq_true ((u8c c 240 (by omega)).1.2 (by omega))
    have f15 : ((240 ≤ c) = False) := eq_false fun hh => by have := (u8c c 240 (by omega)).2.1 hh; omega
    have f16 : (((c.toNat : Int) < 245) = True) := eq_true (by omega)
    have f17 : ((245 ≤ (c.toNat : Int)) = False) := eq_false (by omega)
    have f18 : ((c < 245) = True) := eq_true ((u8c c 245 (by omega)).1.2 (by omega))
    have f19 : ((245 ≤ c) = False) := eq_false fun hh => by have := (u8c c 245 (by omega)).2.1 hh; omega
    simp (maxSteps := 400000) only [↓preZ, postZ, coreZ, ↓preU, postU, D_all, F_all, unR, outL, onePV, binS, ↓binS, boundR, ↓boundR, fieldOf, ↓fieldOf, boxR, allocR, newObj, zeroElem, buildSliceR, appendR, setAll, storeR, St.freeze, makeSliceR, minmaxR, makeFuncR, BEq.rfl, reduceIte, reduceCtorEq, Nat.reduceLT, Nat.reduceAdd, Nat.reduceSub, Nat.reduceMul, Nat.reduceBEq, Nat.reduceLeDiff, Int.reduceToNat, Int.reduceLE, c_louperef02_Rune, hg, ↓ctrCont, n1, n2, n3, z0, z1, z2, z3, i1, i2, i3, f0, f1, f2, f3, f4, f5, f6, f7, f8, f9, f10, f11, f12, f13, f14, f15, f16, f17, f18, f19]
    exact hQ _ 1 rfl (by simp only [true_or, or_true, or_self, or_false, false_or, and_self, true_and, and_true, false_and, and_false, if_true, if_false, Bool.false_eq_true, c0, c1, c2, runeN, f0, f1, f2, f3, f4, f5, f6, f7, f8, f9, f10, f11, f12, f13, f14, f15, f16, f17, f18, f19])
  · skip
    have f0 : (((c.toNat : Int) < 128) = False) := eq_false (by omega)
    have f1 : ((128 ≤ (c.toNat : Int)) = True) := eq_true (by omega)
    have f2 : ((c < 128) = False) := eq_false fun hh => by have := (u8c c 128 (by omega)).1.1 hh; omega
    have f3 : ((128 ≤ c) = True) := eq_true ((u8c c 128 (by omega)).2.2 (by omega))
    have f4 : (((c.toNat : Int) < 194) = True) := eq_true (by omega)
    have f5 : ((194 ≤ (c.toNat : Int)) = False) := eq_false (by omega)
    have f6 : ((c < 194) = True) := eq_true ((u8c c 194 (by omega)).1.2 (by omega))
    have f7 : ((194 ≤ c) = False) := eq_false fun hh => by have := (u8c c 194 (by omega)).2.1 hh; omega
    have f8 : (((c.toNat : Int) < 224) = True) := eq_true (by omega)
    have f9 : ((224 ≤ (c.toNat : Int)) = False) := eq_false (by omega)
    have f10 : ((c < 224) = True) := eq_true ((u8c c 224 (by omega)).1.2 (by omega))
    have f11 : ((224 ≤ c) = False) := eq_false fun hh => by have := (u8c c 224 (by omega)).2.1 hh; omega
    have f12 : (((c.toNat : Int) < 240) = True) := eq_true (by omega)
    have f13 : ((240 ≤ (c.toNat : Int)) = False) := eq_false (by omega)
    have f14 : ((c < 240) = True) := eq_true ((u8c c 240 (by omega)).1.2 (by omega))
    have f15 : ((240 ≤ c) = False) := eq_false fun hh => by have := (u8c c 240 (by omega)).2.1 hh; omega
    have f16 : (((c.toNat : Int) < 245) = True) := eq_true (by omega)
    have f17 : ((245 ≤ (c.toNat : Int)) = False) := eq_false (by omega)
    have f18 : ((c < 245) = True) := eq_true ((u8c c 245 (by omega)).1.2 (by omega))
    have f19 : ((245 ≤ c) = False) := eq_false fun hh => by have := (u8c c 245 (by omega)).2.1 hh; omega
    simp (maxSteps := 400000) only [↓preZ, postZ, coreZ, ↓preU, postU, D_all, F_all, unR, outL, onePV, binS, ↓binS, boundR, ↓boundR, fieldOf, ↓fieldOf, boxR, allocR, newObj, zeroElem, buildSliceR, appendR, setAll, storeR, St.freeze, makeSliceR, minmaxR, makeFuncR, BEq.rfl, reduceIte, reduceCtorEq, Nat.reduceLT, Nat.reduceAdd, Nat.reduceSub, Nat.reduceMul, Nat.reduceBEq, Nat.reduceLeDiff, Int.reduceToNat, Int.reduceLE, c_louperef02_Rune, hg, ↓ctrCont, n1, n2, n3, z0, z1, z2, z3, i1, i2, i3, f0, f1, f2, f3, f4, f5, f6, f7, f8, f9, f10, f11, f12, f13, f14, f15, f16, f17, f18, f19]
    exact hQ _ 0 rfl (by simp only [true_or, or_true, or_self, or_false, false_or, and_self, true_and, and_true, false_and, and_false, if_true, if_false, Bool.false_eq_true, c0, c1, c2, runeN, f0, f1, f2, f3, f4, f5, f6, f7, f8, f9, f10, f11, f12, f13, f14, f15, f16, f17, f18, f19])
  · skip
    have f0 : (((c.toNat : Int) < 128) = False) := eq_false (by omega)
    have f1 : ((128 ≤ (c.toNat : Int)) = True) := eq_true (by omega)
    have f2 : ((c < 128) = False) := eq_false fun hh => by have := (u8c c 128 (by omega)).1.1 hh; omega
    have f3 : ((128 ≤ c) = True) := eq_true ((u8c c 128 (by omega)).2.2 (by omega))
    have f4 : (((c.toNat : Int) < 194) = False) := eq_false (by omega)
    have f5 : ((194 ≤ (c.toNat : Int)) = True) := eq_true (by omega)
    have f6 : ((c < 194) = False) := eq_false fun hh => by have := (u8c c 194 (by omega)).1.1 hh; omega
    have f7 : ((194 ≤ c) = True) := eq_true ((u8c c 194 (by omega)).2.2 (by omega))
    have f8 : (((c.toNat : Int) < 224) = True) := eq_true (by omega)
    have f9 : ((224 ≤ (c.toNat : Int)) = False) := eq_false (by omega)
    have f10 : ((c < 224) = True) := eq_true ((u8c c 224 (by omega)).1.2 (by omega))
    have f11 : ((224 ≤ c) = False) := eq_false fun hh => by have := (u8c c 224 (by omega)).2.1 hh; omega
    have f12 : (((c.toNat : Int) < 240) = True) := eq_true (by omega)
    have f13 : ((240 ≤ (c.toNat : Int)) = False) := eq_false (by omega)
    have f14 : ((c < 240) = True) := eq_true ((u8c c 240 (by omega)).1.2 (by omega))
    have f15 : ((240 ≤ c) = False) := eq_false fun hh => by have := (u8c c 240 (by omega)).2.1 hh; omega
    have f16 : (((c.toNat : Int) < 245) = True) := eq_true (by omega)
    have f17 : ((245 ≤ (c.toNat : Int)) = False) := eq_false (by omega)
    have f18 : ((c < 245) = True) := eq_true ((u8c c 245 (by omega)).1.2 (by omega))
    have f19 : ((245 ≤ c) = False) := eq_false fun hh => by have := (u8c c 245 (by omega)).2.1 hh; omega
    cases k1 : contB s (i + 1)
    · skip
      simp (maxSteps := 400000) only [↓preZ, postZ, coreZ, ↓preU, postU, D_all, F_all, unR, outL, onePV, binS, ↓binS, boundR, ↓boundR, fieldOf, ↓fieldOf, boxR, allocR, newObj, zeroElem, buildSliceR, appendR, setAll, storeR, St.freeze, makeSliceR, minmaxR, makeFuncR, BEq.rfl, reduceIte, reduceCtorEq, Nat.reduceLT, Nat.reduceAdd, Nat.reduceSub, Nat.reduceMul, Nat.reduceBEq, Nat.reduceLeDiff, Int.reduceToNat, Int.reduceLE, c_louperef02_Rune, hg, ↓ctrCont, n1, n2, n3, z0, z1, z2, z3, i1, i2, i3, f0, f1, f2, f3, f4, f5, f6, f7, f8, f9, f10, f11, f12, f13, f14, f15, f16, f17, f18, f19, k1]
      exact hQ _ 0 rfl (by simp only [true_or, or_true, or_self, or_false, false_or, and_self, true_and, and_true, false_and, and_false, if_true, if_false, Bool.false_eq_true, c0, c1, c2, runeN, f0, f1, f2, f3, f4, f5, f6, f7, f8, f9, f10, f11, f12, f13, f14, f15, f16, f17, f18, f19, k1])
    · skip
      simp (maxSteps := 400000) only [↓preZ, postZ, coreZ, ↓preU, postU, D_all, F_all, unR, outL, onePV, binS, ↓binS, boundR, ↓boundR, fieldOf, ↓fieldOf, boxR, allocR, newObj, zeroElem, buildSliceR, appendR, setAll, storeR, St.freeze, makeSliceR, minmaxR, makeFuncR, BEq.rfl, reduceIte, reduceCtorEq, Nat.reduceLT, Nat.reduceAdd, Nat.reduceSub, Nat.reduceMul, Nat.reduceBEq, Nat.reduceLeDiff, Int.reduceToNat, Int.reduceLE, c_louperef02_Rune, hg, ↓ctrCont, n1, n2, n3, z0, z1, z2, z3, i1, i2, i3, f0, f1, f2, f3, f4, f5, f6, f7, f8, f9, f10, f11, f12, f13, f14, f15, f16, f17, f18, f19, k1]
      exact hQ _ 2 rfl (by simp only [true_or, or_true, or_self, or_false, false_or, and_self, true_and, and_true, false_and, and_false, if_true, if_false, Bool.false_eq_true, c0, c1, c2, runeN, f0, f1, f2, f3, f4, f5, f6, f7, f8, f9, f10, f11, f12, f13, f14, f15, f16, f17, f18, f19, k1])
  · skip
    have f0 : (((c.toNat : Int) < 128) = False) := eq_false (by omega)
    have f1 : ((128 ≤ (c.toNat : Int)) = True) := eq_true (by omega)
    have f2 : ((c < 128) = False) := eq_false fun hh => by have := (u8c c 128 (by omega)).1.1 hh; omega
    have f3 : ((128 ≤ c) = True) := eq_true ((u8c c 128 (by omega)).2.2 (by omega))
    have f4 : (((c.toNat : Int) < 194) = False) := eq_false (by omega)
    have f5 : ((194 ≤ (c.toNat : Int)) = True) := eq_true (by omega)
    have f6 : ((c < 194) = False) := eq_false fun hh => by have := (u8c c 194 (by omega)).1.1 hh; omega
    have f7 : ((194 ≤ c) = True) := eq_true ((u8c c 194 (by omega)).2.2 (by omega))
    have f8 : (((c.toNat : Int) < 224) = False) := eq_false (by omega)
    have f9 : ((224 ≤ (c.toNat : Int)) = True) := eq_true (by omega)
    have f10 : ((c < 224) = False) := eq_false fun hh => by have := (u8c c 224 (by omega)).1.1 hh; omega
    have f11 : ((224 ≤ c) = True) := eq_true ((u8c c 224 (by omega)).2.2 (by omega))
    have f12 : (((c.toNat : Int) < 240) = True) := eq_true (by omega)
    have f13 : ((240 ≤ (c.toNat : Int)) = False) := eq_false (by omega)
    have f14 : ((c < 240) = True) := eq_true ((u8c c 240 (by omega)).1.2 (by omega))
    have f15 : ((240 ≤ c) = False) := eq_false fun hh => by have := (u8c c 240 (by omega)).2.1 hh; omega
    have f16 : (((c.toNat : Int) < 245) = True) := eq_true (by omega)
    have f17 : ((245 ≤ (c.toNat : Int)) = False) := eq_false (by omega)
    have f18 : ((c < 245) = True) := eq_true ((u8c c 245 (by omega)).1.2 (by omega))
    have f19 : ((245 ≤ c) = False) := eq_false fun hh => by have := (u8c c 245 (by omega)).2.1 hh; omega
    cases k1 : contB s (i + 1)
    · skip
      simp (maxSteps := 400000) only [↓preZ, postZ, coreZ, ↓preU, postU, D_all, F_all, unR, outL, onePV, binS, ↓binS, boundR, ↓boundR, fieldOf, ↓fieldOf, boxR, allocR, newObj, zeroElem, buildSliceR, appendR, setAll, storeR, St.freeze, makeSliceR, minmaxR, makeFuncR, BEq.rfl, reduceIte, reduceCtorEq, Nat.reduceLT, Nat.reduceAdd, Nat.reduceSub, Nat.reduceMul, Nat.reduceBEq, Nat.reduceLeDiff, Int.reduceToNat, Int.reduceLE, c_louperef02_Rune, hg, ↓ctrCont, n1, n2, n3, z0, z1, z2, z3, i1, i2, i3, f0, f1, f2, f3, f4, f5, f6, f7, f8, f9, f10, f11, f12, f13, f14, f15, f16, f17, f18, f19, k1]
      exact hQ _ 0 rfl (by simp only [true_or, or_true, or_self, or_false, false_or, and_self, true_and, and_true, false_and, and_false, if_true, if_false, Bool.false_eq_true, c0, c1, c2, runeN, f0, f1, f2, f3, f4, f5, f6, f7, f8, f9, f10, f11, f12, f13, f14, f15, f16, f17, f18, f19, k1])
    cases k2 : contB s (i + 2)
    · skip
      simp (maxSteps := 400000) only [↓preZ, postZ, coreZ, ↓preU, postU, D_all, F_all, unR, outL, onePV, binS, ↓binS, boundR, ↓boundR, fieldOf, ↓fieldOf, boxR, allocR, newObj, zeroElem, buildSliceR, appendR, setAll, storeR, St.freeze, makeSliceR, minmaxR, makeFuncR, BEq.rfl, reduceIte, reduceCtorEq, Nat.reduceLT, Nat.reduceAdd, Nat.reduceSub, Nat.reduceMul, Nat.reduceBEq, Nat.reduceLeDiff, Int.reduceToNat, Int.reduceLE, c_louperef02_Rune, hg, ↓ctrCont, n1, n2, n3, z0, z1, z2, z3, i1, i2, i3, f0, f1, f2, f3, f4, f5, f6, f7, f8, f9, f10, f11, f12, f13, f14, f15, f16, f17, f18, f19, k1, k2]
      exact hQ _ 0 rfl (by simp only [true_or, or_true, or_self, or_false, false_or, and_self, true_and, and_true, false_and, and_false, if_true, if_false, Bool.false_eq_true, c0, c1, c2, runeN, f0, f1, f2, f3, f4, f5, f6, f7, f8, f9, f10, f11, f12, f13, f14, f15, f16, f17, f18, f19, k1, k2])
    obtain ⟨d, hd1⟩ := contB_get k1
    have hhd : (List.drop (i + 1) s).headD 0 = d := by rw [List.headD_eq_head?_getD, List.head?_drop, hd1]; rfl
    by_cases hc224 : c.toNat = 224
    · have hc237 : c.toNat ≠ 237 := by omega
      have e0 : (((c.toNat : Int) = 224) = True) := eq_true (by omega)
      have e1 : ((c = 224) = True) := eq_true (UInt8.toNat_inj.1 (by simpa using hc224))
      have e2 : (((c.toNat : Int) = 237) = False) := eq_false (by omega)
      have e3 : ((c = 237) = False) := eq_false fun hh => hc237 (by rw [hh]; rfl)
      by_cases hdl : d.toNat < 160
      · skip
        have g0 : (((d.toNat : Int) < 160) = True) := eq_true (by omega)
        have g1 : ((160 ≤ (d.toNat : Int)) = False) := eq_false (by omega)
        have g2 : ((d < 160) = True) := eq_true ((u8c d 160 (by omega)).1.2 (by omega))
        have g3 : ((160 ≤ d) = False) := eq_false fun hh => by have := (u8c d 160 (by omega)).2.1 hh; omega
        simp (maxSteps := 400000) only [↓preZ, postZ, coreZ, ↓preU, postU, D_all, F_all, unR, outL, onePV, binS, ↓binS, boundR, ↓boundR, fieldOf, ↓fieldOf, boxR, allocR, newObj, zeroElem, buildSliceR, appendR, setAll, storeR, St.freeze, makeSliceR, minmaxR, makeFuncR, BEq.rfl, reduceIte, reduceCtorEq, Nat.reduceLT, Nat.reduceAdd, Nat.reduceSub, Nat.reduceMul, Nat.reduceBEq, Nat.reduceLeDiff, Int.reduceToNat, Int.reduceLE, c_louperef02_Rune, hg, ↓ctrCont, n1, n2, n3, z0, z1, z2, z3, i1, i2, i3, f0, f1, f2, f3, f4, f5, f6, f7, f8, f9, f10, f11, f12, f13, f14, f15, f16, f17, f18, f19, k1, k2, hd1, hhd, e0, e1, e2, e3, g0, g1, g2, g3]
        exact hQ _ 0 rfl (by simp only [true_or, or_true, or_self, or_false, false_or, and_self, true_and, and_true, false_and, and_false, if_true, if_false, Bool.false_eq_true, c0, c1, c2, runeN, f0, f1, f2, f3, f4, f5, f6, f7, f8, f9, f10, f11, f12, f13, f14, f15, f16, f17, f18, f19, k1, k2, hd1, hhd, e0, e1, e2, e3, g0, g1, g2, g3])
      · skip
        have g0 : (((d.toNat : Int) < 160) = False) := eq_false (by omega)
        have g1 : ((160 ≤ (d.toNat : Int)) = True) := eq_true (by omega)
        have g2 : ((d < 160) = False) := eq_false fun hh => by have := (u8c d 160 (by omega)).1.1 hh; omega
        have g3 : ((160 ≤ d) = True) := eq_true ((u8c d 160 (by omega)).2.2 (by omega))
        simp (maxSteps := 400000) only [↓preZ, postZ, coreZ, ↓preU, postU, D_all, F_all, unR, outL, onePV, binS, ↓binS, boundR, ↓boundR, fieldOf, ↓fieldOf, boxR, allocR, newObj, zeroElem, buildSliceR, appendR, setAll, storeR, St.freeze, makeSliceR, minmaxR, makeFuncR, BEq.rfl, reduceIte, reduceCtorEq, Nat.reduceLT, Nat.reduceAdd, Nat.reduceSub, Nat.reduceMul, Nat.reduceBEq, Nat.reduceLeDiff, Int.reduceToNat, Int.reduceLE, c_louperef02_Rune, hg, ↓ctrCont, n1, n2, n3, z0, z1, z2, z3, i1, i2, i3, f0, f1, f2, f3, f4, f5, f6, f7, f8, f9, f10, f11, f12, f13, f14, f15, f16, f17, f18, f19, k1, k2, hd1, hhd, e0, e1, e2, e3, g0, g1, g2, g3]
        exact hQ _ 3 rfl (by simp only [true_or, or_true, or_self, or_false, false_or, and_self, true_and, and_true, false_and, and_false, if_true, if_false, Bool.false_eq_true, c0, c1, c2, runeN, f0, f1, f2, f3, f4, f5, f6, f7, f8, f9, f10, f11, f12, f13, f14, f15, f16, f17, f18, f19, k1, k2, hd1, hhd, e0, e1, e2, e3, g0, g1, g2, g3])
    · by_cases hc237 : c.toNat = 237
      · skip
        have e0 : (((c.toNat : Int) = 224) = False) := eq_false (by omega)
        have e1 : ((c = 224) = False) := eq_false fun hh => hc224 (by rw [hh]; rfl)
        have e2 : (((c.toNat : Int) = 237) = True) := eq_true (by omega)
        have e3 : ((c = 237) = True) := eq_true (UInt8.toNat_inj.1 (by simpa using hc237))
        by_cases hdl : d.toNat < 160
        · skip
          have g0 : (((d.toNat : Int) < 160) = True) := eq_true (by omega)
          have g1 : ((160 ≤ (d.toNat : Int)) = False) := eq_false (by omega)
          have g2 : ((d < 160) = True) := eq_true ((u8c d 160 (by omega)).1.2 (by omega))
          have g3 : ((160 ≤ d) = False) := eq_false fun hh => by have := (u8c d 160 (by omega)).2.1 hh; omega
          simp (maxSteps := 400000) only [↓preZ, postZ, coreZ, ↓preU, postU, D_all, F_all, unR, outL, onePV, binS, ↓binS, boundR, ↓boundR, fieldOf, ↓fieldOf, boxR, allocR, newObj, zeroElem, buildSliceR, appendR, setAll, storeR, St.freeze, makeSliceR, minmaxR, makeFuncR, BEq.rfl, reduceIte, reduceCtorEq, Nat.reduceLT, Nat.reduceAdd, Nat.reduceSub, Nat.reduceMul, Nat.reduceBEq, Nat.reduceLeDiff, Int.reduceToNat, Int.reduceLE, c_louperef02_Rune, hg, ↓ctrCont, n1, n2, n3, z0, z1, z2, z3, i1, i2, i3, f0, f1, f2, f3, f4, f5, f6, f7, f8, f9, f10, f11, f12, f13, f14, f15, f16, f17, f18, f19, k1, k2, hd1, hhd, e0, e1, e2, e3, g0, g1, g2, g3]
          exact hQ _ 3 rfl (by simp only [true_or, or_true, or_self, or_false, false_or, and_self, true_and, and_true, false_and, and_false, if_true, if_false, Bool.false_eq_true, c0, c1, c2, runeN, f0, f1, f2, f3, f4, f5, f6, f7, f8, f9, f10, f11, f12, f13, f14, f15, f16, f17, f18, f19, k1, k2, hd1, hhd, e0, e1, e2, e3, g0, g1, g2, g3])
        · skip
          have g0 : (((d.toNat : Int) < 160) = False) := eq_false (by omega)
          have g1 : ((160 ≤ (d.toNat : Int)) = True) := eq_true (by omega)
          have g2 : ((d < 160) = False) := eq_false fun hh => by have := (u8c d 160 (by omega)).1.1 hh; omega
          have g3 : ((160 ≤ d) = True) := eq_true ((u8c d 160 (by omega)).2.2 (by omega))
          simp (maxSteps := 400000) only [↓preZ, postZ, coreZ, ↓preU, postU, D_all, F_all, unR, outL, onePV, binS, ↓binS, boundR, ↓boundR, fieldOf, ↓fieldOf, boxR, allocR, newObj, zeroElem, buildSliceR, appendR, setAll, storeR, St.freeze, makeSliceR, minmaxR, makeFuncR, BEq.rfl, reduceIte, reduceCtorEq, Nat.reduceLT, Nat.reduceAdd, Nat.reduceSub, Nat.reduceMul, Nat.reduceBEq, Nat.reduceLeDiff, Int.reduceToNat, Int.reduceLE, c_louperef02_Rune, hg, ↓ctrCont, n1, n2, n3, z0, z1, z2, z3, i1, i2, i3, f0, f1, f2, f3, f4, f5, f6, f7, f8, f9, f10, f11, f12, f13, f14, f15, f16, f17, f18, f19, k1, k2, hd1, hhd, e0, e1, e2, e3, g0, g1, g2, g3]
          exact hQ _ 0 rfl (by simp only [true_or, or_true, or_self, or_false, false_or, and_self, true_and, and_true, false_and, and_false, if_true, if_false, Bool.false_eq_true, c0, c1, c2, runeN, f0, f1, f2, f3, f4, f5, f6, f7, f8, f9, f10, f11, f12, f13, f14, f15, f16, f17, f18, f19, k1, k2, hd1, hhd, e0, e1, e2, e3, g0, g1, g2, g3])
      · skip
        have e0 : (((c.toNat : Int) = 224) = False) := eq_false (by omega)
        have e1 : ((c = 224) = False) := eq_false fun hh => hc224 (by rw [hh]; rfl)
        have e2 : (((c.toNat : Int) = 237) = False) := eq_false (by omega)
        have e3 : ((c = 237) = False) := eq_false fun hh => hc237 (by rw [hh]; rfl)
        simp (maxSteps := 400000) only [↓preZ, postZ, coreZ, ↓preU, postU, D_all, F_all, unR, outL, onePV, binS, ↓binS, boundR, ↓boundR, fieldOf, ↓fieldOf, boxR, allocR, newObj, zeroElem, buildSliceR, appendR, setAll, storeR, St.freeze, makeSliceR, minmaxR, makeFuncR, BEq.rfl, reduceIte, reduceCtorEq, Nat.reduceLT, Nat.reduceAdd, Nat.reduceSub, Nat.reduceMul, Nat.reduceBEq, Nat.reduceLeDiff, Int.reduceToNat, Int.reduceLE, c_louperef02_Rune, hg, ↓ctrCont, n1, n2, n3, z0, z1, z2, z3, i1, i2, i3, f0, f1, f2, f3, f4, f5, f6, f7, f8, f9, f10, f11, f12, f13, f14, f15, f16, f17, f18, f19, k1, k2, hd1, hhd, e0, e1, e2, e3]
        exact hQ _ 3 rfl (by simp only [true_or, or_true, or_self, or_false, false_or, and_self, true_and, and_true, false_and, and_false, if_true, if_false, Bool.false_eq_true, c0, c1, c2, runeN, f0, f1, f2, f3, f4, f5, f6, f7, f8, f9, f10, f11, f12, f13, f14, f15, f16, f17, f18, f19, k1, k2, hd1, hhd, e0, e1, e2, e3])
  · skip
    have f0 : (((c.toNat : Int) < 128) = False) := eq_false (by omega)
    have f1 : ((128 ≤ (c.toNat : Int)) = True) := eq_true (by omega)
    have f2 : ((c < 128) = False) := eq_false fun hh => by have := (u8c c 128 (by omega)).1.1 hh; omega
    have f3 : ((128 ≤ c) = True) := eq_true ((u8c c 128 (by omega)).2.2 (by omega))
    have f4 : (((c.toNat : Int) < 194) = False) := eq_false (by omega)
    have f5 : ((194 ≤ (c.toNat : Int)) = True) := eq_true (by omega)
    have f6 : ((c < 194) = False) := eq_false fun hh => by have := (u8c c 194 (by omega)).1.1 hh; omega
    have f7 : ((194 ≤ c) = True) := eq_true ((u8c c 194 (by omega)).2.2 (by omega))
    have f8 : (((c.toNat : Int) < 224) = False) := eq_false (by omega)
    have f9 : ((224 ≤ (c.toNat : Int)) = True) := eq_true (by omega)
    have f10 : ((c < 224) = False) := eq_false fun hh => by have := (u8c c 224 (by omega)).1.1 hh; omega
    have f11 : ((224 ≤ c) = True) := eq_true ((u8c c 224 (by omega)).2.2 (by omega))
    have f12 : (((c.toNat : Int) < 240) = False) := eq_false (by omega)
    have f13 : ((240 ≤ (c.toNat : Int)) = True) := eq_true (by omega)
    have f14 : ((c < 240) = False) := eq_false fun hh => by have := (u8c c 240 (by omega)).1.1 hh; omega
    have f15 : ((240 ≤ c) = True) := eq_true ((u8c c 240 (by omega)).2.2 (by omega))
    have f16 : (((c.toNat : Int) < 245) = True) := eq_true (by omega)
    have f17 : ((245 ≤ (c.toNat : Int)) = False) := eq_false (by omega)
    have f18 : ((c < 245) = True) := eq_true ((u8c c 245 (by omega)).1.2 (by omega))
    have f19 : ((245 ≤ c) = False) := eq_false fun hh => by have := (u8c c 245 (by omega)).2.1 hh; omega
    cases k1 : contB s (i + 1)
    · skip
      simp (maxSteps := 400000) only [↓preZ, postZ, coreZ, ↓preU, postU, D_all, F_all, unR, outL, onePV, binS, ↓binS, boundR, ↓boundR, fieldOf, ↓fieldOf, boxR, allocR, newObj, zeroElem, buildSliceR, appendR, setAll, storeR, St.freeze, makeSliceR, minmaxR, makeFuncR, BEq.rfl, reduceIte, reduceCtorEq, Nat.reduceLT, Nat.reduceAdd, Nat.reduceSub, Nat.reduceMul, Nat.reduceBEq, Nat.reduceLeDiff, Int.reduceToNat, Int.reduceLE, c_louperef02_Rune, hg, ↓ctrCont, n1, n2, n3, z0, z1, z2, z3, i1, i2, i3, f0, f1, f2, f3, f4, f5, f6, f7, f8, f9, f10, f11, f12, f13, f14, f15, f16, f17, f18, f19, k1]
      exact hQ _ 0 rfl (by simp only [true_or, or_true, or_self, or_false, false_or, and_self, true_and, and_true, false_and, and_false, if_true, if_false, Bool.false_eq_true, c0, c1, c2, runeN, f0, f1, f2, f3, f4, f5, f6, f7, f8, f9, f10, f11, f12, f13, f14, f15, f16, f17, f18, f19, k1])
    cases k2 : contB s (i + 2)
    · skip
      simp (maxSteps := 400000) only [↓preZ, postZ, coreZ, ↓preU, postU, D_all, F_all, unR, outL, onePV, binS, ↓binS, boundR, ↓boundR, fieldOf, ↓fieldOf, boxR, allocR, newObj, zeroElem, buildSliceR, appendR, setAll, storeR, St.freeze, makeSliceR, minmaxR, makeFuncR, BEq.rfl, reduceIte, reduceCtorEq, Nat.reduceLT, Nat.reduceAdd, Nat.reduceSub, Nat.reduceMul, Nat.reduceBEq, Nat.reduceLeDiff, Int.reduceToNat, Int.reduceLE, c_louperef02_Rune, hg, ↓ctrCont, n1, n2, n3, z0, z1, z2, z3, i1, i2, i3, f0, f1, f2, f3, f4, f5, f6, f7, f8, f9, f10, f11, f12, f13, f14, f15, f16, f17, f18, f19, k1, k2]
      exact hQ _ 0 rfl (by simp only [true_or, or_true, or_self, or_false, false_or, and_self, true_and, and_true, false_and, and_false, if_true, if_false, Bool.false_eq_true, c0, c1, c2, runeN, f0, f1, f2, f3, f4, f5, f6, f7, f8, f9, f10, f11, f12, f13, f14, f15, f16, f17, f18, f19, k1, k2])
    cases k3 : contB s (i + 3)
    · skip
      simp (maxSteps := 400000) only [↓preZ, postZ, coreZ, ↓preU, postU, D_all, F_all, unR, outL, onePV, binS, ↓binS, boundR, ↓boundR, fieldOf, ↓fieldOf, boxR, allocR, newObj, zeroElem, buildSliceR, appendR, setAll, storeR, St.freeze, makeSliceR, minmaxR, makeFuncR, BEq.rfl, reduceIte, reduceCtorEq, Nat.reduceLT, Nat.reduceAdd, Nat.reduceSub, Nat.reduceMul, Nat.reduceBEq, Nat.reduceLeDiff, Int.reduceToNat, Int.reduceLE, c_louperef02_Rune, hg, ↓ctrCont, n1, n2, n3, z0, z1, z2, z3, i1, i2, i3, f0, f1, f2, f3, f4, f5, f6, f7, f8, f9, f10, f11, f12, f13, f14, f15, f16, f17, f18, f19, k1, k2, k3]
      exact hQ _ 0 rfl (by simp only [true_or, or_true, or_self, or_false, false_or, and_self, true_and, and_true, false_and, and_false, if_true, if_false, Bool.false_eq_true, c0, c1, c2, runeN, f0, f1, f2, f3, f4, f5, f6, f7, f8, f9, f10, f11, f12, f13, f14, f15, f16, f17, f18, f19, k1, k2, k3])
    obtain ⟨d, hd1⟩ := contB_get k1
    have hhd : (List.drop (i + 1) s).headD 0 = d := by rw [List.headD_eq_head?_getD, List.head?_drop, hd1]; rfl
    by_cases hc240 : c.toNat = 240
    · have hc244 : c.toNat ≠ 244 := by omega
      have e0 : (((c.toNat : Int) = 240) = True) := eq_true (by omega)
      have e1 : ((c = 240) = True) := eq_true (UInt8.toNat_inj.1 (by simpa using hc240))
      have e2 : (((c.toNat : Int) = 244) = False) := eq_false (by omega)
      have e3 : ((c = 244) = False) := eq_false fun hh => hc244 (by rw [hh]; rfl)
      by_cases hdl : d.toNat < 144
      · skip
        have g0 : (((d.toNat : Int) < 144) = True) := eq_true (by omega)
        have g1 : ((144 ≤ (d.toNat : Int)) = False) := eq_false (by omega)
        have g2 : ((d < 144) = True) := eq_true ((u8c d 144 (by omega)).1.2 (by omega))
        have g3 : ((144 ≤ d) = False) := eq_false fun hh => by have := (u8c d 144 (by omega)).2.1 hh; omega
        simp (maxSteps := 400000) only [↓preZ, postZ, coreZ, ↓preU, postU, D_all, F_all, unR, outL, onePV, binS, ↓binS, boundR, ↓boundR, fieldOf, ↓fieldOf, boxR, allocR, newObj, zeroElem, buildSliceR, appendR, setAll, storeR, St.freeze, makeSliceR, minmaxR, makeFuncR, BEq.rfl, reduceIte, reduceCtorEq, Nat.reduceLT, Nat.reduceAdd, Nat.reduceSub, Nat.reduceMul, Nat.reduceBEq, Nat.reduceLeDiff, Int.reduceToNat, Int.reduceLE, c_louperef02_Rune, hg, ↓ctrCont, n1, n2, n3, z0, z1, z2, z3, i1, i2, i3, f0, f1, f2, f3, f4, f5, f6, f7, f8, f9, f10, f11, f12, f13, f14, f15, f16, f17, f18, f19, k1, k2, k3, hd1, hhd, e0, e1, e2, e3, g0, g1, g2, g3]
        exact hQ _ 0 rfl (by simp only [true_or, or_true, or_self, or_false, false_or, and_self, true_and, and_true, false_and, and_false, if_true, if_false, Bool.false_eq_true, c0, c1, c2, runeN, f0, f1, f2, f3, f4, f5, f6, f7, f8, f9, f10, f11, f12, f13, f14, f15, f16, f17, f18, f19, k1, k2, k3, hd1, hhd, e0, e1, e2, e3, g0, g1, g2, g3])
      · skip
        have g0 : (((d.toNat : Int) < 144) = False) := eq_false (by omega)
        have g1 : ((144 ≤ (d.toNat : Int)) = True) := eq_true (by omega)
        have g2 : ((d < 144) = False) := eq_false fun hh => by have := (u8c d 144 (by omega)).1.1 hh; omega
        have g3 : ((144 ≤ d) = True) := eq_true ((u8c d 144 (by omega)).2.2 (by omega))
        simp (maxSteps := 400000) only [↓preZ, postZ, coreZ, ↓preU, postU, D_all, F_all, unR, outL, onePV, binS, ↓binS, boundR, ↓boundR, fieldOf, ↓fieldOf, boxR, allocR, newObj, zeroElem, buildSliceR, appendR, setAll, storeR, St.freeze, makeSliceR, minmaxR, makeFuncR, BEq.rfl, reduceIte, reduceCtorEq, Nat.reduceLT, Nat.reduceAdd, Nat.reduceSub, Nat.reduceMul, Nat.reduceBEq, Nat.reduceLeDiff, Int.reduceToNat, Int.reduceLE, c_louperef02_Rune, hg, ↓ctrCont, n1, n2, n3, z0, z1, z2, z3, i1, i2, i3, f0, f1, f2, f3, f4, f5, f6, f7, f8, f9, f10, f11, f12, f13, f14, f15, f16, f17, f18, f19, k1, k2, k3, hd1, hhd, e0, e1, e2, e3, g0, g1, g2, g3]
        exact hQ _ 4 rfl (by simp only [true_or, or_true, or_self, or_false, false_or, and_self, true_and, and_true, false_and, and_false, if_true, if_false, Bool.false_eq_true, c0, c1, c2, runeN, f0, f1, f2, f3, f4, f5, f6, f7, f8, f9, f10, f11, f12, f13, f14, f15, f16, f17, f18, f19, k1, k2, k3, hd1, hhd, e0, e1, e2, e3, g0, g1, g2, g3])
    · by_cases hc244 : c.toNat = 244
      · skip
        have e0 : (((c.toNat : Int) = 240) = False) := eq_false (by omega)
        have e1 : ((c = 240) = False) := eq_false fun hh => hc240 (by rw [hh]; rfl)
        have e2 : (((c.toNat : Int) = 244) = True) := eq_true (by omega)
        have e3 : ((c = 244) = True) := eq_true (UInt8.toNat_inj.1 (by simpa using hc244))
        by_cases hdl : d.toNat < 144
        · skip
          have g0 : (((d.toNat : Int) < 144) = True) := eq_true (by omega)
          have g1 : ((144 ≤ (d.toNat : Int)) = False) := eq_false (by omega)
          have g2 : ((d < 144) = True) := eq_true ((u8c d 144 (by omega)).1.2 (by omega))
          have g3 : ((144 ≤ d) = False) := eq_false fun hh => by have := (u8c d 144 (by omega)).2.1 hh; omega
          simp (maxSteps := 400000) only [↓preZ, postZ, coreZ, ↓preU, postU, D_all, F_all, unR, outL, onePV, binS, ↓binS, boundR, ↓boundR, fieldOf, ↓fieldOf, boxR, allocR, newObj, zeroElem, buildSliceR, appendR, setAll, storeR, St.freeze, makeSliceR, minmaxR, makeFuncR, BEq.rfl, reduceIte, reduceCtorEq, Nat.reduceLT, Nat.reduceAdd, Nat.reduceSub, Nat.reduceMul, Nat.reduceBEq, Nat.reduceLeDiff, Int.reduceToNat, Int.reduceLE, c_louperef02_Rune, hg, ↓ctrCont, n1, n2, n3, z0, z1, z2, z3, i1, i2, i3, f0, f1, f2, f3, f4, f5, f6, f7, f8, f9, f10, f11, f12, f13, f14, f15, f16, f17, f18, f19, k1, k2, k3, hd1, hhd, e0, e1, e2, e3, g0, g1, g2, g3]
          exact hQ _ 4 rfl (by simp only [true_or, or_true, or_self, or_false, false_or, and_self, true_and, and_true, false_and, and_false, if_true, if_false, Bool.false_eq_true, c0, c1, c2, runeN, f0, f1, f2, f3, f4, f5, f6, f7, f8, f9, f10, f11, f12, f13, f14, f15, f16, f17, f18, f19, k1, k2, k3, hd1, hhd, e0, e1, e2, e3, g0, g1, g2, g3])
        · skip
          have g0 : (((d.toNat : Int) < 144) = False) := eq_false (by omega)
          have g1 : ((144 ≤ (d.toNat : Int)) = True) := eq_true (by omega)
          have g2 : ((d < 144) = False) := eq_false fun hh => by have := (u8c d 144 (by omega)).1.1 hh; omega
          have g3 : ((144 ≤ d) = True) := eq_true ((u8c d 144 (by omega)).2.2 (by omega))
          simp (maxSteps := 400000) only [↓preZ, postZ, coreZ, ↓preU, postU, D_all, F_all, unR, outL, onePV, binS, ↓binS, boundR, ↓boundR, fieldOf, ↓fieldOf, boxR, allocR, newObj, zeroElem, buildSliceR, appendR, setAll, storeR, St.freeze, makeSliceR, minmaxR, makeFuncR, BEq.rfl, reduceIte, reduceCtorEq, Nat.reduceLT, Nat.reduceAdd, Nat.reduceSub, Nat.reduceMul, Nat.reduceBEq, Nat.reduceLeDiff, Int.reduceToNat, Int.reduceLE, c_louperef02_Rune, hg, ↓ctrCont, n1, n2, n3, z0, z1, z2, z3, i1, i2, i3, f0, f1, f2, f3, f4, f5, f6, f7, f8, f9, f10, f11, f12, f13, f14, f15, f16, f17, f18, f19, k1, k2, k3, hd1, hhd, e0, e1, e2, e3, g0, g1, g2, g3]
          exact hQ _ 0 rfl (by simp only [true_or, or_true, or_self, or_false, false_or, and_self, true_and, and_true, false_and, and_false, if_true, if_false, Bool.false_eq_true, c0, c1, c2, runeN, f0, f1, f2, f3, f4, f5, f6, f7, f8, f9, f10, f11, f12, f13, f14, f15, f16, f17, f18, f19, k1, k2, k3, hd1, hhd, e0, e1, e2, e3, g0, g1, g2, g3])
      · skip
        have e0 : (((c.toNat : Int) = 240) = False) := eq_false (by omega)
        have e1 : ((c = 240) = False) := eq_false fun hh => hc240 (by rw [hh]; rfl)
        have e2 : (((c.toNat : Int) = 244) = False) := eq_false (by omega)
        have e3 : ((c = 244) = False) := eq_false fun hh => hc244 (by rw [hh]; rfl)
        simp (maxSteps := 400000) only [↓preZ, postZ, coreZ, ↓preU, postU, D_all, F_all, unR, outL, onePV, binS, ↓binS, boundR, ↓boundR, fieldOf, ↓fieldOf, boxR, allocR, newObj, zeroElem, buildSliceR, appendR, setAll, storeR, St.freeze, makeSliceR, minmaxR, makeFuncR, BEq.rfl, reduceIte, reduceCtorEq, Nat.reduceLT, Nat.reduceAdd, Nat.reduceSub, Nat.reduceMul, Nat.reduceBEq, Nat.reduceLeDiff, Int.reduceToNat, Int.reduceLE, c_louperef02_Rune, hg, ↓ctrCont, n1, n2, n3, z0, z1, z2, z3, i1, i2, i3, f0, f1, f2, f3, f4, f5, f6, f7, f8, f9, f10, f11, f12, f13, f14, f15, f16, f17, f18, f19, k1, k2, k3, hd1, hhd, e0, e1, e2, e3]
        exact hQ _ 4 rfl (by simp only [true_or, or_true, or_self, or_false, false_or, and_self, true_and, and_true, false_and, and_false, if_true, if_false, Bool.false_eq_true, c0, c1, c2, runeN, f0, f1, f2, f3, f4, f5, f6, f7, f8, f9, f10, f11, f12, f13, f14, f15, f16, f17, f18, f19, k1, k2, k3, hd1, hhd, e0, e1, e2, e3])
  · skip
    have f0 : (((c.toNat : Int) < 128) = False) := eq_false (by omega)
    have f1 : ((128 ≤ (c.toNat : Int)) = True) := eq_true (by omega)
    have f2 : ((c < 128) = False) := eq_false fun hh => by have := (u8c c 128 (by omega)).1.1 hh; omega
    have f3 : ((128 ≤ c) = True) := eq_true ((u8c c 128 (by omega)).2.2 (by omega))
    have f4 : (((c.toNat : Int) < 194) = False) := eq_false (by omega)
    have f5 : ((194 ≤ (c.toNat : Int)) = True) := eq_true (by omega)
    have f6 : ((c < 194) = False) := eq_false fun hh => by have := (u8c c 194 (by omega)).1.1 hh; omega
    have f7 : ((194 ≤ c) = True) := eq_true ((u8c c 194 (by omega)).2.2 (by omega))
    have f8 : (((c.toNat : Int) < 224) = False) := eq_false (by omega)
    have f9 : ((224 ≤ (c.toNat : Int)) = True) := eq_true (by omega)
    have f10 : ((c < 224) = False) := eq_false fun hh => by have := (u8c c 224 (by omega)).1.1 hh; omega
    have f11 : ((224 ≤ c) = True) := eq_true ((u8c c 224 (by omega)).2.2 (by omega))
    have f12 : (((c.toNat : Int) < 240) = False) := eq_false (by omega)
    have f13 : ((240 ≤ (c.toNat : Int)) = True) := eq_true (by omega)
    have f14 : ((c < 240) = False) := eq_false fun hh => by have := (u8c c 240 (by omega)).1.1 hh; omega
    have f15 : ((240 ≤ c) = True) := eq_true ((u8c c 240 (by omega)).2.2 (by omega))
    have f16 : (((c.toNat : Int) < 245) = False) := eq_false (by omega)
    have f17 : ((245 ≤ (c.toNat : Int)) = True) := eq_true (by omega)
    have f18 : ((c < 245) = False) := eq_false fun hh => by have := (u8c c 245 (by omega)).1.1 hh; omega
    have f19 : ((245 ≤ c) = True) := eq_true ((u8c c 245 (by omega)).2.2 (by omega))
    simp (maxSteps := 400000) only [↓preZ, postZ, coreZ, ↓preU, postU, D_all, F_all, unR, outL, onePV, binS, ↓binS, boundR, ↓boundR, fieldOf, ↓fieldOf, boxR, allocR, newObj, zeroElem, buildSliceR, appendR, setAll, storeR, St.freeze, makeSliceR, minmaxR, makeFuncR, BEq.rfl, reduceIte, reduceCtorEq, Nat.reduceLT, Nat.reduceAdd, Nat.reduceSub, Nat.reduceMul, Nat.reduceBEq, Nat.reduceLeDiff, Int.reduceToNat, Int.reduceLE, c_louperef02_Rune, hg, ↓ctrCont, n1, n2, n3, z0, z1, z2, z3, i1, i2, i3, f0, f1, f2, f3, f4, f5, f6, f7, f8, f9, f10, f11, f12, f13, f14, f15, f16, f17, f18, f19]
    exact hQ _ 0 rfl (by simp only [true_or, or_true, or_self, or_false, false_or, and_self, true_and, and_true, false_and, and_false, if_true, if_false, Bool.false_eq_true, c0, c1, c2, runeN, f0, f1, f2, f3, f4, f5, f6, f7, f8, f9, f10, f11, f12, f13, f14, f15, f16, f17, f18, f19])

theorem rune_spec' (s : List UInt8) (i : Int) (h0 : 0 ≤ i) (hi : i.toNat < s.length) (hl : s.length ≤ 4611686018427387904) : FnSpec Try.prog f_louperef02_Rune [.str s, .int .i64 i] [] (.int .i64 (runeN (s.drop i.toNat) : Nat)) [] := by
  have e : i = (i.toNat : Int) := by omega
  rw [e]
  exact rune_spec s i.toNat hi hl

def ctrRune : Ctr := fun args objs K => match args with
  | [.str s, .int .i64 i] => (0 ≤ i) ∧ (i.toNat < s.length) ∧ (s.length ≤ 4611686018427387904) ∧ K (.int .i64 (runeN (s.drop i.toNat) : Nat)) objs 0
  | _ => False
theorem ctrRune_ok : CtrOk Try.prog f_louperef02_Rune (ctrRune) := by
  intro args objs K h
  unfold ctrRune at h
  split at h
  · rename_i s i
    obtain ⟨h1, h2, h3, hk⟩ := h
    exact ⟨_, _, _, .pure _ rfl (rune_spec' s i h1 h2 h3), hk⟩
  · exact h.elim
end Lp

/-! LpW15 -/

namespace Lp
open Go Go.Proofs

set_option maxHeartbeats 4000000
set_option maxRecDepth 20000
set_option linter.unusedSimpArgs false

theorem runeN_le (s : List UInt8) : runeN s ≤ s.length := by
  cases s with
  | nil => simp [runeN]
  | cons c t =>
    have h0 : ∀ i, contB t i = true → i < t.length := by
      intro i h
      obtain ⟨d, hd⟩ := contB_get h
      exact (List.getElem?_eq_some_iff.1 hd).1
    simp only [runeN, List.length_cons]
    split
    · omega
    · split
      · rename_i h; have := h0 0 h.2.2; omega
      · split
        · rename_i h; have := h0 1 h.2.2.2; split <;> omega
        · split
          · rename_i h; have := h0 2 h.2.2.2.2; split <;> omega
          · omega

theorem utf_spec (s : List UInt8) (hl : s.length ≤ 4611686018427387904) : FnSpec Try.prog f_louperef02_Utf [.str s] [] (.bool (utf s)) [] := by
  refine k_louperef02_Utf.pureG (T := tabL Try.prog [(f_louperef02_Rune, ctrRune)]) 0 hD (kOk_tabL (tabOk_cons ctrRune_ok tabOk_nil)) hmix (by decide) fun Q hQ => ?_
  try simp only [F_all]
  simp (maxSteps := 400000) only [↓preZ, postZ, coreZ, ↓preU, postU, D_all, F_all, unR, outL, onePV, binS, ↓binS, boundR, ↓boundR, fieldOf, ↓fieldOf, boxR, allocR, newObj, zeroElem, buildSliceR, appendR, setAll, storeR, St.freeze, makeSliceR, minmaxR, makeFuncR, BEq.rfl, reduceIte, reduceCtorEq, Nat.reduceLT, Nat.reduceAdd, Nat.reduceSub, Nat.reduceMul, Nat.reduceBEq, Nat.reduceLeDiff, Int.reduceToNat, Int.reduceLE, hQ, c_louperef02_Utf]
  refine wpc_loop (fun m S => ∃ i : Nat, i + m = s.length ∧ utfF m (s.drop i) = utf s ∧ S = ⟨tmA 17 [(0, .str s), (3, .int .i64 i)], []⟩) s.length ⟨0, by omega, rfl, ?_⟩ ?_
  · simp only [normR, keepR, Nat.reduceAdd, lkR, Nat.reduceBEq, F_all, List.map_nil]
    rfl
  rintro m S ⟨i, him, hu, rfl⟩
  simp (maxSteps := 400000) only [↓preZ, postZ, coreZ, ↓preU, postU, D_all, F_all, unR, outL, onePV, binS, ↓binS, boundR, ↓boundR, fieldOf, ↓fieldOf, boxR, allocR, newObj, zeroElem, buildSliceR, appendR, setAll, storeR, St.freeze, makeSliceR, minmaxR, makeFuncR, BEq.rfl, reduceIte, reduceCtorEq, Nat.reduceLT, Nat.reduceAdd, Nat.reduceSub, Nat.reduceMul, Nat.reduceBEq, Nat.reduceLeDiff, Int.reduceToNat, Int.reduceLE, hQ, ↓ctrRune]
  have hle := runeN_le (s.drop i)
  simp only [List.length_drop] at hle
  refine ⟨fun h => ⟨by omega, by omega, hl, fun h0 => ?_, fun h0 => ⟨⟨by omega, by omega⟩, m - runeN (s.drop i), by omega, i + runeN (s.drop i), by omega, ?_, by simp⟩⟩, fun h => ?_⟩
  · obtain ⟨m, rfl⟩ : ∃ k, m = k + 1 := ⟨m - 1, by omega⟩
    have hne : (s.drop i).isEmpty = false := by
      rw [List.isEmpty_eq_false_iff]
      intro he
      have := congrArg List.length he
      simp at this; omega
    rw [← hu, utfF, hne]
    have : runeN (s.drop i) = 0 := by omega
    simp [this]
  · obtain ⟨m, rfl⟩ : ∃ k, m = k + 1 := ⟨m - 1, by omega⟩
    have hne : (s.drop i).isEmpty = false := by
      rw [List.isEmpty_eq_false_iff]
      intro he
      have := congrArg List.length he
      simp at this; omega
    rw [← hu]
    conv => rhs; rw [utfF, hne]
    have h1 : (runeN (s.drop i) != 0) = true := by simp; omega
    rw [h1, Bool.false_or, Bool.true_and, List.drop_drop]
    refine utfF_more _ _ _ ?_ ?_
    · simp; omega
    · simp; omega
  · rw [← hu]
    have hn : s.drop i = [] := List.drop_eq_nil_of_le (by omega)
    rw [hn]
    cases m <;> rfl

def ctrUtf : Ctr := fun args objs K => match args with
  | [.str s] => (s.length ≤ 4611686018427387904) ∧ K (.bool (utf s)) objs 0
  | _ => False
theorem ctrUtf_ok : CtrOk Try.prog f_louperef02_Utf (ctrUtf) := by
  intro args objs K h
  unfold ctrUtf at h
  split at h
  · rename_i s
    obtain ⟨h1, hk⟩ := h
    exact ⟨_, _, _, .pure _ rfl (utf_spec s h1), hk⟩
  · exact h.elim

theorem figures_spec (s : List UInt8) (hl : s.length ≤ 4611686018427387904) : FnSpec Try.prog f_louperef01_figures [.str s] [] (.bool (figs s)) [] := by
  refine k_louperef01_figures.pureG (T := tabL Try.prog []) 0 hD (kOk_tabL tabOk_nil) hmix (by decide) fun Q hQ => ?_
  try simp only [F_all]
  simp (maxSteps := 400000) only [↓preZ, postZ, coreZ, ↓preU, postU, D_all, F_all, unR, outL, onePV, binS, ↓binS, boundR, ↓boundR, fieldOf, ↓fieldOf, boxR, allocR, newObj, zeroElem, buildSliceR, appendR, setAll, storeR, St.freeze, makeSliceR, minmaxR, makeFuncR, BEq.rfl, reduceIte, reduceCtorEq, Nat.reduceLT, Nat.reduceAdd, Nat.reduceSub, Nat.reduceMul, Nat.reduceBEq, Nat.reduceLeDiff, Int.reduceToNat, Int.reduceLE, hQ, c_louperef01_figures]
  refine wpc_loop (fun m S => ∃ i : Nat, i + m = s.length ∧ figs (s.drop i) = figs s ∧ S = ⟨tmA 20 [(0, .str s), (3, .int .i64 i)], []⟩) s.length ⟨0, by omega, rfl, ?_⟩ ?_
  · simp only [normR, keepR, Nat.reduceAdd, lkR, Nat.reduceBEq, F_all, List.map_nil]
    rfl
  rintro m S ⟨i, him, hu, rfl⟩
  rcases Nat.lt_or_ge i s.length with h | h
  · have hg := List.getElem?_eq_getElem h
    have hd := List.drop_eq_getElem_cons h
    generalize s[i] = c at hg hd
    simp (maxSteps := 400000) only [↓preZ, postZ, coreZ, ↓preU, postU, D_all, F_all, unR, outL, onePV, binS, ↓binS, boundR, ↓boundR, fieldOf, ↓fieldOf, boxR, allocR, newObj, zeroElem, buildSliceR, appendR, setAll, storeR, St.freeze, makeSliceR, minmaxR, makeFuncR, BEq.rfl, reduceIte, reduceCtorEq, Nat.reduceLT, Nat.reduceAdd, Nat.reduceSub, Nat.reduceMul, Nat.reduceBEq, Nat.reduceLeDiff, Int.reduceToNat, Int.reduceLE, hQ, hg]
    have hf : figs (c :: s.drop (i + 1)) = (decide (48 ≤ c) && decide (c ≤ 57) && figs (s.drop (i + 1))) := by simp [figs]
    rw [hd, hf] at hu
    refine ⟨fun _ => ⟨by omega, fun h1 => ?_, fun h1 => ⟨by omega, fun h2 => ?_, fun h2 => ⟨⟨by omega, by omega⟩, m - 1, by omega, i + 1, by omega, ?_, by simp⟩⟩⟩, fun h1 => absurd (by omega) h1⟩
    · have : ¬ (48 ≤ c) := fun h => by have := (u8c c 48 (by omega)).2.1 h; omega
      rw [← hu]; simp [this]
    · have : ¬ (c ≤ 57) := fun h => by have : c.toNat ≤ (57 : UInt8).toNat := UInt8.le_iff_toNat_le.1 h; have h57 : (57 : UInt8).toNat = 57 := rfl; omega
      rw [← hu]; simp [this]
    · have h3 : 48 ≤ c := (u8c c 48 (by omega)).2.2 (by omega)
      have h4 : c ≤ 57 := UInt8.le_iff_toNat_le.2 (by have h57 : (57 : UInt8).toNat = 57 := rfl; omega)
      rw [← hu]; simp [h3, h4]
  · simp (maxSteps := 400000) only [↓preZ, postZ, coreZ, ↓preU, postU, D_all, F_all, unR, outL, onePV, binS, ↓binS, boundR, ↓boundR, fieldOf, ↓fieldOf, boxR, allocR, newObj, zeroElem, buildSliceR, appendR, setAll, storeR, St.freeze, makeSliceR, minmaxR, makeFuncR, BEq.rfl, reduceIte, reduceCtorEq, Nat.reduceLT, Nat.reduceAdd, Nat.reduceSub, Nat.reduceMul, Nat.reduceBEq, Nat.reduceLeDiff, Int.reduceToNat, Int.reduceLE, hQ]
    refine ⟨fun h1 => absurd h1 (by omega), fun _ => ?_⟩
    rw [← hu, List.drop_eq_nil_of_le h]; rfl

def ctrFigs : Ctr := fun args objs K => match args with
  | [.str s] => (s.length ≤ 4611686018427387904) ∧ K (.bool (figs s)) objs 0
  | _ => False
theorem ctrFigs_ok : CtrOk Try.prog f_louperef01_figures (ctrFigs) := by
  intro args objs K h
  unfold ctrFigs at h
  split at h
  · rename_i s
    obtain ⟨h1, hk⟩ := h
    exact ⟨_, _, _, .pure _ rfl (figures_spec s h1), hk⟩
  · exact h.elim

theorem numB_iff (n : Nd) : numB n = true ↔ n.many = 0 ∧ figs n.s = true ∧ n.s.length ≤ 100 ∧ -1000 ≤ n.e ∧ n.e ≤ 1000 ∧ n.s.length + n.e ≤ 1000 ∧
    (if n.s = [] then n.neg = false ∧ n.e = 0 else n.s.head? ≠ some 48 ∧ n.s.getLast? ≠ some 48) := by
  simp only [numB, Bool.and_eq_true, decide_eq_true_eq, beq_iff_eq, and_assoc]
  split <;> simp

theorem bfalse {b : Bool} (h : b = true → False) : b = false := by cases b <;> simp_all

theorem numRight_spec (n : Nd) (hl : n.s.length ≤ 4611686018427387904) (hk : n.kind = 3) (hn : n.name = []) : FnSpec Try.prog f_louperef01_Right [encN n] [] (.bool (numB n)) [] := by
  refine k_louperef01_Right.pureG (T := tabL Try.prog [(f_louperef01_figures, ctrFigs)]) 0 hD (kOk_tabL (tabOk_cons ctrFigs_ok tabOk_nil)) hmix (by decide) fun Q hQ => ?_
  try simp only [F_all]
  simp (maxSteps := 400000) only [↓preZ, postZ, coreZ, ↓preU, postU, D_all, F_all, unR, outL, onePV, binS, ↓binS, boundR, ↓boundR, fieldOf, ↓fieldOf, boxR, allocR, newObj, zeroElem, buildSliceR, appendR, setAll, storeR, St.freeze, makeSliceR, minmaxR, makeFuncR, BEq.rfl, reduceIte, reduceCtorEq, Nat.reduceLT, Nat.reduceAdd, Nat.reduceSub, Nat.reduceMul, Nat.reduceBEq, Nat.reduceLeDiff, Int.reduceToNat, Int.reduceLE, hQ, c_louperef01_Right]
  refine wpc_weak _ (Weak.freeze 1 0 (Nat.le_refl _) _) ?_
  cases hf : figs n.s
  · simp (maxSteps := 400000) only [↓preZ, postZ, coreZ, ↓preU, postU, D_all, F_all, unR, outL, onePV, binS, ↓binS, boundR, ↓boundR, fieldOf, ↓fieldOf, boxR, allocR, newObj, zeroElem, buildSliceR, appendR, setAll, storeR, St.freeze, makeSliceR, minmaxR, makeFuncR, BEq.rfl, reduceIte, reduceCtorEq, Nat.reduceLT, Nat.reduceAdd, Nat.reduceSub, Nat.reduceMul, Nat.reduceBEq, Nat.reduceLeDiff, Int.reduceToNat, Int.reduceLE, hQ, frzC0, ↓ctrFigs, hk, hn, hf]
    have : numB n = false := bfalse fun h => by have := ((numB_iff n).1 h).2.1; rw [hf] at this; cases this
    exact ⟨fun _ => ⟨hl, this⟩, fun _ => this⟩
  by_cases hs : n.s = []
  · simp (maxSteps := 400000) only [↓preZ, postZ, coreZ, ↓preU, postU, D_all, F_all, unR, outL, onePV, binS, ↓binS, boundR, ↓boundR, fieldOf, ↓fieldOf, boxR, allocR, newObj, zeroElem, buildSliceR, appendR, setAll, storeR, St.freeze, makeSliceR, minmaxR, makeFuncR, BEq.rfl, reduceIte, reduceCtorEq, Nat.reduceLT, Nat.reduceAdd, Nat.reduceSub, Nat.reduceMul, Nat.reduceBEq, Nat.reduceLeDiff, Int.reduceToNat, Int.reduceLE, hQ, frzC0, ↓ctrFigs, hk, hn, hs]
    have hf0 : figs [] = true := rfl
    have key := numB_iff n
    rw [if_pos hs, hs] at key
    have hlz : (([] : List UInt8).length : Int) = 0 := rfl
    simp only [hf0, ifR, hlz, Int.zero_add, List.length_nil]
    refine ⟨fun h0 => ⟨fun h => absurd h (by omega), fun _ => ⟨fun h => bfalse fun hb => ?_, fun h1 => ⟨fun h => bfalse fun hb => ?_, fun h2 => ⟨⟨by omega, by omega⟩, fun h => bfalse fun hb => ?_, fun h3 => ?_⟩⟩⟩⟩, fun h0 => bfalse fun hb => ?_⟩
    · have := key.1 hb; omega
    · have := key.1 hb; omega
    · have := key.1 hb; omega
    · refine ⟨fun hng => bfalse fun hb => ?_, fun hng => ?_⟩
      · have := (key.1 hb).2.2.2.2.2.2.1; rw [hng] at this; cases this
      · by_cases hz : n.e = 0
        · rw [decide_eq_true hz, key]
          exact ⟨h0, hf0, by simp, by omega, by omega, by simp; omega, hng, hz⟩
        · rw [decide_eq_false hz]
          exact bfalse fun hb => hz (key.1 hb).2.2.2.2.2.2.2
    · have := key.1 hb; omega
  · obtain ⟨c, t, hct⟩ : ∃ c t, n.s = c :: t := by
      cases h : n.s with
      | nil => exact absurd h hs
      | cons c t => exact ⟨c, t, rfl⟩
    have hlen : 0 < n.s.length := by rw [hct]; simp
    have g0 : n.s[0]? = some c := by rw [hct]; rfl
    have g1 : n.s[n.s.length - 1]? = some (n.s[n.s.length - 1]'(by omega)) := List.getElem?_eq_getElem (by omega)
    have t1 : ((n.s.length : Int) - 1).toNat = n.s.length - 1 := by omega
    have hl1 : n.s.getLast? = some (n.s[n.s.length - 1]'(by omega)) := by rw [List.getLast?_eq_getElem?, g1]
    have hh1 : n.s.head? = some c := by rw [hct]; rfl
    generalize n.s[n.s.length - 1]'(by omega) = d at g1 hl1
    have i1 : (-9223372036854775808 ≤ (n.s.length : Int) - 1 ∧ (n.s.length : Int) - 1 ≤ 9223372036854775807) = True := eq_true ⟨by omega, by omega⟩
    have z1 : (0 ≤ (n.s.length : Int) - 1) = True := eq_true (by omega)
    simp (maxSteps := 400000) only [↓preZ, postZ, coreZ, ↓preU, postU, D_all, F_all, unR, outL, onePV, binS, ↓binS, boundR, ↓boundR, fieldOf, ↓fieldOf, boxR, allocR, newObj, zeroElem, buildSliceR, appendR, setAll, storeR, St.freeze, makeSliceR, minmaxR, makeFuncR, BEq.rfl, reduceIte, reduceCtorEq, Nat.reduceLT, Nat.reduceAdd, Nat.reduceSub, Nat.reduceMul, Nat.reduceBEq, Nat.reduceLeDiff, Int.reduceToNat, Int.reduceLE, hQ, frzC0, ↓ctrFigs, hk, hn, hs, hf, g0, t1, g1, i1, z1]
    have key := numB_iff n
    rw [if_neg hs, hh1, hl1] at key
    have e48 : ∀ x : UInt8, x = 48 ↔ x.toNat = 48 := fun x => ⟨fun h => by rw [h]; rfl, fun h => UInt8.toNat_inj.1 (by simpa using h)⟩
    refine ⟨fun h0 => ⟨hl, fun h => bfalse fun hb => ?_, fun h1 => ⟨fun h => bfalse fun hb => ?_, fun h2 => ⟨fun h => bfalse fun hb => ?_, fun h3 => ⟨⟨by omega, by omega⟩, fun h => bfalse fun hb => ?_, fun h4 => ⟨fun h => bfalse fun hb => ?_, fun h5 => ?_⟩⟩⟩⟩⟩, fun h0 => bfalse fun hb => ?_⟩
    · have := key.1 hb; omega
    · have := key.1 hb; omega
    · have := key.1 hb; omega
    · have := key.1 hb; omega
    · refine (key.1 hb).2.2.2.2.2.2.1 ?_
      rw [(e48 c).2 (by omega)]
    · by_cases hz : d.toNat = 48
      · have hz' : (d.toNat : Int) = 48 := by omega
        rw [decide_eq_true hz']
        refine bfalse fun hb => (key.1 hb).2.2.2.2.2.2.2 ?_
        rw [(e48 d).2 hz]
      · have hz' : ¬ (d.toNat : Int) = 48 := by omega
        rw [decide_eq_false hz', Bool.not_false, key]
        refine ⟨h0, hf, by omega, by omega, by omega, by omega, fun h => ?_, fun h => ?_⟩
        · have := (e48 c).1 (by simpa using h); omega
        · exact hz ((e48 d).1 (by simpa using h))
    · exact h0 (key.1 hb).1

def ctrNumRight : Ctr := fun args objs K => match args with
  | [a0] => ofE encN a0 (HK.mk : HK fun n => (n.s.length ≤ 4611686018427387904) ∧ (n.kind = 3) ∧ (n.name = []) ∧ K (.bool (numB n)) objs 0)
  | _ => False
theorem ctrNumRight_ok : CtrOk Try.prog f_louperef01_Right (ctrNumRight) := by
  intro args objs K h
  unfold ctrNumRight at h
  split at h
  · rename_i a0
    obtain ⟨n, rfl, h1, h2, h3, hk⟩ := h
    exact ⟨_, _, _, .pure _ rfl (numRight_spec n h1 h2 h3), hk⟩
  · exact h.elim
end Lp

/-! LpW16 -/

namespace Lp
open Go Go.Proofs

set_option maxHeartbeats 4000000
set_option maxRecDepth 20000
set_option linter.unusedSimpArgs false

/-- The place behind, or -1. -/
def nextI (v : Vl) (i : Nat) : Int := match nxt v.length (v.drop i) 1 with
  | some c => (i + c : Nat)
  | none => -1

theorem nextI_none {v : Vl} {i : Nat} (h : (nxt v.length (v.drop i) 1).map (fun c => i + c) = none) : nextI v i = -1 := by
  unfold nextI
  cases hx : nxt v.length (v.drop i) 1 with
  | none => rfl
  | some c => rw [hx] at h; simp at h
theorem nextI_some {v : Vl} {i j : Nat} (h : (nxt v.length (v.drop i) 1).map (fun c => i + c) = some j) : nextI v i = j := by
  unfold nextI
  cases hx : nxt v.length (v.drop i) 1 with
  | none => rw [hx] at h; simp at h
  | some c => rw [hx] at h; simp only [Option.map_some, Option.some.injEq] at h; rw [← h]

theorem nxt_zero (L : Nat) (v : Vl) : nxt L v 0 = some 0 := by cases v <;> rfl

theorem next_spec (v : Vl) (i : Nat) (hi : i ≤ v.length) (hl : v.length ≤ 1000000) : FnSpec Try.prog f_louperef02_Next [encV v, .int .i64 i] [] (.int .i64 (nextI v i)) [] := by
  refine k_louperef02_Next.pureG (T := tabL Try.prog []) 0 hD (kOk_tabL tabOk_nil) hmix (by decide) fun Q hQ => ?_
  try simp only [F_all]
  simp (maxSteps := 400000) only [↓preZ, postZ, coreZ, ↓preU, postU, D_all, F_all, unR, outL, onePV, binS, ↓binS, boundR, ↓boundR, fieldOf, ↓fieldOf, boxR, allocR, newObj, zeroElem, buildSliceR, appendR, setAll, storeR, St.freeze, makeSliceR, minmaxR, makeFuncR, BEq.rfl, reduceIte, reduceCtorEq, Nat.reduceLT, Nat.reduceAdd, Nat.reduceSub, Nat.reduceMul, Nat.reduceBEq, Nat.reduceLeDiff, Int.reduceToNat, Int.reduceLE, hQ, c_louperef02_Next]
  refine wpc_loop (fun m S => ∃ j k : Nat, j + m = v.length ∧ k ≤ 1 + j * 1000000 ∧ (nxt v.length (v.drop i) 1).map (fun c => i + c) = (nxt v.length (v.drop j) k).map (fun c => j + c) ∧
    S = ⟨tmA 41 [(0, encV v), (1, .int .i64 j), (5, .int .i64 k)], []⟩) (v.length - i) ⟨i, 1, by omega, by omega, rfl, ?_⟩ ?_
  · simp only [normR, keepR, Nat.reduceAdd, lkR, Nat.reduceBEq, F_all, List.map_nil]
    rfl
  rintro m S ⟨j, k, hjm, hk, hn, rfl⟩
  rcases Nat.lt_or_ge j v.length with h | h
  · have hg := List.getElem?_eq_getElem h
    have hd := List.drop_eq_getElem_cons h
    generalize v[j] = n at hg hd
    simp (maxSteps := 400000) only [↓preZ, postZ, coreZ, ↓preU, postU, D_all, F_all, unR, outL, onePV, binS, ↓binS, boundR, ↓boundR, fieldOf, ↓fieldOf, boxR, allocR, newObj, zeroElem, buildSliceR, appendR, setAll, storeR, St.freeze, makeSliceR, minmaxR, makeFuncR, BEq.rfl, reduceIte, reduceCtorEq, Nat.reduceLT, Nat.reduceAdd, Nat.reduceSub, Nat.reduceMul, Nat.reduceBEq, Nat.reduceLeDiff, Int.reduceToNat, Int.reduceLE, hQ, hg]
    refine ⟨fun hk0 => ⟨fun h' => absurd h' (by omega), fun _ => ⟨by omega, fun hm => ?_, fun hm => ⟨by omega, fun hm2 => ?_, fun hm2 => ?_⟩⟩⟩, fun hk0 => ?_⟩
    · obtain ⟨k, rfl⟩ : ∃ q, k = q + 1 := ⟨k - 1, by omega⟩
      rw [hd, nxt, if_pos (.inl hm)] at hn
      rw [nextI_none hn]
    · obtain ⟨k, rfl⟩ : ∃ q, k = q + 1 := ⟨k - 1, by omega⟩
      rw [hd, nxt, if_pos (.inr hm2)] at hn
      rw [nextI_none hn]
    · obtain ⟨k, rfl⟩ : ∃ q, k = q + 1 := ⟨k - 1, by omega⟩
      rw [hd, nxt, if_neg (by omega)] at hn
      have hk2 : (((k + 1 : Nat) : Int) - 1 + n.many) = ((k + n.many.toNat : Nat) : Int) := by omega
      refine ⟨⟨by omega, by omega⟩, by omega, ⟨by omega, by omega⟩, ⟨by omega, by omega⟩, m - 1, by omega, j + 1, k + n.many.toNat, by omega, by omega, ?_, ?_⟩
      · rw [hn]
        cases nxt v.length (v.drop (j + 1)) (k + n.many.toNat) with
        | none => rfl
        | some c => simp; omega
      · rw [hk2]; rfl
    · have hk1 : k = 0 := by omega
      subst hk1
      rw [nxt_zero] at hn
      rw [nextI_some (j := j) (by simpa using hn)]
  · simp (maxSteps := 400000) only [↓preZ, postZ, coreZ, ↓preU, postU, D_all, F_all, unR, outL, onePV, binS, ↓binS, boundR, ↓boundR, fieldOf, ↓fieldOf, boxR, allocR, newObj, zeroElem, buildSliceR, appendR, setAll, storeR, St.freeze, makeSliceR, minmaxR, makeFuncR, BEq.rfl, reduceIte, reduceCtorEq, Nat.reduceLT, Nat.reduceAdd, Nat.reduceSub, Nat.reduceMul, Nat.reduceBEq, Nat.reduceLeDiff, Int.reduceToNat, Int.reduceLE, hQ]
    refine ⟨fun hk0 => ⟨fun _ => ?_, fun h' => absurd (by omega) h'⟩, fun hk0 => ?_⟩
    · obtain ⟨k, rfl⟩ : ∃ q, k = q + 1 := ⟨k - 1, by omega⟩
      rw [List.drop_eq_nil_of_le h] at hn
      simp only [nxt, Option.map_none] at hn
      rw [nextI_none hn]
    · have hk1 : k = 0 := by omega
      subst hk1
      rw [nxt_zero] at hn
      rw [nextI_some (j := j) (by simpa using hn)]

theorem next_spec' (v : Vl) (i : Int) (h0 : 0 ≤ i) (hi : i.toNat ≤ v.length) (hl : v.length ≤ 1000000) : FnSpec Try.prog f_louperef02_Next [encV v, .int .i64 i] [] (.int .i64 (nextI v i.toNat)) [] := by
  have e : i = (i.toNat : Int) := by omega
  rw [e]
  exact next_spec v i.toNat hi hl

def ctrNext : Ctr := fun args objs K => match args with
  | [a0, .int .i64 i] => ofE encV a0 (HK.mk : HK fun v => (0 ≤ i) ∧ (i.toNat ≤ v.length) ∧ (v.length ≤ 1000000) ∧ K (.int .i64 (nextI v i.toNat)) objs 0)
  | _ => False
theorem ctrNext_ok : CtrOk Try.prog f_louperef02_Next (ctrNext) := by
  intro args objs K h
  unfold ctrNext at h
  split at h
  · rename_i a0 i
    obtain ⟨v, rfl, h1, h2, h3, hk⟩ := h
    exact ⟨_, _, _, .pure _ rfl (next_spec' v i h1 h2 h3), hk⟩
  · exact h.elim
end Lp

/-! LpW17 -/

namespace Lp
open Go Go.Proofs

set_option maxHeartbeats 4000000
set_option maxRecDepth 20000
set_option linter.unusedSimpArgs false

theorem plain_spec (n : Nd) (hl : n.s.length ≤ 4611686018427387904) : FnSpec Try.prog f_louperef02_plain [encN n] [] (.bool (plainB n)) [] := by
  refine k_louperef02_plain.pureG (T := tabL Try.prog [(f_louperef02_Utf, ctrUtf), (f_louperef01_Right, ctrNumRight)]) 0 hD (kOk_tabL (tabOk_cons ctrUtf_ok (tabOk_cons ctrNumRight_ok tabOk_nil))) hmix (by decide) fun Q hQ => ?_
  try simp only [F_all]
  have h8 : n.kind = 0 ∨ n.kind = 1 ∨ n.kind = 2 ∨ n.kind = 3 ∨ n.kind = 4 ∨ n.kind = 5 ∨ n.kind = 6 ∨ (n.kind ≠ 0 ∧ n.kind ≠ 1 ∧ n.kind ≠ 2 ∧ n.kind ≠ 3 ∧ n.kind ≠ 4 ∧ n.kind ≠ 5 ∧ n.kind ≠ 6) := by omega
  rcases h8 with hk | hk | hk | hk | hk | hk | hk | ⟨k0, k1, k2, k3, k4, k5, k6⟩
  · simp (maxSteps := 400000) only [↓preZ, postZ, coreZ, ↓preU, postU, D_all, F_all, unR, outL, onePV, binS, ↓binS, boundR, ↓boundR, fieldOf, ↓fieldOf, boxR, allocR, newObj, zeroElem, buildSliceR, appendR, setAll, storeR, St.freeze, makeSliceR, minmaxR, makeFuncR, BEq.rfl, reduceIte, reduceCtorEq, Nat.reduceLT, Nat.reduceAdd, Nat.reduceSub, Nat.reduceMul, Nat.reduceBEq, Nat.reduceLeDiff, Int.reduceToNat, Int.reduceLE, hQ, c_louperef02_plain, ↓ctrUtf, ↓ctrNumRight, hk, Int.reduceEq]
    rw [Bool.eq_iff_iff]
    simp [plainB, hk, and_assoc]
  · simp (maxSteps := 400000) only [↓preZ, postZ, coreZ, ↓preU, postU, D_all, F_all, unR, outL, onePV, binS, ↓binS, boundR, ↓boundR, fieldOf, ↓fieldOf, boxR, allocR, newObj, zeroElem, buildSliceR, appendR, setAll, storeR, St.freeze, makeSliceR, minmaxR, makeFuncR, BEq.rfl, reduceIte, reduceCtorEq, Nat.reduceLT, Nat.reduceAdd, Nat.reduceSub, Nat.reduceMul, Nat.reduceBEq, Nat.reduceLeDiff, Int.reduceToNat, Int.reduceLE, hQ, c_louperef02_plain, ↓ctrUtf, ↓ctrNumRight, hk, Int.reduceEq]
    rw [Bool.eq_iff_iff]
    simp [plainB, hk, and_assoc]
  · simp (maxSteps := 400000) only [↓preZ, postZ, coreZ, ↓preU, postU, D_all, F_all, unR, outL, onePV, binS, ↓binS, boundR, ↓boundR, fieldOf, ↓fieldOf, boxR, allocR, newObj, zeroElem, buildSliceR, appendR, setAll, storeR, St.freeze, makeSliceR, minmaxR, makeFuncR, BEq.rfl, reduceIte, reduceCtorEq, Nat.reduceLT, Nat.reduceAdd, Nat.reduceSub, Nat.reduceMul, Nat.reduceBEq, Nat.reduceLeDiff, Int.reduceToNat, Int.reduceLE, hQ, c_louperef02_plain, ↓ctrUtf, ↓ctrNumRight, hk, Int.reduceEq]
    rw [Bool.eq_iff_iff]
    simp [plainB, hk, and_assoc]
  · simp (maxSteps := 400000) only [↓preZ, postZ, coreZ, ↓preU, postU, D_all, F_all, unR, outL, onePV, binS, ↓binS, boundR, ↓boundR, fieldOf, ↓fieldOf, boxR, allocR, newObj, zeroElem, buildSliceR, appendR, setAll, storeR, St.freeze, makeSliceR, minmaxR, makeFuncR, BEq.rfl, reduceIte, reduceCtorEq, Nat.reduceLT, Nat.reduceAdd, Nat.reduceSub, Nat.reduceMul, Nat.reduceBEq, Nat.reduceLeDiff, Int.reduceToNat, Int.reduceLE, hQ, c_louperef02_plain, ↓ctrUtf, ↓ctrNumRight, hk, Int.reduceEq]
    refine ⟨hl, ?_⟩
    simp [plainB, hk, numB]
  · simp (maxSteps := 400000) only [↓preZ, postZ, coreZ, ↓preU, postU, D_all, F_all, unR, outL, onePV, binS, ↓binS, boundR, ↓boundR, fieldOf, ↓fieldOf, boxR, allocR, newObj, zeroElem, buildSliceR, appendR, setAll, storeR, St.freeze, makeSliceR, minmaxR, makeFuncR, BEq.rfl, reduceIte, reduceCtorEq, Nat.reduceLT, Nat.reduceAdd, Nat.reduceSub, Nat.reduceMul, Nat.reduceBEq, Nat.reduceLeDiff, Int.reduceToNat, Int.reduceLE, hQ, c_louperef02_plain, ↓ctrUtf, ↓ctrNumRight, hk, Int.reduceEq]
    refine ⟨hl, ?_⟩
    cases hu : utf n.s
    · simp [ifP, plainB, hk, hu]
    · simp only [ifR]
      rw [Bool.eq_iff_iff]
      simp [plainB, hk, hu, and_assoc]
  · simp (maxSteps := 400000) only [↓preZ, postZ, coreZ, ↓preU, postU, D_all, F_all, unR, outL, onePV, binS, ↓binS, boundR, ↓boundR, fieldOf, ↓fieldOf, boxR, allocR, newObj, zeroElem, buildSliceR, appendR, setAll, storeR, St.freeze, makeSliceR, minmaxR, makeFuncR, BEq.rfl, reduceIte, reduceCtorEq, Nat.reduceLT, Nat.reduceAdd, Nat.reduceSub, Nat.reduceMul, Nat.reduceBEq, Nat.reduceLeDiff, Int.reduceToNat, Int.reduceLE, hQ, c_louperef02_plain, ↓ctrUtf, ↓ctrNumRight, hk, Int.reduceEq]
    refine ⟨fun hm => ?_, fun hm => ?_⟩
    · rw [Bool.eq_iff_iff]
      simp [plainB, hk, hm, and_assoc]
    · simp [plainB, hk, hm]
  · simp (maxSteps := 400000) only [↓preZ, postZ, coreZ, ↓preU, postU, D_all, F_all, unR, outL, onePV, binS, ↓binS, boundR, ↓boundR, fieldOf, ↓fieldOf, boxR, allocR, newObj, zeroElem, buildSliceR, appendR, setAll, storeR, St.freeze, makeSliceR, minmaxR, makeFuncR, BEq.rfl, reduceIte, reduceCtorEq, Nat.reduceLT, Nat.reduceAdd, Nat.reduceSub, Nat.reduceMul, Nat.reduceBEq, Nat.reduceLeDiff, Int.reduceToNat, Int.reduceLE, hQ, c_louperef02_plain, ↓ctrUtf, ↓ctrNumRight, hk, Int.reduceEq]
    refine ⟨fun hm => ?_, fun hm => ?_⟩
    · rw [Bool.eq_iff_iff]
      simp [plainB, hk, hm, and_assoc]
    · simp [plainB, hk, hm]
  · simp (maxSteps := 400000) only [↓preZ, postZ, coreZ, ↓preU, postU, D_all, F_all, unR, outL, onePV, binS, ↓binS, boundR, ↓boundR, fieldOf, ↓fieldOf, boxR, allocR, newObj, zeroElem, buildSliceR, appendR, setAll, storeR, St.freeze, makeSliceR, minmaxR, makeFuncR, BEq.rfl, reduceIte, reduceCtorEq, Nat.reduceLT, Nat.reduceAdd, Nat.reduceSub, Nat.reduceMul, Nat.reduceBEq, Nat.reduceLeDiff, Int.reduceToNat, Int.reduceLE, hQ, c_louperef02_plain, ↓ctrUtf, ↓ctrNumRight, k0, k1, k2, k3, k4, k5, k6]
    simp [plainB, k0, k1, k2, k3, k4, k5, k6]

def ctrPlain : Ctr := fun args objs K => match args with
  | [a0] => ofE encN a0 (HK.mk : HK fun n => (n.s.length ≤ 4611686018427387904) ∧ K (.bool (plainB n)) objs 0)
  | _ => False
theorem ctrPlain_ok : CtrOk Try.prog f_louperef02_plain (ctrPlain) := by
  intro args objs K h
  unfold ctrPlain at h
  split at h
  · rename_i a0
    obtain ⟨n, rfl, h1, hk⟩ := h
    exact ⟨_, _, _, .pure _ rfl (plain_spec n h1), hk⟩
  · exact h.elim
end Lp

/-! LpW18 -/

namespace Lp
open Go Go.Proofs

set_option maxHeartbeats 4000000
set_option maxRecDepth 20000
set_option linter.unusedSimpArgs false

def nextOk (kind : Int) (name : List UInt8) : List Vl → Bool
  | [] => true
  | q :: _ => kind != 6 || Op.bytesLess name (nameOf q)

theorem ifF {X Y : Prop} (h : Y) : ifP false X Y := ⟨fun h => (by cases h), fun _ => h⟩
theorem ifT {X Y : Prop} (h : X) : ifP true X Y := ⟨fun _ => h, fun h => (by cases h)⟩

/-- The nodes a value may have, by size. -/
structure Small (v : Vl) : Prop where
  len : v.length ≤ 1000000
  txt : ∀ n ∈ v, n.s.length ≤ 4611686018427387904 ∧ n.name.length ≤ 4611686018427387904

theorem nxt_split (L : Nat) : ∀ (v : Vl) (j k c : Nat), nxt L v (j + k) = some c → ∃ c1 c2, nxt L v j = some c1 ∧ nxt L (v.drop c1) k = some c2 ∧ c = c1 + c2
  | v, 0, k, c, h => ⟨0, c, nxt_zero L v, by simpa using h, by simp⟩
  | [], j + 1, k, c, h => by
    rw [show j + 1 + k = (j + k) + 1 by omega] at h
    simp [nxt] at h
  | n :: v, j + 1, k, c, h => by
    rw [show j + 1 + k = (j + k) + 1 by omega, nxt] at h
    split at h
    · cases h
    · rename_i hn
      cases hs : nxt L v (j + k + n.many.toNat) with
      | none => rw [hs] at h; simp at h
      | some c' =>
        rw [hs] at h
        simp only [Option.map_some, Option.some.injEq] at h
        rw [show j + k + n.many.toNat = (j + n.many.toNat) + k by omega] at hs
        obtain ⟨c1, c2, h1, h2, rfl⟩ := nxt_split L v _ k c' hs
        refine ⟨c1 + 1, c2, ?_, by simpa using h2, by omega⟩
        rw [nxt, if_neg hn, h1]; rfl

theorem nextI_of {v : Vl} {i c : Nat} (h : nxt v.length (v.drop i) 1 = some c) : nextI v i = (i + c : Nat) := by
  simp only [nextI, h]

/-- Rising, from a part on. -/
theorem rising_spec (v : Vl) (at' : Nat) (n : Nd) (c : Nat) (hs : Small v) (hat : v[at']? = some n) (hm : 0 ≤ n.many) (hc : nxt v.length (v.drop (at' + 1)) n.many.toNat = some c) (ps : List Vl) (hps : parts n.many.toNat (v.drop (at' + 1)) = some ps) :
    FnSpec Try.prog f_louperef02_rising [encV v, .int .i64 at'] [] (.bool (risB n.kind ps)) [] := by
  obtain ⟨hl, htx⟩ := hs
  have hatl := (List.getElem?_eq_some_iff.1 hat).1
  have hpl := parts_len _ _ _ hps
  have hple := parts_le _ _ _ hps
  simp only [List.length_drop] at hple
  refine k_louperef02_rising.pureG (T := tabL Try.prog [(f_louperef02_Utf, ctrUtf), (f_louperef02_Next, ctrNext)]) 0 hD (kOk_tabL (tabOk_cons ctrUtf_ok (tabOk_cons ctrNext_ok tabOk_nil))) hmix (by decide) fun Q hQ => ?_
  try simp only [F_all]
  simp (maxSteps := 400000) only [↓preZ, postZ, coreZ, ↓preU, postU, D_all, F_all, unR, outL, onePV, binS, ↓binS, boundR, ↓boundR, fieldOf, ↓fieldOf, boxR, allocR, newObj, zeroElem, buildSliceR, appendR, setAll, storeR, St.freeze, makeSliceR, minmaxR, makeFuncR, BEq.rfl, reduceIte, reduceCtorEq, Nat.reduceLT, Nat.reduceAdd, Nat.reduceSub, Nat.reduceMul, Nat.reduceBEq, Nat.reduceLeDiff, Int.reduceToNat, Int.reduceLE, hQ, c_louperef02_rising]
  refine ⟨⟨by omega, by omega⟩, ?_⟩
  refine wpc_loop (fun m S => ∃ (i c' : Nat) (rest : List Vl), m = rest.length ∧ rest.length ≤ ps.length ∧ parts rest.length (v.drop i) = some rest ∧ nxt v.length (v.drop i) rest.length = some c' ∧ risB n.kind rest = risB n.kind ps ∧
    S = ⟨tmA 75 [(0, encV v), (1, .int .i64 at'), (5, .int .i64 i), (6, .int .i64 ((ps.length : Int) - rest.length))], []⟩) ps.length ⟨at' + 1, c, ps, rfl, Nat.le_refl _, by rw [hpl]; exact hps, by rw [hpl]; exact hc, rfl, ?_⟩ ?_
  · simp only [normR, keepR, Nat.reduceAdd, lkR, Nat.reduceBEq, F_all, List.map_nil]
    simp
  rintro m S ⟨i, c', rest, rfl, hrl, hrp, hrn, hrb, rfl⟩
  have hmn : n.many = (ps.length : Int) := by omega
  have z0 : (0 ≤ (at' : Int)) = True := eq_true (by omega)
  have zi : (0 ≤ (i : Int)) = True := eq_true (by omega)
  cases rest with
  | nil =>
    simp (maxSteps := 400000) only [↓preZ, postZ, coreZ, ↓preU, postU, D_all, F_all, unR, outL, onePV, binS, ↓binS, boundR, ↓boundR, fieldOf, ↓fieldOf, boxR, allocR, newObj, zeroElem, buildSliceR, appendR, setAll, storeR, St.freeze, makeSliceR, minmaxR, makeFuncR, BEq.rfl, reduceIte, reduceCtorEq, Nat.reduceLT, Nat.reduceAdd, Nat.reduceSub, Nat.reduceMul, Nat.reduceBEq, Nat.reduceLeDiff, Int.reduceToNat, Int.reduceLE, hQ, hat, hmn, z0]
    refine ⟨fun h => absurd h (by simp), fun _ => ?_⟩
    rw [← hrb]; rfl
  | cons p qs =>
    obtain ⟨pc, qs', h1, h2, h3⟩ := parts_step (k := qs.length) hrp
    simp only [List.cons.injEq] at h2
    obtain ⟨rfl, rfl⟩ := h2
    have hpc := skip_le _ _ _ h1
    simp only [List.length_drop] at hpc
    have hil : i < v.length := by omega
    have hgi := List.getElem?_eq_getElem hil
    have hdi := List.drop_eq_getElem_cons hil
    have htx1 := htx _ (List.getElem_mem hil)
    generalize v[i] = pn at hgi hdi htx1
    have hname : nameOf (List.take pc (v.drop i)) = pn.name := by
      obtain ⟨q, hq⟩ : ∃ q, pc = q + 1 := ⟨pc - 1, by omega⟩
      rw [hdi, hq]; rfl
    obtain ⟨c1, c2, e1, e2, e3⟩ := nxt_split v.length (v.drop i) 1 qs.length c' (by rw [Nat.add_comm]; exact hrn)
    have hcc : c1 = pc := by
      have := nxt_skip _ _ _ _ e1
      rw [h1] at this
      exact (Option.some.inj this).symm
    subst hcc
    have hnx := nextI_of e1
    simp only [List.length_cons] at hrl
    have ht1 : ((i + c1 : Nat) : Int).toNat = i + c1 := by omega
    have h3' : parts qs.length (v.drop (i + c1)) = some qs := by rw [← List.drop_drop]; exact h3
    have e2' : nxt v.length (v.drop (i + c1)) qs.length = some c2 := by rw [← List.drop_drop]; exact e2
    have hun : ∀ x : Bool, nextOk n.kind pn.name qs = x → risB n.kind (List.take c1 (v.drop i) :: qs) = ((n.kind != 5 || pn.name == []) && utf pn.name && x && risB n.kind qs) := by
      intro x hx
      rw [← hx]
      cases qs <;> simp only [risB, nextOk, hname]
    have hltT : ((ps.length : Int) - ((qs.length + 1 : Nat) : Int) < (ps.length : Int)) = True := eq_true (by omega)
    cases hu : utf pn.name
    · have hfin : risB n.kind ps = false := by rw [← hrb, hun _ rfl, hu]; simp
      simp (maxSteps := 400000) only [↓preZ, postZ, coreZ, ↓preU, postU, D_all, F_all, unR, outL, onePV, binS, ↓binS, boundR, ↓boundR, fieldOf, ↓fieldOf, boxR, allocR, newObj, zeroElem, buildSliceR, appendR, setAll, storeR, St.freeze, makeSliceR, minmaxR, makeFuncR, BEq.rfl, reduceIte, reduceCtorEq, Nat.reduceLT, Nat.reduceAdd, Nat.reduceSub, Nat.reduceMul, Nat.reduceBEq, Nat.reduceLeDiff, Int.reduceToNat, Int.reduceLE, hQ, hat, hmn, z0, zi, hgi, ↓ctrUtf, ↓ctrNext, hnx, hu, hltT, hfin]
      exact ⟨fun _ _ => htx1.2, fun _ => htx1.2⟩
    by_cases h5 : n.kind = 5 ∧ pn.name ≠ []
    · have hfin : risB n.kind ps = false := by rw [← hrb, hun _ rfl]; simp [h5.1, h5.2]
      simp (maxSteps := 400000) only [↓preZ, postZ, coreZ, ↓preU, postU, D_all, F_all, unR, outL, onePV, binS, ↓binS, boundR, ↓boundR, fieldOf, ↓fieldOf, boxR, allocR, newObj, zeroElem, buildSliceR, appendR, setAll, storeR, St.freeze, makeSliceR, minmaxR, makeFuncR, BEq.rfl, reduceIte, reduceCtorEq, Nat.reduceLT, Nat.reduceAdd, Nat.reduceSub, Nat.reduceMul, Nat.reduceBEq, Nat.reduceLeDiff, Int.reduceToNat, Int.reduceLE, hQ, hat, hmn, z0, zi, hgi, ↓ctrUtf, ↓ctrNext, hnx, hu, hltT, h5.1, h5.2]
      rw [← h5.1]; exact hfin
    have hc5 : (n.kind != 5 || pn.name == []) = true := by
      by_cases hk : n.kind = 5
      · have : pn.name = [] := Decidable.of_not_not fun h => h5 ⟨hk, h⟩
        simp [this]
      · simp [hk]
    rw [hc5, hu] at hun
    have good : n.kind = 5 → pn.name = [] := fun hk => Decidable.of_not_not fun h => h5 ⟨hk, h⟩
    have hlt1 : (-9223372036854775808 ≤ (ps.length : Int) - ((qs.length + 1 : Nat) : Int) + 1 ∧ (ps.length : Int) - ((qs.length + 1 : Nat) : Int) + 1 ≤ 9223372036854775807) = True := eq_true ⟨by omega, by omega⟩
    have hiv : i ≤ v.length := by omega
    have e : (ps.length : Int) - ((qs.length + 1 : Nat) : Int) + 1 = (ps.length : Int) - qs.length := by omega
    have l1 : qs.length < qs.length + 1 := Nat.lt_succ_self _
    have l2 : qs.length ≤ ps.length := by omega
    have zc : (0 ≤ ((i + c1 : Nat) : Int)) = True := eq_true (by omega)
    -- what goes on when the part is good
    have step : nextOk n.kind pn.name qs = true → ∃ m', m' < qs.length + 1 ∧ ∃ (i_1 c' : Nat) (rest : List Vl), m' = rest.length ∧ rest.length ≤ ps.length ∧ parts rest.length (v.drop i_1) = some rest ∧ nxt v.length (v.drop i_1) rest.length = some c' ∧ risB n.kind rest = risB n.kind ps ∧
        (⟨tmA 75 [(0, encV v), (1, .int .i64 at'), (5, .int .i64 (i + c1 : Nat)), (6, .int .i64 ((ps.length : Int) - ((qs.length + 1 : Nat) : Int) + 1))], []⟩ : St) = ⟨tmA 75 [(0, encV v), (1, .int .i64 at'), (5, .int .i64 i_1), (6, .int .i64 ((ps.length : Int) - rest.length))], []⟩ := by
      intro hx
      refine ⟨qs.length, l1, i + c1, c2, qs, rfl, l2, h3', e2', ?_, ?_⟩
      · rw [← hrb, hun true hx]; simp
      · rw [e]
    have stop : nextOk n.kind pn.name qs = false → risB n.kind ps = false := fun hx => by rw [← hrb, hun false hx]; simp
    by_cases h6 : n.kind = 6
    · have h5' : ¬ n.kind = 5 := by omega
      rcases Nat.eq_zero_or_pos qs.length with hq0 | hqp
      · have hq : qs = [] := List.length_eq_zero_iff.1 hq0
        have hlast : ((ps.length : Int) - ((qs.length + 1 : Nat) : Int) + 1 < (ps.length : Int)) = False := eq_false (by omega)
        have hst := step (by rw [hq]; rfl)
        simp (maxSteps := 400000) only [↓preZ, postZ, coreZ, ↓preU, postU, D_all, F_all, unR, outL, onePV, binS, ↓binS, boundR, ↓boundR, fieldOf, ↓fieldOf, boxR, allocR, newObj, zeroElem, buildSliceR, appendR, setAll, storeR, St.freeze, makeSliceR, minmaxR, makeFuncR, BEq.rfl, reduceIte, reduceCtorEq, Nat.reduceLT, Nat.reduceAdd, Nat.reduceSub, Nat.reduceMul, Nat.reduceBEq, Nat.reduceLeDiff, Int.reduceToNat, Int.reduceLE, hQ, hat, hmn, z0, zi, hgi, ↓ctrUtf, ↓ctrNext, hnx, hu, hltT, h6, Int.reduceEq, hlt1, hlast]
        simp only [h6] at hst
        exact ⟨htx1.2, hiv, hl, hst⟩
      · obtain ⟨q, r, hqr⟩ : ∃ q r, qs = q :: r := by
          cases qs with
          | nil => simp at hqp
          | cons q r => exact ⟨q, r, rfl⟩
        have hmore : ((ps.length : Int) - ((qs.length + 1 : Nat) : Int) + 1 < (ps.length : Int)) = True := eq_true (by omega)
        have g0 := h3'
        rw [hqr] at g0
        obtain ⟨pc2, qs2, g1, g2, g3⟩ := parts_step (k := r.length) g0
        simp only [List.cons.injEq] at g2
        have hpc2 := skip_le _ _ _ g1
        simp only [List.length_drop] at hpc2
        have hil2 : i + c1 < v.length := by omega
        have hgi2 := List.getElem?_eq_getElem hil2
        have hdi2 := List.drop_eq_getElem_cons hil2
        generalize v[i + c1] = qn at hgi2 hdi2
        have hname2 : nameOf q = qn.name := by
          obtain ⟨w, hw⟩ : ∃ w, pc2 = w + 1 := ⟨pc2 - 1, by omega⟩
          rw [g2.1, hdi2, hw]; rfl
        have hno : nextOk n.kind pn.name qs = Op.bytesLess pn.name qn.name := by
          rw [hqr, nextOk, hname2]; simp [h6]
        clear g0 g1 g2 g3 hqr hname2 hdi2 hdi
        cases hbl : Op.bytesLess pn.name qn.name
        · have hfin := stop (by rw [hno, hbl])
          simp (maxSteps := 400000) only [↓preZ, postZ, coreZ, ↓preU, postU, D_all, F_all, unR, outL, onePV, binS, ↓binS, boundR, ↓boundR, fieldOf, ↓fieldOf, boxR, allocR, newObj, zeroElem, buildSliceR, appendR, setAll, storeR, St.freeze, makeSliceR, minmaxR, makeFuncR, BEq.rfl, reduceIte, reduceCtorEq, Nat.reduceLT, Nat.reduceAdd, Nat.reduceSub, Nat.reduceMul, Nat.reduceBEq, Nat.reduceLeDiff, Int.reduceToNat, Int.reduceLE, hQ, hat, hmn, z0, zi, hgi, ↓ctrUtf, ↓ctrNext, hnx, hu, hltT, h6, Int.reduceEq, hlt1, hmore, zc, ht1, hgi2, hbl]
          rw [h6] at hfin
          exact ⟨htx1.2, hiv, hl, hfin⟩
        · have hst := step (by rw [hno, hbl])
          simp (maxSteps := 400000) only [↓preZ, postZ, coreZ, ↓preU, postU, D_all, F_all, unR, outL, onePV, binS, ↓binS, boundR, ↓boundR, fieldOf, ↓fieldOf, boxR, allocR, newObj, zeroElem, buildSliceR, appendR, setAll, storeR, St.freeze, makeSliceR, minmaxR, makeFuncR, BEq.rfl, reduceIte, reduceCtorEq, Nat.reduceLT, Nat.reduceAdd, Nat.reduceSub, Nat.reduceMul, Nat.reduceBEq, Nat.reduceLeDiff, Int.reduceToNat, Int.reduceLE, hQ, hat, hmn, z0, zi, hgi, ↓ctrUtf, ↓ctrNext, hnx, hu, hltT, h6, Int.reduceEq, hlt1, hmore, zc, ht1, hgi2, hbl]
          simp only [h6] at hst
          exact ⟨htx1.2, hiv, hl, hst⟩
    · have hst := step (by cases qs <;> simp [nextOk, h6])
      simp (maxSteps := 400000) only [↓preZ, postZ, coreZ, ↓preU, postU, D_all, F_all, unR, outL, onePV, binS, ↓binS, boundR, ↓boundR, fieldOf, ↓fieldOf, boxR, allocR, newObj, zeroElem, buildSliceR, appendR, setAll, storeR, St.freeze, makeSliceR, minmaxR, makeFuncR, BEq.rfl, reduceIte, reduceCtorEq, Nat.reduceLT, Nat.reduceAdd, Nat.reduceSub, Nat.reduceMul, Nat.reduceBEq, Nat.reduceLeDiff, Int.reduceToNat, Int.reduceLE, hQ, hat, hmn, z0, zi, hgi, ↓ctrUtf, ↓ctrNext, hnx, hu, hltT, h6, hlt1]
      exact ⟨fun h5' => ⟨fun _ => ⟨htx1.2, hiv, hl, hst⟩, fun hne => absurd (good h5') hne⟩, fun _ => ⟨htx1.2, hiv, hl, hst⟩⟩
end Lp

/-! LpW19 -/

namespace Lp
open Go Go.Proofs

set_option maxHeartbeats 4000000
set_option maxRecDepth 20000
set_option linter.unusedSimpArgs false

theorem nxt_at (L : Nat) : ∀ (v : Vl) (k c i : Nat), nxt L v k = some c → i < c → ∃ k' c', nxt L (v.drop i) (k' + 1) = some c'
  | v, 0, c, i, h, hi => by rw [nxt_zero] at h; cases h; omega
  | [], k + 1, c, i, h, hi => by simp [nxt] at h
  | n :: v, k + 1, c, 0, h, hi => ⟨k, c, by simpa using h⟩
  | n :: v, k + 1, c, i + 1, h, hi => by
    rw [nxt] at h
    split at h
    · cases h
    · cases hs : nxt L v (k + n.many.toNat) with
      | none => rw [hs] at h; simp at h
      | some c' =>
        rw [hs] at h
        simp only [Option.map_some, Option.some.injEq] at h
        simpa using nxt_at L v _ c' i hs (by omega)

/-- What is asked of the names of a node's parts. -/
def goodAt (v : Vl) (i : Nat) : Bool := match v.drop i with
  | n :: r => (match parts n.many.toNat r with | some ps => risB n.kind ps | none => false)
  | [] => true

theorem goodB_drop {v : Vl} {i : Nat} {n : Nd} (hi : v[i]? = some n) : goodB (v.drop i) = (plainB n && goodAt v i && goodB (v.drop (i + 1))) := by
  have hl := (List.getElem?_eq_some_iff.1 hi).1
  have hd := List.drop_eq_getElem_cons hl
  rw [List.getElem?_eq_getElem hl] at hi
  cases hi
  simp only [goodAt, hd, goodB]
  rfl

theorem riseAt_spec (v : Vl) (i : Int) (h0 : 0 ≤ i) (hi : i.toNat < v.length) (hs : Small v) (hn : nxt v.length v 1 = some v.length) :
    FnSpec Try.prog f_louperef02_rising [encV v, .int .i64 i] [] (.bool (goodAt v i.toNat)) [] := by
  obtain ⟨i, rfl⟩ : ∃ k : Nat, i = k := ⟨i.toNat, by omega⟩
  simp only [Int.toNat_natCast] at hi ⊢
  have hg := List.getElem?_eq_getElem hi
  have hd := List.drop_eq_getElem_cons hi
  generalize v[i] = n at hg hd
  obtain ⟨k', c', h'⟩ := nxt_at v.length v 1 _ i hn hi
  rw [Nat.add_comm] at h'
  obtain ⟨c1, _, h1, _, _⟩ := nxt_split v.length _ 1 k' c' h'
  rw [hd, nxt] at h1
  split at h1
  · cases h1
  · rename_i hm
    cases hx : nxt v.length (v.drop (i + 1)) (0 + n.many.toNat) with
    | none => rw [hx] at h1; simp at h1
    | some c =>
      rw [Nat.zero_add] at hx
      obtain ⟨ps, hp, _, _⟩ := parts_of_skip _ _ _ (nxt_skip _ _ _ _ hx)
      have := rising_spec v i n c hs hg (by omega) hx ps hp
      simp only [goodAt, hd, hp]
      exact this

def ctrRising : Ctr := fun args objs K => match args with
  | [a0, .int .i64 i] => ofE encV a0 (HK.mk : HK fun v => (0 ≤ i) ∧ (i.toNat < v.length) ∧ (Small v) ∧ (nxt v.length v 1 = some v.length) ∧ K (.bool (goodAt v i.toNat)) objs 0)
  | _ => False
theorem ctrRising_ok : CtrOk Try.prog f_louperef02_rising (ctrRising) := by
  intro args objs K h
  unfold ctrRising at h
  split at h
  · rename_i a0 i
    obtain ⟨v, rfl, h1, h2, h3, h4, hk⟩ := h
    exact ⟨_, _, _, .pure _ rfl (riseAt_spec v i h1 h2 h3 h4), hk⟩
  · exact h.elim

theorem right_spec (v : Vl) (hs : Small v) : FnSpec Try.prog f_louperef02_Right [encV v] [] (.bool (rightB v)) [] := by
  have hl := hs.len
  refine k_louperef02_Right.pureG (T := tabL Try.prog [(f_louperef02_Next, ctrNext), (f_louperef02_plain, ctrPlain), (f_louperef02_rising, ctrRising)]) 0 hD (kOk_tabL (tabOk_cons ctrNext_ok (tabOk_cons ctrPlain_ok (tabOk_cons ctrRising_ok tabOk_nil)))) hmix (by decide) fun Q hQ => ?_
  try simp only [F_all]
  rcases Nat.eq_zero_or_pos v.length with hv | hv
  · have hr : rightB v = false := by
      have : v = [] := List.length_eq_zero_iff.1 hv
      rw [this]; rfl
    have hv' : ((v.length : Int) = 0) = True := eq_true (by omega)
    simp (maxSteps := 400000) only [↓preZ, postZ, coreZ, ↓preU, postU, D_all, F_all, unR, outL, onePV, binS, ↓binS, boundR, ↓boundR, fieldOf, ↓fieldOf, boxR, allocR, newObj, zeroElem, buildSliceR, appendR, setAll, storeR, St.freeze, makeSliceR, minmaxR, makeFuncR, BEq.rfl, reduceIte, reduceCtorEq, Nat.reduceLT, Nat.reduceAdd, Nat.reduceSub, Nat.reduceMul, Nat.reduceBEq, Nat.reduceLeDiff, Int.reduceToNat, Int.reduceLE, hQ, c_louperef02_Right, hr, hv']
  have hv' : ((v.length : Int) = 0) = False := eq_false (by omega)
  obtain ⟨n0, r0, hvr⟩ : ∃ n r, v = n :: r := by
    cases v with
    | nil => simp at hv
    | cons n r => exact ⟨n, r, rfl⟩
  have hg0 : v[0]? = some n0 := by rw [hvr]; rfl
  have hnm : nameOf v = n0.name := by rw [hvr]; rfl
  have hne : v.isEmpty = false := by rw [hvr]; rfl
  by_cases hname : n0.name = []
  rotate_left 1
  · have hr : rightB v = false := by simp [rightB, hnm, hname]
    simp (maxSteps := 400000) only [↓preZ, postZ, coreZ, ↓preU, postU, D_all, F_all, unR, outL, onePV, binS, ↓binS, boundR, ↓boundR, fieldOf, ↓fieldOf, boxR, allocR, newObj, zeroElem, buildSliceR, appendR, setAll, storeR, St.freeze, makeSliceR, minmaxR, makeFuncR, BEq.rfl, reduceIte, reduceCtorEq, Nat.reduceLT, Nat.reduceAdd, Nat.reduceSub, Nat.reduceMul, Nat.reduceBEq, Nat.reduceLeDiff, Int.reduceToNat, Int.reduceLE, hQ, c_louperef02_Right, hr, hv', hg0, hname]
  have hz : Int.toNat 0 = 0 := rfl
  by_cases hnx : nextI v 0 = (v.length : Int)
  rotate_left 1
  · have hr : rightB v = false := by
      have : nxt v.length v 1 ≠ some v.length := fun h => hnx (by rw [nextI_of (i := 0) (by simpa using h)]; simp)
      simp [rightB, this]
    simp (maxSteps := 400000) only [↓preZ, postZ, coreZ, ↓preU, postU, D_all, F_all, unR, outL, onePV, binS, ↓binS, boundR, ↓boundR, fieldOf, ↓fieldOf, boxR, allocR, newObj, zeroElem, buildSliceR, appendR, setAll, storeR, St.freeze, makeSliceR, minmaxR, makeFuncR, BEq.rfl, reduceIte, reduceCtorEq, Nat.reduceLT, Nat.reduceAdd, Nat.reduceSub, Nat.reduceMul, Nat.reduceBEq, Nat.reduceLeDiff, Int.reduceToNat, Int.reduceLE, hQ, c_louperef02_Right, hr, hv', hg0, hname, ↓ctrNext, hnx]
    exact ⟨by omega, hl⟩
  have hn : nxt v.length v 1 = some v.length := by
    unfold nextI at hnx
    rw [List.drop_zero] at hnx
    cases hx : nxt v.length v 1 with
    | none => rw [hx] at hnx; simp only at hnx; omega
    | some c => rw [hx] at hnx; simp only at hnx; congr 1; omega
  have hr : rightB v = goodB v := by simp [rightB, hnm, hname, hn, hne]
  simp (maxSteps := 400000) only [↓preZ, postZ, coreZ, ↓preU, postU, D_all, F_all, unR, outL, onePV, binS, ↓binS, boundR, ↓boundR, fieldOf, ↓fieldOf, boxR, allocR, newObj, zeroElem, buildSliceR, appendR, setAll, storeR, St.freeze, makeSliceR, minmaxR, makeFuncR, BEq.rfl, reduceIte, reduceCtorEq, Nat.reduceLT, Nat.reduceAdd, Nat.reduceSub, Nat.reduceMul, Nat.reduceBEq, Nat.reduceLeDiff, Int.reduceToNat, Int.reduceLE, hQ, c_louperef02_Right, hv', hg0, hname, ↓ctrNext, hnx]
  refine ⟨by omega, hl, ?_⟩
  refine wpc_loop (fun m S => ∃ i : Nat, i + m = v.length ∧ goodB (v.drop i) = goodB v ∧ S = ⟨tmA 39 [(0, encV v), (3, .int .i64 i)], []⟩) v.length ⟨0, by omega, rfl, ?_⟩ ?_
  · simp only [normR, keepR, Nat.reduceAdd, lkR, Nat.reduceBEq, F_all, List.map_nil]
    rfl
  rintro m S ⟨i, him, hgd, rfl⟩
  rcases Nat.lt_or_ge i v.length with h | h
  · have hg := List.getElem?_eq_getElem h
    have htx := hs.txt _ (List.getElem_mem h)
    generalize v[i] = n at hg htx
    have hd := goodB_drop hg
    rw [hgd] at hd
    have zi : (0 ≤ (i : Int)) = True := eq_true (by omega)
    have hlt : ((i : Int) < (v.length : Int)) = True := eq_true (by omega)
    cases hp : plainB n
    · have hr2 : rightB v = false := by rw [hr, hd, hp]; rfl
      simp (maxSteps := 400000) only [↓preZ, postZ, coreZ, ↓preU, postU, D_all, F_all, unR, outL, onePV, binS, ↓binS, boundR, ↓boundR, fieldOf, ↓fieldOf, boxR, allocR, newObj, zeroElem, buildSliceR, appendR, setAll, storeR, St.freeze, makeSliceR, minmaxR, makeFuncR, BEq.rfl, reduceIte, reduceCtorEq, Nat.reduceLT, Nat.reduceAdd, Nat.reduceSub, Nat.reduceMul, Nat.reduceBEq, Nat.reduceLeDiff, Int.reduceToNat, Int.reduceLE, hQ, hg, ↓ctrPlain, ↓ctrRising, hp, zi, hlt, hr2]
      exact htx.1
    cases hq : goodAt v i
    · have hr2 : rightB v = false := by rw [hr, hd, hp, hq]; rfl
      simp (maxSteps := 400000) only [↓preZ, postZ, coreZ, ↓preU, postU, D_all, F_all, unR, outL, onePV, binS, ↓binS, boundR, ↓boundR, fieldOf, ↓fieldOf, boxR, allocR, newObj, zeroElem, buildSliceR, appendR, setAll, storeR, St.freeze, makeSliceR, minmaxR, makeFuncR, BEq.rfl, reduceIte, reduceCtorEq, Nat.reduceLT, Nat.reduceAdd, Nat.reduceSub, Nat.reduceMul, Nat.reduceBEq, Nat.reduceLeDiff, Int.reduceToNat, Int.reduceLE, hQ, hg, ↓ctrPlain, ↓ctrRising, hp, hq, zi, hlt, hr2]
      exact ⟨htx.1, h, hs, hn⟩
    · simp (maxSteps := 400000) only [↓preZ, postZ, coreZ, ↓preU, postU, D_all, F_all, unR, outL, onePV, binS, ↓binS, boundR, ↓boundR, fieldOf, ↓fieldOf, boxR, allocR, newObj, zeroElem, buildSliceR, appendR, setAll, storeR, St.freeze, makeSliceR, minmaxR, makeFuncR, BEq.rfl, reduceIte, reduceCtorEq, Nat.reduceLT, Nat.reduceAdd, Nat.reduceSub, Nat.reduceMul, Nat.reduceBEq, Nat.reduceLeDiff, Int.reduceToNat, Int.reduceLE, hQ, hg, ↓ctrPlain, ↓ctrRising, hp, hq, zi, hlt]
      refine ⟨htx.1, h, hs, hn, ⟨by omega, by omega⟩, m - 1, by omega, i + 1, by omega, ?_, by simp⟩
      rw [hd, hp, hq]; simp
  · have hlt : ((i : Int) < (v.length : Int)) = False := eq_false (by omega)
    simp (maxSteps := 400000) only [↓preZ, postZ, coreZ, ↓preU, postU, D_all, F_all, unR, outL, onePV, binS, ↓binS, boundR, ↓boundR, fieldOf, ↓fieldOf, boxR, allocR, newObj, zeroElem, buildSliceR, appendR, setAll, storeR, St.freeze, makeSliceR, minmaxR, makeFuncR, BEq.rfl, reduceIte, reduceCtorEq, Nat.reduceLT, Nat.reduceAdd, Nat.reduceSub, Nat.reduceMul, Nat.reduceBEq, Nat.reduceLeDiff, Int.reduceToNat, Int.reduceLE, hQ, hlt]
    rw [hr, ← hgd, List.drop_eq_nil_of_le h]; rfl

def ctrRight : Ctr := fun args objs K => match args with
  | [a0] => ofE encV a0 (HK.mk : HK fun v => (Small v) ∧ K (.bool (rightB v)) objs 0)
  | _ => False
theorem ctrRight_ok : CtrOk Try.prog f_louperef02_Right (ctrRight) := by
  intro args objs K h
  unfold ctrRight at h
  split at h
  · rename_i a0
    obtain ⟨v, rfl, h1, hk⟩ := h
    exact ⟨_, _, _, .pure _ rfl (right_spec v h1), hk⟩
  · exact h.elim

def shortN (n : Nd) : Bool := decide (n.s.length ≤ 200) && decide (n.name.length ≤ 200)

theorem few_spec (v : Vl) (k : Nat) (hk : k ≤ 1000000) (hs : v.length ≤ 4611686018427387904) (htx : ∀ n ∈ v, n.s.length ≤ 4611686018427387904 ∧ n.name.length ≤ 4611686018427387904) : FnSpec Try.prog f_louperef02_Few [encV v, .int .i64 k] [] (.bool (fewB v k)) [] := by
  refine k_louperef02_Few.pureG (T := tabL Try.prog [(f_louperef02_Right, ctrRight)]) 0 hD (kOk_tabL (tabOk_cons ctrRight_ok tabOk_nil)) hmix (by decide) fun Q hQ => ?_
  try simp only [F_all]
  rcases Nat.lt_or_ge k v.length with hlen | hlen
  · have hr : fewB v k = false := by
      have : decide (v.length ≤ k) = false := by simp; omega
      simp [fewB, this]
    have hlt : ((k : Int) < (v.length : Int)) = True := eq_true (by omega)
    simp (maxSteps := 400000) only [↓preZ, postZ, coreZ, ↓preU, postU, D_all, F_all, unR, outL, onePV, binS, ↓binS, boundR, ↓boundR, fieldOf, ↓fieldOf, boxR, allocR, newObj, zeroElem, buildSliceR, appendR, setAll, storeR, St.freeze, makeSliceR, minmaxR, makeFuncR, BEq.rfl, reduceIte, reduceCtorEq, Nat.reduceLT, Nat.reduceAdd, Nat.reduceSub, Nat.reduceMul, Nat.reduceBEq, Nat.reduceLeDiff, Int.reduceToNat, Int.reduceLE, hQ, c_louperef02_Few, hr, hlt]
  have hlt : ((k : Int) < (v.length : Int)) = False := eq_false (by omega)
  have hr : fewB v k = (v.all shortN && rightB v) := by
    have : decide (v.length ≤ k) = true := by simpa using hlen
    simp only [fewB, this, Bool.true_and]
    rfl
  have hsm : Small v := ⟨by omega, htx⟩
  simp (maxSteps := 400000) only [↓preZ, postZ, coreZ, ↓preU, postU, D_all, F_all, unR, outL, onePV, binS, ↓binS, boundR, ↓boundR, fieldOf, ↓fieldOf, boxR, allocR, newObj, zeroElem, buildSliceR, appendR, setAll, storeR, St.freeze, makeSliceR, minmaxR, makeFuncR, BEq.rfl, reduceIte, reduceCtorEq, Nat.reduceLT, Nat.reduceAdd, Nat.reduceSub, Nat.reduceMul, Nat.reduceBEq, Nat.reduceLeDiff, Int.reduceToNat, Int.reduceLE, hQ, c_louperef02_Few, hlt]
  refine wpc_loop (fun m S => ∃ i : Nat, i + m = v.length ∧ (v.drop i).all shortN = v.all shortN ∧ S = ⟨tmA 34 [(0, encV v), (5, .int .i64 i)], []⟩) v.length ⟨0, by omega, rfl, ?_⟩ ?_
  · simp only [normR, keepR, Nat.reduceAdd, lkR, Nat.reduceBEq, F_all, List.map_nil]
    rfl
  rintro m S ⟨i, him, hal, rfl⟩
  rcases Nat.lt_or_ge i v.length with h | h
  · have hg := List.getElem?_eq_getElem h
    have hd := List.drop_eq_getElem_cons h
    generalize v[i] = n at hg hd
    have zi : (0 ≤ (i : Int)) = True := eq_true (by omega)
    have hlt : ((i : Int) < (v.length : Int)) = True := eq_true (by omega)
    rw [hd, List.all_cons] at hal
    by_cases h1 : n.s.length ≤ 200
    rotate_left 1
    · have e1 : ((200 : Int) < (n.s.length : Int)) = True := eq_true (by omega)
      have hr2 : fewB v k = false := by rw [hr, ← hal]; simp [shortN, h1]
      simp (maxSteps := 400000) only [↓preZ, postZ, coreZ, ↓preU, postU, D_all, F_all, unR, outL, onePV, binS, ↓binS, boundR, ↓boundR, fieldOf, ↓fieldOf, boxR, allocR, newObj, zeroElem, buildSliceR, appendR, setAll, storeR, St.freeze, makeSliceR, minmaxR, makeFuncR, BEq.rfl, reduceIte, reduceCtorEq, Nat.reduceLT, Nat.reduceAdd, Nat.reduceSub, Nat.reduceMul, Nat.reduceBEq, Nat.reduceLeDiff, Int.reduceToNat, Int.reduceLE, hQ, hg, zi, hlt, e1, hr2]
    have e1 : ((200 : Int) < (n.s.length : Int)) = False := eq_false (by omega)
    by_cases h2 : n.name.length ≤ 200
    rotate_left 1
    · have e2 : ((200 : Int) < (n.name.length : Int)) = True := eq_true (by omega)
      have hr2 : fewB v k = false := by rw [hr, ← hal]; simp [shortN, h2]
      simp (maxSteps := 400000) only [↓preZ, postZ, coreZ, ↓preU, postU, D_all, F_all, unR, outL, onePV, binS, ↓binS, boundR, ↓boundR, fieldOf, ↓fieldOf, boxR, allocR, newObj, zeroElem, buildSliceR, appendR, setAll, storeR, St.freeze, makeSliceR, minmaxR, makeFuncR, BEq.rfl, reduceIte, reduceCtorEq, Nat.reduceLT, Nat.reduceAdd, Nat.reduceSub, Nat.reduceMul, Nat.reduceBEq, Nat.reduceLeDiff, Int.reduceToNat, Int.reduceLE, hQ, hg, zi, hlt, e1, e2, hr2]
    have e2 : ((200 : Int) < (n.name.length : Int)) = False := eq_false (by omega)
    simp (maxSteps := 400000) only [↓preZ, postZ, coreZ, ↓preU, postU, D_all, F_all, unR, outL, onePV, binS, ↓binS, boundR, ↓boundR, fieldOf, ↓fieldOf, boxR, allocR, newObj, zeroElem, buildSliceR, appendR, setAll, storeR, St.freeze, makeSliceR, minmaxR, makeFuncR, BEq.rfl, reduceIte, reduceCtorEq, Nat.reduceLT, Nat.reduceAdd, Nat.reduceSub, Nat.reduceMul, Nat.reduceBEq, Nat.reduceLeDiff, Int.reduceToNat, Int.reduceLE, hQ, hg, zi, hlt, e1, e2]
    refine ⟨⟨by omega, by omega⟩, m - 1, by omega, i + 1, by omega, ?_, by simp⟩
    rw [← hal]; simp [shortN, h1, h2]
  · have hlt : ((i : Int) < (v.length : Int)) = False := eq_false (by omega)
    have hr2 : fewB v k = rightB v := by
      rw [hr, ← hal, List.drop_eq_nil_of_le h]; rfl
    simp (maxSteps := 400000) only [↓preZ, postZ, coreZ, ↓preU, postU, D_all, F_all, unR, outL, onePV, binS, ↓binS, boundR, ↓boundR, fieldOf, ↓fieldOf, boxR, allocR, newObj, zeroElem, buildSliceR, appendR, setAll, storeR, St.freeze, makeSliceR, minmaxR, makeFuncR, BEq.rfl, reduceIte, reduceCtorEq, Nat.reduceLT, Nat.reduceAdd, Nat.reduceSub, Nat.reduceMul, Nat.reduceBEq, Nat.reduceLeDiff, Int.reduceToNat, Int.reduceLE, hQ, hlt, ↓ctrRight, hr2]
    exact hsm

theorem few_spec' (v : Vl) (k : Int) (hk : 0 ≤ k ∧ k ≤ 1000000) (hs : v.length ≤ 4611686018427387904) (htx : ∀ n ∈ v, n.s.length ≤ 4611686018427387904 ∧ n.name.length ≤ 4611686018427387904) : FnSpec Try.prog f_louperef02_Few [encV v, .int .i64 k] [] (.bool (fewB v k.toNat)) [] := by
  have e : k = (k.toNat : Int) := by omega
  rw [e]
  exact few_spec v k.toNat (by omega) hs htx

def ctrFew : Ctr := fun args objs K => match args with
  | [a0, .int .i64 k] => ofE encV a0 (HK.mk : HK fun v => (0 ≤ k ∧ k ≤ 1000000) ∧ (v.length ≤ 4611686018427387904) ∧ (∀ n ∈ v, n.s.length ≤ 4611686018427387904 ∧ n.name.length ≤ 4611686018427387904) ∧ K (.bool (fewB v k.toNat)) objs 0)
  | _ => False
theorem ctrFew_ok : CtrOk Try.prog f_louperef02_Few (ctrFew) := by
  intro args objs K h
  unfold ctrFew at h
  split at h
  · rename_i a0 k
    obtain ⟨v, rfl, h1, h2, h3, hk⟩ := h
    exact ⟨_, _, _, .pure _ rfl (few_spec' v k h1 h2 h3), hk⟩
  · exact h.elim

theorem allN_cons (x : Vl) (l : List Vl) : allN (x :: l) = x.length + 1 + allN l := rfl

theorem allN_len : ∀ l : List Vl, l.length ≤ allN l
  | [] => Nat.le_refl _
  | x :: l => by have := allN_len l; simp only [List.length_cons, allN]; omega

theorem all_spec (l : List Vl) (k : Nat) (hk : k ≤ 1000000) (hs : l.length ≤ 1152921504606846976) (htx : ∀ v ∈ l, v.length ≤ 1152921504606846976 ∧ ∀ n ∈ v, n.s.length ≤ 4611686018427387904 ∧ n.name.length ≤ 4611686018427387904) : FnSpec Try.prog f_louperef02_All [encL l, .int .i64 k] [] (.bool (allB l k)) [] := by
  refine k_louperef02_All.pureG (T := tabL Try.prog [(f_louperef02_Few, ctrFew)]) 0 hD (kOk_tabL (tabOk_cons ctrFew_ok tabOk_nil)) hmix (by decide) fun Q hQ => ?_
  try simp only [F_all]
  simp (maxSteps := 400000) only [↓preZ, postZ, coreZ, ↓preU, postU, D_all, F_all, unR, outL, onePV, binS, ↓binS, boundR, ↓boundR, fieldOf, ↓fieldOf, boxR, allocR, newObj, zeroElem, buildSliceR, appendR, setAll, storeR, St.freeze, makeSliceR, minmaxR, makeFuncR, BEq.rfl, reduceIte, reduceCtorEq, Nat.reduceLT, Nat.reduceAdd, Nat.reduceSub, Nat.reduceMul, Nat.reduceBEq, Nat.reduceLeDiff, Int.reduceToNat, Int.reduceLE, hQ, c_louperef02_All]
  refine wpc_loop (fun m S => ∃ (i s : Nat), i + m = l.length ∧ s + ((l.drop i).map List.length).sum = l.length + (l.map List.length).sum ∧ (i = 0 ∨ s ≤ k) ∧ s ≤ l.length + k ∧ (l.take i).all (fewB · k) = true ∧
    S = ⟨tmA 37 [(0, encL l), (1, .int .i64 k), (5, .int .i64 s), (6, .int .i64 i)], []⟩) l.length ⟨0, l.length, by omega, rfl, .inl rfl, by omega, by simp, ?_⟩ ?_
  · simp only [normR, keepR, Nat.reduceAdd, lkR, Nat.reduceBEq, F_all, List.map_nil]
    rfl
  rintro m S ⟨i, s, him, hsum, hsk, hsk2, hal, rfl⟩
  have hallN : ∀ q : List Vl, allN q = q.length + (q.map List.length).sum := by
    intro q
    induction q with
    | nil => rfl
    | cons x q ih => simp only [allN, ih, List.length_cons, List.map_cons, List.sum_cons]; omega
  have hN : allN l = s + ((l.drop i).map List.length).sum := by rw [hallN]; omega
  rcases Nat.lt_or_ge i l.length with h | h
  · have hg := List.getElem?_eq_getElem h
    have hd := List.drop_eq_getElem_cons h
    have hx := htx _ (List.getElem_mem h)
    have htk : l.take (i + 1) = l.take i ++ [l[i]] := by rw [List.take_add_one, hg]; rfl
    have hmem : l[i] ∈ l := List.getElem_mem h
    generalize l[i] = x at hg hd hx htk hmem
    have zi : (0 ≤ (i : Int)) = True := eq_true (by omega)
    have hlt : ((i : Int) < (l.length : Int)) = True := eq_true (by omega)
    rw [hd, List.map_cons, List.sum_cons] at hsum hN
    by_cases h1 : s + x.length ≤ k
    rotate_left 1
    · have e1 : ((k : Int) < (s : Int) + (x.length : Int)) = True := eq_true (by omega)
      have hr2 : allB l k = false := by
        have : decide (allN l ≤ k) = false := by simp; omega
        simp [allB, this]
      simp (maxSteps := 400000) only [↓preZ, postZ, coreZ, ↓preU, postU, D_all, F_all, unR, outL, onePV, binS, ↓binS, boundR, ↓boundR, fieldOf, ↓fieldOf, boxR, allocR, newObj, zeroElem, buildSliceR, appendR, setAll, storeR, St.freeze, makeSliceR, minmaxR, makeFuncR, BEq.rfl, reduceIte, reduceCtorEq, Nat.reduceLT, Nat.reduceAdd, Nat.reduceSub, Nat.reduceMul, Nat.reduceBEq, Nat.reduceLeDiff, Int.reduceToNat, Int.reduceLE, hQ, hg, zi, hlt, e1, hr2]
      exact ⟨by omega, by omega⟩
    have e1 : ((k : Int) < (s : Int) + (x.length : Int)) = False := eq_false (by omega)
    cases hf : fewB x k
    · have hr2 : allB l k = false := by
        have : l.all (fewB · k) = false := by
          rw [List.all_eq_false]
          exact ⟨x, hmem, by simp [hf]⟩
        simp [allB, this]
      simp (maxSteps := 400000) only [↓preZ, postZ, coreZ, ↓preU, postU, D_all, F_all, unR, outL, onePV, binS, ↓binS, boundR, ↓boundR, fieldOf, ↓fieldOf, boxR, allocR, newObj, zeroElem, buildSliceR, appendR, setAll, storeR, St.freeze, makeSliceR, minmaxR, makeFuncR, BEq.rfl, reduceIte, reduceCtorEq, Nat.reduceLT, Nat.reduceAdd, Nat.reduceSub, Nat.reduceMul, Nat.reduceBEq, Nat.reduceLeDiff, Int.reduceToNat, Int.reduceLE, hQ, hg, zi, hlt, e1, hr2, ↓ctrFew, hf]
      exact ⟨⟨by omega, by omega⟩, ⟨by omega, by omega⟩, by omega, hx.2⟩
    · simp (maxSteps := 400000) only [↓preZ, postZ, coreZ, ↓preU, postU, D_all, F_all, unR, outL, onePV, binS, ↓binS, boundR, ↓boundR, fieldOf, ↓fieldOf, boxR, allocR, newObj, zeroElem, buildSliceR, appendR, setAll, storeR, St.freeze, makeSliceR, minmaxR, makeFuncR, BEq.rfl, reduceIte, reduceCtorEq, Nat.reduceLT, Nat.reduceAdd, Nat.reduceSub, Nat.reduceMul, Nat.reduceBEq, Nat.reduceLeDiff, Int.reduceToNat, Int.reduceLE, hQ, hg, zi, hlt, e1, ↓ctrFew, hf]
      refine ⟨⟨by omega, by omega⟩, ⟨by omega, by omega⟩, by omega, hx.2, ⟨by omega, by omega⟩, m - 1, by omega, i + 1, s + x.length, by omega, by omega, .inr h1, by omega, ?_, by simp⟩
      rw [htk, List.all_append, hal]; simp [hf]
  · have hlt : ((i : Int) < (l.length : Int)) = False := eq_false (by omega)
    simp (maxSteps := 400000) only [↓preZ, postZ, coreZ, ↓preU, postU, D_all, F_all, unR, outL, onePV, binS, ↓binS, boundR, ↓boundR, fieldOf, ↓fieldOf, boxR, allocR, newObj, zeroElem, buildSliceR, appendR, setAll, storeR, St.freeze, makeSliceR, minmaxR, makeFuncR, BEq.rfl, reduceIte, reduceCtorEq, Nat.reduceLT, Nat.reduceAdd, Nat.reduceSub, Nat.reduceMul, Nat.reduceBEq, Nat.reduceLeDiff, Int.reduceToNat, Int.reduceLE, hQ, hlt]
    rw [List.drop_eq_nil_of_le h] at hN
    simp only [List.map_nil, List.sum_nil, Nat.add_zero] at hN
    rw [List.take_of_length_le h] at hal
    have : allB l k = decide (allN l ≤ k) := by simp [allB, hal]
    rw [this, hN]
    exact decide_eq_decide.2 (by omega)

end Lp

/-! LpW13 -/

namespace Lp
open Go Go.Proofs

set_option maxHeartbeats 4000000
set_option maxRecDepth 20000
set_option linter.unusedSimpArgs false

/-- The figure that stands at a power. -/
def atN (n : Nd) (p : Int) : Int :=
  let i : Int := n.s.length - 1 - (p - n.e)
  if i < 0 then 0 else match n.s[i.toNat]? with
    | some c => (c.toNat : Int) - 48
    | none => 0

/-- The same figures, so many, from a power down. -/
def digs (a b : Nd) : Nat → Int → Int
  | 0, _ => 0
  | k + 1, p => if atN a p < atN b p then -1 else if atN b p < atN a p then 1 else digs a b k (p - 1)

def topN (a b : Nd) : Int := if (b.s.length + b.e : Int) > a.s.length + a.e then (b.s.length + b.e : Int) else a.s.length + a.e
def lowN (a b : Nd) : Int := if b.e < a.e then b.e else a.e
def refN (a b : Nd) : Int :=
  let side : Int := if a.neg then -1 else 1
  if a.neg ≠ b.neg then side else side * digs a b (topN a b - lowN a b + 1).toNat (topN a b)

structure NumOk (n : Nd) : Prop where
  len : n.s.length ≤ 200
  figs : figs n.s = true
  lo : -1000 ≤ n.e
  hi : n.e ≤ 1000

theorem figs_get {s : List UInt8} (h : figs s = true) {i : Nat} {c : UInt8} (hc : s[i]? = some c) : 48 ≤ c.toNat ∧ c.toNat ≤ 57 := by
  simp only [figs, List.all_eq_true, Bool.and_eq_true, decide_eq_true_eq] at h
  have := h c (List.mem_of_getElem? hc)
  exact ⟨UInt8.le_iff_toNat_le.1 this.1, UInt8.le_iff_toNat_le.1 this.2⟩

theorem at_spec (n : Nd) (p : Int) (hn : NumOk n) (hp : -2000 ≤ p ∧ p ≤ 2000) : FnSpec Try.prog f_louperef01_at [encN n, .int .i64 p] [] (.int .i64 (atN n p)) [] := by
  obtain ⟨h1, h2, h3, h4⟩ := hn
  refine k_louperef01_at.pure (T := tabL Try.prog []) 0 hD (kOk_tabL tabOk_nil) hmix (by decide) ?_
  try simp only [F_all]
  simp (maxSteps := 400000) only [↓preZ, postZ, coreZ, ↓preU, postU, D_all, F_all, unR, outL, onePV, binS, ↓binS, boundR, ↓boundR, fieldOf, ↓fieldOf, boxR, allocR, newObj, zeroElem, buildSliceR, appendR, setAll, storeR, St.freeze, makeSliceR, minmaxR, makeFuncR, BEq.rfl, reduceIte, reduceCtorEq, Nat.reduceLT, Nat.reduceAdd, Nat.reduceSub, Nat.reduceMul, Nat.reduceBEq, Nat.reduceLeDiff, Int.reduceToNat, Int.reduceLE, c_louperef01_at]
  refine wpc_weak _ (Weak.freeze 1 0 (Nat.le_refl _) _) ?_
  simp (maxSteps := 400000) only [↓preZ, postZ, coreZ, ↓preU, postU, D_all, F_all, unR, outL, onePV, binS, ↓binS, boundR, ↓boundR, fieldOf, ↓fieldOf, boxR, allocR, newObj, zeroElem, buildSliceR, appendR, setAll, storeR, St.freeze, makeSliceR, minmaxR, makeFuncR, BEq.rfl, reduceIte, reduceCtorEq, Nat.reduceLT, Nat.reduceAdd, Nat.reduceSub, Nat.reduceMul, Nat.reduceBEq, Nat.reduceLeDiff, Int.reduceToNat, Int.reduceLE, frzC0]
  refine ⟨⟨by omega, by omega⟩, ⟨by omega, by omega⟩, ⟨by omega, by omega⟩, fun h => ?_, fun h => ⟨fun h' => ?_, fun h' => ⟨by omega, ?_⟩⟩⟩
  · simp only [atN, if_pos h]
  · have : n.s[(↑n.s.length - 1 - (p - n.e)).toNat]? = none := List.getElem?_eq_none (by omega)
    simp only [atN, if_neg h, this]
  · have hi : (↑n.s.length - 1 - (p - n.e)).toNat < n.s.length := by omega
    have hg := List.getElem?_eq_getElem hi
    have hf := figs_get h2 hg
    generalize hc : n.s[(↑n.s.length - 1 - (p - n.e)).toNat] = c at *
    simp (maxSteps := 400000) only [↓preZ, postZ, coreZ, ↓preU, postU, D_all, F_all, unR, outL, onePV, binS, ↓binS, boundR, ↓boundR, fieldOf, ↓fieldOf, boxR, allocR, newObj, zeroElem, buildSliceR, appendR, setAll, storeR, St.freeze, makeSliceR, minmaxR, makeFuncR, BEq.rfl, reduceIte, reduceCtorEq, Nat.reduceLT, Nat.reduceAdd, Nat.reduceSub, Nat.reduceMul, Nat.reduceBEq, Nat.reduceLeDiff, Int.reduceToNat, Int.reduceLE, hg, convR, IntKind.wrap]
    refine ⟨⟨by omega, by omega⟩, ?_⟩
    simp only [atN, if_neg h, hg]
    have hm : ((c.toNat : Int) - 48) % 2 ^ IntKind.i64.bits = (c.toNat : Int) - 48 := Int.emod_eq_of_lt (by omega) (by have : (2 : Int) ^ IntKind.i64.bits = 18446744073709551616 := rfl; omega)
    rw [hm, if_neg]
    have h2 : (2 : Int) ^ (IntKind.i64.bits - 1) = 9223372036854775808 := rfl
    have h3 : IntKind.i64.signed = true := rfl
    rw [h2, h3]
    simp
    omega

def ctrAt : Ctr := fun args objs K => match args with
  | [a0, .int .i64 p] => ofE encN a0 (HK.mk : HK fun n => (NumOk n) ∧ (-2000 ≤ p ∧ p ≤ 2000) ∧ K (.int .i64 (atN n p)) objs 0)
  | _ => False
theorem ctrAt_ok : CtrOk Try.prog f_louperef01_at (ctrAt) := by
  intro args objs K h
  unfold ctrAt at h
  split at h
  · rename_i a0 p
    obtain ⟨n, rfl, h1, h2, hk⟩ := h
    exact ⟨_, _, _, .pure _ rfl (at_spec n p h1 h2), hk⟩
  · exact h.elim

theorem refCmp_spec (a b : Nd) (ha : NumOk a) (hb : NumOk b) : FnSpec Try.prog f_louperef01_Cmp [encN a, encN b] [] (.int .i64 (refN a b)) [] := by
  refine k_louperef01_Cmp.pure (T := tabL Try.prog [(f_louperef01_at, ctrAt)]) 0 hD (kOk_tabL (tabOk_cons ctrAt_ok tabOk_nil)) hmix (by decide) ?_
  try simp only [F_all]
  simp (maxSteps := 400000) only [↓preZ, postZ, coreZ, ↓preU, postU, D_all, F_all, unR, outL, onePV, binS, ↓binS, boundR, ↓boundR, fieldOf, ↓fieldOf, boxR, allocR, newObj, zeroElem, buildSliceR, appendR, setAll, storeR, St.freeze, makeSliceR, minmaxR, makeFuncR, BEq.rfl, reduceIte, reduceCtorEq, Nat.reduceLT, Nat.reduceAdd, Nat.reduceSub, Nat.reduceMul, Nat.reduceBEq, Nat.reduceLeDiff, Int.reduceToNat, Int.reduceLE, c_louperef01_Cmp]
  refine wpc_weak _ (Weak.freeze 1 0 (Nat.le_refl _) _) ?_
  cases hx : a.neg <;> cases hy : b.neg
  all_goals simp (maxSteps := 400000) only [↓preZ, postZ, coreZ, ↓preU, postU, D_all, F_all, unR, outL, onePV, binS, ↓binS, boundR, ↓boundR, fieldOf, ↓fieldOf, boxR, allocR, newObj, zeroElem, buildSliceR, appendR, setAll, storeR, St.freeze, makeSliceR, minmaxR, makeFuncR, BEq.rfl, reduceIte, reduceCtorEq, Nat.reduceLT, Nat.reduceAdd, Nat.reduceSub, Nat.reduceMul, Nat.reduceBEq, Nat.reduceLeDiff, Int.reduceToNat, Int.reduceLE, frzB0, frzB1, hx, hy]
  case false.true => simp [refN, hx, hy]
  case true.false => simp [refN, hx, hy]
  all_goals
    have b1 : -2000 ≤ topN a b ∧ topN a b ≤ 2000 := by obtain ⟨a1, a2, a3, a4⟩ := ha; obtain ⟨b1, b2, b3, b4⟩ := hb; unfold topN; split <;> omega
    have b2 : -1000 ≤ lowN a b ∧ lowN a b ≤ 1000 := by obtain ⟨a1, a2, a3, a4⟩ := ha; obtain ⟨b1, b2, b3, b4⟩ := hb; unfold lowN; split <;> omega
    have l1 := ha.len
    have l2 := hb.len
    have e1 := ha.lo
    have e2 := ha.hi
    have e3 := hb.lo
    have e4 := hb.hi
    refine ⟨⟨by omega, by omega⟩, ⟨by omega, by omega⟩, ?_⟩
    refine wpc_loop (fun m S => ∃ p : Int, (m : Int) = (if 0 ≤ p - lowN a b + 1 then p - lowN a b + 1 else 0) ∧ p ≤ topN a b ∧ -2000 ≤ p ∧
      (digs a b (topN a b - lowN a b + 1).toNat (topN a b) = digs a b (p - lowN a b + 1).toNat p) ∧
      S = ⟨tmA 56 [(2, .addr (encN a)), (3, .addr (encN b)), (5, .int .i64 (if a.neg = true then -1 else 1)), (7, .int .i64 p)], []⟩) (topN a b - lowN a b + 1).toNat ⟨topN a b, ?_, Int.le_refl _, by omega, rfl, ?_⟩ ?_
    · split <;> omega
    · simp only [normR, keepR, Nat.reduceAdd, lkR, Nat.reduceBEq, hx, if_true, if_false, topN, Bool.false_eq_true]
    rintro m S ⟨p, hm, hp1, hp2, hd, rfl⟩
    simp (maxSteps := 400000) only [↓preZ, postZ, coreZ, ↓preU, postU, D_all, F_all, unR, outL, onePV, binS, ↓binS, boundR, ↓boundR, fieldOf, ↓fieldOf, boxR, allocR, newObj, zeroElem, buildSliceR, appendR, setAll, storeR, St.freeze, makeSliceR, minmaxR, makeFuncR, BEq.rfl, reduceIte, reduceCtorEq, Nat.reduceLT, Nat.reduceAdd, Nat.reduceSub, Nat.reduceMul, Nat.reduceBEq, Nat.reduceLeDiff, Int.reduceToNat, Int.reduceLE, ↓ctrAt]
    refine ⟨fun hlow => ⟨ha, ⟨by omega, by omega⟩, hb, ⟨by omega, by omega⟩, fun hlt => ?_, fun hlt => ⟨fun hgt => ?_, fun hgt => ?_⟩⟩, fun hlow => ?_⟩
    · have hl : lowN a b ≤ p := hlow
      have e : (p - lowN a b + 1).toNat = (p - lowN a b).toNat + 1 := by omega
      rw [e] at hd
      simp only [digs, if_pos hlt] at hd
      simp only [refN, hd, hx, hy]
      simp
    · have hl : lowN a b ≤ p := hlow
      have e : (p - lowN a b + 1).toNat = (p - lowN a b).toNat + 1 := by omega
      rw [e] at hd
      simp only [digs, if_neg hlt, if_pos hgt] at hd
      simp only [refN, hd, hx, hy]
      simp
    · have hl : lowN a b ≤ p := hlow
      have e : (p - lowN a b + 1).toNat = (p - 1 - lowN a b + 1).toNat + 1 := by omega
      rw [e] at hd
      simp only [digs, if_neg hlt, if_neg hgt] at hd
      rw [if_pos (by omega)] at hm
      refine ⟨⟨by omega, by omega⟩, m - 1, by omega, p - 1, ?_, by omega, by omega, hd, rfl⟩
      split <;> omega
    · have hl : ¬ lowN a b ≤ p := hlow
      have e : (p - lowN a b + 1).toNat = 0 := by omega
      rw [e] at hd
      simp only [digs] at hd
      simp only [refN, hd, hx, hy]
      simp

def ctrRefCmp : Ctr := fun args objs K => match args with
  | [a0, a1] => ofE encN a0 (HK.mk : HK fun a => ofE encN a1 (HK.mk : HK fun b => (NumOk a) ∧ (NumOk b) ∧ K (.int .i64 (refN a b)) objs 0))
  | _ => False
theorem ctrRefCmp_ok : CtrOk Try.prog f_louperef01_Cmp (ctrRefCmp) := by
  intro args objs K h
  unfold ctrRefCmp at h
  split at h
  · rename_i a0 a1
    obtain ⟨a, rfl, b, rfl, h1, h2, hk⟩ := h
    exact ⟨_, _, _, .pure _ rfl (refCmp_spec a b h1 h2), hk⟩
  · exact h.elim
end Lp

/-! LpW20 -/

namespace Lp
open Go Go.Proofs

set_option maxHeartbeats 4000000
set_option maxRecDepth 20000
set_option linter.unusedSimpArgs false

def signI (a b : Bool) : Int := if b then 0 else if a then -1 else 1

theorem sign_spec (a b : Bool) : FnSpec Try.prog f_louperef05_sign [.bool a, .bool b] [] (.int .i64 (signI a b)) [] := by
  refine k_louperef05_sign.pureG (T := tabL Try.prog []) 0 hD (kOk_tabL tabOk_nil) hmix (by decide) fun Q hQ => ?_
  try simp only [F_all]
  cases a <;> cases b
  all_goals simp (maxSteps := 400000) only [↓preZ, postZ, coreZ, ↓preU, postU, D_all, F_all, unR, outL, onePV, binS, ↓binS, boundR, ↓boundR, fieldOf, ↓fieldOf, boxR, allocR, newObj, zeroElem, buildSliceR, appendR, setAll, storeR, St.freeze, makeSliceR, minmaxR, makeFuncR, BEq.rfl, reduceIte, reduceCtorEq, Nat.reduceLT, Nat.reduceAdd, Nat.reduceSub, Nat.reduceMul, Nat.reduceBEq, Nat.reduceLeDiff, Int.reduceToNat, Int.reduceLE, hQ, c_louperef05_sign, signI]

def ctrSign : Ctr := fun args objs K => match args with
  | [.bool a, .bool b] => K (.int .i64 (signI a b)) objs 0
  | _ => False
theorem ctrSign_ok : CtrOk Try.prog f_louperef05_sign (ctrSign) := by
  intro args objs K h
  unfold ctrSign at h
  split at h
  · rename_i a b
    have hk := h
    exact ⟨_, _, _, .pure _ rfl (sign_spec a b), hk⟩
  · exact h.elim

theorem lexBy_nil {α : Type} (f : α → α → Int) (a b : List α) (h : a = [] ∨ b = []) : lexBy f a b = signI (decide ((a.length : Int) < b.length)) (decide ((a.length : Int) = b.length)) := by
  rcases h with rfl | rfl
  · cases b with
    | nil => rfl
    | cons y ys =>
      have h1 : decide ((([] : List α).length : Int) < ((y :: ys).length : Int)) = true := by simp <;> omega
      have h2 : decide ((([] : List α).length : Int) = ((y :: ys).length : Int)) = false := by simp <;> omega
      rw [h1, h2]; rfl
  · cases a with
    | nil => rfl
    | cons y ys =>
      have h1 : decide (((y :: ys).length : Int) < (([] : List α).length : Int)) = false := by simp <;> omega
      have h2 : decide (((y :: ys).length : Int) = (([] : List α).length : Int)) = false := by simp <;> omega
      rw [h1, h2]; rfl

theorem refNames_spec (a b : List (List UInt8)) (ha : a.length ≤ 1000000) (hb : b.length ≤ 1000000) : FnSpec Try.prog f_louperef05_names [encT a, encT b] [] (.int .i64 (lexBy cmpS a b)) [] := by
  refine k_louperef05_names.pureG (T := tabL Try.prog [(f_louperef05_sign, ctrSign)]) 0 hD (kOk_tabL (tabOk_cons ctrSign_ok tabOk_nil)) hmix (by decide) fun Q hQ => ?_
  try simp only [F_all]
  simp (maxSteps := 400000) only [↓preZ, postZ, coreZ, ↓preU, postU, D_all, F_all, unR, outL, onePV, binS, ↓binS, boundR, ↓boundR, fieldOf, ↓fieldOf, boxR, allocR, newObj, zeroElem, buildSliceR, appendR, setAll, storeR, St.freeze, makeSliceR, minmaxR, makeFuncR, BEq.rfl, reduceIte, reduceCtorEq, Nat.reduceLT, Nat.reduceAdd, Nat.reduceSub, Nat.reduceMul, Nat.reduceBEq, Nat.reduceLeDiff, Int.reduceToNat, Int.reduceLE, hQ, c_louperef05_names]
  refine wpc_loop (fun m S => ∃ i : Nat, i + m = a.length ∧ i ≤ b.length ∧ lexBy cmpS (a.drop i) (b.drop i) = lexBy cmpS a b ∧ S = ⟨tmA 48 [(0, encT a), (1, encT b), (5, .int .i64 i)], []⟩) a.length ⟨0, by omega, by omega, rfl, ?_⟩ ?_
  · simp only [normR, keepR, Nat.reduceAdd, lkR, Nat.reduceBEq, F_all, List.map_nil]
    rfl
  rintro m S ⟨i, him, hib, hlx, rfl⟩
  have zi : (0 ≤ (i : Int)) = True := eq_true (by omega)
  have fin : a.length ≤ i ∨ b.length ≤ i → lexBy cmpS a b = signI (decide ((a.length : Int) < b.length)) (decide ((a.length : Int) = b.length)) := by
    intro h
    rw [← hlx, lexBy_nil]
    · simp only [List.length_drop]
      congr 1
      · exact decide_eq_decide.2 (by omega)
      · exact decide_eq_decide.2 (by omega)
    · rcases h with h | h
      · exact .inl (List.drop_eq_nil_of_le h)
      · exact .inr (List.drop_eq_nil_of_le h)
  rcases Nat.lt_or_ge i a.length with h | h
  rotate_left 1
  · have hlt : ((i : Int) < (a.length : Int)) = False := eq_false (by omega)
    simp (maxSteps := 400000) only [↓preZ, postZ, coreZ, ↓preU, postU, D_all, F_all, unR, outL, onePV, binS, ↓binS, boundR, ↓boundR, fieldOf, ↓fieldOf, boxR, allocR, newObj, zeroElem, buildSliceR, appendR, setAll, storeR, St.freeze, makeSliceR, minmaxR, makeFuncR, BEq.rfl, reduceIte, reduceCtorEq, Nat.reduceLT, Nat.reduceAdd, Nat.reduceSub, Nat.reduceMul, Nat.reduceBEq, Nat.reduceLeDiff, Int.reduceToNat, Int.reduceLE, hQ, hlt, ↓ctrSign]
    rw [fin (.inl h)]
  have hlt : ((i : Int) < (a.length : Int)) = True := eq_true (by omega)
  rcases Nat.lt_or_ge i b.length with h' | h'
  rotate_left 1
  · have hlt2 : ((i : Int) < (b.length : Int)) = False := eq_false (by omega)
    simp (maxSteps := 400000) only [↓preZ, postZ, coreZ, ↓preU, postU, D_all, F_all, unR, outL, onePV, binS, ↓binS, boundR, ↓boundR, fieldOf, ↓fieldOf, boxR, allocR, newObj, zeroElem, buildSliceR, appendR, setAll, storeR, St.freeze, makeSliceR, minmaxR, makeFuncR, BEq.rfl, reduceIte, reduceCtorEq, Nat.reduceLT, Nat.reduceAdd, Nat.reduceSub, Nat.reduceMul, Nat.reduceBEq, Nat.reduceLeDiff, Int.reduceToNat, Int.reduceLE, hQ, hlt, hlt2, ↓ctrSign]
    rw [fin (.inr h')]
  have hlt2 : ((i : Int) < (b.length : Int)) = True := eq_true (by omega)
  have ga := List.getElem?_eq_getElem h
  have gb := List.getElem?_eq_getElem h'
  have da := List.drop_eq_getElem_cons h
  have db := List.drop_eq_getElem_cons h'
  generalize a[i] = x at ga da
  generalize b[i] = y at gb db
  rw [da, db, lexBy] at hlx
  by_cases hxy : x = y
  · subst hxy
    rw [if_pos ((cmpS_ordr.zero _ _ trivial trivial).2 rfl)] at hlx
    simp (maxSteps := 400000) only [↓preZ, postZ, coreZ, ↓preU, postU, D_all, F_all, unR, outL, onePV, binS, ↓binS, boundR, ↓boundR, fieldOf, ↓fieldOf, boxR, allocR, newObj, zeroElem, buildSliceR, appendR, setAll, storeR, St.freeze, makeSliceR, minmaxR, makeFuncR, BEq.rfl, reduceIte, reduceCtorEq, Nat.reduceLT, Nat.reduceAdd, Nat.reduceSub, Nat.reduceMul, Nat.reduceBEq, Nat.reduceLeDiff, Int.reduceToNat, Int.reduceLE, hQ, hlt, hlt2, zi, ga, gb, ↓ctrSign]
    exact ⟨⟨by omega, by omega⟩, m - 1, by omega, i + 1, by omega, by omega, hlx, by simp⟩
  · have hne : cmpS x y ≠ 0 := fun h => hxy ((cmpS_ordr.zero _ _ trivial trivial).1 h)
    rw [if_neg hne] at hlx
    simp (maxSteps := 400000) only [↓preZ, postZ, coreZ, ↓preU, postU, D_all, F_all, unR, outL, onePV, binS, ↓binS, boundR, ↓boundR, fieldOf, ↓fieldOf, boxR, allocR, newObj, zeroElem, buildSliceR, appendR, setAll, storeR, St.freeze, makeSliceR, minmaxR, makeFuncR, BEq.rfl, reduceIte, reduceCtorEq, Nat.reduceLT, Nat.reduceAdd, Nat.reduceSub, Nat.reduceMul, Nat.reduceBEq, Nat.reduceLeDiff, Int.reduceToNat, Int.reduceLE, hQ, hlt, hlt2, zi, ga, gb, hxy, ↓ctrSign]
    rw [← hlx]
    rcases cmpS_cases x y with ⟨h1, e1⟩ | ⟨h1, _⟩ | ⟨h1, e1⟩
    · rw [e1, h1]; rfl
    · exact absurd h1 hxy
    · rw [e1, bl_asymm _ _ h1]; rfl

def ctrRefNames : Ctr := fun args objs K => match args with
  | [a0, a1] => ofE encT a0 (HK.mk : HK fun a => ofE encT a1 (HK.mk : HK fun b => (a.length ≤ 1000000) ∧ (b.length ≤ 1000000) ∧ K (.int .i64 (lexBy cmpS a b)) objs 0))
  | _ => False
theorem ctrRefNames_ok : CtrOk Try.prog f_louperef05_names (ctrRefNames) := by
  intro args objs K h
  unfold ctrRefNames at h
  split at h
  · rename_i a0 a1
    obtain ⟨a, rfl, b, rfl, h1, h2, hk⟩ := h
    exact ⟨_, _, _, .pure _ rfl (refNames_spec a b h1 h2), hk⟩
  · exact h.elim

def ctrRefC (f : Vl → Vl → Int) : Ctr := fun args objs K => match args with
  | [a0, a1] => ofE encV a0 (HK.mk : HK fun p => ofE encV a1 (HK.mk : HK fun q => (FnSpec Try.prog f_louperef05_Cmp [encV p, encV q] [] (.int .i64 (f p q)) []) ∧ K (.int .i64 (f p q)) objs 0))
  | _ => False
theorem ctrRefC_ok (f : Vl → Vl → Int) : CtrOk Try.prog f_louperef05_Cmp (ctrRefC f) := by
  intro args objs K h
  unfold ctrRefC at h
  split at h
  · rename_i a0 a1
    obtain ⟨p, rfl, q, rfl, h1, hk⟩ := h
    exact ⟨_, _, _, .pure _ rfl (h1), hk⟩
  · exact h.elim

theorem refRows_spec (f : Vl → Vl → Int) (a b : List Vl) (ha : a.length ≤ 1000000) (hb : b.length ≤ 1000000) (hf : ∀ p ∈ a, ∀ q ∈ b, FnSpec Try.prog f_louperef05_Cmp [encV p, encV q] [] (.int .i64 (f p q)) []) : FnSpec Try.prog f_louperef05_rows [encL a, encL b] [] (.int .i64 (lexBy f a b)) [] := by
  refine k_louperef05_rows.pureG (T := tabL Try.prog [(f_louperef05_Cmp, (ctrRefC f)), (f_louperef05_sign, ctrSign)]) 0 hD (kOk_tabL (tabOk_cons (ctrRefC_ok f) (tabOk_cons ctrSign_ok tabOk_nil))) hmix (by decide) fun Q hQ => ?_
  try simp only [F_all]
  simp (maxSteps := 400000) only [↓preZ, postZ, coreZ, ↓preU, postU, D_all, F_all, unR, outL, onePV, binS, ↓binS, boundR, ↓boundR, fieldOf, ↓fieldOf, boxR, allocR, newObj, zeroElem, buildSliceR, appendR, setAll, storeR, St.freeze, makeSliceR, minmaxR, makeFuncR, BEq.rfl, reduceIte, reduceCtorEq, Nat.reduceLT, Nat.reduceAdd, Nat.reduceSub, Nat.reduceMul, Nat.reduceBEq, Nat.reduceLeDiff, Int.reduceToNat, Int.reduceLE, hQ, c_louperef05_rows]
  refine wpc_loop (fun m S => ∃ i : Nat, i + m = a.length ∧ i ≤ b.length ∧ lexBy f (a.drop i) (b.drop i) = lexBy f a b ∧ S = ⟨tmA 42 [(0, encL a), (1, encL b), (5, .int .i64 i)], []⟩) a.length ⟨0, by omega, by omega, rfl, ?_⟩ ?_
  · simp only [normR, keepR, Nat.reduceAdd, lkR, Nat.reduceBEq, F_all, List.map_nil]
    rfl
  rintro m S ⟨i, him, hib, hlx, rfl⟩
  have zi : (0 ≤ (i : Int)) = True := eq_true (by omega)
  have fin : a.length ≤ i ∨ b.length ≤ i → lexBy f a b = signI (decide ((a.length : Int) < b.length)) (decide ((a.length : Int) = b.length)) := by
    intro h
    rw [← hlx, lexBy_nil]
    · simp only [List.length_drop]
      congr 1
      · exact decide_eq_decide.2 (by omega)
      · exact decide_eq_decide.2 (by omega)
    · rcases h with h | h
      · exact .inl (List.drop_eq_nil_of_le h)
      · exact .inr (List.drop_eq_nil_of_le h)
  rcases Nat.lt_or_ge i a.length with h | h
  rotate_left 1
  · have hlt : ((i : Int) < (a.length : Int)) = False := eq_false (by omega)
    simp (maxSteps := 400000) only [↓preZ, postZ, coreZ, ↓preU, postU, D_all, F_all, unR, outL, onePV, binS, ↓binS, boundR, ↓boundR, fieldOf, ↓fieldOf, boxR, allocR, newObj, zeroElem, buildSliceR, appendR, setAll, storeR, St.freeze, makeSliceR, minmaxR, makeFuncR, BEq.rfl, reduceIte, reduceCtorEq, Nat.reduceLT, Nat.reduceAdd, Nat.reduceSub, Nat.reduceMul, Nat.reduceBEq, Nat.reduceLeDiff, Int.reduceToNat, Int.reduceLE, hQ, hlt, ↓ctrSign]
    rw [fin (.inl h)]
  have hlt : ((i : Int) < (a.length : Int)) = True := eq_true (by omega)
  rcases Nat.lt_or_ge i b.length with h' | h'
  rotate_left 1
  · have hlt2 : ((i : Int) < (b.length : Int)) = False := eq_false (by omega)
    simp (maxSteps := 400000) only [↓preZ, postZ, coreZ, ↓preU, postU, D_all, F_all, unR, outL, onePV, binS, ↓binS, boundR, ↓boundR, fieldOf, ↓fieldOf, boxR, allocR, newObj, zeroElem, buildSliceR, appendR, setAll, storeR, St.freeze, makeSliceR, minmaxR, makeFuncR, BEq.rfl, reduceIte, reduceCtorEq, Nat.reduceLT, Nat.reduceAdd, Nat.reduceSub, Nat.reduceMul, Nat.reduceBEq, Nat.reduceLeDiff, Int.reduceToNat, Int.reduceLE, hQ, hlt, hlt2, ↓ctrSign]
    rw [fin (.inr h')]
  have hlt2 : ((i : Int) < (b.length : Int)) = True := eq_true (by omega)
  have ga := List.getElem?_eq_getElem h
  have gb := List.getElem?_eq_getElem h'
  have da := List.drop_eq_getElem_cons h
  have db := List.drop_eq_getElem_cons h'
  have hfx := hf _ (List.getElem_mem h) _ (List.getElem_mem h')
  generalize a[i] = x at ga da hfx
  generalize b[i] = y at gb db hfx
  rw [da, db, lexBy] at hlx
  by_cases hxy : f x y = 0
  · rw [if_pos hxy] at hlx
    simp (maxSteps := 400000) only [↓preZ, postZ, coreZ, ↓preU, postU, D_all, F_all, unR, outL, onePV, binS, ↓binS, boundR, ↓boundR, fieldOf, ↓fieldOf, boxR, allocR, newObj, zeroElem, buildSliceR, appendR, setAll, storeR, St.freeze, makeSliceR, minmaxR, makeFuncR, BEq.rfl, reduceIte, reduceCtorEq, Nat.reduceLT, Nat.reduceAdd, Nat.reduceSub, Nat.reduceMul, Nat.reduceBEq, Nat.reduceLeDiff, Int.reduceToNat, Int.reduceLE, hQ, hlt, hlt2, zi, ga, gb, hxy, ↓ctrSign, ↓ctrRefC]
    exact ⟨by rw [← hxy]; exact hfx, ⟨by omega, by omega⟩, m - 1, by omega, i + 1, by omega, by omega, hlx, by simp⟩
  · rw [if_neg hxy] at hlx
    simp (maxSteps := 400000) only [↓preZ, postZ, coreZ, ↓preU, postU, D_all, F_all, unR, outL, onePV, binS, ↓binS, boundR, ↓boundR, fieldOf, ↓fieldOf, boxR, allocR, newObj, zeroElem, buildSliceR, appendR, setAll, storeR, St.freeze, makeSliceR, minmaxR, makeFuncR, BEq.rfl, reduceIte, reduceCtorEq, Nat.reduceLT, Nat.reduceAdd, Nat.reduceSub, Nat.reduceMul, Nat.reduceBEq, Nat.reduceLeDiff, Int.reduceToNat, Int.reduceLE, hQ, hlt, hlt2, zi, ga, gb, hxy, ↓ctrSign, ↓ctrRefC]
    exact ⟨hfx, by rw [hlx]⟩

theorem nodeZ : PV.ofV (.agg ⟨[.int .i64 0, .int .i64 0, .string ⟨⟨[]⟩⟩, .string ⟨⟨[]⟩⟩, .bool false, .int .i64 0]⟩) = encN ⟨0, 0, [], [], false, 0⟩ := rfl
theorem nodeW (a : Nd) (k m : Int) (x y : List UInt8) (g : Bool) (e : Int) : (encN a).putCells 0 [.int .i64 k, .int .i64 m, .str x, .str y, .bool g, .int .i64 e] = encN ⟨k, m, x, y, g, e⟩ := rfl
theorem rowA2 (n : Nd) (r : Vl) : (∀ y, y ∈ encN n :: r.map encN → y.cells.length = 6 ∧ y.cells.all PV.storable = true) = True := by
  have := rowA (enc := encN) (sz := 6) (fun _ => rfl) (fun _ => rfl) (n :: r)
  rwa [List.map_cons] at this

theorem own_spec (v : Vl) (i j : Nat) (hij : i < j) (hj : j ≤ v.length) (hl : v.length ≤ 1000000) : FnSpec Try.prog f_louperef02_own [encV v, .int .i64 i, .int .i64 j] [] (encV (clr ((v.take j).drop i))) [] := by
  obtain ⟨n, r, hnr⟩ : ∃ n r, (v.take j).drop i = n :: r := by
    cases h : (v.take j).drop i with
    | nil => have := congrArg List.length h; simp at this; omega
    | cons n r => exact ⟨n, r, rfl⟩
  have hlen : ((v.take j).drop i).length ≤ 1000000 := by simp; omega
  rw [hnr] at hlen ⊢
  simp only [List.length_cons] at hlen
  have zi : (0 ≤ (i : Int)) = True := eq_true (by omega)
  have c1 : ((i : Int) ≤ (j : Int)) = True := eq_true (by omega)
  have c2 : ((j : Int) ≤ (v.length : Int)) = True := eq_true (by omega)
  refine k_louperef02_own.pureG (T := tabL Try.prog []) 1 hD (kOk_tabL tabOk_nil) hmix (by decide) fun Q hQ => ?_
  try simp only [F_all]
  simp (maxSteps := 400000) only [↓preZ, postZ, coreZ, ↓preU, postU, D_all, F_all, unR, outL, onePV, binS, ↓binS, boundR, ↓boundR, fieldOf, ↓fieldOf, boxR, allocR, newObj, zeroElem, buildSliceR, appendR, setAll, storeR, St.freeze, makeSliceR, minmaxR, makeFuncR, BEq.rfl, reduceIte, reduceCtorEq, Nat.reduceLT, Nat.reduceAdd, Nat.reduceSub, Nat.reduceMul, Nat.reduceBEq, Nat.reduceLeDiff, Int.reduceToNat, Int.reduceLE, hQ, c_louperef02_own, zi, c1, c2, hnr, nodeZ, nodeW, rowA2, List.set_cons_zero]
  exact ⟨by omega, by omega, by omega, by omega, ((frzRow hV inN).1 _ _ (clr (n :: r)) 2 _).symm⟩

theorem own_spec' (v : Vl) (i j : Int) (h : 0 ≤ i ∧ i < j ∧ j ≤ v.length) (hl : v.length ≤ 1000000) : FnSpec Try.prog f_louperef02_own [encV v, .int .i64 i, .int .i64 j] [] (encV (clr ((v.take j.toNat).drop i.toNat))) [] := by
  have e1 : i = (i.toNat : Int) := by omega
  have e2 : j = (j.toNat : Int) := by omega
  have := own_spec v i.toNat j.toNat (by omega) (by omega) hl
  rw [← e1, ← e2] at this
  exact this

def ctrOwn : Ctr := fun args objs K => match args with
  | [a0, .int .i64 i, .int .i64 j] => ofE encV a0 (HK.mk : HK fun v => (0 ≤ i ∧ i < j ∧ j ≤ v.length) ∧ (v.length ≤ 1000000) ∧ K (encV (clr ((v.take j.toNat).drop i.toNat))) objs 0)
  | _ => False
theorem ctrOwn_ok : CtrOk Try.prog f_louperef02_own (ctrOwn) := by
  intro args objs K h
  unfold ctrOwn at h
  split at h
  · rename_i a0 i j
    obtain ⟨v, rfl, h1, h2, hk⟩ := h
    exact ⟨_, _, _, .pure _ rfl (own_spec' v i j h1 h2), hk⟩
  · exact h.elim

theorem skip_nxt (L : Nat) : ∀ (v : Vl) (k c : Nat), skip v k = some c → c ≤ L → nxt L v k = some c
  | v, 0, c, h, _ => by cases v <;> simpa [nxt, skip] using h
  | [], k + 1, c, h, _ => by simp [skip] at h
  | n :: v, k + 1, c, h, hc => by
    obtain ⟨hm, c', rfl, h'⟩ := skip_step h
    have := skip_le _ _ _ h'
    rw [nxt, if_neg (by omega), skip_nxt L v _ c' h' (by omega)]; rfl

theorem refParts_spec (v : Vl) (ho : One v) (hl : v.length ≤ 1000000) : FnSpec Try.prog f_louperef02_Parts [encV v] [] (encL (partsV v)) [] := by
  obtain ⟨n, r, hv⟩ : ∃ n r, v = n :: r := by
    cases v with
    | nil => exact absurd rfl ho.ne
    | cons n r => exact ⟨n, r, rfl⟩
  have ho' := ho
  rw [hv] at ho'
  obtain ⟨hm, ps, hp, hfl, hps⟩ := ho'.parts
  have hpl := parts_len _ _ _ hp
  have hg0 : v[0]? = some n := by rw [hv]; rfl
  have hr : partsV v = ps.map clr := by rw [hv, partsV]; exact (partsOf_eq hp).1
  have hmn : n.many = (ps.length : Int) := by omega
  have hd1 : v.drop 1 = r := by rw [hv]; rfl
  have hple := parts_le _ _ _ hp
  have hrl : r.length + 1 = v.length := by rw [hv]; rfl
  rw [hr]
  refine k_louperef02_Parts.pureG (T := tabL Try.prog [(f_louperef02_Next, ctrNext), (f_louperef02_own, ctrOwn)]) 1 hD (kOk_tabL (tabOk_cons ctrNext_ok (tabOk_cons ctrOwn_ok tabOk_nil))) hmix (by decide) fun Q hQ => ?_
  try simp only [F_all]
  simp (maxSteps := 400000) only [↓preZ, postZ, coreZ, ↓preU, postU, D_all, F_all, unR, outL, onePV, binS, ↓binS, boundR, ↓boundR, fieldOf, ↓fieldOf, boxR, allocR, newObj, zeroElem, buildSliceR, appendR, setAll, storeR, St.freeze, makeSliceR, minmaxR, makeFuncR, BEq.rfl, reduceIte, reduceCtorEq, Nat.reduceLT, Nat.reduceAdd, Nat.reduceSub, Nat.reduceMul, Nat.reduceBEq, Nat.reduceLeDiff, Int.reduceToNat, Int.reduceLE, hQ, c_louperef02_Parts]
  refine wpc_loop (fun m S => ∃ (i ver : Nat) (done : List Vl) (rest : List Vl), m = rest.length ∧ done.length + rest.length = ps.length ∧ done ++ rest.map clr = ps.map clr ∧ parts rest.length (v.drop i) = some rest ∧
    S = ⟨tmA 28 [(0, encV v), (3, .osl 0 ver), (4, .int .i64 i), (5, .int .i64 done.length)], [⟨t_api_Val, 1, done.map encV, true, ver⟩]⟩) ps.length ⟨1, 1, [], ps, rfl, by simp, rfl, by rw [hd1, hpl]; exact hp, ?_⟩ ?_
  · simp only [normR, keepR, Nat.reduceAdd, lkR, Nat.reduceBEq, F_all, List.map_nil]
    rfl
  rintro m S ⟨i, ver, done, rest, rfl, hdl, hdr, hrp, rfl⟩
  cases rest with
  | nil =>
    simp only [List.length_nil, Nat.add_zero] at hdl
    have hlt : ((done.length : Int) < (ps.length : Int)) = False := eq_false (by omega)
    simp only [List.map_nil, List.append_nil] at hdr
    simp (maxSteps := 400000) only [↓preZ, postZ, coreZ, ↓preU, postU, D_all, F_all, unR, outL, onePV, binS, ↓binS, boundR, ↓boundR, fieldOf, ↓fieldOf, boxR, allocR, newObj, zeroElem, buildSliceR, appendR, setAll, storeR, St.freeze, makeSliceR, minmaxR, makeFuncR, BEq.rfl, reduceIte, reduceCtorEq, Nat.reduceLT, Nat.reduceAdd, Nat.reduceSub, Nat.reduceMul, Nat.reduceBEq, Nat.reduceLeDiff, Int.reduceToNat, Int.reduceLE, hQ, hg0, hmn, hlt]
    rw [hdr]
  | cons p qs =>
    obtain ⟨c, qs', h1, h2, h3⟩ := parts_step (k := qs.length) hrp
    simp only [List.cons.injEq] at h2
    obtain ⟨hp1, rfl⟩ := h2
    simp only [List.length_cons] at hdl
    have hlt : ((done.length : Int) < (ps.length : Int)) = True := eq_true (by omega)
    have hc := skip_le _ _ _ h1
    simp only [List.length_drop] at hc
    have hnx : nextI v i = (i + c : Nat) := nextI_of (skip_nxt _ _ _ _ h1 (by omega))
    have zi : (0 ≤ (i : Int)) = True := eq_true (by omega)
    simp (maxSteps := 400000) only [↓preZ, postZ, coreZ, ↓preU, postU, D_all, F_all, unR, outL, onePV, binS, ↓binS, boundR, ↓boundR, fieldOf, ↓fieldOf, boxR, allocR, newObj, zeroElem, buildSliceR, appendR, setAll, storeR, St.freeze, makeSliceR, minmaxR, makeFuncR, BEq.rfl, reduceIte, reduceCtorEq, Nat.reduceLT, Nat.reduceAdd, Nat.reduceSub, Nat.reduceMul, Nat.reduceBEq, Nat.reduceLeDiff, Int.reduceToNat, Int.reduceLE, hQ, hg0, hmn, hlt, ↓ctrNext, ↓ctrOwn, hnx, zi]
    have hpe : List.drop i (List.take (i + c) v) = p := by
      rw [List.drop_take, hp1, show i + c - i = c by omega]
    have happ : List.map encV done ++ [encV (clr p)] = List.map encV (done ++ [clr p]) := by simp
    rw [hpe, happ]
    refine ⟨by omega, hl, ⟨by omega, by omega⟩, hl, by omega, by omega, ⟨by omega, by omega⟩, qs.length, by omega, i + c, ver + 1, done ++ [clr p], qs, rfl, ?_, ?_, ?_, ?_⟩
    · simp only [List.length_append, List.length_cons, List.length_nil]; omega
    · rw [← hdr]; simp
    · rw [← List.drop_drop]; exact h3
    · simp only [List.length_append, List.length_cons, List.length_nil, Nat.zero_add, Int.natCast_add, Int.cast_ofNat_Int, Int.natCast_one]

def ctrRefParts : Ctr := fun args objs K => match args with
  | [a0] => ofE encV a0 (HK.mk : HK fun v => (One v) ∧ (v.length ≤ 1000000) ∧ K (encL (partsV v)) objs 0)
  | _ => False
theorem ctrRefParts_ok : CtrOk Try.prog f_louperef02_Parts (ctrRefParts) := by
  intro args objs K h
  unfold ctrRefParts at h
  split at h
  · rename_i a0
    obtain ⟨v, rfl, h1, h2, hk⟩ := h
    exact ⟨_, _, _, .pure _ rfl (refParts_spec v h1 h2), hk⟩
  · exact h.elim

theorem refNamesOf_spec (v : Vl) (ho : One v) (hl : v.length ≤ 1000000) : FnSpec Try.prog f_louperef02_Names [encV v] [] (encT (namesV v)) [] := by
  obtain ⟨n, r, hv⟩ : ∃ n r, v = n :: r := by
    cases v with
    | nil => exact absurd rfl ho.ne
    | cons n r => exact ⟨n, r, rfl⟩
  have ho' := ho
  rw [hv] at ho'
  obtain ⟨hm, ps, hp, hfl, hps⟩ := ho'.parts
  have hpl := parts_len _ _ _ hp
  have hg0 : v[0]? = some n := by rw [hv]; rfl
  have hr : namesV v = if n.kind = 6 then ps.map nameOf else [] := by rw [hv, namesV, (partsOf_eq hp).2]
  have hmn : n.many = (ps.length : Int) := by omega
  have hd1 : v.drop 1 = r := by rw [hv]; rfl
  have hple := parts_le _ _ _ hp
  have hrl : r.length + 1 = v.length := by rw [hv]; rfl
  refine k_louperef02_Names.pureG (T := tabL Try.prog [(f_louperef02_Next, ctrNext)]) 1 hD (kOk_tabL (tabOk_cons ctrNext_ok tabOk_nil)) hmix (by decide) fun Q hQ => ?_
  try simp only [F_all]
  simp (maxSteps := 400000) only [↓preZ, postZ, coreZ, ↓preU, postU, D_all, F_all, unR, outL, onePV, binS, ↓binS, boundR, ↓boundR, fieldOf, ↓fieldOf, boxR, allocR, newObj, zeroElem, buildSliceR, appendR, setAll, storeR, St.freeze, makeSliceR, minmaxR, makeFuncR, BEq.rfl, reduceIte, reduceCtorEq, Nat.reduceLT, Nat.reduceAdd, Nat.reduceSub, Nat.reduceMul, Nat.reduceBEq, Nat.reduceLeDiff, Int.reduceToNat, Int.reduceLE, hQ, c_louperef02_Names]
  refine wpc_loop (fun m S => ∃ (i ver : Nat) (done : List (List UInt8)) (rest : List Vl), m = rest.length ∧ (done = [] ∨ n.kind = 6) ∧ done.length + rest.length = ps.length ∧ done ++ rest.map nameOf = ps.map nameOf ∧ parts rest.length (v.drop i) = some rest ∧
    S = ⟨tmA 34 [(0, encV v), (3, .osl 0 ver), (4, .int .i64 i), (5, .int .i64 done.length)], [⟨t_string, 1, done.map .str, true, ver⟩]⟩) ps.length ⟨1, 1, [], ps, rfl, .inl rfl, by simp, rfl, by rw [hd1, hpl]; exact hp, ?_⟩ ?_
  · simp only [normR, keepR, Nat.reduceAdd, lkR, Nat.reduceBEq, F_all, List.map_nil]
    rfl
  rintro m S ⟨i, ver, done, rest, rfl, hdn, hdl, hdr, hrp, rfl⟩
  cases rest with
  | nil =>
    simp only [List.length_nil, Nat.add_zero] at hdl
    have hlt : ((done.length : Int) < (ps.length : Int)) = False := eq_false (by omega)
    simp only [List.map_nil, List.append_nil] at hdr
    simp (maxSteps := 400000) only [↓preZ, postZ, coreZ, ↓preU, postU, D_all, F_all, unR, outL, onePV, binS, ↓binS, boundR, ↓boundR, fieldOf, ↓fieldOf, boxR, allocR, newObj, zeroElem, buildSliceR, appendR, setAll, storeR, St.freeze, makeSliceR, minmaxR, makeFuncR, BEq.rfl, reduceIte, reduceCtorEq, Nat.reduceLT, Nat.reduceAdd, Nat.reduceSub, Nat.reduceMul, Nat.reduceBEq, Nat.reduceLeDiff, Int.reduceToNat, Int.reduceLE, hQ, hg0, hmn, hlt]
    rw [hr]
    split
    · rw [hdr]
    · rename_i h6
      rw [hdn.resolve_right h6]
  | cons p qs =>
    obtain ⟨c, qs', h1, h2, h3⟩ := parts_step (k := qs.length) hrp
    simp only [List.cons.injEq] at h2
    obtain ⟨hp1, rfl⟩ := h2
    simp only [List.length_cons] at hdl
    have hlt : ((done.length : Int) < (ps.length : Int)) = True := eq_true (by omega)
    have hc := skip_le _ _ _ h1
    simp only [List.length_drop] at hc
    have hnx : nextI v i = (i + c : Nat) := nextI_of (skip_nxt _ _ _ _ h1 (by omega))
    have zi : (0 ≤ (i : Int)) = True := eq_true (by omega)
    have hil : i < v.length := by omega
    have hgi := List.getElem?_eq_getElem hil
    have hdi := List.drop_eq_getElem_cons hil
    generalize v[i] = pn at hgi hdi
    have hname : nameOf p = pn.name := by
      obtain ⟨w, hw⟩ : ∃ w, c = w + 1 := ⟨c - 1, by omega⟩
      rw [hp1, hdi, hw]; rfl
    by_cases h6 : n.kind = 6
    rotate_left 1
    · simp (maxSteps := 400000) only [↓preZ, postZ, coreZ, ↓preU, postU, D_all, F_all, unR, outL, onePV, binS, ↓binS, boundR, ↓boundR, fieldOf, ↓fieldOf, boxR, allocR, newObj, zeroElem, buildSliceR, appendR, setAll, storeR, St.freeze, makeSliceR, minmaxR, makeFuncR, BEq.rfl, reduceIte, reduceCtorEq, Nat.reduceLT, Nat.reduceAdd, Nat.reduceSub, Nat.reduceMul, Nat.reduceBEq, Nat.reduceLeDiff, Int.reduceToNat, Int.reduceLE, hQ, hg0, hmn, hlt, h6]
      rw [hr, if_neg h6, hdn.resolve_right h6]
    simp (maxSteps := 400000) only [↓preZ, postZ, coreZ, ↓preU, postU, D_all, F_all, unR, outL, onePV, binS, ↓binS, boundR, ↓boundR, fieldOf, ↓fieldOf, boxR, allocR, newObj, zeroElem, buildSliceR, appendR, setAll, storeR, St.freeze, makeSliceR, minmaxR, makeFuncR, BEq.rfl, reduceIte, reduceCtorEq, Nat.reduceLT, Nat.reduceAdd, Nat.reduceSub, Nat.reduceMul, Nat.reduceBEq, Nat.reduceLeDiff, Int.reduceToNat, Int.reduceLE, hQ, hg0, hmn, hlt, h6, ↓ctrNext, hnx, zi, hgi]
    have happ : List.map PV.str done ++ [PV.str pn.name] = List.map PV.str (done ++ [pn.name]) := by simp
    rw [happ]
    refine ⟨by omega, by omega, by omega, hl, ⟨by omega, by omega⟩, qs.length, by omega, i + c, ver + 1, done ++ [pn.name], qs, rfl, ?_, ?_, ?_, ?_⟩
    · simp only [List.length_append, List.length_cons, List.length_nil]; omega
    · rw [← hdr, List.map_cons, hname]; simp
    · rw [← List.drop_drop]; exact h3
    · simp only [List.length_append, List.length_cons, List.length_nil, Nat.zero_add, Int.natCast_add, Int.cast_ofNat_Int, Int.natCast_one]

def ctrRefNamesOf : Ctr := fun args objs K => match args with
  | [a0] => ofE encV a0 (HK.mk : HK fun v => (One v) ∧ (v.length ≤ 1000000) ∧ K (encT (namesV v)) objs 0)
  | _ => False
theorem ctrRefNamesOf_ok : CtrOk Try.prog f_louperef02_Names (ctrRefNamesOf) := by
  intro args objs K h
  unfold ctrRefNamesOf at h
  split at h
  · rename_i a0
    obtain ⟨v, rfl, h1, h2, hk⟩ := h
    exact ⟨_, _, _, .pure _ rfl (refNamesOf_spec v h1 h2), hk⟩
  · exact h.elim
end Lp

/-! LpW21 -/

namespace Lp
open Go Go.Proofs

set_option maxHeartbeats 4000000
set_option maxRecDepth 20000
set_option linter.unusedSimpArgs false

/-- What louperef05.Cmp asks of a value. -/
structure Ok2 (v : Vl) : Prop where
  one : One v
  len : v.length ≤ 1000000
  all : ∀ n ∈ v, n.kind = 3 → NumOk n

theorem Ok2.parts {v : Vl} (h : Ok2 v) : (partsV v).length ≤ 1000000 ∧ (namesV v).length ≤ 1000000 ∧ ∀ p ∈ partsV v, Ok2 p ∧ p.length + 1 ≤ v.length := by
  cases v with
  | nil => exact absurd rfl h.one.ne
  | cons n r =>
    obtain ⟨hm, ps, h1, h2, h3⟩ := h.one.parts
    have hpl := parts_le _ _ _ h1
    have hpn := parts_len _ _ _ h1
    have hlen := h.len
    simp only [List.length_cons] at hlen
    refine ⟨?_, ?_, ?_⟩
    · rw [partsV, (partsOf_eq h1).1, List.length_map]; omega
    · rw [namesV]; split
      · rw [(partsOf_eq h1).2, List.length_map]; omega
      · simp
    · intro p hp
      rw [partsV, (partsOf_eq h1).1] at hp
      obtain ⟨q, hq, rfl⟩ := List.mem_map.1 hp
      have hql := flatten_len_mem hq
      rw [h2] at hql
      refine ⟨⟨(h3 q hq).clr, by rw [clr_length]; omega, ?_⟩, by rw [clr_length, List.length_cons]; omega⟩
      have hin : ∀ x ∈ q, x.kind = 3 → NumOk x := fun x hx => h.all x (List.mem_cons_of_mem _ (by rw [← h2]; exact List.mem_flatten.2 ⟨q, hq, hx⟩))
      intro x hx
      cases q with
      | nil => cases hx
      | cons m s =>
        rcases List.mem_cons.1 hx with rfl | hx
        · intro hk
          have := hin m (List.mem_cons_self ..) hk
          exact ⟨this.len, this.figs, this.lo, this.hi⟩
        · exact hin x (List.mem_cons_of_mem _ hx)

def ctrRows (f : Vl → Vl → Int) : Ctr := fun args objs K => match args with
  | [a0, a1] => ofE encL a0 (HK.mk : HK fun x => ofE encL a1 (HK.mk : HK fun y => (x.length ≤ 1000000) ∧ (y.length ≤ 1000000) ∧ (∀ p ∈ x, ∀ q ∈ y, FnSpec Try.prog f_louperef05_Cmp [encV p, encV q] [] (.int .i64 (f p q)) []) ∧ K (.int .i64 (lexBy f x y)) objs 0))
  | _ => False
theorem ctrRows_ok (f : Vl → Vl → Int) : CtrOk Try.prog f_louperef05_rows (ctrRows f) := by
  intro args objs K h
  unfold ctrRows at h
  split at h
  · rename_i a0 a1
    obtain ⟨x, rfl, y, rfl, h1, h2, h3, hk⟩ := h
    exact ⟨_, _, _, .pure _ rfl (refRows_spec f x y h1 h2 h3), hk⟩
  · exact h.elim

theorem digs_congr {a b a' b' : Nd} (h1 : ∀ p, atN a p = atN a' p) (h2 : ∀ p, atN b p = atN b' p) : ∀ (k : Nat) (p : Int), digs a b k p = digs a' b' k p
  | 0, _ => rfl
  | k + 1, p => by simp only [digs, h1, h2, digs_congr h1 h2 k]

theorem refN_congr (n m : Nd) (k l : Int) (x y : List UInt8) : refN { n with kind := k, name := x } { m with kind := l, name := y } = refN n m := by
  have hd : ∀ (j : Nat) (p : Int), digs { n with kind := k, name := x } { m with kind := l, name := y } j p = digs n m j p := digs_congr (fun _ => rfl) (fun _ => rfl)
  simp only [refN, hd]
  rfl

theorem refCmp5_spec : ∀ (f : Nat) (a b : Vl), a.length ≤ f → Ok2 a → Ok2 b → FnSpec Try.prog f_louperef05_Cmp [encV a, encV b] [] (.int .i64 (cmpW refN f a b)) []
  | 0, a, b, h, ha, _ => by have := ha.one.ne; cases a <;> simp at h this
  | f + 1, [], b, _, ha, _ => absurd rfl ha.one.ne
  | f + 1, n :: r, [], _, _, hb => absurd rfl hb.one.ne
  | f + 1, n :: r, m :: q, h, ha, hb => by
    have hpa := ha.parts
    have hpb := hb.parts
    have ih : ∀ p ∈ partsV (n :: r), ∀ p' ∈ partsV (m :: q), FnSpec Try.prog f_louperef05_Cmp [encV p, encV p'] [] (.int .i64 (cmpW refN f p p')) [] :=
      fun p hp p' hp' => refCmp5_spec f p p' (by have := (hpa.2.2 p hp).2; omega) (hpa.2.2 p hp).1 (hpb.2.2 p' hp').1
    have l1 := ha.len
    have l2 := hb.len
    have o1 := ha.one
    have o2 := hb.one
    generalize hA : n :: r = A at *
    generalize hB : m :: q = B at *
    have ga : A[0]? = some n := by rw [← hA]; rfl
    have gb : B[0]? = some m := by rw [← hB]; rfl
    have na := ha.all n (by rw [← hA]; exact List.mem_cons_self ..)
    have nb := hb.all m (by rw [← hB]; exact List.mem_cons_self ..)
    have pA : partsV A = partsOf n r := by rw [← hA]; rfl
    have pB : partsV B = partsOf m q := by rw [← hB]; rfl
    have sA : namesV A = if n.kind = 6 then labsOf n r else [] := by rw [← hA]; rfl
    have sB : namesV B = if m.kind = 6 then labsOf m q else [] := by rw [← hB]; rfl
    have res : cmpW refN (f + 1) A B = cmpW refN (f + 1) (n :: r) (m :: q) := by rw [hA, hB]
    refine k_louperef05_Cmp.pureG (T := tabL Try.prog [(f_louperef05_sign, ctrSign), (f_louperef01_Cmp, ctrRefCmp), (f_louperef02_Parts, ctrRefParts), (f_louperef02_Names, ctrRefNamesOf), (f_louperef05_names, ctrRefNames), (f_louperef05_rows, (ctrRows (cmpW refN f)))]) 0 hD (kOk_tabL (tabOk_cons ctrSign_ok (tabOk_cons ctrRefCmp_ok (tabOk_cons ctrRefParts_ok (tabOk_cons ctrRefNamesOf_ok (tabOk_cons ctrRefNames_ok (tabOk_cons (ctrRows_ok (cmpW refN f)) tabOk_nil))))))) hmix (by decide) fun Q hQ => ?_
    try simp only [F_all]
    by_cases hk : n.kind = m.kind
    rotate_left 1
    · simp (maxSteps := 400000) only [↓preZ, postZ, coreZ, ↓preU, postU, D_all, F_all, unR, outL, onePV, binS, ↓binS, boundR, ↓boundR, fieldOf, ↓fieldOf, boxR, allocR, newObj, zeroElem, buildSliceR, appendR, setAll, storeR, St.freeze, makeSliceR, minmaxR, makeFuncR, BEq.rfl, reduceIte, reduceCtorEq, Nat.reduceLT, Nat.reduceAdd, Nat.reduceSub, Nat.reduceMul, Nat.reduceBEq, Nat.reduceLeDiff, Int.reduceToNat, Int.reduceLE, hQ, c_louperef05_Cmp, ga, gb, hk, ↓ctrSign]
      have : cmpW refN (f + 1) A B = signI (decide (n.kind < m.kind)) false := by
        rw [res]
        simp only [cmpW, ne_eq, hk, not_false_eq_true, if_true, cmpI, signI, decide_eq_true_eq, Bool.false_eq_true, if_false]
        split
        · rfl
        · rw [if_pos (by omega)]
      rw [this]
    by_cases h3 : n.kind = 3
    · have h3' : m.kind = 3 := by omega
      have e3 : cmpW refN (f + 1) A B = refN n m := by
        rw [res]; simp [cmpW, hk, h3']
      simp (maxSteps := 400000) only [↓preZ, postZ, coreZ, ↓preU, postU, D_all, F_all, unR, outL, onePV, binS, ↓binS, boundR, ↓boundR, fieldOf, ↓fieldOf, boxR, allocR, newObj, zeroElem, buildSliceR, appendR, setAll, storeR, St.freeze, makeSliceR, minmaxR, makeFuncR, BEq.rfl, reduceIte, reduceCtorEq, Nat.reduceLT, Nat.reduceAdd, Nat.reduceSub, Nat.reduceMul, Nat.reduceBEq, Nat.reduceLeDiff, Int.reduceToNat, Int.reduceLE, hQ, c_louperef05_Cmp, ga, gb, h3, h3', ↓ctrSign, ↓ctrRefCmp, Int.reduceEq, nodeZ, nodeW]
    
      refine ⟨by decide, ?_, ?_, ?_⟩
      · have := na h3; exact ⟨this.len, this.figs, this.lo, this.hi⟩
      · have := nb h3'; exact ⟨this.len, this.figs, this.lo, this.hi⟩
      · rw [e3]; exact congrArg _ (refN_congr n m 3 3 [] []).symm
    by_cases h4 : n.kind = 4
    · have h4' : m.kind = 4 := by omega
      simp (maxSteps := 400000) only [↓preZ, postZ, coreZ, ↓preU, postU, D_all, F_all, unR, outL, onePV, binS, ↓binS, boundR, ↓boundR, fieldOf, ↓fieldOf, boxR, allocR, newObj, zeroElem, buildSliceR, appendR, setAll, storeR, St.freeze, makeSliceR, minmaxR, makeFuncR, BEq.rfl, reduceIte, reduceCtorEq, Nat.reduceLT, Nat.reduceAdd, Nat.reduceSub, Nat.reduceMul, Nat.reduceBEq, Nat.reduceLeDiff, Int.reduceToNat, Int.reduceLE, hQ, c_louperef05_Cmp, ga, gb, h4, h4', ↓ctrSign, Int.reduceEq]
      have e4 : cmpW refN (f + 1) A B = cmpS n.s m.s := by
        rw [res]; simp [cmpW, hk, h4']
      rw [e4]
      rcases cmpS_cases n.s m.s with ⟨g1, e1⟩ | ⟨g1, e1⟩ | ⟨g1, e1⟩
      · have : n.s ≠ m.s := fun hh => by rw [hh, bl_irrefl] at g1; cases g1
        rw [e1, g1, decide_eq_false this]; rfl
      · rw [e1, decide_eq_true g1]; rfl
      · have : n.s ≠ m.s := fun hh => by rw [hh, bl_irrefl] at g1; cases g1
        rw [e1, decide_eq_false this, bl_asymm _ _ g1]; rfl
    by_cases h5 : n.kind = 5
    · have h5' : m.kind = 5 := by omega
      simp (maxSteps := 400000) only [↓preZ, postZ, coreZ, ↓preU, postU, D_all, F_all, unR, outL, onePV, binS, ↓binS, boundR, ↓boundR, fieldOf, ↓fieldOf, boxR, allocR, newObj, zeroElem, buildSliceR, appendR, setAll, storeR, St.freeze, makeSliceR, minmaxR, makeFuncR, BEq.rfl, reduceIte, reduceCtorEq, Nat.reduceLT, Nat.reduceAdd, Nat.reduceSub, Nat.reduceMul, Nat.reduceBEq, Nat.reduceLeDiff, Int.reduceToNat, Int.reduceLE, hQ, c_louperef05_Cmp, ga, gb, h5, h5', ↓ctrSign, Int.reduceEq, ↓ctrRefParts, ↓ctrRows]
      have e5 : cmpW refN (f + 1) A B = lexBy (cmpW refN f) (partsV A) (partsV B) := by
        rw [res, pA, pB]; simp [cmpW, hk, h5']
      exact ⟨o1, l1, o2, l2, hpa.1, hpb.1, ih, by rw [e5]⟩
    by_cases h6 : n.kind = 6
    · have h6' : m.kind = 6 := by omega
      simp (maxSteps := 400000) only [↓preZ, postZ, coreZ, ↓preU, postU, D_all, F_all, unR, outL, onePV, binS, ↓binS, boundR, ↓boundR, fieldOf, ↓fieldOf, boxR, allocR, newObj, zeroElem, buildSliceR, appendR, setAll, storeR, St.freeze, makeSliceR, minmaxR, makeFuncR, BEq.rfl, reduceIte, reduceCtorEq, Nat.reduceLT, Nat.reduceAdd, Nat.reduceSub, Nat.reduceMul, Nat.reduceBEq, Nat.reduceLeDiff, Int.reduceToNat, Int.reduceLE, hQ, c_louperef05_Cmp, ga, gb, h6, h6', ↓ctrSign, Int.reduceEq, ↓ctrRefParts, ↓ctrRows, ↓ctrRefNamesOf, ↓ctrRefNames]
      have e6 : cmpW refN (f + 1) A B = if lexBy cmpS (namesV A) (namesV B) = 0 then lexBy (cmpW refN f) (partsV A) (partsV B) else lexBy cmpS (namesV A) (namesV B) := by
        rw [res, pA, pB, sA, sB, if_pos h6, if_pos h6']; simp [cmpW, hk, h6']
      refine ⟨o1, l1, o2, l2, hpa.2.1, hpb.2.1, fun hz => ⟨o1, l1, o2, l2, hpa.1, hpb.1, ih, ?_⟩, fun hz => ?_⟩
      · rw [e6, if_pos hz]
      · rw [e6, if_neg hz]
    · have e0 : cmpW refN (f + 1) A B = 0 := by
        rw [res]; simp only [cmpW, hk, ne_eq, not_true_eq_false, if_false, hk ▸ h3, hk ▸ h4, hk ▸ h5, hk ▸ h6]
      simp (maxSteps := 400000) only [↓preZ, postZ, coreZ, ↓preU, postU, D_all, F_all, unR, outL, onePV, binS, ↓binS, boundR, ↓boundR, fieldOf, ↓fieldOf, boxR, allocR, newObj, zeroElem, buildSliceR, appendR, setAll, storeR, St.freeze, makeSliceR, minmaxR, makeFuncR, BEq.rfl, reduceIte, reduceCtorEq, Nat.reduceLT, Nat.reduceAdd, Nat.reduceSub, Nat.reduceMul, Nat.reduceBEq, Nat.reduceLeDiff, Int.reduceToNat, Int.reduceLE, hQ, c_louperef05_Cmp, ga, gb, hk ▸ h3, hk ▸ h4, hk ▸ h5, hk ▸ h6, hk, ↓ctrSign, e0]

def ctrRef5 (f : Nat) : Ctr := fun args objs K => match args with
  | [a0, a1] => ofE encV a0 (HK.mk : HK fun a => ofE encV a1 (HK.mk : HK fun b => (a.length ≤ f) ∧ (Ok2 a) ∧ (Ok2 b) ∧ K (.int .i64 (cmpW refN f a b)) objs 0))
  | _ => False
theorem ctrRef5_ok (f : Nat) : CtrOk Try.prog f_louperef05_Cmp (ctrRef5 f) := by
  intro args objs K h
  unfold ctrRef5 at h
  split at h
  · rename_i a0 a1
    obtain ⟨a, rfl, b, rfl, h1, h2, h3, hk⟩ := h
    exact ⟨_, _, _, .pure _ rfl (refCmp5_spec f a b h1 h2 h3), hk⟩
  · exact h.elim
end Lp

/-! LpW22 -/

namespace Lp
open Go Go.Proofs

set_option maxHeartbeats 4000000
set_option maxRecDepth 20000
set_option linter.unusedSimpArgs false

def risesC (c : Vl → Vl → Int) : List Vl → Bool
  | a :: b :: l => decide (0 ≤ c b a) && risesC c (b :: l)
  | _ => true

theorem risesC_iff (c : Vl → Vl → Int) : ∀ l : List Vl, risesC c l = true ↔ ∀ j a b, l[j]? = some a → l[j + 1]? = some b → 0 ≤ c b a
  | [] => by simp [risesC]
  | [a] => by simp [risesC]
  | a :: b :: l => by
    rw [risesC, Bool.and_eq_true, decide_eq_true_eq, risesC_iff c (b :: l)]
    constructor
    · rintro ⟨h1, h2⟩ j x y hx hy
      cases j with
      | zero =>
        simp only [List.getElem?_cons_zero, List.getElem?_cons_succ, Option.some.injEq] at hx hy
        subst hx hy; exact h1
      | succ j => exact h2 j x y (by simpa using hx) (by simpa using hy)
    · intro h
      exact ⟨h 0 a b rfl rfl, fun j x y hx hy => h (j + 1) x y (by simpa using hx) (by simpa using hy)⟩

def OkL2 (f : Nat) (l : List Vl) : Prop := l.length ≤ 1000000 ∧ ∀ v ∈ l, v.length ≤ f ∧ Ok2 v

theorem refRises_spec (f : Nat) (keys : List Vl) (hk : OkL2 f keys) : FnSpec Try.prog f_louperef05_Rises [encL keys] [] (.bool (risesC (cmpW refN f) keys)) [] := by
  obtain ⟨hl, hk⟩ := hk
  refine k_louperef05_Rises.pureG (T := tabL Try.prog [(f_louperef05_Cmp, (ctrRef5 f))]) 0 hD (kOk_tabL (tabOk_cons (ctrRef5_ok f) tabOk_nil)) hmix (by decide) fun Q hQ => ?_
  try simp only [F_all]
  simp (maxSteps := 400000) only [↓preZ, postZ, coreZ, ↓preU, postU, D_all, F_all, unR, outL, onePV, binS, ↓binS, boundR, ↓boundR, fieldOf, ↓fieldOf, boxR, allocR, newObj, zeroElem, buildSliceR, appendR, setAll, storeR, St.freeze, makeSliceR, minmaxR, makeFuncR, BEq.rfl, reduceIte, reduceCtorEq, Nat.reduceLT, Nat.reduceAdd, Nat.reduceSub, Nat.reduceMul, Nat.reduceBEq, Nat.reduceLeDiff, Int.reduceToNat, Int.reduceLE, hQ, c_louperef05_Rises]
  refine wpc_loop (fun m S => ∃ i : Nat, i + m = keys.length + 1 ∧ (∀ j a b, j < i → keys[j]? = some a → keys[j + 1]? = some b → 0 ≤ cmpW refN f b a) ∧
    S = ⟨tmA 21 [(0, encL keys), (3, .int .i64 (i + 1 : Nat))], []⟩) (keys.length + 1) ⟨0, by omega, fun j a b h => absurd h (by omega), ?_⟩ ?_
  · simp only [normR, keepR, Nat.reduceAdd, lkR, Nat.reduceBEq, F_all, List.map_nil]
    rfl
  rintro m S ⟨i, him, hj, rfl⟩
  rcases Nat.lt_or_ge (i + 1) keys.length with h | h
  rotate_left 1
  · have hlt : (((i + 1 : Nat) : Int) < (keys.length : Int)) = False := eq_false (by omega)
    simp (maxSteps := 400000) only [↓preZ, postZ, coreZ, ↓preU, postU, D_all, F_all, unR, outL, onePV, binS, ↓binS, boundR, ↓boundR, fieldOf, ↓fieldOf, boxR, allocR, newObj, zeroElem, buildSliceR, appendR, setAll, storeR, St.freeze, makeSliceR, minmaxR, makeFuncR, BEq.rfl, reduceIte, reduceCtorEq, Nat.reduceLT, Nat.reduceAdd, Nat.reduceSub, Nat.reduceMul, Nat.reduceBEq, Nat.reduceLeDiff, Int.reduceToNat, Int.reduceLE, hQ, hlt]
    rw [risesC_iff]
    intro j a b ha hb
    exact hj j a b (by have := (List.getElem?_eq_some_iff.1 hb).1; omega) ha hb
  have hlt : (((i + 1 : Nat) : Int) < (keys.length : Int)) = True := eq_true (by omega)
  have g1 : keys[i + 1]? = some keys[i + 1] := List.getElem?_eq_getElem h
  have g0 : keys[i]? = some (keys[i]'(by omega)) := List.getElem?_eq_getElem (by omega)
  have o1 := hk keys[i + 1] (List.getElem_mem _)
  have o0 := hk (keys[i]'(by omega)) (List.getElem_mem _)
  generalize keys[i + 1] = y at g1 o1
  generalize keys[i]'(by omega) = x at g0 o0
  have t1 : (((i + 1 : Nat) : Int) - 1).toNat = i := by omega
  have z1 : (0 ≤ ((i + 1 : Nat) : Int)) = True := eq_true (by omega)
  have z2 : (0 ≤ ((i + 1 : Nat) : Int) - 1) = True := eq_true (by omega)
  have r1 : (-9223372036854775808 ≤ ((i + 1 : Nat) : Int) - 1 ∧ ((i + 1 : Nat) : Int) - 1 ≤ 9223372036854775807) = True := eq_true ⟨by omega, by omega⟩
  by_cases hc : cmpW refN f y x < 0
  · have hc' : (cmpW refN f y x < 0) = True := eq_true hc
    have hr : risesC (cmpW refN f) keys = false := by
      cases hr : risesC (cmpW refN f) keys with
      | false => rfl
      | true => have := (risesC_iff _ _).1 hr i x y g0 g1; omega
    simp (maxSteps := 400000) only [↓preZ, postZ, coreZ, ↓preU, postU, D_all, F_all, unR, outL, onePV, binS, ↓binS, boundR, ↓boundR, fieldOf, ↓fieldOf, boxR, allocR, newObj, zeroElem, buildSliceR, appendR, setAll, storeR, St.freeze, makeSliceR, minmaxR, makeFuncR, BEq.rfl, reduceIte, reduceCtorEq, Nat.reduceLT, Nat.reduceAdd, Nat.reduceSub, Nat.reduceMul, Nat.reduceBEq, Nat.reduceLeDiff, Int.reduceToNat, Int.reduceLE, hQ, hlt, ↓ctrRef5, g1, g0, t1, z1, z2, r1, hc', hr]
    exact ⟨o1.1, o1.2, o0.2⟩
  · have hc' : (cmpW refN f y x < 0) = False := eq_false hc
    simp (maxSteps := 400000) only [↓preZ, postZ, coreZ, ↓preU, postU, D_all, F_all, unR, outL, onePV, binS, ↓binS, boundR, ↓boundR, fieldOf, ↓fieldOf, boxR, allocR, newObj, zeroElem, buildSliceR, appendR, setAll, storeR, St.freeze, makeSliceR, minmaxR, makeFuncR, BEq.rfl, reduceIte, reduceCtorEq, Nat.reduceLT, Nat.reduceAdd, Nat.reduceSub, Nat.reduceMul, Nat.reduceBEq, Nat.reduceLeDiff, Int.reduceToNat, Int.reduceLE, hQ, hlt, ↓ctrRef5, g1, g0, t1, z1, z2, r1, hc']
    refine ⟨o1.1, o1.2, o0.2, ⟨by omega, by omega⟩, m - 1, by omega, i + 1, by omega, ?_, by simp⟩
    intro j a b hji ha hb
    by_cases hjj : j = i
    · subst hjj
      rw [g0] at ha; rw [g1] at hb
      cases ha; cases hb
      omega
    · exact hj j a b (by omega) ha hb

def ctrRefRises (f : Nat) : Ctr := fun args objs K => match args with
  | [a0] => ofE encL a0 (HK.mk : HK fun keys => (OkL2 f keys) ∧ K (.bool (risesC (cmpW refN f) keys)) objs 0)
  | _ => False
theorem ctrRefRises_ok (f : Nat) : CtrOk Try.prog f_louperef05_Rises (ctrRefRises f) := by
  intro args objs K h
  unfold ctrRefRises at h
  split at h
  · rename_i a0
    obtain ⟨keys, rfl, h1, hk⟩ := h
    exact ⟨_, _, _, .pure _ rfl (refRises_spec f keys h1), hk⟩
  · exact h.elim
end Lp

/-! LpW23 -/

namespace Lp
open Go Go.Proofs

set_option maxHeartbeats 4000000
set_option maxRecDepth 20000
set_option linter.unusedSimpArgs false

theorem same_spec (a b : Vl) (ha : a.length ≤ 1000000) (hb : b.length ≤ 1000000) : FnSpec Try.prog f_louperef02_Same [encV a, encV b] [] (.bool (decide (a = b))) [] := by
  refine k_louperef02_Same.pureG (T := tabL Try.prog []) 0 hD (kOk_tabL tabOk_nil) hmix (by decide) fun Q hQ => ?_
  try simp only [F_all]
  by_cases hl : a.length = b.length
  rotate_left 1
  · have hl' : ((a.length : Int) = (b.length : Int)) = False := eq_false (by omega)
    have hr : decide (a = b) = false := decide_eq_false fun h => hl (by rw [h])
    simp (maxSteps := 400000) only [↓preZ, postZ, coreZ, ↓preU, postU, D_all, F_all, unR, outL, onePV, binS, ↓binS, boundR, ↓boundR, fieldOf, ↓fieldOf, boxR, allocR, newObj, zeroElem, buildSliceR, appendR, setAll, storeR, St.freeze, makeSliceR, minmaxR, makeFuncR, BEq.rfl, reduceIte, reduceCtorEq, Nat.reduceLT, Nat.reduceAdd, Nat.reduceSub, Nat.reduceMul, Nat.reduceBEq, Nat.reduceLeDiff, Int.reduceToNat, Int.reduceLE, hQ, c_louperef02_Same, hl', hr]
  have hl' : ((a.length : Int) = (b.length : Int)) = True := eq_true (by omega)
  simp (maxSteps := 400000) only [↓preZ, postZ, coreZ, ↓preU, postU, D_all, F_all, unR, outL, onePV, binS, ↓binS, boundR, ↓boundR, fieldOf, ↓fieldOf, boxR, allocR, newObj, zeroElem, buildSliceR, appendR, setAll, storeR, St.freeze, makeSliceR, minmaxR, makeFuncR, BEq.rfl, reduceIte, reduceCtorEq, Nat.reduceLT, Nat.reduceAdd, Nat.reduceSub, Nat.reduceMul, Nat.reduceBEq, Nat.reduceLeDiff, Int.reduceToNat, Int.reduceLE, hQ, c_louperef02_Same, hl']
  refine wpc_loop (fun m S => ∃ i : Nat, i + m = a.length ∧ (∀ j, j < i → a[j]? = b[j]?) ∧ S = ⟨tmA 26 [(0, encV a), (1, encV b), (5, .int .i64 i)], []⟩) a.length ⟨0, by omega, fun j h => absurd h (by omega), ?_⟩ ?_
  · simp only [normR, keepR, Nat.reduceAdd, lkR, Nat.reduceBEq, F_all, List.map_nil]
    rfl
  rintro m S ⟨i, him, hj, rfl⟩
  have zi : (0 ≤ (i : Int)) = True := eq_true (by omega)
  rcases Nat.lt_or_ge i a.length with h | h
  rotate_left 1
  · have hlt : ((i : Int) < (a.length : Int)) = False := eq_false (by omega)
    have hab : a = b := List.ext_getElem? fun j => by
      by_cases hji : j < i
      · exact hj j hji
      · rw [List.getElem?_eq_none (by omega), List.getElem?_eq_none (by omega)]
    have hr : decide (a = b) = true := decide_eq_true hab
    simp (maxSteps := 400000) only [↓preZ, postZ, coreZ, ↓preU, postU, D_all, F_all, unR, outL, onePV, binS, ↓binS, boundR, ↓boundR, fieldOf, ↓fieldOf, boxR, allocR, newObj, zeroElem, buildSliceR, appendR, setAll, storeR, St.freeze, makeSliceR, minmaxR, makeFuncR, BEq.rfl, reduceIte, reduceCtorEq, Nat.reduceLT, Nat.reduceAdd, Nat.reduceSub, Nat.reduceMul, Nat.reduceBEq, Nat.reduceLeDiff, Int.reduceToNat, Int.reduceLE, hQ, hlt, hr]
  have hlt : ((i : Int) < (a.length : Int)) = True := eq_true (by omega)
  have ga := List.getElem?_eq_getElem h
  have gb : b[i]? = some (b[i]'(by omega)) := List.getElem?_eq_getElem (by omega)
  generalize a[i] = x at ga
  generalize b[i]'(by omega) = y at gb
  by_cases hxy : x = y
  · have hxy' : (x = y) = True := eq_true hxy
    simp (maxSteps := 400000) only [↓preZ, postZ, coreZ, ↓preU, postU, D_all, F_all, unR, outL, onePV, binS, ↓binS, boundR, ↓boundR, fieldOf, ↓fieldOf, boxR, allocR, newObj, zeroElem, buildSliceR, appendR, setAll, storeR, St.freeze, makeSliceR, minmaxR, makeFuncR, BEq.rfl, reduceIte, reduceCtorEq, Nat.reduceLT, Nat.reduceAdd, Nat.reduceSub, Nat.reduceMul, Nat.reduceBEq, Nat.reduceLeDiff, Int.reduceToNat, Int.reduceLE, hQ, hlt, zi, ga, gb, hxy']
    refine ⟨⟨by omega, by omega⟩, m - 1, by omega, i + 1, by omega, ?_, by simp⟩
    intro j hji
    by_cases hjj : j = i
    · subst hjj; rw [ga, gb, hxy]
    · exact hj j (by omega)
  · have hxy' : (x = y) = False := eq_false hxy
    have hr : decide (a = b) = false := decide_eq_false fun h => hxy (by rw [h, gb] at ga; exact (Option.some.inj ga).symm)
    simp (maxSteps := 400000) only [↓preZ, postZ, coreZ, ↓preU, postU, D_all, F_all, unR, outL, onePV, binS, ↓binS, boundR, ↓boundR, fieldOf, ↓fieldOf, boxR, allocR, newObj, zeroElem, buildSliceR, appendR, setAll, storeR, St.freeze, makeSliceR, minmaxR, makeFuncR, BEq.rfl, reduceIte, reduceCtorEq, Nat.reduceLT, Nat.reduceAdd, Nat.reduceSub, Nat.reduceMul, Nat.reduceBEq, Nat.reduceLeDiff, Int.reduceToNat, Int.reduceLE, hQ, hlt, zi, ga, gb, hxy', hr]

def ctrSame : Ctr := fun args objs K => match args with
  | [a0, a1] => ofE encV a0 (HK.mk : HK fun a => ofE encV a1 (HK.mk : HK fun b => (a.length ≤ 1000000) ∧ (b.length ≤ 1000000) ∧ K (.bool (decide (a = b))) objs 0))
  | _ => False
theorem ctrSame_ok : CtrOk Try.prog f_louperef02_Same (ctrSame) := by
  intro args objs K h
  unfold ctrSame at h
  split at h
  · rename_i a0 a1
    obtain ⟨a, rfl, b, rfl, h1, h2, hk⟩ := h
    exact ⟨_, _, _, .pure _ rfl (same_spec a b h1 h2), hk⟩
  · exact h.elim
end Lp

/-! LpW24 -/

namespace Lp
open Go

theorem rightB_plain {v : Vl} (h : rightB v = true) : ∀ n ∈ v, plainB n = true := by
  have hg := (rightB_rt h).good
  intro n hn
  obtain ⟨i, hi, rfl⟩ := List.getElem_of_mem hn
  exact (hg i v[i] (v.drop (i + 1)) (List.drop_eq_getElem_cons hi)).1

theorem plainB_num {n : Nd} (h : plainB n = true) (hk : n.kind = 3) : numB n = true := by
  rw [plainB, if_neg (by omega), if_pos hk] at h
  exact h

theorem numB_ok {n : Nd} (h : numB n = true) : NumOk n := by
  have := (numB_iff n).1 h
  exact ⟨by omega, this.2.1, by omega, by omega⟩

/-- Of a node that is right, with short texts. -/
theorem plainB_ok {n : Nd} (h : plainB n = true) (hs : n.s.length ≤ 200) : okN n := by
  refine ⟨hs, ?_⟩
  by_cases h3 : n.kind = 3
  · have := numB_ok (plainB_num h h3)
    exact ⟨this.lo, this.hi⟩
  · have he : n.e = 0 := by
      unfold plainB at h
      split at h
      · simp only [Bool.and_eq_true, beq_iff_eq] at h; exact h.2
      · split at h
        · simp only [Bool.and_eq_true, beq_iff_eq] at h; exact h.2
        · split at h
          · simp only [Bool.and_eq_true, beq_iff_eq] at h; exact h.2
          · cases h
    omega

structure FewOk (v : Vl) (k : Nat) : Prop where
  len : v.length ≤ k
  rt : Rt v
  ok : Ok v
  ok2 : Ok2 v

theorem fewB_ok {v : Vl} {k : Nat} (hk : k ≤ 1000000) (h : fewB v k = true) : FewOk v k := by
  simp only [fewB, Bool.and_eq_true, decide_eq_true_eq, List.all_eq_true] at h
  obtain ⟨⟨h1, h2⟩, h3⟩ := h
  have hrt := rightB_rt h3
  have hpl := rightB_plain h3
  exact ⟨h1, hrt, ⟨hrt.one, by omega, fun n hn => plainB_ok (hpl n hn) (h2 n hn).1⟩, ⟨hrt.one, by omega, fun n hn hk3 => numB_ok (plainB_num (hpl n hn) hk3)⟩⟩

theorem allB_ok {l : List Vl} {k : Nat} (hk : k ≤ 1000000) (h : allB l k = true) : OkL k l ∧ OkL2 k l ∧ ∀ v ∈ l, FewOk v k := by
  simp only [allB, Bool.and_eq_true, decide_eq_true_eq, List.all_eq_true] at h
  obtain ⟨h1, h2⟩ := h
  have hl := allN_len l
  have hf : ∀ v ∈ l, FewOk v k := fun v hv => fewB_ok hk (h2 v hv)
  exact ⟨⟨by omega, fun v hv => ⟨(hf v hv).len, (hf v hv).ok⟩⟩, ⟨by omega, fun v hv => ⟨(hf v hv).len, (hf v hv).ok2⟩⟩, hf⟩

end Lp

/-! LpW26 -/

namespace Lp
open Go Go.Proofs

set_option maxHeartbeats 4000000
set_option maxRecDepth 20000
set_option linter.unusedSimpArgs false

theorem ints_spec (a b : List Int) (ha : a.length ≤ 1000000) (hb : b.length ≤ 1000000) : FnSpec Try.prog f_louperef05_Ints [encI a, encI b] [] (.bool (decide (a = b))) [] := by
  refine k_louperef05_Ints.pureG (T := tabL Try.prog []) 0 hD (kOk_tabL tabOk_nil) hmix (by decide) fun Q hQ => ?_
  try simp only [F_all]
  by_cases hl : a.length = b.length
  rotate_left 1
  · have hl' : ((a.length : Int) = (b.length : Int)) = False := eq_false (by omega)
    have hr : decide (a = b) = false := decide_eq_false fun h => hl (by rw [h])
    simp (maxSteps := 400000) only [↓preZ, postZ, coreZ, ↓preU, postU, D_all, F_all, unR, outL, onePV, binS, ↓binS, boundR, ↓boundR, fieldOf, ↓fieldOf, boxR, allocR, newObj, zeroElem, buildSliceR, appendR, setAll, storeR, St.freeze, makeSliceR, minmaxR, makeFuncR, BEq.rfl, reduceIte, reduceCtorEq, Nat.reduceLT, Nat.reduceAdd, Nat.reduceSub, Nat.reduceMul, Nat.reduceBEq, Nat.reduceLeDiff, Int.reduceToNat, Int.reduceLE, hQ, c_louperef05_Ints, hl', hr]
  have hl' : ((a.length : Int) = (b.length : Int)) = True := eq_true (by omega)
  simp (maxSteps := 400000) only [↓preZ, postZ, coreZ, ↓preU, postU, D_all, F_all, unR, outL, onePV, binS, ↓binS, boundR, ↓boundR, fieldOf, ↓fieldOf, boxR, allocR, newObj, zeroElem, buildSliceR, appendR, setAll, storeR, St.freeze, makeSliceR, minmaxR, makeFuncR, BEq.rfl, reduceIte, reduceCtorEq, Nat.reduceLT, Nat.reduceAdd, Nat.reduceSub, Nat.reduceMul, Nat.reduceBEq, Nat.reduceLeDiff, Int.reduceToNat, Int.reduceLE, hQ, c_louperef05_Ints, hl']
  refine wpc_loop (fun m S => ∃ i : Nat, i + m = a.length ∧ (∀ j, j < i → a[j]? = b[j]?) ∧ S = ⟨tmA 26 [(0, encI a), (1, encI b), (5, .int .i64 i)], []⟩) a.length ⟨0, by omega, fun j h => absurd h (by omega), ?_⟩ ?_
  · simp only [normR, keepR, Nat.reduceAdd, lkR, Nat.reduceBEq, F_all, List.map_nil]
    rfl
  rintro m S ⟨i, him, hj, rfl⟩
  have zi : (0 ≤ (i : Int)) = True := eq_true (by omega)
  rcases Nat.lt_or_ge i a.length with h | h
  rotate_left 1
  · have hlt : ((i : Int) < (a.length : Int)) = False := eq_false (by omega)
    have hab : a = b := List.ext_getElem? fun j => by
      by_cases hji : j < i
      · exact hj j hji
      · rw [List.getElem?_eq_none (by omega), List.getElem?_eq_none (by omega)]
    have hr : decide (a = b) = true := decide_eq_true hab
    simp (maxSteps := 400000) only [↓preZ, postZ, coreZ, ↓preU, postU, D_all, F_all, unR, outL, onePV, binS, ↓binS, boundR, ↓boundR, fieldOf, ↓fieldOf, boxR, allocR, newObj, zeroElem, buildSliceR, appendR, setAll, storeR, St.freeze, makeSliceR, minmaxR, makeFuncR, BEq.rfl, reduceIte, reduceCtorEq, Nat.reduceLT, Nat.reduceAdd, Nat.reduceSub, Nat.reduceMul, Nat.reduceBEq, Nat.reduceLeDiff, Int.reduceToNat, Int.reduceLE, hQ, hlt, hr]
  have hlt : ((i : Int) < (a.length : Int)) = True := eq_true (by omega)
  have ga := List.getElem?_eq_getElem h
  have gb : b[i]? = some (b[i]'(by omega)) := List.getElem?_eq_getElem (by omega)
  generalize a[i] = x at ga
  generalize b[i]'(by omega) = y at gb
  by_cases hxy : x = y
  · have hxy' : (x = y) = True := eq_true hxy
    simp (maxSteps := 400000) only [↓preZ, postZ, coreZ, ↓preU, postU, D_all, F_all, unR, outL, onePV, binS, ↓binS, boundR, ↓boundR, fieldOf, ↓fieldOf, boxR, allocR, newObj, zeroElem, buildSliceR, appendR, setAll, storeR, St.freeze, makeSliceR, minmaxR, makeFuncR, BEq.rfl, reduceIte, reduceCtorEq, Nat.reduceLT, Nat.reduceAdd, Nat.reduceSub, Nat.reduceMul, Nat.reduceBEq, Nat.reduceLeDiff, Int.reduceToNat, Int.reduceLE, hQ, hlt, zi, ga, gb, hxy']
    refine ⟨⟨by omega, by omega⟩, m - 1, by omega, i + 1, by omega, ?_, by simp⟩
    intro j hji
    by_cases hjj : j = i
    · subst hjj; rw [ga, gb, hxy]
    · exact hj j (by omega)
  · have hxy' : (x = y) = False := eq_false hxy
    have hr : decide (a = b) = false := decide_eq_false fun h => hxy (by rw [h, gb] at ga; exact (Option.some.inj ga).symm)
    simp (maxSteps := 400000) only [↓preZ, postZ, coreZ, ↓preU, postU, D_all, F_all, unR, outL, onePV, binS, ↓binS, boundR, ↓boundR, fieldOf, ↓fieldOf, boxR, allocR, newObj, zeroElem, buildSliceR, appendR, setAll, storeR, St.freeze, makeSliceR, minmaxR, makeFuncR, BEq.rfl, reduceIte, reduceCtorEq, Nat.reduceLT, Nat.reduceAdd, Nat.reduceSub, Nat.reduceMul, Nat.reduceBEq, Nat.reduceLeDiff, Int.reduceToNat, Int.reduceLE, hQ, hlt, zi, ga, gb, hxy', hr]

def ctrInts : Ctr := fun args objs K => match args with
  | [a0, a1] => ofE encI a0 (HK.mk : HK fun a => ofE encI a1 (HK.mk : HK fun b => (a.length ≤ 1000000) ∧ (b.length ≤ 1000000) ∧ K (.bool (decide (a = b))) objs 0))
  | _ => False
theorem ctrInts_ok : CtrOk Try.prog f_louperef05_Ints (ctrInts) := by
  intro args objs K h
  unfold ctrInts at h
  split at h
  · rename_i a0 a1
    obtain ⟨a, rfl, b, rfl, h1, h2, hk⟩ := h
    exact ⟨_, _, _, .pure _ rfl (ints_spec a b h1 h2), hk⟩
  · exact h.elim

def ctrOrdRises (f : Nat) : Ctr := fun args objs K => match args with
  | [a0] => ofE encL a0 (HK.mk : HK fun keys => (OkL f keys) ∧ (f ≤ 1099511627776) ∧ K (.bool (risesV f keys)) objs 0)
  | _ => False
theorem ctrOrdRises_ok (f : Nat) : CtrOk Try.prog f_order_Rises (ctrOrdRises f) := by
  intro args objs K h
  unfold ctrOrdRises at h
  split at h
  · rename_i a0
    obtain ⟨keys, rfl, h1, h2, hk⟩ := h
    exact ⟨_, _, _, .pure _ rfl (rises_spec f keys h1 h2), hk⟩
  · exact h.elim

def n1 : Nd := ⟨3, 0, [], [49], false, 0⟩
def n2 : Nd := ⟨3, 0, [], [50], false, 0⟩

theorem alive_few : fewB [n1] 3 = true ∧ fewB [n2] 3 = true := by constructor <;> decide

theorem alive_ok : Ok [n1] ∧ Ok [n2] ∧ OkL 3 [[n2], [n1], [n2]] ∧ OkL 3 [[n1], [n1]] ∧ OkL 3 [[n2], [n1]] := by
  have h1 := (fewB_ok (by decide) alive_few.1).ok
  have h2 := (fewB_ok (by decide) alive_few.2).ok
  refine ⟨h1, h2, ⟨by decide, ?_⟩, ⟨by decide, ?_⟩, ⟨by decide, ?_⟩⟩ <;>
    (intro v hv; simp only [List.mem_cons, List.not_mem_nil, or_false] at hv; rcases hv with rfl | rfl | rfl <;> exact ⟨by decide, by assumption⟩)

theorem alive_cmp : cmpV 3 [n1] [n2] = -1 ∧ cmpV 3 [n2] [n1] = 1 ∧ cmpV 3 [n2] [n2] = 0 ∧ cmpV 3 [n1] [n1] = 0 := by
  refine ⟨?_, ?_, ?_, ?_⟩ <;> decide

theorem alive_sort : sortV 3 [[n2], [n1], [n2]] = [1, 0, 2] := by
  have h : ∀ x y, ltK 3 [[n2], [n1], [n2]] x y = match [[n2], [n1], [n2]][x.toNat]?, [[n2], [n1], [n2]][y.toNat]? with
    | some a, some b => decide (cmpV 3 a b < 0)
    | _, _ => false := fun _ _ => rfl
  have c := alive_cmp
  have h1 : ltK 3 [[n2], [n1], [n2]] 2 1 = false := by decide
  have h2 : ltK 3 [[n2], [n1], [n2]] 1 0 = true := by decide
  have h3 : ltK 3 [[n2], [n1], [n2]] 2 0 = false := by decide
  simp [sortV, sortF, places, List.range_succ, List.merge, h1, h2, h3]

theorem alive_groups : groupsV 3 [[n2], [n1], [n2]] = [[1], [0, 2]] := by
  have h1 : sameK numN 3 [[n2], [n1], [n2]] 0 1 = false := by decide
  have h2 : sameK numN 3 [[n2], [n1], [n2]] 2 0 = true := by decide
  simp [groupsV, alive_sort, groupsF, grpF, h1, h2]

theorem alive_rises : risesV 3 [[n1], [n1]] = true ∧ risesV 3 [[n2], [n1]] = false := by
  constructor <;> decide

theorem alive_spec : FnSpec Try.prog f_loupelaw05_alive [] [] (.bool true) [] := by
  obtain ⟨o1, o2, l1, l2, l3⟩ := alive_ok
  obtain ⟨c1, c2, c3, c4⟩ := alive_cmp
  obtain ⟨r1, r2⟩ := alive_rises
  have s1 := alive_sort
  have g1 := alive_groups
  have p1 : PV.sl 6 [encN ⟨3, 0, [], [49], false, 0⟩] none = encV [n1] := rfl
  have p2 : encV [⟨3, 0, [], [49], false, 0⟩] = encV [n1] := rfl
  have p3 : encV [⟨3, 0, [], [50], false, 0⟩] = encV [n2] := rfl
  refine k_loupelaw05_alive.pureG (T := tabL Try.prog [(f_order_Sort, (ctrSort 3)), (f_order_Groups, (ctrGroups 3)), (f_order_Cmp, (ctrOrdCmp 3)), (f_louperef05_Ints, ctrInts), (f_order_Rises, (ctrOrdRises 3))]) 0 hD (kOk_tabL (tabOk_cons (ctrSort_ok 3) (tabOk_cons (ctrGroups_ok 3) (tabOk_cons (ctrOrdCmp_ok 3) (tabOk_cons ctrInts_ok (tabOk_cons (ctrOrdRises_ok 3) tabOk_nil)))))) hmix (by decide) fun Q hQ => ?_
  try simp only [F_all]
  simp (maxSteps := 400000) only [↓preZ, postZ, coreZ, ↓preU, postU, D_all, F_all, unR, outL, onePV, binS, ↓binS, boundR, ↓boundR, fieldOf, ↓fieldOf, boxR, allocR, newObj, zeroElem, buildSliceR, appendR, setAll, storeR, St.freeze, makeSliceR, minmaxR, makeFuncR, BEq.rfl, reduceIte, reduceCtorEq, Nat.reduceLT, Nat.reduceAdd, Nat.reduceSub, Nat.reduceMul, Nat.reduceBEq, Nat.reduceLeDiff, Int.reduceToNat, Int.reduceLE, hQ, c_loupelaw05_alive, p2, p3, ↓ctrSort, ↓ctrGroups, ↓ctrOrdCmp, ↓ctrInts, ↓ctrOrdRises, s1, g1, r1, r2, c1, c2, c3, c4]
  exact ⟨by decide, by decide, by decide, by decide, l1, l1, o1, o2, fun _ => ⟨fun _ => ⟨l2, l3⟩, fun h => absurd rfl h⟩, fun h => absurd rfl h⟩

def ctrAlive : Ctr := fun args objs K => match args with
  | [] => K (.bool true) objs 0
  | _ => False

theorem ctrAlive_ok : CtrOk Try.prog f_loupelaw05_alive ctrAlive := by
  intro args objs K h
  unfold ctrAlive at h
  split at h
  · exact ⟨_, _, _, .pure _ rfl alive_spec, h⟩
  · exact h.elim
end Lp
