/-
  Part 6 of what the statement rests on: LpW50, LpF5, LpW51, LpW52, LpW53, LpK1, LpK2, LpK3, LpRd3, LpP5, LpK4, LpK5, LpK6. No condition.
-/
import Derived.Test.YtodbjiolgapbfaaLp5
import Derived.Laws.LoneSync
import Derived.OpenShut

set_option linter.all false

/-! LpW50 -/

namespace Lp
open Go Go.Proofs

set_option maxHeartbeats 4000000
set_option maxRecDepth 20000
set_option linter.unusedSimpArgs false

/-! ### Disks whose deeds may be done -/

structure OkR (k : Dk) : Prop where
  c : OkC k.l k.d
  ds : dsF k.l k.d = true

theorem fdo_ds : ∀ {d : List De} {l : List Fl} (n : Nat), dsF l d = true → (d.take n).foldl fdo l = (d.take n).foldl doF l
  | [], l, n, _ => by simp
  | x :: d, l, 0, _ => rfl
  | x :: d, l, n + 1, h => by
    rw [dsF, Bool.and_eq_true] at h
    simp only [List.take_succ_cons, List.foldl_cons]
    have : fdo l x = doF l x := by simp [fdo, h.1]
    rw [this, fdo_ds n h.2]

theorem crF_eq {k : Dk} (h : dsF k.l k.d = true) (n : Nat) : crF k n = crR k n := by
  simp only [crF, crR, fdo_ds n h]

/-- What is seen. -/
def seenK (k : Dk) : List Fl := k.d.foldl doF k.l

theorem crR_seen (k : Dk) : (crR k k.d.length).l = seenK k := by simp [crR, seenK]

theorem crR_all (k : Dk) {n : Nat} (h : k.d.length ≤ n) : crR k n = ⟨seenK k, []⟩ := by simp [crR, seenK, List.take_of_length_le h]

def getS (k : Dk) (s : List UInt8) : List UInt8 := if hasF (seenK k) s = true then getF (seenK k) s else []

def ctrCr : Ctr := fun args objs K => match args with
  | [a0, .int .i64 n] => ofE encK a0 (HK.mk : HK fun k => (OkR k) ∧ (-9223372036854775808 ≤ n ∧ n ≤ 9223372036854775807) ∧ K (encK (crR k n.toNat)) objs 0)
  | _ => False
theorem ctrCr_ok : CtrOk Try.prog f_file_Crash (ctrCr) := by
  intro args objs K h
  unfold ctrCr at h
  split at h
  · rename_i a0 n
    obtain ⟨k, rfl, h1, h2, hk⟩ := h
    exact ⟨_, _, _, .pure _ rfl ((crF_eq h1.ds n.toNat ▸ fcrash_spec k n h1.c h2)), hk⟩
  · exact h.elim

theorem see_spec (k : Dk) (s : List UInt8) (hk : OkR k) : FnSpec Try.prog f_file_See [encK k, .str s] [] (.tup [.str (getS k s), .bool (hasF (seenK k) s)]) [] := by
  have h := fsee_spec k s hk.c
  rw [crF_eq hk.ds, crR_seen] at h
  exact h

def ctrSee : Ctr := fun args objs K => match args with
  | [a0, .str s] => ofE encK a0 (HK.mk : HK fun k => (OkR k) ∧ K (.tup [.str (getS k s), .bool (hasF (seenK k) s)]) objs 0)
  | _ => False
theorem ctrSee_ok : CtrOk Try.prog f_file_See (ctrSee) := by
  intro args objs K h
  unfold ctrSee at h
  split at h
  · rename_i a0 s
    obtain ⟨k, rfl, h1, hk⟩ := h
    exact ⟨_, _, _, .pure _ rfl (see_spec k s h1), hk⟩
  · exact h.elim

theorem seeR_spec (k : Dk) (s : List UInt8) (hk : OkC k.l k.d) : FnSpec Try.prog f_louperef23_See [encK k, .str s] [] (.tup [.str (getS k s), .bool (hasF (seenK k) s)]) [] := by
  have h := rsee_spec k s hk
  rw [crR_seen] at h
  exact h

def ctrSeeR : Ctr := fun args objs K => match args with
  | [a0, .str s] => ofE encK a0 (HK.mk : HK fun k => (OkC k.l k.d) ∧ K (.tup [.str (getS k s), .bool (hasF (seenK k) s)]) objs 0)
  | _ => False
theorem ctrSeeR_ok : CtrOk Try.prog f_louperef23_See (ctrSeeR) := by
  intro args objs K h
  unfold ctrSeeR at h
  split at h
  · rename_i a0 s
    obtain ⟨k, rfl, h1, hk⟩ := h
    exact ⟨_, _, _, .pure _ rfl (seeR_spec k s h1), hk⟩
  · exact h.elim

theorem seenR_spec (k : Dk) (hk : OkC k.l k.d) : FnSpec Try.prog f_louperef23_Seen [encK k] [] (encFs (seenK k)) [] := by
  have h := seen_spec k hk
  rw [crR_seen] at h
  exact h

def ctrSeenR : Ctr := fun args objs K => match args with
  | [a0] => ofE encK a0 (HK.mk : HK fun k => (OkC k.l k.d) ∧ K (encFs (seenK k)) objs 0)
  | _ => False
theorem ctrSeenR_ok : CtrOk Try.prog f_louperef23_Seen (ctrSeenR) := by
  intro args objs K h
  unfold ctrSeenR at h
  split at h
  · rename_i a0
    obtain ⟨k, rfl, h1, hk⟩ := h
    exact ⟨_, _, _, .pure _ rfl (seenR_spec k h1), hk⟩
  · exact h.elim

/-- A deed more, or why not. -/
def doK (k : Dk) (x : De) : Dk × Int :=
  if mayD x = false then (k, 4) else
  if canF (seenK k) x = false then (k, 6) else
  if x.kind = 4 then (⟨seenK k, []⟩, 0) else (⟨k.l, k.d ++ [x]⟩, 0)

theorem rdo_spec (k : Dk) (x : De) (hk : OkC k.l k.d) (hx : okX x) : FnSpec Try.prog f_louperef23_Do [encK k, encX x] [] (.tup [encK (doK k x).1, .int .i64 (doK k x).2]) [] := by
  have h1 := eq_true hk
  have h2 := eq_true hx
  have hL := hk.len
  by_cases h4 : mayD x = true ∧ canF (seenK k) x = true ∧ x.kind = 4
  · obtain ⟨hm, hc, k4⟩ := h4
    have hd : doK k x = (⟨seenK k, []⟩, 0) := by simp [doK, hm, hc, k4]
    refine FnSpec.res (r := .tup [encK0 (seenK k), .int .i64 0]) ?_ (by rw [hd]; exact tells2 (.inr rfl) (tells_K0 _) (.refl _))
    refine k_louperef23_Do.pureC2 (T := tabL Try.prog [(f_louperef23_may, ctrMayR), (f_louperef23_See, ctrSeeR), (f_louperef23_needs, ctrNeeds), (f_louperef23_Seen, ctrSeenR)]) 1 hD (kOk_tabL (tabOk_cons ctrMayR_ok (tabOk_cons ctrSeeR_ok (tabOk_cons ctrNeeds_ok (tabOk_cons ctrSeenR_ok tabOk_nil))))) hmix (by decide) (by decide) fun Q hQ => ?_
    try simp only [F_all]
    have k4' : (x.kind = 4) = True := eq_true k4
    have hn : needsD x = false := by simp [needsD, k4]
    simp (maxSteps := 400000) only [↓preZ, postZ, coreZ, ↓preF, postF, D_all, F_all, unR, outL, onePV, binS, ↓binS, boundR, ↓boundR, fieldOf, ↓fieldOf, boxR, allocR, newObj, zeroElem, buildSliceR, appendR, setAll, storeR, St.freeze, makeSliceR, minmaxR, makeFuncR, BEq.rfl, reduceIte, reduceCtorEq, Nat.reduceLT, Nat.reduceAdd, Nat.reduceSub, Nat.reduceMul, Nat.reduceBEq, Nat.reduceLeDiff, Int.reduceToNat, Int.reduceLE, hQ, c_louperef23_Do, ↓ctrMayR, ↓ctrSeeR, ↓ctrNeeds, ↓ctrSeenR, h1, h2, hm, hn, k4']
  refine k_louperef23_Do.pureC2 (T := tabL Try.prog [(f_louperef23_may, ctrMayR), (f_louperef23_See, ctrSeeR), (f_louperef23_needs, ctrNeeds), (f_louperef23_Seen, ctrSeenR)]) 1 hD (kOk_tabL (tabOk_cons ctrMayR_ok (tabOk_cons ctrSeeR_ok (tabOk_cons ctrNeeds_ok (tabOk_cons ctrSeenR_ok tabOk_nil))))) hmix (by decide) (by decide) fun Q hQ => ?_
  try simp only [F_all]
  cases hm : mayD x
  · have hd : doK k x = (k, 4) := by simp [doK, hm]
    simp (maxSteps := 400000) only [↓preZ, postZ, coreZ, ↓preF, postF, D_all, F_all, unR, outL, onePV, binS, ↓binS, boundR, ↓boundR, fieldOf, ↓fieldOf, boxR, allocR, newObj, zeroElem, buildSliceR, appendR, setAll, storeR, St.freeze, makeSliceR, minmaxR, makeFuncR, BEq.rfl, reduceIte, reduceCtorEq, Nat.reduceLT, Nat.reduceAdd, Nat.reduceSub, Nat.reduceMul, Nat.reduceBEq, Nat.reduceLeDiff, Int.reduceToNat, Int.reduceLE, hQ, c_louperef23_Do, ↓ctrMayR, h1, h2, hm, hd]
  cases hc : canF (seenK k) x
  · have hd : doK k x = (k, 6) := by simp [doK, hm, hc]
    have hh : needsD x = true ∧ hasF (seenK k) x.name = false := by
      rw [canF, hm, Bool.true_and, Bool.or_eq_false_iff] at hc
      exact ⟨by simpa using hc.1, hc.2⟩
    obtain ⟨hn, hf⟩ := hh
    simp (maxSteps := 400000) only [↓preZ, postZ, coreZ, ↓preF, postF, D_all, F_all, unR, outL, onePV, binS, ↓binS, boundR, ↓boundR, fieldOf, ↓fieldOf, boxR, allocR, newObj, zeroElem, buildSliceR, appendR, setAll, storeR, St.freeze, makeSliceR, minmaxR, makeFuncR, BEq.rfl, reduceIte, reduceCtorEq, Nat.reduceLT, Nat.reduceAdd, Nat.reduceSub, Nat.reduceMul, Nat.reduceBEq, Nat.reduceLeDiff, Int.reduceToNat, Int.reduceLE, hQ, c_louperef23_Do, ↓ctrMayR, ↓ctrSeeR, ↓ctrNeeds, h1, h2, hm, hn, hf, hd]
  have k4 : (x.kind = 4) = False := eq_false fun h => h4 ⟨hm, hc, h⟩
  have hd : doK k x = (⟨k.l, k.d ++ [x]⟩, 0) := by simp [doK, hm, hc, k4]
  cases hn : needsD x
  · simp (maxSteps := 400000) only [↓preZ, postZ, coreZ, ↓preF, postF, D_all, F_all, unR, outL, onePV, binS, ↓binS, boundR, ↓boundR, fieldOf, ↓fieldOf, boxR, allocR, newObj, zeroElem, buildSliceR, appendR, setAll, storeR, St.freeze, makeSliceR, minmaxR, makeFuncR, BEq.rfl, reduceIte, reduceCtorEq, Nat.reduceLT, Nat.reduceAdd, Nat.reduceSub, Nat.reduceMul, Nat.reduceBEq, Nat.reduceLeDiff, Int.reduceToNat, Int.reduceLE, hQ, c_louperef23_Do, ↓ctrMayR, ↓ctrSeeR, ↓ctrNeeds, h1, h2, hm, hn, hd, k4]
    exact ⟨by omega, by omega, by omega, by omega, by decide⟩
  · have hf : hasF (seenK k) x.name = true := by rw [canF, hm, hn] at hc; simpa using hc
    simp (maxSteps := 400000) only [↓preZ, postZ, coreZ, ↓preF, postF, D_all, F_all, unR, outL, onePV, binS, ↓binS, boundR, ↓boundR, fieldOf, ↓fieldOf, boxR, allocR, newObj, zeroElem, buildSliceR, appendR, setAll, storeR, St.freeze, makeSliceR, minmaxR, makeFuncR, BEq.rfl, reduceIte, reduceCtorEq, Nat.reduceLT, Nat.reduceAdd, Nat.reduceSub, Nat.reduceMul, Nat.reduceBEq, Nat.reduceLeDiff, Int.reduceToNat, Int.reduceLE, hQ, c_louperef23_Do, ↓ctrMayR, ↓ctrSeeR, ↓ctrNeeds, h1, h2, hm, hn, hf, hd, k4]
    exact ⟨by omega, by omega, by omega, by omega, by decide⟩


def ctrRDo : Ctr := fun args objs K => match args with
  | [a0, a1] => ofE encK a0 (HK.mk : HK fun k => ofE encX a1 (HK.mk : HK fun x => (OkC k.l k.d) ∧ (okX x) ∧ K (.tup [encK (doK k x).1, .int .i64 (doK k x).2]) objs 0))
  | _ => False
theorem ctrRDo_ok : CtrOk Try.prog f_louperef23_Do (ctrRDo) := by
  intro args objs K h
  unfold ctrRDo at h
  split at h
  · rename_i a0 a1
    obtain ⟨k, rfl, x, rfl, h1, h2, hk⟩ := h
    exact ⟨_, _, _, .pure _ rfl (rdo_spec k x h1 h2), hk⟩
  · exact h.elim

def ctrClip : Ctr := fun args objs K => match args with
  | [a] => ofE encXs a (HK.mk : HK fun d => K (.cl 3 (d.map encX)) objs 0)
  | _ => False

theorem ctrClip_ok : CtrOk Try.prog f_slices_Clip_L_api_Deed_api_Deed_ ctrClip := by
  intro args objs K h
  unfold ctrClip at h
  split at h
  · obtain ⟨d, rfl, h1⟩ := h
    exact ⟨_, _, _, .pure _ rfl (clip_spec 3 (d.map encX) none), h1⟩
  · exact h.elim

theorem clR (d : List De) : (PV.cl 3 (d.map encX)).ref = false := rfl

theorem fdo_spec (k : Dk) (x : De) (hk : OkR k) (hx : okX x) : FnSpec Try.prog f_file_Do [encK k, encX x] [] (.tup [encK (doK k x).1, .int .i64 (doK k x).2]) [] := by
  have h1 := eq_true hk
  have h2 := eq_true hx
  have hL := hk.c.len
  have h0 : (-9223372036854775808 ≤ (k.d.length : Int) ∧ (k.d.length : Int) ≤ 9223372036854775807) = True := eq_true ⟨by omega, by omega⟩
  have hcr := crR_all k (Nat.le_refl k.d.length)
  have he : OkC (seenK k) [] := hk.c.end doF (fun _ _ => .inl rfl)
  have q1 := eq_true he.ris
  have q2 : ((seenK k).length ≤ 999998) = True := eq_true (by have := he.len; omega)
  have q3 := eq_true (bnd_of_mas (l := seenK k) (by have := he.mas; omega))
  refine k_file_Do.pureC2 (T := tabL Try.prog [(f_file_may, ctrMay), (f_file_Crash, ctrCr), (f_file_done, ctrFDone), (f_slices_Clip_L_api_Deed_api_Deed_, ctrClip)]) 1 hD (kOk_tabL (tabOk_cons ctrMay_ok (tabOk_cons ctrCr_ok (tabOk_cons ctrFDone_ok (tabOk_cons ctrClip_ok tabOk_nil))))) hmix (by decide) (by decide) fun Q hQ => ?_
  try simp only [F_all]
  cases hm : mayD x
  · have hd : doK k x = (k, 4) := by simp [doK, hm]
    simp (maxSteps := 400000) only [↓preZ, postZ, coreZ, ↓preF, postF, D_all, F_all, unR, outL, onePV, binS, ↓binS, boundR, ↓boundR, fieldOf, ↓fieldOf, boxR, allocR, newObj, zeroElem, buildSliceR, appendR, setAll, storeR, St.freeze, makeSliceR, minmaxR, makeFuncR, BEq.rfl, reduceIte, reduceCtorEq, Nat.reduceLT, Nat.reduceAdd, Nat.reduceSub, Nat.reduceMul, Nat.reduceBEq, Nat.reduceLeDiff, Int.reduceToNat, Int.reduceLE, hQ, c_file_Do, ↓ctrMay, h1, h2, hm, hd]
  cases hc : canF (seenK k) x
  · have hd : doK k x = (k, 6) := by simp [doK, hm, hc]
    simp (maxSteps := 400000) only [↓preZ, postZ, coreZ, ↓preF, postF, D_all, F_all, unR, outL, onePV, binS, ↓binS, boundR, ↓boundR, fieldOf, ↓fieldOf, boxR, allocR, newObj, zeroElem, buildSliceR, appendR, setAll, storeR, St.freeze, makeSliceR, minmaxR, makeFuncR, BEq.rfl, reduceIte, reduceCtorEq, Nat.reduceLT, Nat.reduceAdd, Nat.reduceSub, Nat.reduceMul, Nat.reduceBEq, Nat.reduceLeDiff, Int.reduceToNat, Int.reduceLE, hQ, c_file_Do, ↓ctrMay, ↓ctrCr, ↓ctrFDone, h0, h1, h2, hm, hcr, q1, q2, q3, hc, hd, Int.toNat_natCast]
  rcases tf (x.kind = 4) with k4 | k4
  · have hd : doK k x = (⟨seenK k, []⟩, 0) := by simp [doK, hm, hc, k4]
    simp (maxSteps := 400000) only [↓preZ, postZ, coreZ, ↓preF, postF, D_all, F_all, unR, outL, onePV, binS, ↓binS, boundR, ↓boundR, fieldOf, ↓fieldOf, boxR, allocR, newObj, zeroElem, buildSliceR, appendR, setAll, storeR, St.freeze, makeSliceR, minmaxR, makeFuncR, BEq.rfl, reduceIte, reduceCtorEq, Nat.reduceLT, Nat.reduceAdd, Nat.reduceSub, Nat.reduceMul, Nat.reduceBEq, Nat.reduceLeDiff, Int.reduceToNat, Int.reduceLE, hQ, c_file_Do, ↓ctrMay, ↓ctrCr, ↓ctrFDone, h0, h1, h2, hm, hcr, q1, q2, q3, hc, hd, k4, Int.toNat_natCast]
  · have hd : doK k x = (⟨k.l, k.d ++ [x]⟩, 0) := by simp [doK, hm, hc, k4]
    simp (maxSteps := 400000) only [↓preZ, postZ, coreZ, ↓preF, postF, D_all, F_all, unR, outL, onePV, binS, ↓binS, boundR, ↓boundR, fieldOf, ↓fieldOf, boxR, allocR, newObj, zeroElem, buildSliceR, appendR, setAll, storeR, St.freeze, makeSliceR, minmaxR, makeFuncR, BEq.rfl, reduceIte, reduceCtorEq, Nat.reduceLT, Nat.reduceAdd, Nat.reduceSub, Nat.reduceMul, Nat.reduceBEq, Nat.reduceLeDiff, Int.reduceToNat, Int.reduceLE, hQ, c_file_Do, ↓ctrMay, ↓ctrCr, ↓ctrFDone, ↓ctrClip, h0, h1, h2, hm, hcr, q1, q2, q3, hc, hd, k4, Int.toNat_natCast]
    exact ⟨by omega, by omega, by decide⟩


def ctrFDo : Ctr := fun args objs K => match args with
  | [a0, a1] => ofE encK a0 (HK.mk : HK fun k => ofE encX a1 (HK.mk : HK fun x => (OkR k) ∧ (okX x) ∧ K (.tup [encK (doK k x).1, .int .i64 (doK k x).2]) objs 0))
  | _ => False
theorem ctrFDo_ok : CtrOk Try.prog f_file_Do (ctrFDo) := by
  intro args objs K h
  unfold ctrFDo at h
  split at h
  · rename_i a0 a1
    obtain ⟨k, rfl, x, rfl, h1, h2, hk⟩ := h
    exact ⟨_, _, _, .pure _ rfl (fdo_spec k x h1 h2), hk⟩
  · exact h.elim

end Lp

/-! LpF5 -/

namespace Lp
open Go Go.Proofs Go.Lib Go.RowKit

set_option maxHeartbeats 4000000 in
set_option maxRecDepth 100000 in
theorem load_walk (b off : Nat) (x : Int) (w : World) (hc : w.cell? ⟨b, off, none⟩ = some (.int .i64 x)) :
    Calls Try.prog 84 #[.pointer (some ⟨b, off, none⟩)] w fun e w' => e = .returned (.int .i64 x) ∧ w' = w := by
  have mixed : Try.prog.follows .mixedOrders = true := by kernel_rfl
  have hl : (callFunc 105 #[.pointer (some ⟨b, off, none⟩)]).run Try.prog w = .ok (.value (.int .i64 x)) w :=
    run_call_load Try.func105 (by kernel_rfl) (by kernel_rfl) (by kernel_rfl) .i64 (by kernel_rfl) hc
  go_enter Try.func84, Try.ntmps84
  go_wp2_with (simp only [hl])
  go_ret
  exact ⟨rfl, rfl⟩

set_option maxHeartbeats 4000000 in
set_option maxRecDepth 100000 in
theorem add_walk (b off : Nat) (x : Int) (w : World) (hc : w.cell? ⟨b, off, none⟩ = some (.int .i64 x)) (hz : w.frozen? ⟨b, off, none⟩ = false) (h0 : 0 ≤ x) (h1 : x < 9223372036854775807) :
    Calls Try.prog 104 #[.pointer (some ⟨b, off, none⟩), .int .i64 1] w fun e w' => e = .returned (.int .i64 (x + 1)) ∧ w' = w.setCell ⟨b, off, none⟩ (.int .i64 (x + 1)) := by
  have mixed : Try.prog.follows .mixedOrders = true := by kernel_rfl
  have hs : (Op.intArith .add .i64 x 1).run Try.prog w = .ok (.int .i64 (x + 1)) w := by
    have : IntKind.i64.wrap (x + 1) = x + 1 := by rw [IntKind.wrap_i64]; omega
    simp [Op.intArith, this]
  have hl : (callFunc 112 #[.pointer (some ⟨b, off, none⟩), .int .i64 1]).run Try.prog w = .ok (.value (.int .i64 (x + 1))) (w.setCell ⟨b, off, none⟩ (.int .i64 (x + 1))) :=
    run_call_add Try.func112 (by kernel_rfl) (by kernel_rfl) (by kernel_rfl) .i64 (by kernel_rfl) hc hz hs
  go_enter Try.func104, Try.ntmps104
  go_wp2_with (simp only [hl])
  go_ret
  exact ⟨rfl, rfl⟩

theorem two' {R : PV → Value → Prop} {p q : PV} {vs : List Value} (h : RepL R [p, q] vs) : ∃ u v, vs = [u, v] ∧ R p u ∧ R q v := by
  obtain ⟨hl, h⟩ := h
  match vs, hl with
  | [u, v], _ => exact ⟨u, v, rfl, h 0 _ _ rfl rfl, h 1 _ _ rfl rfl⟩

theorem load_spec (n st : Int) : FnSpec Try.prog 84 [.addr (.agg [.int .i64 n, .int .i64 st])] [] (.int .i64 n) [] := by
  refine ⟨⟨_, Try.func84, by kernel_rfl, by kernel_rfl⟩, fun w blk vs base hb R hargs => ?_⟩
  obtain ⟨v, rfl, r⟩ := one hargs
  have hr := r.addr
  cases hr with
  | addr _ b off us hok hcell hrep =>
    have h1 := hcell 0 (.int .i64 n) rfl
    have h2 := hrep 0 (.int .i64 n) rfl
    generalize us 0 = u at h1 h2
    cases h2
    refine (load_walk b off n w h1).mono fun e w' ⟨e1, e2⟩ => ?_
    subst e2
    exact ⟨_, blk, e1, R, .of_rep (.int _ _), fun _ _ _ => rfl, Nat.le_refl _, .refl _⟩

theorem add_use {objs : List Obj} {k ver : Nat} {ty : TypeId} {n st : Int} (h1 : objs[k]? = some ⟨ty, 2, [.agg [.int .i64 n, .int .i64 st]], true, ver⟩) (h0 : 0 ≤ n) (hn : n < 9223372036854775807) :
    FnUse Try.prog 104 [.optr k ver 0 0, .int .i64 1] objs (.int .i64 (n + 1)) (objs.set k ⟨ty, 2, [.agg [.int .i64 (n + 1), .int .i64 st]], true, ver⟩) := by
  refine ⟨⟨_, Try.func104, by kernel_rfl, by kernel_rfl⟩, by simp, fun base prot w0 tmps blk a w vs R hargs => ?_⟩
  obtain ⟨v0, v1, rfl, r0, r1⟩ := two' hargs
  have e1 := r1.int
  subst e1
  obtain ⟨g, hb, rfl⟩ := r0.optr h1 rfl rfl
  simp only [Nat.zero_mul, Nat.zero_add]
  have hob := R.objs.ob k _ h1 rfl
  unfold ObjRep at hob
  rw [hb] at hob
  obtain ⟨c, x1, x2, x3⟩ := hob
  simp only [] at x1 x2 x3
  obtain ⟨y1, y2⟩ := x3 0 _ rfl
  obtain ⟨u0, z0, q0⟩ := y2 0 (.int .i64 n) rfl
  obtain ⟨u1, z1, q1⟩ := y2 1 (.int .i64 st) rfl
  have q0' : Rep w _ (.int .i64 n) u0 := q0
  have q1' : Rep w _ (.int .i64 st) u1 := q1
  cases q0'
  cases q1'
  simp only [Nat.zero_mul, Nat.zero_add, Nat.add_zero] at z0 z1
  have hc : w.cell? ⟨g, 0, none⟩ = some (.int .i64 n) := by simp only [World.cell?, x1]; simpa using z0
  have hs := (Array.getElem?_eq_some_iff.1 z0).1
  have hs1 := (Array.getElem?_eq_some_iff.1 z1).1
  refine (add_walk g 0 n w hc (frozen_row x1 0) h0 hn).mono fun e w' ⟨e1, e2⟩ => ?_
  rw [setCell_eq_setRow w g 0 c ty (0, 0) _ x1] at e2
  subst e2
  have hheap := setRow_heap w g c (c.setIfInBounds 0 (.int .i64 (n + 1))) ty (0, 0) x1
  refine ⟨_, blkAdd blk k (blk k), e1, ?_, .of_rep (.int _ _)⟩
  refine R.setObj (o' := ⟨ty, 2, [.agg [.int .i64 (n + 1), .int .i64 st]], true, ver⟩) ⟨rfl, rfl⟩ h1 rfl rfl (by rw [setRow_size]; exact Nat.le_refl _) ?_ (fun g' hg' => .inl hg') (Nat.le_refl _) ?_ ?_
  · intro b z hbz hz
    rw [setRow_other w g b _ (fun e => hbz (by rw [hb, e]))]; exact hz
  · intro _
    refine ⟨rfl, rfl, rfl, rfl, fun g' c' hg' hc' => ?_⟩
    rw [hb] at hg'; cases hg'
    rw [x1] at hc'; cases hc'
    exact ⟨_, hheap, by simp⟩
  · intro hmono
    unfold ObjRep
    have hbk : blkAdd blk k (blk k) k = some g := by unfold blkAdd; rw [if_pos rfl, hb]
    rw [hbk]
    refine ⟨_, hheap, by simpa using x2, fun i' x' hx' => ?_⟩
    match i', hx' with
    | 0, hx' =>
      cases hx'
      refine ⟨rfl, fun j p hp => ?_⟩
      match j, hp with
      | 0, hp => cases hp; exact ⟨_, by simp [hs], .of_rep (.int _ _)⟩
      | 1, hp => cases hp; exact ⟨.int .i64 st, by simpa using z1, .of_rep (.int _ _)⟩
      | _ + 2, hp => simp [PV.cells] at hp
    | _ + 1, hx' => simp at hx'

end Lp

/-! LpW51 -/

namespace Lp
open Go Go.Proofs

set_option maxHeartbeats 4000000
set_option maxRecDepth 20000
set_option linter.unusedSimpArgs false

/-- A save's counter: how many deeds were done, and how many may be. -/
def ofC {K : Int × Int → Prop} (x : List PV) (_h : HK K) : Prop := ∃ n st, x = [.agg [.int .i64 n, .int .i64 st]] ∧ K (n, st)

theorem ofC_eq (K : Int × Int → Prop) (n st : Int) : ofC [.agg [.int .i64 n, .int .i64 st]] (HK.mk : HK K) = K (n, st) := by
  refine propext ⟨fun ⟨m, s, h, hk⟩ => ?_, fun hk => ⟨n, st, rfl, hk⟩⟩
  simp only [List.cons.injEq, PV.agg.injEq, PV.int.injEq, true_and, and_true] at h
  rw [h.1, h.2]; exact hk

def ctrLoad : Ctr := fun args objs K => match args with
  | [.optr k ver 0 0] => ∃ o, objs[k]? = some o ∧ o.live = true ∧ o.ver = ver ∧ ofC o.xs (HK.mk : HK fun p => K (.int .i64 p.1) objs 1)
  | _ => False

theorem ctrLoad_ok : CtrOk Try.prog f__P_sync_atomic_Int64__Load ctrLoad := by
  intro args objs K h
  unfold ctrLoad at h
  split at h
  · rename_i k ver
    obtain ⟨o, h1, h2, h3, n, st, h4, h5⟩ := h
    refine ⟨_, _, _, .lent (.int .i64 n) [.addr (.agg [.int .i64 n, .int .i64 st])] ⟨⟨o, _, h1, h2, h3, by rw [h4]; rfl, rfl, fun c hc => ?_, rfl⟩, trivial⟩ rfl (load_spec n st), h5⟩
    simp only [PV.cells, List.mem_cons, List.not_mem_nil, or_false] at hc
    rcases hc with rfl | rfl <;> rfl
  · exact h.elim

def ctrAdd : Ctr := fun args objs K => match args with
  | [.optr k ver 0 0, .int .i64 1] => ∃ o, objs[k]? = some o ∧ o.live = true ∧ o.ver = ver ∧ o.sz = 2 ∧ ofC o.xs (HK.mk : HK fun (p : Int × Int) => (0 : Int) ≤ p.1 ∧ p.1 < (9223372036854775807 : Int) ∧ K (.int .i64 (p.1 + 1)) (objs.set k ⟨o.ty, 2, [.agg [.int .i64 (p.1 + 1), .int .i64 p.2]], true, ver⟩) 2)
  | _ => False

theorem ctrAdd_ok : CtrOk Try.prog f__P_sync_atomic_Int64__Add ctrAdd := by
  intro args objs K h
  unfold ctrAdd at h
  split at h
  · rename_i k ver
    obtain ⟨o, h1, h2, h3, h4, n, st, h5, h6, h7, h8⟩ := h
    obtain ⟨ty, sz, xs, live, vr⟩ := o
    simp only [] at h2 h3 h4 h5 h6 h7 h8
    subst h2; subst h3; subst h4; subst h5
    exact ⟨_, _, _, .used _ _ (add_use h1 h6 h7), h8⟩
  · exact h.elim

/-- The counter's object. -/
def svO (n st : Int) : Obj := ⟨t_file_saver, 2, [.agg [.int .i64 n, .int .i64 st]], true, 1⟩

theorem next_use (o0 o1 o3 : Obj) (n st : Int) (hn : 0 ≤ n ∧ n < 9223372036854775807) :
    FnUse Try.prog f__P_file_saver__next [.optr 2 1 0 0] [o0, o1, svO n st, o3] (.bool (!decide (0 ≤ st ∧ st ≤ n))) [o0, o1, svO (if 0 ≤ st ∧ st ≤ n then n else n + 1) st, o3] := by
  refine k__P_file_saver__next.useG (T := tabL Try.prog [(f__P_sync_atomic_Int64__Load, ctrLoad), (f__P_sync_atomic_Int64__Add, ctrAdd)]) hD (tabOk_cons ctrLoad_ok (tabOk_cons ctrAdd_ok tabOk_nil)) rfl (fun _ _ _ h => h) hmix rfl (by decide) fun Q hQ => ?_
  simp only [F_all]
  have h0 := eq_true hn.1
  have h1 := eq_true hn.2
  rcases tf (0 ≤ st) with a1 | a1
  · rcases tf (st ≤ n) with a2 | a2
    · have hr : decide (0 ≤ st ∧ st ≤ n) = true := by simp [a1, a2]
      have hi : (if 0 ≤ st ∧ st ≤ n then n else n + 1) = n := by simp [a1, a2]
      simp (maxSteps := 400000) only [↓preZ, postZ, coreZ, ↓preF, postF, D_all, F_all, unR, outL, onePV, binS, ↓binS, boundR, ↓boundR, fieldOf, ↓fieldOf, boxR, allocR, newObj, zeroElem, buildSliceR, appendR, setAll, storeR, St.freeze, makeSliceR, minmaxR, makeFuncR, BEq.rfl, reduceIte, reduceCtorEq, Nat.reduceLT, Nat.reduceAdd, Nat.reduceSub, Nat.reduceMul, Nat.reduceBEq, Nat.reduceLeDiff, Int.reduceToNat, Int.reduceLE, hQ, c__P_file_saver__next, knU, ↓ctrLoad, ofC_eq, svO, nilCheckR, a1, a2, hr, hi]
    · have hr : decide (0 ≤ st ∧ st ≤ n) = false := by simp [a1, a2]
      have hi : (if 0 ≤ st ∧ st ≤ n then n else n + 1) = n + 1 := by simp [a1, a2]
      simp (maxSteps := 400000) only [↓preZ, postZ, coreZ, ↓preF, postF, D_all, F_all, unR, outL, onePV, binS, ↓binS, boundR, ↓boundR, fieldOf, ↓fieldOf, boxR, allocR, newObj, zeroElem, buildSliceR, appendR, setAll, storeR, St.freeze, makeSliceR, minmaxR, makeFuncR, BEq.rfl, reduceIte, reduceCtorEq, Nat.reduceLT, Nat.reduceAdd, Nat.reduceSub, Nat.reduceMul, Nat.reduceBEq, Nat.reduceLeDiff, Int.reduceToNat, Int.reduceLE, hQ, c__P_file_saver__next, knU, ↓ctrLoad, ↓ctrAdd, ofC_eq, svO, nilCheckR, a1, a2, hr, hi, h0, h1]
  · have hr : decide (0 ≤ st ∧ st ≤ n) = false := by simp [a1]
    have hi : (if 0 ≤ st ∧ st ≤ n then n else n + 1) = n + 1 := by simp [a1]
    simp (maxSteps := 400000) only [↓preZ, postZ, coreZ, ↓preF, postF, D_all, F_all, unR, outL, onePV, binS, ↓binS, boundR, ↓boundR, fieldOf, ↓fieldOf, boxR, allocR, newObj, zeroElem, buildSliceR, appendR, setAll, storeR, St.freeze, makeSliceR, minmaxR, makeFuncR, BEq.rfl, reduceIte, reduceCtorEq, Nat.reduceLT, Nat.reduceAdd, Nat.reduceSub, Nat.reduceMul, Nat.reduceBEq, Nat.reduceLeDiff, Int.reduceToNat, Int.reduceLE, hQ, c__P_file_saver__next, knU, ↓ctrLoad, ↓ctrAdd, ofC_eq, svO, nilCheckR, a1, hr, hi, h0, h1]

end Lp

/-! LpW52 -/

namespace Lp
open Go Go.Proofs

set_option maxHeartbeats 4000000
set_option maxRecDepth 20000
set_option linter.unusedSimpArgs false

/-! ### Plain -/

def doL (k : Dk) (l : List De) : Dk := l.foldl (fun k x => (doK k x).1) k

/-- How many deeds of a save are done. -/
def cntP (n : Nat) (stop : Int) : Nat := if 0 ≤ stop ∧ stop < n then stop.toNat else n

def saveK (k : Dk) (name s : List UInt8) (stop : Int) : Dk × Int × Int :=
  if name = [] ∨ 36 < name.length then (k, 0, 4) else
    (doL k ((planF name s).take (cntP (planF name s).length stop)), (cntP (planF name s).length stop : Nat), if cntP (planF name s).length stop < (planF name s).length then 10 else 0)

theorem ds_snoc : ∀ (d : List De) (l : List Fl) (x : De), dsF l (d ++ [x]) = (dsF l d && canF (d.foldl doF l) x)
  | [], l, x => by simp [dsF]
  | y :: d, l, x => by simp [dsF, ds_snoc d, Bool.and_assoc]

theorem masX_app (a b : List De) : masX (a ++ b) = masX a + masX b := by simp [masX]

theorem OkC.drop1 {l : List Fl} {d r : List De} {x : De} (h : OkC l (d ++ x :: r)) : OkC l (d ++ r) := by
  obtain ⟨h1, h2, h3, h4⟩ := h
  have e : masX (d ++ x :: r) = masX (d ++ r) + x.s.length := by
    rw [masX_app, masX_app]
    simp only [masX, List.map_cons, List.sum_cons]; omega
  refine ⟨h1, by simp at h2 ⊢; omega, by omega, fun y hy => h4 y ?_⟩
  rcases List.mem_append.1 hy with hy | hy
  · exact List.mem_append_left _ hy
  · exact List.mem_append_right _ (List.mem_cons_of_mem _ hy)

/-- A disk, deeds that may be done, and deeds to come. -/
structure OkP (k : Dk) (r : List De) : Prop where
  c : OkC k.l (k.d ++ r)
  ds : dsF k.l k.d = true

theorem OkP.r {k : Dk} {r : List De} (h : OkP k r) : OkR k := by
  refine ⟨?_, h.ds⟩
  obtain ⟨h1, h2, h3, h4⟩ := h.c
  rw [masX_app] at h3
  exact ⟨h1, by simp at h2; omega, by omega, fun y hy => h4 y (List.mem_append_left _ hy)⟩

theorem OkP.step {k : Dk} {x : De} {r : List De} (h : OkP k (x :: r)) : OkP (doK k x).1 r := by
  unfold doK
  split
  · exact ⟨h.c.drop1, h.ds⟩
  · split
    · exact ⟨h.c.drop1, h.ds⟩
    · rename_i hc
      split
      · have h1 := h.c.at doF (fun _ _ => .inl rfl) (i := k.d.length) (by simp)
        simp only [List.take_left', List.drop_left'] at h1
        have h2 : OkC (k.d.foldl doF k.l) r := by simpa using h1.step (.inr rfl)
        exact ⟨h2, rfl⟩
      · refine ⟨by simpa using h.c, ?_⟩
        have hc' : canF (k.d.foldl doF k.l) x = true := by simpa [seenK] using hc
        rw [ds_snoc, h.ds, hc']; rfl

theorem OkP.at {k : Dk} : ∀ {r : List De} {i : Nat}, OkP k r → i ≤ r.length → OkP (doL k (r.take i)) (r.drop i) := by
  intro r
  induction r generalizing k with
  | nil => intro i h hi; simp at hi; subst hi; exact h
  | cons x r ih =>
    intro i h hi
    cases i with
    | zero => exact h
    | succ i =>
      simp only [List.take_succ_cons, List.drop_succ_cons, doL, List.foldl_cons]
      exact ih h.step (by simpa using hi)

theorem doL_snoc (k : Dk) (l : List De) (i : Nat) (x : De) (h : l[i]? = some x) : doL k (l.take (i + 1)) = (doK (doL k (l.take i)) x).1 := by
  unfold doL
  rw [List.take_add_one, h, Option.toList_some, List.foldl_append]; rfl

/-! ### The walks -/

def ctrNext : Ctr := fun args objs K => match args, objs with
  | [.optr 2 1 0 0], [o0, o1, o2, o3] => o2.ty = t_file_saver ∧ o2.sz = 2 ∧ o2.live = true ∧ o2.ver = 1 ∧ ofC o2.xs (HK.mk : HK fun (p : Int × Int) => (0 : Int) ≤ p.1 ∧ p.1 < (9223372036854775807 : Int) ∧
      K (.bool (!decide (0 ≤ p.2 ∧ p.2 ≤ p.1))) [o0, o1, svO (if 0 ≤ p.2 ∧ p.2 ≤ p.1 then p.1 else p.1 + 1) p.2, o3] 2)
  | _, _ => False

theorem ctrNext_ok : CtrOk Try.prog f__P_file_saver__next ctrNext := by
  intro args objs K h
  unfold ctrNext at h
  split at h
  · rename_i o0 o1 o2 o3
    obtain ⟨h1, h2, h3, h4, n, st, h5, h6, h7, h8⟩ := h
    obtain ⟨ty, sz, xs, live, vr⟩ := o2
    simp only [] at h1 h2 h3 h4 h5 h6 h7 h8
    subst h1; subst h2; subst h3; subst h4; subst h5
    exact ⟨_, _, _, .used _ _ (next_use o0 o1 o3 n st ⟨h6, h7⟩), h8⟩
  · exact h.elim

theorem svB (objs : List Obj) (K : KT) (st : Int) : buildR' D t_file_saver [(1, .int .i64 st)] objs K = K (.agg [.int .i64 0, .int .i64 st]) objs 0 := by
  have z : zeroElem (D t_file_saver) = .agg [.int .i64 0, .int .i64 0] := by kernel_rfl
  have a : (D t_file_saver).agg = true := by kernel_rfl
  simp only [D_all] at z a
  simp [buildR', buildR, a, z, D_all, fillR, PV.isAgg, partOk, PV.cells, PV.storable, PV.solid, PV.pure]

theorem fsave_spec (k : Dk) (name s : List UInt8) (stop : Int) (hn : name.length ≤ 1000000) (hs : s.length ≤ 1000000) (hk : OkP k (planF name s)) :
    FnSpec Try.prog f_file_Save [encK k, .str name, .str s, .int .i64 stop] [] (.tup [encK (saveK k name s stop).1, .int .i64 (saveK k name s stop).2.1, .int .i64 (saveK k name s stop).2.2]) [] := by
  refine k_file_Save.pureC3 (T := tabL Try.prog [(f_file_Plan, ctrFPlan), (f__P_file_saver__next, ctrNext), (f__P_sync_atomic_Int64__Load, ctrLoad), (f_file_Do, ctrFDo)]) 1 hD (kOk_tabL (tabOk_cons ctrFPlan_ok (tabOk_cons ctrNext_ok (tabOk_cons ctrLoad_ok (tabOk_cons ctrFDo_ok tabOk_nil))))) hmix (by decide) (by decide) (by decide) fun Q hQ => ?_
  try simp only [F_all]
  rcases tf (name = []) with e1 | e1
  · have hr : saveK k name s stop = (k, 0, 4) := by simp [saveK, e1]
    simp (maxSteps := 400000) only [↓preZ, postZ, coreZ, ↓preF, postF, D_all, F_all, unR, outL, onePV, binS, ↓binS, boundR, ↓boundR, fieldOf, ↓fieldOf, boxR, allocR, newObj, zeroElem, buildSliceR, appendR, setAll, storeR, St.freeze, makeSliceR, minmaxR, makeFuncR, BEq.rfl, reduceIte, reduceCtorEq, Nat.reduceLT, Nat.reduceAdd, Nat.reduceSub, Nat.reduceMul, Nat.reduceBEq, Nat.reduceLeDiff, Int.reduceToNat, Int.reduceLE, hQ, c_file_Save, e1, hr]
  by_cases e2 : name.length ≤ 36
  rotate_left 1
  · have hr : saveK k name s stop = (k, 0, 4) := by simp [saveK, e1]; omega
    have e2' : (36 < (name.length : Int)) = True := eq_true (by omega)
    simp (maxSteps := 400000) only [↓preZ, postZ, coreZ, ↓preF, postF, D_all, F_all, unR, outL, onePV, binS, ↓binS, boundR, ↓boundR, fieldOf, ↓fieldOf, boxR, allocR, newObj, zeroElem, buildSliceR, appendR, setAll, storeR, St.freeze, makeSliceR, minmaxR, makeFuncR, BEq.rfl, reduceIte, reduceCtorEq, Nat.reduceLT, Nat.reduceAdd, Nat.reduceSub, Nat.reduceMul, Nat.reduceBEq, Nat.reduceLeDiff, Int.reduceToNat, Int.reduceLE, hQ, c_file_Save, e1, e2', hr]
  have e2' : (36 < (name.length : Int)) = False := eq_false (by omega)
  have q1 := eq_true hn
  have q2 := eq_true hs
  obtain ⟨c, hcd⟩ : ∃ c, c = cntP (planF name s).length stop := ⟨_, rfl⟩
  have hr : saveK k name s stop = (doL k ((planF name s).take c), ((c : Nat) : Int), if c < (planF name s).length then (10 : Int) else 0) := by
    have : ¬ (name = [] ∨ 36 < name.length) := by
      rintro (h | h)
      · rw [e1] at h; exact h
      · omega
    rw [hcd]
    simp [saveK, this]
  have hpl : (planF name s).length ≤ 999998 := by have := hk.c.len; simp at this; omega
  generalize hp : planF name s = p at hr hk hcd hpl
  simp (maxSteps := 400000) only [↓preZ, postZ, coreZ, ↓preF, postF, D_all, F_all, unR, outL, onePV, binS, ↓binS, boundR, ↓boundR, fieldOf, ↓fieldOf, boxR, allocR, newObj, zeroElem, buildSliceR, appendR, setAll, storeR, St.freeze, makeSliceR, minmaxR, makeFuncR, BEq.rfl, reduceIte, reduceCtorEq, Nat.reduceLT, Nat.reduceAdd, Nat.reduceSub, Nat.reduceMul, Nat.reduceBEq, Nat.reduceLeDiff, Int.reduceToNat, Int.reduceLE, hQ, c_file_Save, e1, e2', q1, q2, ↓ctrFPlan, hp, svB]
  refine wpc_loop (fun m S => ∃ i : Nat, i + m = p.length ∧ (0 ≤ stop → (i : Int) ≤ stop) ∧ S = ⟨tmA 53 [(4, .optr 0 1 0 0), (8, .optr 1 1 0 0), (11, .optr 2 1 0 0), (27, encXs p), (28, .int .i64 p.length), (29, .int .i64 i)],
    [⟨t_api_Disk, 2, [encK (doL k (p.take i))], true, 1⟩, ⟨t_api_Disk, 2, [.agg [.sl 0 [] (some true), .sl 0 [] (some true)]], true, 1⟩, ⟨t_file_saver, 2, [.agg [.int .i64 i, .int .i64 stop]], true, 1⟩]⟩) p.length ⟨0, by omega, fun h => by omega, ?_⟩ ?_ (hz := Nat.zero_le _)
  · simp only [normR, keepR, Nat.reduceAdd, lkR, Nat.reduceBEq, F_all, List.map_nil]
    rfl
  rintro m S ⟨i, him, hst', rfl⟩
  have zi : (0 ≤ (i : Int)) = True := eq_true (by omega)
  have zb : ((i : Int) < 9223372036854775807) = True := eq_true (by omega)
  rcases Nat.lt_or_ge i p.length with h | h
  · have hlt : ((i : Int) < (p.length : Int)) = True := eq_true (by omega)
    have ga := List.getElem?_eq_getElem h
    have hdl := doL_snoc k p i p[i] ga
    have hok := hk.at (i := i) (by omega)
    rw [List.drop_eq_getElem_cons h] at hok
    generalize p[i] = x at ga hdl hok
    have hox := eq_true (hok.c.ok x (by simp))
    have hR := eq_true hok.r
    by_cases hs1 : 0 ≤ stop ∧ stop ≤ (i : Int)
    · have hs1' : (0 ≤ stop ∧ stop ≤ (i : Int)) = True := eq_true hs1
      have hsi : stop = (i : Int) := by have := hst' hs1.1; omega
      have hci : c = i := by
        rw [hcd, cntP, if_pos ⟨by omega, by omega⟩]; omega
      have hif : (if c < p.length then (10 : Int) else 0) = 10 := if_pos (by omega)
      rw [hif, hci] at hr
      simp (maxSteps := 400000) only [↓preZ, postZ, coreZ, ↓preF, postF, D_all, F_all, unR, outL, onePV, binS, ↓binS, boundR, ↓boundR, fieldOf, ↓fieldOf, boxR, allocR, newObj, zeroElem, buildSliceR, appendR, setAll, storeR, St.freeze, makeSliceR, minmaxR, makeFuncR, BEq.rfl, reduceIte, reduceCtorEq, Nat.reduceLT, Nat.reduceAdd, Nat.reduceSub, Nat.reduceMul, Nat.reduceBEq, Nat.reduceLeDiff, Int.reduceToNat, Int.reduceLE, hQ, ↓ctrNext, ↓ctrLoad, ofC_eq, svO, nilCheckR, hlt, zi, zb, ga, hs1', hr, if_true]
      decide
    · have hs1' : (0 ≤ stop ∧ stop ≤ (i : Int)) = False := eq_false hs1
      simp (maxSteps := 400000) only [↓preZ, postZ, coreZ, ↓preF, postF, D_all, F_all, unR, outL, onePV, binS, ↓binS, boundR, ↓boundR, fieldOf, ↓fieldOf, boxR, allocR, newObj, zeroElem, buildSliceR, appendR, setAll, storeR, St.freeze, makeSliceR, minmaxR, makeFuncR, BEq.rfl, reduceIte, reduceCtorEq, Nat.reduceLT, Nat.reduceAdd, Nat.reduceSub, Nat.reduceMul, Nat.reduceBEq, Nat.reduceLeDiff, Int.reduceToNat, Int.reduceLE, hQ, ↓ctrNext, ↓ctrLoad, ↓ctrFDo, ofC_eq, svO, nilCheckR, hlt, zi, zb, ga, hs1', hR, hox, if_false]
      refine ⟨⟨by omega, by omega⟩, m - 1, by omega, i + 1, by omega, (fun h => by omega), ?_⟩
      rw [hdl]
      rfl
  have hlt : ((i : Int) < (p.length : Int)) = False := eq_false (by omega)
  have hci : c = i := by
    rw [hcd, cntP, if_neg (by intro h'; have := hst' h'.1; omega)]; omega
  have hif : (if c < p.length then (10 : Int) else 0) = 0 := if_neg (by omega)
  rw [hif, hci] at hr
  simp (maxSteps := 400000) only [↓preZ, postZ, coreZ, ↓preF, postF, D_all, F_all, unR, outL, onePV, binS, ↓binS, boundR, ↓boundR, fieldOf, ↓fieldOf, boxR, allocR, newObj, zeroElem, buildSliceR, appendR, setAll, storeR, St.freeze, makeSliceR, minmaxR, makeFuncR, BEq.rfl, reduceIte, reduceCtorEq, Nat.reduceLT, Nat.reduceAdd, Nat.reduceSub, Nat.reduceMul, Nat.reduceBEq, Nat.reduceLeDiff, Int.reduceToNat, Int.reduceLE, hQ, ↓ctrLoad, ofC_eq, nilCheckR, hlt, hr]
  decide


def ctrFSave : Ctr := fun args objs K => match args with
  | [a0, .str name, .str s, .int .i64 stop] => ofE encK a0 (HK.mk : HK fun k => (name.length ≤ 1000000) ∧ (s.length ≤ 1000000) ∧ (OkP k (planF name s)) ∧ K (.tup [encK (saveK k name s stop).1, .int .i64 (saveK k name s stop).2.1, .int .i64 (saveK k name s stop).2.2]) objs 0)
  | _ => False
theorem ctrFSave_ok : CtrOk Try.prog f_file_Save (ctrFSave) := by
  intro args objs K h
  unfold ctrFSave at h
  split at h
  · rename_i a0 name s stop
    obtain ⟨k, rfl, h1, h2, h3, hk⟩ := h
    exact ⟨_, _, _, .pure _ rfl (fsave_spec k name s stop h1 h2 h3), hk⟩
  · exact h.elim

theorem rsave_spec (k : Dk) (name s : List UInt8) (stop : Int) (hn : name.length ≤ 1000000) (hs : s.length ≤ 1000000) (hk : OkP k (planF name s)) :
    FnSpec Try.prog f_louperef23_Save [encK k, .str name, .str s, .int .i64 stop] [] (.tup [encK (saveK k name s stop).1, .int .i64 (saveK k name s stop).2.1, .int .i64 (saveK k name s stop).2.2]) [] := by
  refine k_louperef23_Save.pureC3 (T := tabL Try.prog [(f_louperef23_Plan, ctrRPlan), (f_louperef23_Do, ctrRDo)]) 1 hD (kOk_tabL (tabOk_cons ctrRPlan_ok (tabOk_cons ctrRDo_ok tabOk_nil))) hmix (by decide) (by decide) (by decide) fun Q hQ => ?_
  try simp only [F_all]
  by_cases e1 : 1 ≤ name.length
  rotate_left 1
  · have e1' : name = [] := List.eq_nil_of_length_eq_zero (by omega)
    have hr : saveK k name s stop = (k, 0, 4) := by simp [saveK, e1']
    have e3 : ((name.length : Int) < 1) = True := eq_true (by omega)
    simp (maxSteps := 400000) only [↓preZ, postZ, coreZ, ↓preF, postF, D_all, F_all, unR, outL, onePV, binS, ↓binS, boundR, ↓boundR, fieldOf, ↓fieldOf, boxR, allocR, newObj, zeroElem, buildSliceR, appendR, setAll, storeR, St.freeze, makeSliceR, minmaxR, makeFuncR, BEq.rfl, reduceIte, reduceCtorEq, Nat.reduceLT, Nat.reduceAdd, Nat.reduceSub, Nat.reduceMul, Nat.reduceBEq, Nat.reduceLeDiff, Int.reduceToNat, Int.reduceLE, hQ, c_louperef23_Save, e3, hr]
  have e3 : ((name.length : Int) < 1) = False := eq_false (by omega)
  have e1' : name ≠ [] := fun h => by rw [h] at e1; simp at e1
  by_cases e2 : name.length ≤ 36
  rotate_left 1
  · have hr : saveK k name s stop = (k, 0, 4) := by simp [saveK]; omega
    have e2' : (36 < (name.length : Int)) = True := eq_true (by omega)
    simp (maxSteps := 400000) only [↓preZ, postZ, coreZ, ↓preF, postF, D_all, F_all, unR, outL, onePV, binS, ↓binS, boundR, ↓boundR, fieldOf, ↓fieldOf, boxR, allocR, newObj, zeroElem, buildSliceR, appendR, setAll, storeR, St.freeze, makeSliceR, minmaxR, makeFuncR, BEq.rfl, reduceIte, reduceCtorEq, Nat.reduceLT, Nat.reduceAdd, Nat.reduceSub, Nat.reduceMul, Nat.reduceBEq, Nat.reduceLeDiff, Int.reduceToNat, Int.reduceLE, hQ, c_louperef23_Save, e3, e2', hr]
  have e2' : (36 < (name.length : Int)) = False := eq_false (by omega)
  have q1 := eq_true hn
  have q2 := eq_true hs
  obtain ⟨c, hcd⟩ : ∃ c, c = cntP (planF name s).length stop := ⟨_, rfl⟩
  have hr : saveK k name s stop = (doL k ((planF name s).take c), ((c : Nat) : Int), if c < (planF name s).length then (10 : Int) else 0) := by
    have : ¬ (name = [] ∨ 36 < name.length) := by
      rintro (h | h)
      · exact e1' h
      · omega
    rw [hcd]
    simp [saveK, this]
  have hpl : (planF name s).length ≤ 999998 := by have := hk.c.len; simp at this; omega
  generalize hp : planF name s = p at hr hk hcd hpl
  simp (maxSteps := 400000) only [↓preZ, postZ, coreZ, ↓preF, postF, D_all, F_all, unR, outL, onePV, binS, ↓binS, boundR, ↓boundR, fieldOf, ↓fieldOf, boxR, allocR, newObj, zeroElem, buildSliceR, appendR, setAll, storeR, St.freeze, makeSliceR, minmaxR, makeFuncR, BEq.rfl, reduceIte, reduceCtorEq, Nat.reduceLT, Nat.reduceAdd, Nat.reduceSub, Nat.reduceMul, Nat.reduceBEq, Nat.reduceLeDiff, Int.reduceToNat, Int.reduceLE, hQ, c_louperef23_Save, e3, e2', q1, q2, ↓ctrRPlan, hp]
  refine wpc_loop (fun m S => ∃ i : Nat, i + m = p.length ∧ (0 ≤ stop → (i : Int) ≤ stop) ∧ S = ⟨tmA 55 [(3, .int .i64 stop), (4, .optr 0 1 0 0), (8, .optr 1 1 0 0), (11, encXs p), (12, .int .i64 i)],
    [⟨t_api_Disk, 2, [encK (doL k (p.take i))], true, 1⟩, ⟨t_api_Disk, 2, [.agg [.sl 0 [] (some true), .sl 0 [] (some true)]], true, 1⟩]⟩) p.length ⟨0, by omega, fun h => by omega, ?_⟩ ?_ (hz := Nat.zero_le _)
  · simp only [normR, keepR, Nat.reduceAdd, lkR, Nat.reduceBEq, F_all, List.map_nil]
    rfl
  rintro m S ⟨i, him, hst', rfl⟩
  have zi : (0 ≤ (i : Int)) = True := eq_true (by omega)
  rcases Nat.lt_or_ge i p.length with h | h
  · have hlt : ((i : Int) < (p.length : Int)) = True := eq_true (by omega)
    have ga := List.getElem?_eq_getElem h
    have hdl := doL_snoc k p i p[i] ga
    have hok := hk.at (i := i) (by omega)
    rw [List.drop_eq_getElem_cons h] at hok
    generalize p[i] = x at ga hdl hok
    have hox := eq_true (hok.c.ok x (by simp))
    have hR := eq_true hok.r.c
    by_cases hs1 : 0 ≤ stop ∧ stop ≤ (i : Int)
    · have a1 : (0 ≤ stop) = True := eq_true hs1.1
      have a2 : (stop ≤ (i : Int)) = True := eq_true hs1.2
      have hsi : stop = (i : Int) := by have := hst' hs1.1; omega
      have hci : c = i := by
        rw [hcd, cntP, if_pos ⟨by omega, by omega⟩]; omega
      have hif : (if c < p.length then (10 : Int) else 0) = 10 := if_pos (by omega)
      rw [hif, hci] at hr
      simp (maxSteps := 400000) only [↓preZ, postZ, coreZ, ↓preF, postF, D_all, F_all, unR, outL, onePV, binS, ↓binS, boundR, ↓boundR, fieldOf, ↓fieldOf, boxR, allocR, newObj, zeroElem, buildSliceR, appendR, setAll, storeR, St.freeze, makeSliceR, minmaxR, makeFuncR, BEq.rfl, reduceIte, reduceCtorEq, Nat.reduceLT, Nat.reduceAdd, Nat.reduceSub, Nat.reduceMul, Nat.reduceBEq, Nat.reduceLeDiff, Int.reduceToNat, Int.reduceLE, hQ, hlt, zi, ga, a1, a2, hr]
    · rcases tf (0 ≤ stop) with a1 | a1
      · have a2 : (stop ≤ (i : Int)) = False := eq_false fun h => hs1 ⟨of_eq_true a1, h⟩
        simp (maxSteps := 400000) only [↓preZ, postZ, coreZ, ↓preF, postF, D_all, F_all, unR, outL, onePV, binS, ↓binS, boundR, ↓boundR, fieldOf, ↓fieldOf, boxR, allocR, newObj, zeroElem, buildSliceR, appendR, setAll, storeR, St.freeze, makeSliceR, minmaxR, makeFuncR, BEq.rfl, reduceIte, reduceCtorEq, Nat.reduceLT, Nat.reduceAdd, Nat.reduceSub, Nat.reduceMul, Nat.reduceBEq, Nat.reduceLeDiff, Int.reduceToNat, Int.reduceLE, hQ, ↓ctrRDo, hlt, zi, ga, a1, a2, hR, hox]
        refine ⟨by decide, ⟨by omega, by omega⟩, m - 1, by omega, i + 1, by omega, (by have := of_eq_true a1; have := hst' this; have h5 := mt (fun h : stop ≤ (i : Int) => (⟨of_eq_true a1, h⟩ : 0 ≤ stop ∧ stop ≤ (i : Int))) hs1; omega), ?_⟩
        rw [hdl]
        rfl
      · simp (maxSteps := 400000) only [↓preZ, postZ, coreZ, ↓preF, postF, D_all, F_all, unR, outL, onePV, binS, ↓binS, boundR, ↓boundR, fieldOf, ↓fieldOf, boxR, allocR, newObj, zeroElem, buildSliceR, appendR, setAll, storeR, St.freeze, makeSliceR, minmaxR, makeFuncR, BEq.rfl, reduceIte, reduceCtorEq, Nat.reduceLT, Nat.reduceAdd, Nat.reduceSub, Nat.reduceMul, Nat.reduceBEq, Nat.reduceLeDiff, Int.reduceToNat, Int.reduceLE, hQ, ↓ctrRDo, hlt, zi, ga, a1, hR, hox]
        refine ⟨by decide, ⟨by omega, by omega⟩, m - 1, by omega, i + 1, by omega, ?_⟩
        rw [hdl]
        rfl
  have hlt : ((i : Int) < (p.length : Int)) = False := eq_false (by omega)
  have hci : c = i := by
    rw [hcd, cntP, if_neg (by intro h'; have := hst' h'.1; omega)]; omega
  have hif : (if c < p.length then (10 : Int) else 0) = 0 := if_neg (by omega)
  have hil : i = p.length := by omega
  rw [hif, hci] at hr
  simp (maxSteps := 400000) only [↓preZ, postZ, coreZ, ↓preF, postF, D_all, F_all, unR, outL, onePV, binS, ↓binS, boundR, ↓boundR, fieldOf, ↓fieldOf, boxR, allocR, newObj, zeroElem, buildSliceR, appendR, setAll, storeR, St.freeze, makeSliceR, minmaxR, makeFuncR, BEq.rfl, reduceIte, reduceCtorEq, Nat.reduceLT, Nat.reduceAdd, Nat.reduceSub, Nat.reduceMul, Nat.reduceBEq, Nat.reduceLeDiff, Int.reduceToNat, Int.reduceLE, hQ, hlt, hr]
  rw [hil]

def ctrRSave : Ctr := fun args objs K => match args with
  | [a0, .str name, .str s, .int .i64 stop] => ofE encK a0 (HK.mk : HK fun k => (name.length ≤ 1000000) ∧ (s.length ≤ 1000000) ∧ (OkP k (planF name s)) ∧ K (.tup [encK (saveK k name s stop).1, .int .i64 (saveK k name s stop).2.1, .int .i64 (saveK k name s stop).2.2]) objs 0)
  | _ => False
theorem ctrRSave_ok : CtrOk Try.prog f_louperef23_Save (ctrRSave) := by
  intro args objs K h
  unfold ctrRSave at h
  split at h
  · rename_i a0 name s stop
    obtain ⟨k, rfl, h1, h2, h3, hk⟩ := h
    exact ⟨_, _, _, .pure _ rfl (rsave_spec k name s stop h1 h2 h3), hk⟩
  · exact h.elim

end Lp

/-! LpW53 -/

namespace Lp
open Go Go.Proofs

set_option maxHeartbeats 4000000
set_option maxRecDepth 20000
set_option linter.unusedSimpArgs false

/-! ### Plain: plans are of few deeds -/

theorem chk_facts (t : List UInt8) : ∀ (n : Nat) (s : List UInt8), s.length ≤ n → (chk t n s).length ≤ s.length ∧ masX (chk t n s) = s.length ∧ ∀ x ∈ chk t n s, x.kind = 1 ∧ x.name = t ∧ x.s.length ≤ 64
  | 0, s, h => by
    have : s = [] := List.eq_nil_of_length_eq_zero (by omega)
    simp [chk, masX, this]
  | n + 1, s, h => by
    simp only [chk]
    split
    · rename_i hs
      simp [masX, hs]
    · rename_i hs
      have hp : 0 < s.length := List.length_pos_iff.2 hs
      obtain ⟨h1, h2, h3⟩ := chk_facts t n (s.drop 64) (by simp; omega)
      simp only [List.length_drop] at h1 h2
      refine ⟨by simp; omega, ?_, fun x hx => ?_⟩
      · simp only [masX, List.map_cons, List.sum_cons, List.length_take] at *; omega
      · rcases List.mem_cons.1 hx with rfl | hx
        · exact ⟨rfl, rfl, by simp; omega⟩
        · exact h3 x hx

theorem plan_facts (name s : List UInt8) : (planF name s).length ≤ s.length + 4 ∧ masX (planF name s) = s.length + name.length ∧ ∀ x ∈ planF name s, x.name.length ≤ name.length + 4 ∧ x.s.length ≤ 64 + name.length := by
  obtain ⟨h1, h2, h3⟩ := chk_facts (tmpF name) s.length s (Nat.le_refl _)
  have ht : (tmpF name).length = name.length + 4 := by simp [tmpF]
  refine ⟨?_, ?_, fun x hx => ?_⟩
  · simp only [planF, chunks, List.length_cons, List.length_append, List.length_nil]; omega
  · have : masX (planF name s) = masX (chunks (tmpF name) s) + name.length := by
      simp [planF, masX]
    rw [this]; unfold chunks; omega
  · simp only [planF, List.mem_cons, List.mem_append, List.not_mem_nil, or_false] at hx
    rcases hx with rfl | hx | rfl | rfl | rfl
    · simp [ht]
    · obtain ⟨_, a, b⟩ := h3 x hx
      exact ⟨by rw [a]; omega, by omega⟩
    · simp
    · simp [ht]
    · simp

theorem mkP {k : Dk} {name s : List UInt8} (hk : OkR k) (hl : k.l.length + k.d.length ≤ 100000) (hm : masF k.l + masX k.d ≤ 1000000000000) (hn : name.length ≤ 100000) (hs : s.length ≤ 100000) : OkP k (planF name s) := by
  obtain ⟨h1, h2, h3⟩ := plan_facts name s
  obtain ⟨⟨c1, c2, c3, c4⟩, hd⟩ := hk
  refine ⟨⟨c1, by simp; omega, by rw [masX_app]; omega, fun x hx => ?_⟩, hd⟩
  rcases List.mem_append.1 hx with hx | hx
  · exact c4 x hx
  · obtain ⟨a, b⟩ := h3 x hx
    exact ⟨by omega, by omega⟩

/-! ### A save that is asked about -/

def givenQ (q : Sv) : Bool := fewK q.d && (decide (q.name.length ≤ 100) && (decide (q.s.length ≤ 2000) && decide (q.other.length ≤ 100)))

theorem given_spec (q : Sv) (hk : okK q.d) (ht : okT q.d) (h1 : q.name.length ≤ 4611686018427387904) (h2 : q.s.length ≤ 4611686018427387904) (h3 : q.other.length ≤ 4611686018427387904) : FnSpec Try.prog f__loupelaw23_SaveIn__given [encQ q] [] (.bool (givenQ q)) [] := by
  refine k__loupelaw23_SaveIn__given.pureG (T := tabL Try.prog [(f_louperef23_Few, ctrFew)]) 0 hD (kOk_tabL (tabOk_cons ctrFew_ok tabOk_nil)) hmix (by decide) fun Q hQ => ?_
  try simp only [F_all]
  simp (maxSteps := 400000) only [↓preZ, postZ, coreZ, ↓preF, postF, D_all, F_all, unR, outL, onePV, binS, ↓binS, boundR, ↓boundR, fieldOf, ↓fieldOf, boxR, allocR, newObj, zeroElem, buildSliceR, appendR, setAll, storeR, St.freeze, makeSliceR, minmaxR, makeFuncR, BEq.rfl, reduceIte, reduceCtorEq, Nat.reduceLT, Nat.reduceAdd, Nat.reduceSub, Nat.reduceMul, Nat.reduceBEq, Nat.reduceLeDiff, Int.reduceToNat, Int.reduceLE, hQ, c__loupelaw23_SaveIn__given]
  refine wpc_weak _ (Weak.freeze 1 0 (Nat.zero_le _) _) ?_
  have q1 := eq_true hk
  have q2 := eq_true ht
  have hr : givenQ q = (fewK q.d && (decide (q.name.length ≤ 100) && (decide (q.s.length ≤ 2000) && decide (q.other.length ≤ 100)))) := rfl
  cases hf : fewK q.d
  · simp (maxSteps := 400000) only [↓preZ, postZ, coreZ, ↓preF, postF, D_all, F_all, unR, outL, onePV, binS, ↓binS, boundR, ↓boundR, fieldOf, ↓fieldOf, boxR, allocR, newObj, zeroElem, buildSliceR, appendR, setAll, storeR, St.freeze, makeSliceR, minmaxR, makeFuncR, BEq.rfl, reduceIte, reduceCtorEq, Nat.reduceLT, Nat.reduceAdd, Nat.reduceSub, Nat.reduceMul, Nat.reduceBEq, Nat.reduceLeDiff, Int.reduceToNat, Int.reduceLE, hQ, ↓ctrFew, q1, q2, hf, hr, Bool.false_and]
  by_cases a1 : q.name.length ≤ 100
  rotate_left 1
  · have b1 : ((q.name.length : Int) ≤ 100) = False := eq_false (by omega)
    have hr' : givenQ q = false := by rw [hr, decide_eq_false a1]; simp
    simp (maxSteps := 400000) only [↓preZ, postZ, coreZ, ↓preF, postF, D_all, F_all, unR, outL, onePV, binS, ↓binS, boundR, ↓boundR, fieldOf, ↓fieldOf, boxR, allocR, newObj, zeroElem, buildSliceR, appendR, setAll, storeR, St.freeze, makeSliceR, minmaxR, makeFuncR, BEq.rfl, reduceIte, reduceCtorEq, Nat.reduceLT, Nat.reduceAdd, Nat.reduceSub, Nat.reduceMul, Nat.reduceBEq, Nat.reduceLeDiff, Int.reduceToNat, Int.reduceLE, hQ, ↓ctrFew, q1, q2, hf, hr', b1]
  have b1 : ((q.name.length : Int) ≤ 100) = True := eq_true (by omega)
  by_cases a2 : q.s.length ≤ 2000
  rotate_left 1
  · have b2 : ((q.s.length : Int) ≤ 2000) = False := eq_false (by omega)
    have hr' : givenQ q = false := by rw [hr, decide_eq_false a2]; simp
    simp (maxSteps := 400000) only [↓preZ, postZ, coreZ, ↓preF, postF, D_all, F_all, unR, outL, onePV, binS, ↓binS, boundR, ↓boundR, fieldOf, ↓fieldOf, boxR, allocR, newObj, zeroElem, buildSliceR, appendR, setAll, storeR, St.freeze, makeSliceR, minmaxR, makeFuncR, BEq.rfl, reduceIte, reduceCtorEq, Nat.reduceLT, Nat.reduceAdd, Nat.reduceSub, Nat.reduceMul, Nat.reduceBEq, Nat.reduceLeDiff, Int.reduceToNat, Int.reduceLE, hQ, ↓ctrFew, q1, q2, hf, hr', b1, b2]
  have b2 : ((q.s.length : Int) ≤ 2000) = True := eq_true (by omega)
  by_cases a3 : q.other.length ≤ 100
  · have b3 : ((q.other.length : Int) ≤ 100) = True := eq_true (by omega)
    have hr' : givenQ q = true := by rw [hr, hf, decide_eq_true a1, decide_eq_true a2, decide_eq_true a3]; rfl
    simp (maxSteps := 400000) only [↓preZ, postZ, coreZ, ↓preF, postF, D_all, F_all, unR, outL, onePV, binS, ↓binS, boundR, ↓boundR, fieldOf, ↓fieldOf, boxR, allocR, newObj, zeroElem, buildSliceR, appendR, setAll, storeR, St.freeze, makeSliceR, minmaxR, makeFuncR, BEq.rfl, reduceIte, reduceCtorEq, Nat.reduceLT, Nat.reduceAdd, Nat.reduceSub, Nat.reduceMul, Nat.reduceBEq, Nat.reduceLeDiff, Int.reduceToNat, Int.reduceLE, hQ, ↓ctrFew, q1, q2, hf, hr', b1, b2, b3]
  · have b3 : ((q.other.length : Int) ≤ 100) = False := eq_false (by omega)
    have hr' : givenQ q = false := by rw [hr, decide_eq_false a3]; simp
    simp (maxSteps := 400000) only [↓preZ, postZ, coreZ, ↓preF, postF, D_all, F_all, unR, outL, onePV, binS, ↓binS, boundR, ↓boundR, fieldOf, ↓fieldOf, boxR, allocR, newObj, zeroElem, buildSliceR, appendR, setAll, storeR, St.freeze, makeSliceR, minmaxR, makeFuncR, BEq.rfl, reduceIte, reduceCtorEq, Nat.reduceLT, Nat.reduceAdd, Nat.reduceSub, Nat.reduceMul, Nat.reduceBEq, Nat.reduceLeDiff, Int.reduceToNat, Int.reduceLE, hQ, ↓ctrFew, q1, q2, hf, hr', b1, b2, b3]

def ctrGiven : Ctr := fun args objs K => match args with
  | [a0] => ofE encQ a0 (HK.mk : HK fun q => (okK q.d) ∧ (okT q.d) ∧ (q.name.length ≤ 4611686018427387904) ∧ (q.s.length ≤ 4611686018427387904) ∧ (q.other.length ≤ 4611686018427387904) ∧ K (.bool (givenQ q)) objs 0)
  | _ => False
theorem ctrGiven_ok : CtrOk Try.prog f__loupelaw23_SaveIn__given (ctrGiven) := by
  intro args objs K h
  unfold ctrGiven at h
  split at h
  · rename_i a0
    obtain ⟨q, rfl, h1, h2, h3, h4, h5, hk⟩ := h
    exact ⟨_, _, _, .pure _ rfl (given_spec q h1 h2 h3 h4 h5), hk⟩
  · exact h.elim

/-! ### The live question -/

def z65 : List UInt8 := List.replicate 65 0
def dkA : Dk := ⟨[⟨[97], z65⟩], []⟩
def dkB : Dk := ⟨[⟨[97], z65⟩, ⟨[97, 46, 116, 109, 112], [110, 101, 119]⟩], [⟨2, [97, 46, 116, 109, 112], [97]⟩]⟩
def dkC : Dk := ⟨dkB.l, []⟩
def dkE : Dk := ⟨[⟨[97], [110, 101, 119]⟩], []⟩

theorem al1 : saveK ⟨[], []⟩ [97] z65 (-1) = (dkA, 6, 0) := by kernel_rfl
theorem al2 : getS dkA [97] = z65 ∧ hasF (seenK dkA) [97] = true := ⟨by kernel_rfl, by kernel_rfl⟩
theorem al3 : saveK dkA [97] [110, 101, 119] 4 = (dkB, 4, 10) := by kernel_rfl
theorem al4 : crR dkB 0 = dkC ∧ crR dkB 1 = dkE := ⟨by kernel_rfl, by kernel_rfl⟩
theorem al5 : getS dkC [97] = z65 ∧ getS dkE [97] = [110, 101, 119] := ⟨by kernel_rfl, by kernel_rfl⟩
theorem al6 : doK dkA ⟨3, [98], []⟩ = (dkA, 6) := by kernel_rfl
theorem al7 : rightK dkA = true := by kernel_rfl
theorem al8 : (planF [97] []).length = 4 := by kernel_rfl


theorem okR_of {k : Dk} (hs : smK k = true) (hr : rightK k = true) : OkR k := by
  have h := sm_okS hs
  unfold rightK at hr
  rw [Bool.and_eq_true] at hr
  exact ⟨h.okC (nm_ris hr.1), hr.2⟩

theorem sm_small {k : Dk} (h : smK k = true) : k.l.length + k.d.length ≤ 40 ∧ masF k.l + masX k.d ≤ 80000 := by
  unfold smK at h
  rw [Bool.and_eq_true, Bool.and_eq_true, decide_eq_true_eq] at h
  obtain ⟨⟨h1, h2⟩, h3, h4⟩ := h
  rw [List.all_eq_true] at h3 h4
  have a1 : ∀ l : List Fl, (∀ f ∈ l, smF f = true) → masF l ≤ l.length * 2000 := by
    intro l
    induction l with
    | nil => intro _; simp [masF]
    | cons f l ih =>
      intro h
      have h5 := ih fun g hg => h g (by simp [hg])
      have h6 := of_decide_eq_true (h f (by simp))
      simp only [masF, List.map_cons, List.sum_cons, List.length_cons] at *; omega
  have a2 : ∀ l : List De, (∀ f ∈ l, smX f = true) → masX l ≤ l.length * 2000 := by
    intro l
    induction l with
    | nil => intro _; simp [masX]
    | cons f l ih =>
      intro h
      have h5 := ih fun g hg => h g (by simp [hg])
      have h6 := of_decide_eq_true (h f (by simp))
      simp only [masX, List.map_cons, List.sum_cons, List.length_cons] at *; omega
  have b1 := a1 k.l h3
  have b2 := a2 k.d h4
  omega

theorem okP_of {k : Dk} {name s : List UInt8} (hs : smK k = true) (hr : rightK k = true) (hn : name.length ≤ 100000) (ht : s.length ≤ 100000) : OkP k (planF name s) := by
  have := sm_small hs
  exact mkP (okR_of hs hr) (by omega) (by omega) hn ht

/-- A disk that is handed over, or the zero one. -/
def zK : PV := .agg [.sl 0 [] (some true), .sl 0 [] (some true)]
def ofZ {K : Dk → Prop} (a : PV) (_h : HK K) : Prop := ∃ k, (a = encK k ∨ (a = zK ∧ k = ⟨[], []⟩)) ∧ K k

theorem ofZ_r (K : Dk → Prop) : (∀ k, ofZ (encK k) (HK.mk : HK K) = K k) ∧ (ofZ (.agg [.sl 0 [] (some true), .sl 0 [] (some true)]) (HK.mk : HK K) = K ⟨[], []⟩) := by
  have hne : ∀ k, encK k ≠ zK := by
    intro k h
    simp only [encK, zK, encFs, PV.agg.injEq, List.cons.injEq, PV.sl.injEq] at h
    exact absurd h.1.1 (by decide)
  refine ⟨fun k => propext ⟨?_, fun h => ⟨k, .inl rfl, h⟩⟩, propext ⟨?_, fun h => ⟨_, .inr ⟨rfl, rfl⟩, h⟩⟩⟩
  · rintro ⟨k', h | ⟨h, _⟩, hk⟩
    · rw [encK_inj _ _ h]; exact hk
    · exact absurd h (hne k)
  · rintro ⟨k', h | ⟨_, rfl⟩, hk⟩
    · exact absurd h.symm (hne k')
    · exact hk

def ctrSaveA : Ctr := fun args objs K => match args with
  | [a, .str name, .str s, .int .i64 stop] => ofZ a (HK.mk : HK fun k => name.length ≤ 1000000 ∧ s.length ≤ 1000000 ∧ OkP k (planF name s) ∧
      K (.tup [encK (saveK k name s stop).1, .int .i64 (saveK k name s stop).2.1, .int .i64 (saveK k name s stop).2.2]) objs 0)
  | _ => False

theorem tells_zK : Tells zK (encK ⟨[], []⟩) := tells2 (.inl rfl) (tells_nil 0 2) (tells_nil 0 3)

theorem ctrSaveA_ok : CtrOk Try.prog f_file_Save ctrSaveA := by
  intro args objs K h
  unfold ctrSaveA at h
  split at h
  · rename_i a name s stop
    obtain ⟨k, ha, h1, h2, h3, h4⟩ := h
    have hsp := fsave_spec k name s stop h1 h2 h3
    rcases ha with rfl | ⟨rfl, rfl⟩
    · exact ⟨_, _, _, .pure _ rfl hsp, h4⟩
    · refine ⟨_, _, _, .pure _ rfl (hsp.arg (args' := [zK, .str name, .str s, .int .i64 stop]) rfl fun i p q hp hq => ?_), h4⟩
      match i, hp, hq with
      | 0, hp, hq => cases hp; cases hq; exact tells_zK
      | 1, hp, hq => cases hp; cases hq; exact .refl _
      | 2, hp, hq => cases hp; cases hq; exact .refl _
      | 3, hp, hq => cases hp; cases hq; exact .refl _
      | _ + 4, hp, _ => simp at hp
  · exact h.elim

theorem zkB (objs : List Obj) (K : KT) : buildR' D t_api_Disk [] objs K = K (.agg [.sl 0 [] (some true), .sl 0 [] (some true)]) objs 0 := by
  have z : zeroElem (D t_api_Disk) = .agg [.sl 0 [] (some true), .sl 0 [] (some true)] := by kernel_rfl
  have a : (D t_api_Disk).agg = true := by kernel_rfl
  simp only [D_all] at z a
  simp [buildR', buildR, a, z, D_all, fillR, PV.isAgg, PV.cells]

theorem conv65 (K : KT) : convO D t_L_uint8 t_string (.osl 0 1) [⟨t_uint8, 1, [.int .u8 0, .int .u8 0, .int .u8 0, .int .u8 0, .int .u8 0, .int .u8 0, .int .u8 0, .int .u8 0, .int .u8 0, .int .u8 0, .int .u8 0, .int .u8 0, .int .u8 0, .int .u8 0, .int .u8 0, .int .u8 0, .int .u8 0, .int .u8 0, .int .u8 0, .int .u8 0, .int .u8 0, .int .u8 0, .int .u8 0, .int .u8 0, .int .u8 0, .int .u8 0, .int .u8 0, .int .u8 0, .int .u8 0, .int .u8 0, .int .u8 0, .int .u8 0, .int .u8 0, .int .u8 0, .int .u8 0, .int .u8 0, .int .u8 0, .int .u8 0, .int .u8 0, .int .u8 0, .int .u8 0, .int .u8 0, .int .u8 0, .int .u8 0, .int .u8 0, .int .u8 0, .int .u8 0, .int .u8 0, .int .u8 0, .int .u8 0, .int .u8 0, .int .u8 0, .int .u8 0, .int .u8 0, .int .u8 0, .int .u8 0, .int .u8 0, .int .u8 0, .int .u8 0, .int .u8 0, .int .u8 0, .int .u8 0, .int .u8 0, .int .u8 0, .int .u8 0], true, 1⟩] K = K (.str z65) [⟨t_uint8, 1, [.int .u8 0, .int .u8 0, .int .u8 0, .int .u8 0, .int .u8 0, .int .u8 0, .int .u8 0, .int .u8 0, .int .u8 0, .int .u8 0, .int .u8 0, .int .u8 0, .int .u8 0, .int .u8 0, .int .u8 0, .int .u8 0, .int .u8 0, .int .u8 0, .int .u8 0, .int .u8 0, .int .u8 0, .int .u8 0, .int .u8 0, .int .u8 0, .int .u8 0, .int .u8 0, .int .u8 0, .int .u8 0, .int .u8 0, .int .u8 0, .int .u8 0, .int .u8 0, .int .u8 0, .int .u8 0, .int .u8 0, .int .u8 0, .int .u8 0, .int .u8 0, .int .u8 0, .int .u8 0, .int .u8 0, .int .u8 0, .int .u8 0, .int .u8 0, .int .u8 0, .int .u8 0, .int .u8 0, .int .u8 0, .int .u8 0, .int .u8 0, .int .u8 0, .int .u8 0, .int .u8 0, .int .u8 0, .int .u8 0, .int .u8 0, .int .u8 0, .int .u8 0, .int .u8 0, .int .u8 0, .int .u8 0, .int .u8 0, .int .u8 0, .int .u8 0, .int .u8 0], true, 1⟩] 4 := by
  refine propext ⟨?_, fun h => ⟨_, z65, rfl, rfl, rfl, rfl, by decide, rfl, by simp only [D_all], ⟨t_uint8, by simp only [D_all], by simp only [D_all]⟩, h⟩⟩
  rintro ⟨o, bs, h1, _, _, _, _, h2, _, _, h⟩
  cases h1
  have e : bs = z65 := by
    have hl : bs.length = 65 := by have := congrArg List.length h2; simpa using this.symm
    refine List.ext_getElem (by rw [hl]; rfl) fun i h3 h4 => ?_
    have h5 : (List.map (fun b : UInt8 => PV.int .u8 b.toNat) bs)[i]? = some (.int .u8 0) := by
      rw [← h2]
      have : ([.int .u8 0, .int .u8 0, .int .u8 0, .int .u8 0, .int .u8 0, .int .u8 0, .int .u8 0, .int .u8 0, .int .u8 0, .int .u8 0, .int .u8 0, .int .u8 0, .int .u8 0, .int .u8 0, .int .u8 0, .int .u8 0, .int .u8 0, .int .u8 0, .int .u8 0, .int .u8 0, .int .u8 0, .int .u8 0, .int .u8 0, .int .u8 0, .int .u8 0, .int .u8 0, .int .u8 0, .int .u8 0, .int .u8 0, .int .u8 0, .int .u8 0, .int .u8 0, .int .u8 0, .int .u8 0, .int .u8 0, .int .u8 0, .int .u8 0, .int .u8 0, .int .u8 0, .int .u8 0, .int .u8 0, .int .u8 0, .int .u8 0, .int .u8 0, .int .u8 0, .int .u8 0, .int .u8 0, .int .u8 0, .int .u8 0, .int .u8 0, .int .u8 0, .int .u8 0, .int .u8 0, .int .u8 0, .int .u8 0, .int .u8 0, .int .u8 0, .int .u8 0, .int .u8 0, .int .u8 0, .int .u8 0, .int .u8 0, .int .u8 0, .int .u8 0, .int .u8 0] : List PV) = List.replicate 65 (.int .u8 0) := rfl
      rw [this, List.getElem?_replicate, if_pos (by omega)]
    rw [List.getElem?_map, List.getElem?_eq_getElem h3] at h5
    simp only [Option.map_some, Option.some.injEq, PV.int.injEq, true_and] at h5
    have h6 : z65[i] = 0 := List.getElem_replicate _
    rw [h6]
    have h7 : bs[i].toNat = 0 := by omega
    exact UInt8.toNat_inj.1 (by simpa using h7)
  subst e
  exact h

theorem alive_spec : FnSpec Try.prog f_loupelaw23_alive [] [] (.bool true) [] := by
  refine k_loupelaw23_alive.pureG (T := tabL Try.prog [(f_file_Save, ctrSaveA), (f_file_See, ctrSee), (f_file_Crash, ctrCr), (f_file_Do, ctrFDo), (f_file_Right, ctrFRight), (f_file_Plan, ctrFPlan), (f_file_Same, ctrFSame)]) 0 hD (kOk_tabL (tabOk_cons ctrSaveA_ok (tabOk_cons ctrSee_ok (tabOk_cons ctrCr_ok (tabOk_cons ctrFDo_ok (tabOk_cons ctrFRight_ok (tabOk_cons ctrFPlan_ok (tabOk_cons ctrFSame_ok tabOk_nil)))))))) hmix (by decide) fun Q hQ => ?_
  try simp only [F_all]
  have c1 : (((1 : Nat) : Int) * 65 ≤ 281474976710656) = True := eq_true (by decide)
  have c2 : (z65.length ≤ 1000000) = True := eq_true (by decide)
  have p1 := eq_true (okP_of (k := ⟨[], []⟩) (name := [97]) (s := z65) (by kernel_rfl) (by kernel_rfl) (by decide) (by decide))
  have p2 := eq_true (okP_of (k := dkA) (name := [97]) (s := [110, 101, 119]) (by kernel_rfl) (by kernel_rfl) (by decide) (by decide))
  have rA := eq_true (okR_of (k := dkA) (by kernel_rfl) (by kernel_rfl))
  have rB := eq_true (okR_of (k := dkB) (by kernel_rfl) (by kernel_rfl))
  have rC := eq_true (okR_of (k := dkC) (by kernel_rfl) (by kernel_rfl))
  have rE := eq_true (okR_of (k := dkE) (by kernel_rfl) (by kernel_rfl))
  have sA := eq_true (sm_okS (k := dkA) (by kernel_rfl))
  have kA := eq_true (show okK dkA from ⟨by decide, by decide⟩)
  have xA := eq_true (show okX ⟨3, [98], []⟩ from ⟨by decide, by decide⟩)
  have etaK : ∀ k : Dk, Dk.mk k.l k.d = k := fun _ => rfl
  have l65 : ((z65.length : Nat) : Int) = 65 := rfl
  have n4 : (((planF [97] []).length : Nat) : Int) = 4 := by rw [al8]; rfl
  simp (maxSteps := 400000) only [↓preZ, postZ, coreZ, ↓preF, postF, D_all, F_all, unR, outL, onePV, binS, ↓binS, boundR, ↓boundR, fieldOf, ↓fieldOf, boxR, allocR, newObj, zeroElem, buildSliceR, appendR, setAll, storeR, St.freeze, makeSliceR, minmaxR, makeFuncR, BEq.rfl, reduceIte, reduceCtorEq, Nat.reduceLT, Nat.reduceAdd, Nat.reduceSub, Nat.reduceMul, Nat.reduceBEq, Nat.reduceLeDiff, Int.reduceToNat, Int.reduceLE, hQ, c_loupelaw23_alive, zkB, conv65, c1, c2, ↓ctrSaveA, ofZ_r, ↓ctrSee, ↓ctrCr, ↓ctrFDo, ↓ctrFRight, ↓ctrFPlan, ↓ctrFSame, p1, p2, rA, rB, rC, rE, sA, kA, xA, etaK, l65, n4, al1, al2.1, al2.2, al3, al4.1, al4.2, al5.1, al5.2, al6, al7, Int.reduceNeg, decide_true]


def ctrAlive : Ctr := fun args objs K => match args with
  | [] => K (.bool true) objs 0
  | _ => False

theorem ctrAlive_ok : CtrOk Try.prog f_loupelaw23_alive ctrAlive := by
  intro args objs K h
  unfold ctrAlive at h
  split at h
  · exact ⟨_, _, _, .pure _ rfl alive_spec, h⟩
  · exact h.elim

end Lp

/-! LpK1 -/

namespace Lp
open Go Go.Proofs

set_option maxHeartbeats 4000000
set_option maxRecDepth 20000
set_option linter.unusedSimpArgs false

/-- Disks and texts of no more than there can be. -/
def BigK (k : Dk) : Prop := okK k ∧ okT k
def BigS (s : List UInt8) : Prop := s.length ≤ 4611686018427387904

theorem fileTells_spec (a b : Dk) (name : List UInt8) (ha : BigK a) (hb : BigK b) (_hn : BigS name) : FnSpec Try.prog f_loupelaw23_FileTells [encK a, encK b, .str name] [] (.bool true) [] := by
  refine k_loupelaw23_FileTells.pureG (T := tabL Try.prog [(f_louperef23_Small, ctrSmall), (f_loupelaw23_alive, ctrAlive), (f_louperef23_Right, ctrRRight), (f_file_Right, ctrFRight), (f_file_Same, ctrFSame), (f_louperef23_Same, ctrRSame), (f_file_See, ctrSee), (f_louperef23_See, ctrSeeR)]) 0 hD (kOk_tabL (tabOk_cons ctrSmall_ok (tabOk_cons ctrAlive_ok (tabOk_cons ctrRRight_ok (tabOk_cons ctrFRight_ok (tabOk_cons ctrFSame_ok (tabOk_cons ctrRSame_ok (tabOk_cons ctrSee_ok (tabOk_cons ctrSeeR_ok tabOk_nil))))))))) hmix (by decide) fun Q hQ => ?_
  try simp only [F_all]
  simp (maxSteps := 400000) only [↓preZ, postZ, coreZ, ↓preF, postF, D_all, F_all, unR, outL, onePV, binS, ↓binS, boundR, ↓boundR, fieldOf, ↓fieldOf, boxR, allocR, newObj, zeroElem, buildSliceR, appendR, setAll, storeR, St.freeze, makeSliceR, minmaxR, makeFuncR, BEq.rfl, reduceIte, reduceCtorEq, Nat.reduceLT, Nat.reduceAdd, Nat.reduceSub, Nat.reduceMul, Nat.reduceBEq, Nat.reduceLeDiff, Int.reduceToNat, Int.reduceLE, hQ, c_loupelaw23_FileTells]
  refine wpc_weak _ (Weak.freeze 1 0 (Nat.zero_le _) _) ?_
  have a1 := eq_true ha.1
  have a2 := eq_true ha.2
  have b1 := eq_true hb.1
  have b2 := eq_true hb.2
  cases sa : smK a
  · simp (maxSteps := 400000) only [↓preZ, postZ, coreZ, ↓preF, postF, D_all, F_all, unR, outL, onePV, binS, ↓binS, boundR, ↓boundR, fieldOf, ↓fieldOf, boxR, allocR, newObj, zeroElem, buildSliceR, appendR, setAll, storeR, St.freeze, makeSliceR, minmaxR, makeFuncR, BEq.rfl, reduceIte, reduceCtorEq, Nat.reduceLT, Nat.reduceAdd, Nat.reduceSub, Nat.reduceMul, Nat.reduceBEq, Nat.reduceLeDiff, Int.reduceToNat, Int.reduceLE, hQ, ↓ctrSmall, ↓ctrAlive, a1, a2, sa]
  cases sb : smK b
  · simp (maxSteps := 400000) only [↓preZ, postZ, coreZ, ↓preF, postF, D_all, F_all, unR, outL, onePV, binS, ↓binS, boundR, ↓boundR, fieldOf, ↓fieldOf, boxR, allocR, newObj, zeroElem, buildSliceR, appendR, setAll, storeR, St.freeze, makeSliceR, minmaxR, makeFuncR, BEq.rfl, reduceIte, reduceCtorEq, Nat.reduceLT, Nat.reduceAdd, Nat.reduceSub, Nat.reduceMul, Nat.reduceBEq, Nat.reduceLeDiff, Int.reduceToNat, Int.reduceLE, hQ, ↓ctrSmall, ↓ctrAlive, a1, a2, b1, b2, sa, sb]
  by_cases hl : name.length ≤ 100
  rotate_left 1
  · have hl' : (100 < (name.length : Int)) = True := eq_true (by omega)
    simp (maxSteps := 400000) only [↓preZ, postZ, coreZ, ↓preF, postF, D_all, F_all, unR, outL, onePV, binS, ↓binS, boundR, ↓boundR, fieldOf, ↓fieldOf, boxR, allocR, newObj, zeroElem, buildSliceR, appendR, setAll, storeR, St.freeze, makeSliceR, minmaxR, makeFuncR, BEq.rfl, reduceIte, reduceCtorEq, Nat.reduceLT, Nat.reduceAdd, Nat.reduceSub, Nat.reduceMul, Nat.reduceBEq, Nat.reduceLeDiff, Int.reduceToNat, Int.reduceLE, hQ, ↓ctrSmall, ↓ctrAlive, a1, a2, b1, b2, sa, sb, hl']
  have hl' : (100 < (name.length : Int)) = False := eq_false (by omega)
  have oa := eq_true (sm_okS sa)
  cases ra : rightK a
  · rcases tf (a = b) with e | e
    all_goals
      simp (maxSteps := 400000) only [↓preZ, postZ, coreZ, ↓preF, postF, D_all, F_all, unR, outL, onePV, binS, ↓binS, boundR, ↓boundR, fieldOf, ↓fieldOf, boxR, allocR, newObj, zeroElem, buildSliceR, appendR, setAll, storeR, St.freeze, makeSliceR, minmaxR, makeFuncR, BEq.rfl, reduceIte, reduceCtorEq, Nat.reduceLT, Nat.reduceAdd, Nat.reduceSub, Nat.reduceMul, Nat.reduceBEq, Nat.reduceLeDiff, Int.reduceToNat, Int.reduceLE, hQ, ↓ctrSmall, ↓ctrAlive, ↓ctrRRight, ↓ctrFRight, ↓ctrFSame, ↓ctrRSame, a1, a2, b1, b2, sa, sb, hl', oa, ra, e]
  have oR := okR_of sa ra
  have oR' := eq_true oR
  have oC := eq_true oR.c
  rcases tf (a = b) with e | e
  all_goals
    cases hh : hasF (seenK a) name
    all_goals
      simp (maxSteps := 400000) only [↓preZ, postZ, coreZ, ↓preF, postF, D_all, F_all, unR, outL, onePV, binS, ↓binS, boundR, ↓boundR, fieldOf, ↓fieldOf, boxR, allocR, newObj, zeroElem, buildSliceR, appendR, setAll, storeR, St.freeze, makeSliceR, minmaxR, makeFuncR, BEq.rfl, reduceIte, reduceCtorEq, Nat.reduceLT, Nat.reduceAdd, Nat.reduceSub, Nat.reduceMul, Nat.reduceBEq, Nat.reduceLeDiff, Int.reduceToNat, Int.reduceLE, hQ, ↓ctrSmall, ↓ctrAlive, ↓ctrRRight, ↓ctrFRight, ↓ctrFSame, ↓ctrRSame, ↓ctrSee, ↓ctrSeeR, a1, a2, b1, b2, sa, sb, hl', oa, ra, oR', oC, e, hh]

end Lp

/-! LpK2 -/

namespace Lp
open Go Go.Proofs

set_option maxHeartbeats 4000000
set_option maxRecDepth 20000
set_option linter.unusedSimpArgs false

theorem okK_of {k : Dk} (h : OkC k.l k.d) : okK k := by
  have := h.len
  exact ⟨by omega, by omega⟩

theorem crR_ok {k : Dk} (h : OkC k.l k.d) (n : Nat) : OkC (crR k n).l (crR k n).d := by
  have h1 := (h.take n).end doF (fun _ _ => .inl rfl)
  exact h1

theorem few_ok {k : Dk} (h : fewK k = true) : OkR k ∧ smK k = true ∧ rightK k = true := by
  unfold fewK at h
  rw [Bool.and_eq_true] at h
  exact ⟨okR_of h.1 h.2, h.1, h.2⟩

/-- One deed more: sizes. -/
theorem okP_one {k : Dk} {x : De} (hs : smK k = true) (hr : OkR k) (hx : x.name.length ≤ 100000) (ht : x.s.length ≤ 100000) : OkP k [x] := by
  have h1 := sm_small hs
  obtain ⟨⟨c1, c2, c3, c4⟩, hd⟩ := hr
  refine ⟨⟨c1, by simp; omega, ?_, fun y hy => ?_⟩, hd⟩
  · rw [masX_app]
    have : masX [x] = x.s.length := by simp [masX]
    omega
  · rcases List.mem_append.1 hy with hy | hy
    · exact c4 y hy
    · rw [List.mem_singleton.1 hy]; exact ⟨by omega, by omega⟩

theorem fileDoes_spec (d : Dk) (x : De) (n : Int) (hd : BigK d) (_hx : okX x) (hn : -9223372036854775808 ≤ n ∧ n ≤ 9223372036854775807) : FnSpec Try.prog f_loupelaw23_FileDoes [encK d, encX x, .int .i64 n] [] (.bool true) [] := by
  refine k_loupelaw23_FileDoes.pureG (T := tabL Try.prog [(f_louperef23_Few, ctrFew), (f_loupelaw23_alive, ctrAlive), (f_file_Do, ctrFDo), (f_louperef23_Do, ctrRDo), (f_louperef23_Same, ctrRSame), (f_file_Crash, ctrCr), (f_louperef23_Crash, ctrRCrash)]) 0 hD (kOk_tabL (tabOk_cons ctrFew_ok (tabOk_cons ctrAlive_ok (tabOk_cons ctrFDo_ok (tabOk_cons ctrRDo_ok (tabOk_cons ctrRSame_ok (tabOk_cons ctrCr_ok (tabOk_cons ctrRCrash_ok tabOk_nil)))))))) hmix (by decide) fun Q hQ => ?_
  try simp only [F_all]
  simp (maxSteps := 400000) only [↓preZ, postZ, coreZ, ↓preF, postF, D_all, F_all, unR, outL, onePV, binS, ↓binS, boundR, ↓boundR, fieldOf, ↓fieldOf, boxR, allocR, newObj, zeroElem, buildSliceR, appendR, setAll, storeR, St.freeze, makeSliceR, minmaxR, makeFuncR, BEq.rfl, reduceIte, reduceCtorEq, Nat.reduceLT, Nat.reduceAdd, Nat.reduceSub, Nat.reduceMul, Nat.reduceBEq, Nat.reduceLeDiff, Int.reduceToNat, Int.reduceLE, hQ, c_loupelaw23_FileDoes]
  refine wpc_weak _ (Weak.freeze 1 0 (Nat.zero_le _) _) ?_
  have a1 := eq_true hd.1
  have a2 := eq_true hd.2
  cases hf : fewK d
  · simp (maxSteps := 400000) only [↓preZ, postZ, coreZ, ↓preF, postF, D_all, F_all, unR, outL, onePV, binS, ↓binS, boundR, ↓boundR, fieldOf, ↓fieldOf, boxR, allocR, newObj, zeroElem, buildSliceR, appendR, setAll, storeR, St.freeze, makeSliceR, minmaxR, makeFuncR, BEq.rfl, reduceIte, reduceCtorEq, Nat.reduceLT, Nat.reduceAdd, Nat.reduceSub, Nat.reduceMul, Nat.reduceBEq, Nat.reduceLeDiff, Int.reduceToNat, Int.reduceLE, hQ, ↓ctrFew, ↓ctrAlive, a1, a2, hf]
  by_cases h1 : x.name.length ≤ 100
  rotate_left 1
  · have h1' : (100 < (x.name.length : Int)) = True := eq_true (by omega)
    simp (maxSteps := 400000) only [↓preZ, postZ, coreZ, ↓preF, postF, D_all, F_all, unR, outL, onePV, binS, ↓binS, boundR, ↓boundR, fieldOf, ↓fieldOf, boxR, allocR, newObj, zeroElem, buildSliceR, appendR, setAll, storeR, St.freeze, makeSliceR, minmaxR, makeFuncR, BEq.rfl, reduceIte, reduceCtorEq, Nat.reduceLT, Nat.reduceAdd, Nat.reduceSub, Nat.reduceMul, Nat.reduceBEq, Nat.reduceLeDiff, Int.reduceToNat, Int.reduceLE, hQ, ↓ctrFew, ↓ctrAlive, a1, a2, hf, h1']
  have h1' : (100 < (x.name.length : Int)) = False := eq_false (by omega)
  by_cases h2 : x.s.length ≤ 2000
  rotate_left 1
  · have h2' : (2000 < (x.s.length : Int)) = True := eq_true (by omega)
    simp (maxSteps := 400000) only [↓preZ, postZ, coreZ, ↓preF, postF, D_all, F_all, unR, outL, onePV, binS, ↓binS, boundR, ↓boundR, fieldOf, ↓fieldOf, boxR, allocR, newObj, zeroElem, buildSliceR, appendR, setAll, storeR, St.freeze, makeSliceR, minmaxR, makeFuncR, BEq.rfl, reduceIte, reduceCtorEq, Nat.reduceLT, Nat.reduceAdd, Nat.reduceSub, Nat.reduceMul, Nat.reduceBEq, Nat.reduceLeDiff, Int.reduceToNat, Int.reduceLE, hQ, ↓ctrFew, ↓ctrAlive, a1, a2, hf, h1', h2']
  have h2' : (2000 < (x.s.length : Int)) = False := eq_false (by omega)
  obtain ⟨oR, hs, hr⟩ := few_ok hf
  have oP := okP_one (x := x) hs oR (by omega) (by omega)
  have q1 := eq_true oR
  have q2 := eq_true oR.c
  have q3 := eq_true (show okX x from ⟨by omega, by omega⟩)
  have q4 := eq_true (okK_of oP.step.r.c)
  have q5 := eq_true (okK_of (crR_ok oR.c n.toNat))
  have q6 := eq_true hn
  simp (maxSteps := 400000) only [↓preZ, postZ, coreZ, ↓preF, postF, D_all, F_all, unR, outL, onePV, binS, ↓binS, boundR, ↓boundR, fieldOf, ↓fieldOf, boxR, allocR, newObj, zeroElem, buildSliceR, appendR, setAll, storeR, St.freeze, makeSliceR, minmaxR, makeFuncR, BEq.rfl, reduceIte, reduceCtorEq, Nat.reduceLT, Nat.reduceAdd, Nat.reduceSub, Nat.reduceMul, Nat.reduceBEq, Nat.reduceLeDiff, Int.reduceToNat, Int.reduceLE, hQ, ↓ctrFew, ↓ctrAlive, ↓ctrFDo, ↓ctrRDo, ↓ctrRSame, ↓ctrCr, ↓ctrRCrash, a1, a2, hf, h1', h2', q1, q2, q3, q4, q5, q6, etaR, decide_true]

end Lp

/-! LpK3 -/

namespace Lp
open Go Go.Proofs

set_option maxHeartbeats 4000000
set_option maxRecDepth 20000
set_option linter.unusedSimpArgs false

/-- A save that is asked about, of no more than there can be. -/
structure BigQ (q : Sv) : Prop where
  d : BigK q.d
  name : BigS q.name
  s : BigS q.s
  other : BigS q.other
  stop : -9223372036854775808 ≤ q.stop ∧ q.stop ≤ 9223372036854775807
  n : -9223372036854775808 ≤ q.n ∧ q.n ≤ 9223372036854775807

theorem save_ok {k : Dk} {name s : List UInt8} {stop : Int} (h : OkP k (planF name s)) : OkR (saveK k name s stop).1 := by
  unfold saveK
  split
  · exact h.r
  · have hc : cntP (planF name s).length stop ≤ (planF name s).length := by unfold cntP; split <;> omega
    exact (h.at hc).r

/-- What is known of a save that may be asked about. -/
structure GivQ (q : Sv) : Prop where
  r : OkR q.d
  sm : smK q.d = true
  rt : rightK q.d = true
  p : OkP q.d (planF q.name q.s)
  name : q.name.length ≤ 100
  s : q.s.length ≤ 2000
  other : q.other.length ≤ 100

theorem given_ok {q : Sv} (h : givenQ q = true) : GivQ q := by
  unfold givenQ at h
  simp only [Bool.and_eq_true, decide_eq_true_eq] at h
  obtain ⟨h1, h2, h3, h4⟩ := h
  obtain ⟨a, b, c⟩ := few_ok h1
  exact ⟨a, b, c, okP_of b c (by omega) (by omega), h2, h3, h4⟩

theorem fileSaves_spec (q : Sv) (hq : BigQ q) : FnSpec Try.prog f_loupelaw23_FileSaves [encQ q] [] (.bool true) [] := by
  refine k_loupelaw23_FileSaves.pureG (T := tabL Try.prog [(f__loupelaw23_SaveIn__given, ctrGiven), (f_loupelaw23_alive, ctrAlive), (f_file_Save, ctrFSave), (f_louperef23_Save, ctrRSave), (f_file_Plan, ctrFPlan), (f_louperef23_Plan, ctrRPlan), (f_louperef23_Same, ctrRSame)]) 0 hD (kOk_tabL (tabOk_cons ctrGiven_ok (tabOk_cons ctrAlive_ok (tabOk_cons ctrFSave_ok (tabOk_cons ctrRSave_ok (tabOk_cons ctrFPlan_ok (tabOk_cons ctrRPlan_ok (tabOk_cons ctrRSame_ok tabOk_nil)))))))) hmix (by decide) fun Q hQ => ?_
  try simp only [F_all]
  simp (maxSteps := 400000) only [↓preZ, postZ, coreZ, ↓preF, postF, D_all, F_all, unR, outL, onePV, binS, ↓binS, boundR, ↓boundR, fieldOf, ↓fieldOf, boxR, allocR, newObj, zeroElem, buildSliceR, appendR, setAll, storeR, St.freeze, makeSliceR, minmaxR, makeFuncR, BEq.rfl, reduceIte, reduceCtorEq, Nat.reduceLT, Nat.reduceAdd, Nat.reduceSub, Nat.reduceMul, Nat.reduceBEq, Nat.reduceLeDiff, Int.reduceToNat, Int.reduceLE, hQ, c_loupelaw23_FileSaves]
  refine wpc_weak _ (Weak.freeze 1 0 (Nat.zero_le _) _) ?_
  have a1 := eq_true hq.d.1
  have a2 := eq_true hq.d.2
  have a3 := eq_true (show q.name.length ≤ 4611686018427387904 from hq.name)
  have a4 := eq_true (show q.s.length ≤ 4611686018427387904 from hq.s)
  have a5 := eq_true (show q.other.length ≤ 4611686018427387904 from hq.other)
  have etaQ : Sv.mk (Dk.mk q.d.l q.d.d) q.name q.s q.stop q.n q.other = q := rfl
  cases hg : givenQ q
  · simp (maxSteps := 400000) only [↓preZ, postZ, coreZ, ↓preF, postF, D_all, F_all, unR, outL, onePV, binS, ↓binS, boundR, ↓boundR, fieldOf, ↓fieldOf, boxR, allocR, newObj, zeroElem, buildSliceR, appendR, setAll, storeR, St.freeze, makeSliceR, minmaxR, makeFuncR, BEq.rfl, reduceIte, reduceCtorEq, Nat.reduceLT, Nat.reduceAdd, Nat.reduceSub, Nat.reduceMul, Nat.reduceBEq, Nat.reduceLeDiff, Int.reduceToNat, Int.reduceLE, hQ, ↓ctrGiven, ↓ctrAlive, a1, a2, a3, a4, a5, hg]
  have g := given_ok hg
  have b1 : (q.name.length ≤ 1000000) = True := eq_true (by have := g.name; omega)
  have b2 : (q.s.length ≤ 1000000) = True := eq_true (by have := g.s; omega)
  have b3 := eq_true g.p
  have okS := okK_of (save_ok (stop := q.stop) g.p).c
  have hpl : (planF q.name q.s).length ≤ 999998 := by have := g.p.c.len; simp at this; omega
  generalize hsv : saveK q.d q.name q.s q.stop = r at okS
  obtain ⟨k', c, e⟩ := r
  have okS' := eq_true okS
  generalize hp : planF q.name q.s = p at hpl b3
  simp (maxSteps := 400000) only [↓preZ, postZ, coreZ, ↓preF, postF, D_all, F_all, unR, outL, onePV, binS, ↓binS, boundR, ↓boundR, fieldOf, ↓fieldOf, boxR, allocR, newObj, zeroElem, buildSliceR, appendR, setAll, storeR, St.freeze, makeSliceR, minmaxR, makeFuncR, BEq.rfl, reduceIte, reduceCtorEq, Nat.reduceLT, Nat.reduceAdd, Nat.reduceSub, Nat.reduceMul, Nat.reduceBEq, Nat.reduceLeDiff, Int.reduceToNat, Int.reduceLE, hQ, ↓ctrGiven, ↓ctrAlive, ↓ctrFSave, ↓ctrRSave, ↓ctrFPlan, ↓ctrRPlan, a1, a2, a3, a4, a5, hg, b1, b2, b3, hsv, hp, etaR]
  refine wpc_loop (fun m S => ∃ i : Nat, i + m = p.length ∧ S = ⟨tmA 88 [(3, .optr 0 1 0 0), (4, .int .i64 c), (5, .int .i64 e), (6, .optr 1 1 0 0), (7, .int .i64 c), (8, .int .i64 e), (9, encXs p), (10, encXs p), (11, .int .i64 i)],
    [⟨t_api_Disk, 2, [encK k'], true, 1⟩, ⟨t_api_Disk, 2, [encK k'], true, 1⟩]⟩) p.length ⟨0, by omega, ?_⟩ ?_
  · simp only [normR, keepR, Nat.reduceAdd, lkR, Nat.reduceBEq, F_all, List.map_nil]
    rfl
  rintro m S ⟨i, him, rfl⟩
  have zi : (0 ≤ (i : Int)) = True := eq_true (by omega)
  rcases Nat.lt_or_ge i p.length with h | h
  · have hlt : ((i : Int) < (p.length : Int)) = True := eq_true (by omega)
    have ga := List.getElem?_eq_getElem h
    generalize p[i] = x at ga
    simp (maxSteps := 400000) only [↓preZ, postZ, coreZ, ↓preF, postF, D_all, F_all, unR, outL, onePV, binS, ↓binS, boundR, ↓boundR, fieldOf, ↓fieldOf, boxR, allocR, newObj, zeroElem, buildSliceR, appendR, setAll, storeR, St.freeze, makeSliceR, minmaxR, makeFuncR, BEq.rfl, reduceIte, reduceCtorEq, Nat.reduceLT, Nat.reduceAdd, Nat.reduceSub, Nat.reduceMul, Nat.reduceBEq, Nat.reduceLeDiff, Int.reduceToNat, Int.reduceLE, hQ, hlt, zi, ga, decide_true]
    exact ⟨⟨by omega, by omega⟩, m - 1, by omega, i + 1, by omega, rfl⟩
  have hlt : ((i : Int) < (p.length : Int)) = False := eq_false (by omega)
  simp (maxSteps := 400000) only [↓preZ, postZ, coreZ, ↓preF, postF, D_all, F_all, unR, outL, onePV, binS, ↓binS, boundR, ↓boundR, fieldOf, ↓fieldOf, boxR, allocR, newObj, zeroElem, buildSliceR, appendR, setAll, storeR, St.freeze, makeSliceR, minmaxR, makeFuncR, BEq.rfl, reduceIte, reduceCtorEq, Nat.reduceLT, Nat.reduceAdd, Nat.reduceSub, Nat.reduceMul, Nat.reduceBEq, Nat.reduceLeDiff, Int.reduceToNat, Int.reduceLE, hQ, hlt, ↓ctrAlive, ↓ctrRSame, okS', etaR, decide_true]

end Lp

/-! LpRd3 -/

namespace Lp
open Go Go.Proofs

set_option maxHeartbeats 2000000
set_option maxRecDepth 20000

theorem one_cell {t : TypeId} (hc : Try.prog.cellsOf t = 1) {cs : List Value} {off : Nat} {v : Value} (h : cs[off]? = some v) : (cs.drop off).take (Try.prog.cellsOf t) = [v] := by
  rw [hc]
  have hl := (List.getElem?_eq_some_iff.1 h).1
  rw [show (cs.drop off) = cs[off] :: cs.drop (off + 1) from List.drop_eq_getElem_cons hl]
  rw [List.getElem?_eq_getElem hl] at h
  cases h
  rw [List.take_succ_cons, List.take_zero]

theorem u_int : Try.prog.underlying t_int = some (.int .i64) := by kernel_rfl
theorem u_string : Try.prog.underlying t_string = some .string := by kernel_rfl
theorem u_bool : Try.prog.underlying t_bool = some .bool := by kernel_rfl
theorem u_files : Try.prog.underlying t_L_api_File = some (.slice t_api_File) := by kernel_rfl
theorem u_deeds : Try.prog.underlying t_L_api_Deed = some (.slice t_api_Deed) := by kernel_rfl
theorem c_int : Try.prog.cellsOf t_int = 1 := by kernel_rfl
theorem c_string : Try.prog.cellsOf t_string = 1 := by kernel_rfl
theorem c_files : Try.prog.cellsOf t_L_api_File = 1 := by kernel_rfl
theorem c_deeds : Try.prog.cellsOf t_L_api_Deed = 1 := by kernel_rfl

theorem u_file : ∃ fs : Array Field, Try.prog.underlying t_api_File = some (.struct fs) ∧ fs.toList.map (fun f => (f.offset, f.type)) = [(0, t_string), (1, t_string)] :=
  ⟨Try.prog.fieldsOf t_api_File, by kernel_rfl, by kernel_rfl⟩
theorem u_deed : ∃ fs : Array Field, Try.prog.underlying t_api_Deed = some (.struct fs) ∧ fs.toList.map (fun f => (f.offset, f.type)) = [(0, t_int), (1, t_string), (2, t_string)] :=
  ⟨Try.prog.fieldsOf t_api_Deed, by kernel_rfl, by kernel_rfl⟩
theorem u_disk : ∃ fs : Array Field, Try.prog.underlying t_api_Disk = some (.struct fs) ∧ fs.toList.map (fun f => (f.offset, f.type)) = [(0, t_L_api_File), (1, t_L_api_Deed)] :=
  ⟨Try.prog.fieldsOf t_api_Disk, by kernel_rfl, by kernel_rfl⟩
theorem u_save : ∃ fs : Array Field, Try.prog.underlying t_loupelaw23_SaveIn = some (.struct fs) ∧ fs.toList.map (fun f => (f.offset, f.type)) = [(0, t_api_Disk), (2, t_string), (3, t_string), (4, t_int), (5, t_int), (6, t_string)] :=
  ⟨Try.prog.fieldsOf t_loupelaw23_SaveIn, by kernel_rfl, by kernel_rfl⟩
theorem u_n2 : Try.prog.underlying t__2_int = some (.array 2 t_int) := by kernel_rfl

def okF (f : Fl) : Prop := f.name.length ≤ 4611686018427387904 ∧ f.s.length ≤ 4611686018427387904

theorem repL_cons {R : PV → Value → Prop} {p : PV} {ps : List PV} {v : Value} {vs : List Value} (h : R p v) (hs : RepL R ps vs) : RepL R (p :: ps) (v :: vs) :=
  ⟨by simp [hs.1], fun i q u h1 h2 => by
    cases i with
    | zero => simp at h1 h2; subst h1; subst h2; exact h
    | succ i => exact hs.2 i q u (by simpa using h1) (by simpa using h2)⟩

theorem repL_nil {R : PV → Value → Prop} : RepL R [] [] := ⟨rfl, fun i q u h1 => by simp at h1⟩

theorem rd_file : Rd Try.prog t_api_File encF okF := by
  intro H eh w fuel cs x h hw
  obtain ⟨fs, ht, hfs⟩ := u_file
  obtain ⟨hl, hp⟩ := struct_parts ht h hw
  rw [hfs] at hp
  have hc : Try.prog.cellsOf t_api_File = 2 := by kernel_rfl
  rw [hc] at hl
  match cs, hl with
  | [v0, v1], _ =>
    obtain ⟨n0, y0, a0, b0⟩ := hp 0 0 t_string rfl
    obtain ⟨n1, y1, a1, b1⟩ := hp 1 1 t_string rfl
    rw [one_cell c_string (v := v0) rfl] at a0
    rw [one_cell c_string (v := v1) rfl] at a1
    obtain ⟨nm, g0, r0⟩ := Rd.str u_string eh w n0 _ _ a0 b0
    obtain ⟨s, g1, r1⟩ := Rd.str u_string eh w n1 _ _ a1 b1
    rw [reachBytes] at g0 g1
    exact ⟨⟨nm, s⟩, ⟨by show nm.length ≤ _; omega, by show s.length ≤ _; omega⟩, repL_cons (r0.2 0 _ _ rfl rfl) (repL_cons (r1.2 0 _ _ rfl rfl) repL_nil)⟩

theorem rd_deed : Rd Try.prog t_api_Deed encX okX := by
  intro H eh w fuel cs x h hw
  obtain ⟨fs, ht, hfs⟩ := u_deed
  obtain ⟨hl, hp⟩ := struct_parts ht h hw
  rw [hfs] at hp
  have hc : Try.prog.cellsOf t_api_Deed = 3 := by kernel_rfl
  rw [hc] at hl
  match cs, hl with
  | [v0, v1, v2], _ =>
    obtain ⟨n0, y0, a0, b0⟩ := hp 0 0 t_int rfl
    obtain ⟨n1, y1, a1, b1⟩ := hp 1 1 t_string rfl
    obtain ⟨n2, y2, a2, b2⟩ := hp 2 2 t_string rfl
    rw [one_cell c_int (v := v0) rfl] at a0
    rw [one_cell c_string (v := v1) rfl] at a1
    rw [one_cell c_string (v := v2) rfl] at a2
    obtain ⟨k, _, r0⟩ := Rd.int u_int eh w n0 _ _ a0 b0
    obtain ⟨nm, g1, r1⟩ := Rd.str u_string eh w n1 _ _ a1 b1
    obtain ⟨s, g2, r2⟩ := Rd.str u_string eh w n2 _ _ a2 b2
    rw [reachBytes] at g1 g2
    exact ⟨⟨k, nm, s⟩, ⟨by show nm.length ≤ _; omega, by show s.length ≤ _; omega⟩, repL_cons (r0.2 0 _ _ rfl rfl) (repL_cons (r1.2 0 _ _ rfl rfl) (repL_cons (r2.2 0 _ _ rfl rfl) repL_nil))⟩

theorem rd_files : Rd Try.prog t_L_api_File encFs (fun l => l.length ≤ 4611686018427387904 ∧ ∀ f ∈ l, okF f) := by
  intro H eh w fuel cs x h hw
  obtain ⟨v, ⟨h1, h2⟩, h3⟩ := Rd.slice (sz := 2) u_files rd_file (by kernel_rfl) (by decide) (fun _ => rfl) eh w fuel cs x h hw
  have hb : Try.prog.bytesOf t_api_File = 32 := by kernel_rfl
  rw [hb, reachBytes] at h1
  exact ⟨v, ⟨by omega, h2⟩, h3⟩

theorem rd_deeds : Rd Try.prog t_L_api_Deed encXs (fun l => l.length ≤ 4611686018427387904 ∧ ∀ f ∈ l, okX f) := by
  intro H eh w fuel cs x h hw
  obtain ⟨v, ⟨h1, h2⟩, h3⟩ := Rd.slice (sz := 3) u_deeds rd_deed (by kernel_rfl) (by decide) (fun _ => rfl) eh w fuel cs x h hw
  have hb : Try.prog.bytesOf t_api_Deed = 40 := by kernel_rfl
  rw [hb, reachBytes] at h1
  exact ⟨v, ⟨by omega, h2⟩, h3⟩

theorem rd_disk : Rd Try.prog t_api_Disk encK BigK := by
  intro H eh w fuel cs x h hw
  obtain ⟨fs, ht, hfs⟩ := u_disk
  obtain ⟨hl, hp⟩ := struct_parts ht h hw
  rw [hfs] at hp
  have hc : Try.prog.cellsOf t_api_Disk = 2 := by kernel_rfl
  rw [hc] at hl
  match cs, hl with
  | [v0, v1], _ =>
    obtain ⟨n0, y0, a0, b0⟩ := hp 0 0 t_L_api_File rfl
    obtain ⟨n1, y1, a1, b1⟩ := hp 1 1 t_L_api_Deed rfl
    rw [one_cell c_files (v := v0) rfl] at a0
    rw [one_cell c_deeds (v := v1) rfl] at a1
    obtain ⟨l, g0, r0⟩ := rd_files eh w n0 _ _ a0 b0
    obtain ⟨d, g1, r1⟩ := rd_deeds eh w n1 _ _ a1 b1
    exact ⟨⟨l, d⟩, ⟨⟨g0.1, g1.1⟩, ⟨g0.2, g1.2⟩⟩, repL_cons (r0.2 0 _ _ rfl rfl) (repL_cons (r1.2 0 _ _ rfl rfl) repL_nil)⟩

theorem rd_save : Rd Try.prog t_loupelaw23_SaveIn encQ BigQ := by
  intro H eh w fuel cs x h hw
  obtain ⟨fs, ht, hfs⟩ := u_save
  obtain ⟨hl, hp⟩ := struct_parts ht h hw
  rw [hfs] at hp
  have hc : Try.prog.cellsOf t_loupelaw23_SaveIn = 7 := by kernel_rfl
  rw [hc] at hl
  match cs, hl with
  | [v0, v1, v2, v3, v4, v5, v6], _ =>
    obtain ⟨n0, y0, a0, b0⟩ := hp 0 0 t_api_Disk rfl
    obtain ⟨n2, y2, a2, b2⟩ := hp 1 2 t_string rfl
    obtain ⟨n3, y3, a3, b3⟩ := hp 2 3 t_string rfl
    obtain ⟨n4, y4, a4, b4⟩ := hp 3 4 t_int rfl
    obtain ⟨n5, y5, a5, b5⟩ := hp 4 5 t_int rfl
    obtain ⟨n6, y6, a6, b6⟩ := hp 5 6 t_string rfl
    have hcd : Try.prog.cellsOf t_api_Disk = 2 := by kernel_rfl
    rw [hcd] at a0
    rw [one_cell c_string (v := v2) rfl] at a2
    rw [one_cell c_string (v := v3) rfl] at a3
    rw [one_cell c_int (v := v4) rfl] at a4
    rw [one_cell c_int (v := v5) rfl] at a5
    rw [one_cell c_string (v := v6) rfl] at a6
    obtain ⟨k, g0, r0⟩ := rd_disk eh w n0 _ _ a0 b0
    obtain ⟨nm, g2, r2⟩ := Rd.str u_string eh w n2 _ _ a2 b2
    obtain ⟨s, g3, r3⟩ := Rd.str u_string eh w n3 _ _ a3 b3
    obtain ⟨st, g4, r4⟩ := Rd.int u_int eh w n4 _ _ a4 b4
    obtain ⟨n, g5, r5⟩ := Rd.int u_int eh w n5 _ _ a5 b5
    obtain ⟨o, g6, r6⟩ := Rd.str u_string eh w n6 _ _ a6 b6
    rw [reachBytes] at g2 g3 g6
    refine ⟨⟨k, nm, s, st, n, o⟩, ⟨g0, by show nm.length ≤ _; omega, by show s.length ≤ _; omega, by show o.length ≤ _; omega, by simpa [inR] using g4, by simpa [inR] using g5⟩, ?_⟩
    exact repL_cons (r0.2 0 _ v0 rfl rfl) (repL_cons (r0.2 1 _ v1 rfl rfl) (repL_cons (r2.2 0 _ _ rfl rfl) (repL_cons (r3.2 0 _ _ rfl rfl) (repL_cons (r4.2 0 _ _ rfl rfl) (repL_cons (r5.2 0 _ _ rfl rfl) (repL_cons (r6.2 0 _ _ rfl rfl) repL_nil))))))

section
variable {H : Type} {eh : TypeId × Value → H} {w : World} {base : Nat} {v : Value} {d : DataW H} {p : List MemPlace}

/-- An argument that is a struct. -/
theorem rd_struct {t : TypeId} {α : Type} {enc : α → PV} {good : α → Prop} (hu : ∃ fs, Try.prog.underlying t = some (.struct fs)) (hr : Rd Try.prog t enc good) (h1 : ∀ a, enc a = .agg (enc a).cells)
    (hv : Value.okWide Try.prog w .any base t v) (h : DataW.Trod eh Try.prog w 0 (fun _ => true) true t v d p) (hw : ∀ n ∈ DataW.weights Try.prog t d, n ≤ reachBytes) : ∃ a : α, good a ∧ Rep w (fun _ => True) (enc a) v := by
  obtain ⟨fs, hu⟩ := hu
  obtain ⟨⟨cs⟩, rfl, _⟩ := Go.WideShapes.okWide_struct hu hv
  obtain ⟨fuel, h⟩ := h
  obtain ⟨a, g, r⟩ := hr eh w fuel _ _ h hw
  refine ⟨a, g, ?_⟩
  rw [h1 a]
  exact .agg _ _ r.1 r.2

theorem rd_K (hv : Value.okWide Try.prog w .any base t_api_Disk v) (h : DataW.Trod eh Try.prog w 0 (fun _ => true) true t_api_Disk v d p) (hw : ∀ n ∈ DataW.weights Try.prog t_api_Disk d, n ≤ reachBytes) : ∃ a, BigK a ∧ Rep w (fun _ => True) (encK a) v :=
  rd_struct (by obtain ⟨fs, h, _⟩ := u_disk; exact ⟨fs, h⟩) rd_disk (fun _ => rfl) hv h hw

theorem rd_D (hv : Value.okWide Try.prog w .any base t_api_Deed v) (h : DataW.Trod eh Try.prog w 0 (fun _ => true) true t_api_Deed v d p) (hw : ∀ n ∈ DataW.weights Try.prog t_api_Deed d, n ≤ reachBytes) : ∃ a, okX a ∧ Rep w (fun _ => True) (encX a) v :=
  rd_struct (by obtain ⟨fs, h, _⟩ := u_deed; exact ⟨fs, h⟩) rd_deed (fun _ => rfl) hv h hw

theorem rd_Q (hv : Value.okWide Try.prog w .any base t_loupelaw23_SaveIn v) (h : DataW.Trod eh Try.prog w 0 (fun _ => true) true t_loupelaw23_SaveIn v d p) (hw : ∀ n ∈ DataW.weights Try.prog t_loupelaw23_SaveIn d, n ≤ reachBytes) : ∃ a, BigQ a ∧ Rep w (fun _ => True) (encQ a) v :=
  rd_struct (by obtain ⟨fs, h, _⟩ := u_save; exact ⟨fs, h⟩) rd_save (fun _ => rfl) hv h hw

theorem rd_S (hv : Value.okWide Try.prog w .any base t_string v) (h : DataW.Trod eh Try.prog w 0 (fun _ => true) true t_string v d p) (hw : ∀ n ∈ DataW.weights Try.prog t_string d, n ≤ reachBytes) : ∃ a, BigS a ∧ Rep w (fun _ => True) (.str a) v := by
  obtain ⟨s, rfl⟩ := Go.WideShapes.okWide_string u_string hv
  obtain ⟨fuel, h⟩ := h
  obtain ⟨a, g, r⟩ := Rd.str u_string eh w fuel _ _ h hw
  rw [reachBytes] at g
  exact ⟨a, by show a.length ≤ _; omega, r.2 0 _ _ rfl rfl⟩

theorem rd_I (hv : Value.okWide Try.prog w .any base t_int v) (h : DataW.Trod eh Try.prog w 0 (fun _ => true) true t_int v d p) (hw : ∀ n ∈ DataW.weights Try.prog t_int d, n ≤ reachBytes) :
    ∃ a : Int, (-9223372036854775808 ≤ a ∧ a ≤ 9223372036854775807) ∧ Rep w (fun _ => True) (.int .i64 a) v := by
  obtain ⟨n, rfl⟩ := Go.WideShapes.okWide_int u_int hv
  obtain ⟨fuel, h⟩ := h
  obtain ⟨a, g, r⟩ := Rd.int u_int eh w fuel _ _ h hw
  exact ⟨a, by simpa [inR] using g, r.2 0 _ _ rfl rfl⟩

end
end Lp

/-! LpP5 -/

namespace Lp
open Go

/-! ### What a name holds -/

def lk (l : List Fl) (s : List UInt8) : Option (List UInt8) := (l.find? fun f => decide (f.name = s)).map Fl.s

theorem has_lk (l : List Fl) (s : List UInt8) : hasF l s = (lk l s).isSome := by
  simp only [hasF, lk, Option.isSome_map]
  induction l with
  | nil => rfl
  | cons a l ih =>
    simp only [List.any_cons, List.find?_cons]
    cases decide (a.name = s) <;> simp [ih]

theorem get_lk (l : List Fl) (s : List UInt8) : getF l s = (lk l s).getD [] := rfl

theorem lk_cons (a : Fl) (l : List Fl) (s : List UInt8) : lk (a :: l) s = if a.name = s then some a.s else lk l s := by
  by_cases h : a.name = s <;> simp [lk, h]

theorem lk_drp (l : List Fl) (n s : List UInt8) : lk (drpF l n) s = if s = n then none else lk l s := by
  induction l with
  | nil => simp [drpF, lk]
  | cons a l ih =>
    by_cases ha : a.name = n
    · have hd : drpF (a :: l) n = drpF l n := by simp [drpF, ha]
      rw [hd, ih, lk_cons, ha]
      by_cases hs : s = n
      · simp [hs]
      · have : ¬ n = s := fun h => hs h.symm
        simp [hs, this]
    · have hd : drpF (a :: l) n = a :: drpF l n := by simp [drpF, ha]
      rw [hd, lk_cons, lk_cons, ih]
      by_cases hs : s = n
      · subst hs; simp [ha]
      · simp [hs]

theorem lk_gt {a : Fl} {l : List Fl} {s : List UInt8} (h : RisF (a :: l)) (hs : s = a.name ∨ Op.bytesLess s a.name = true) : lk l s = none := by
  have h1 := has_gt h hs
  rw [has_lk] at h1
  simpa using h1

theorem lk_lay {l : List Fl} (f : Fl) (s : List UInt8) (h : RisF l) : lk (layF l f) s = if s = f.name then some f.s else lk l s := by
  induction l with
  | nil =>
    simp only [layF, lk_cons]
    by_cases hs : s = f.name
    · simp [hs]
    · have : ¬ f.name = s := fun h => hs h.symm
      simp [hs, this]
  | cons a l ih =>
    have ih := ih (ris_tail h)
    simp only [layF]
    split
    · rename_i h1
      rw [lk_cons, lk_cons, ih]
      by_cases hs : s = f.name
      · subst hs
        have : ¬ a.name = f.name := fun e => by rw [e, bl_irrefl] at h1; cases h1
        simp [this]
      · simp [hs]
    · split
      · rename_i h1 h2
        rw [lk_cons, lk_cons]
        by_cases hs : s = f.name
        · subst hs; simp
        · have h3 : ¬ f.name = s := fun h => hs h.symm
          have h4 : ¬ a.name = s := by rw [h2]; exact h3
          simp [hs, h3, h4]
      · rename_i h1 h2
        rw [lk_cons, lk_cons]
        by_cases hs : s = f.name
        · subst hs; simp
        · have h3 : ¬ f.name = s := fun h => hs h.symm
          simp [hs, h3]

/-! ### What a deed leaves -/

theorem do_new {l : List Fl} (n s : List UInt8) (h : RisF l) (t : List UInt8) : lk (doF l ⟨0, n, s⟩) t = if t = n then some [] else lk l t := by
  simp [doF, needsD, lk_lay _ _ h]

theorem do_more {l : List Fl} {n s u : List UInt8} (h : RisF l) (hu : lk l n = some u) (t : List UInt8) : lk (doF l ⟨1, n, s⟩) t = if t = n then some (u ++ s) else lk l t := by
  have hh : hasF l n = true := by rw [has_lk, hu]; rfl
  have hg : getF l n = u := by rw [get_lk, hu]; rfl
  simp [doF, needsD, hh, hg, lk_lay _ _ h]

theorem do_move {l : List Fl} {n s u : List UInt8} (h : RisF l) (hu : lk l n = some u) (t : List UInt8) : lk (doF l ⟨2, n, s⟩) t = if t = s then some u else if t = n then none else lk l t := by
  have hh : hasF l n = true := by rw [has_lk, hu]; rfl
  have hg : getF l n = u := by rw [get_lk, hu]; rfl
  simp [doF, needsD, hh, hg, lk_lay _ _ (ris_drp n h), lk_drp]

theorem do_drop {l : List Fl} {n s u : List UInt8} (hu : lk l n = some u) (t : List UInt8) : lk (doF l ⟨3, n, s⟩) t = if t = n then none else lk l t := by
  have hh : hasF l n = true := by rw [has_lk, hu]; rfl
  simp [doF, needsD, hh, lk_drp]

theorem do_flush (l : List Fl) (n s : List UInt8) : doF l ⟨4, n, s⟩ = l := by simp [doF, needsD]

/-! ### What is right stays right -/

theorem nm_iff2 (l : List Fl) : nmF l = true ↔ RisF l ∧ ∀ f ∈ l, nameOk f.name = true := by
  constructor
  · intro h
    refine ⟨nm_ris h, fun f hf => ?_⟩
    obtain ⟨j, hj, rfl⟩ := List.mem_iff_getElem.1 hf
    exact ((nmF_iff l).1 h).1 j _ (List.getElem?_eq_getElem hj)
  · rintro ⟨h1, h2⟩
    refine (nmF_iff l).2 ⟨fun j f hf => h2 f (List.mem_of_getElem? hf), fun j a b ha hb => ris_lt h1 (by omega) ha hb⟩

theorem mem_drp {l : List Fl} {s : List UInt8} {f : Fl} (h : f ∈ drpF l s) : f ∈ l := (List.mem_filter.1 h).1

theorem nm_lay {l : List Fl} {f : Fl} (h : nmF l = true) (hf : nameOk f.name = true) : nmF (layF l f) = true := by
  rw [nm_iff2] at h ⊢
  refine ⟨ris_lay f h.1, fun g hg => ?_⟩
  rcases mem_lay hg with rfl | hg
  · exact hf
  · exact h.2 g hg

theorem nm_drp {l : List Fl} (s : List UInt8) (h : nmF l = true) : nmF (drpF l s) = true := by
  rw [nm_iff2] at h ⊢
  exact ⟨ris_drp s h.1, fun g hg => h.2 g (mem_drp hg)⟩

theorem nm_do {l : List Fl} {x : De} (h : nmF l = true) (hc : canF l x = true) : nmF (doF l x) = true := by
  unfold canF at hc
  rw [Bool.and_eq_true] at hc
  have hm := hc.1
  unfold doF
  split
  · exact h
  · split
    · rename_i k0
      refine nm_lay h ?_
      simp [mayD, k0] at hm
      exact hm.1
    · split
      · rename_i k1
        refine nm_lay h ?_
        simpa [mayD, k1] using hm
      · split
        · rename_i k2
          refine nm_lay (nm_drp _ h) ?_
          simp [mayD, k2] at hm
          exact hm.2
        · split
          · exact nm_drp _ h
          · exact h

theorem nm_all : ∀ {d : List De} {l : List Fl} (n : Nat), nmF l = true → dsF l d = true → nmF ((d.take n).foldl doF l) = true
  | [], l, n, h, _ => by simpa using h
  | x :: d, l, 0, h, _ => h
  | x :: d, l, n + 1, h, hd => by
    rw [dsF, Bool.and_eq_true] at hd
    simp only [List.take_succ_cons, List.foldl_cons]
    exact nm_all n (nm_do h hd.1) hd.2

theorem right_nm {k : Dk} (h : rightK k = true) : nmF k.l = true ∧ dsF k.l k.d = true := by
  unfold rightK at h; rwa [Bool.and_eq_true] at h

theorem nm_seen {k : Dk} (h : rightK k = true) : nmF (seenK k) = true := by
  have := nm_all k.d.length (right_nm h).1 (right_nm h).2
  rwa [List.take_length] at this

theorem right_l {l : List Fl} (h : nmF l = true) : rightK ⟨l, []⟩ = true := by simp [rightK, h, dsF]

theorem right_cr {k : Dk} (h : rightK k = true) (n : Nat) : rightK (crR k n) = true := right_l (nm_all n (right_nm h).1 (right_nm h).2)

theorem right_do {k : Dk} (h : rightK k = true) (x : De) : rightK (doK k x).1 = true := by
  unfold doK
  split
  · exact h
  · split
    · exact h
    · rename_i hc
      split
      · exact right_l (nm_seen h)
      · obtain ⟨h1, h2⟩ := right_nm h
        have hc' : canF (k.d.foldl doF k.l) x = true := by
          cases hcc : canF (seenK k) x with
          | true => exact hcc
          | false => exact absurd hcc hc
        unfold rightK
        rw [h1, ds_snoc, h2, hc']; rfl

theorem right_doL {k : Dk} (p : List De) (h : rightK k = true) : rightK (doL k p) = true := by
  induction p generalizing k with
  | nil => exact h
  | cons x p ih => exact ih (right_do h x)

/-! ### What is seen, and what a crash leaves -/

theorem seen_do (k : Dk) (x : De) : seenK (doK k x).1 = fdo (seenK k) x := by
  unfold doK
  by_cases hm : mayD x = true
  · by_cases hc : canF (seenK k) x = true
    · have e : fdo (seenK k) x = doF (seenK k) x := by simp [fdo, hc]
      rw [e]
      by_cases k4 : x.kind = 4
      · obtain ⟨kd, n, s⟩ := x
        simp only [] at k4
        subst k4
        rw [do_flush]
        rw [if_neg (by simp [hm]), if_neg (by simp [hc]), if_pos rfl]; rfl
      · rw [if_neg (by simp [hm]), if_neg (by simp [hc]), if_neg k4]; simp [seenK]
    · have e : fdo (seenK k) x = seenK k := by simp [fdo, hc]
      simp [hm, hc, e]
  · have hc : canF (seenK k) x = false := by simp [canF, hm]
    have e : fdo (seenK k) x = seenK k := by simp [fdo, hc]
    simp [hm, e]

theorem seen_doL (k : Dk) (p : List De) : seenK (doL k p) = p.foldl fdo (seenK k) := by
  induction p generalizing k with
  | nil => rfl
  | cons x p ih =>
    show seenK (doL (doK k x).1 p) = _
    rw [ih, seen_do]; rfl

theorem doL_app (k : Dk) (p : List De) (x : De) : doL k (p ++ [x]) = (doK (doL k p) x).1 := by
  unfold doL; rw [List.foldl_append]; rfl

/-- Whatever a crash leaves of a disk that had no deeds was seen at some time. -/
theorem crash_seen (l : List Fl) (p : List De) : ∀ n : Nat, ∃ j, j ≤ p.length ∧ (crR (doL ⟨l, []⟩ p) n).l = (p.take j).foldl fdo l := by
  have hs : ∀ p, seenK (doL ⟨l, []⟩ p) = p.foldl fdo l := fun p => by rw [seen_doL]; rfl
  suffices h : ∀ m, ∀ p : List De, p.length = m → ∀ n : Nat, ∃ j, j ≤ p.length ∧ (crR (doL ⟨l, []⟩ p) n).l = (p.take j).foldl fdo l from h _ p rfl
  intro m
  induction m with
  | zero =>
    intro p hp n
    have : p = [] := List.eq_nil_of_length_eq_zero hp
    subst this
    exact ⟨0, by simp, by simp [crR, doL]⟩
  | succ m ih =>
    intro p hp n
    obtain ⟨q, x, rfl⟩ : ∃ q x, p = q ++ [x] := ⟨p.dropLast, p.getLast (by intro h; rw [h] at hp; simp at hp), (List.dropLast_concat_getLast _).symm⟩
    have hq : q.length = m := by simpa using hp
    have hI := ih q hq
    have hsq := hs q
    have old : ∀ n, ∃ j, j ≤ (q ++ [x]).length ∧ (crR (doL ⟨l, []⟩ q) n).l = ((q ++ [x]).take j).foldl fdo l := fun n => by
      obtain ⟨j, h1, h2⟩ := hI n
      exact ⟨j, by simp; omega, by rw [h2, List.take_append_of_le_length h1]⟩
    have hnew := hs (q ++ [x])
    rw [doL_app] at hnew ⊢
    generalize doL ⟨l, []⟩ q = k' at *
    have hsd := seen_do k' x
    unfold doK at hnew ⊢
    split
    · exact old n
    · rename_i hm
      rw [if_neg hm] at hnew
      split
      · exact old n
      · rename_i hc
        rw [if_neg hc] at hnew
        split
        · refine ⟨q.length, by simp, ?_⟩
          rw [List.take_left]
          simp [crR, ← hsq]
        · rename_i k4
          rw [if_neg k4] at hnew
          by_cases hn : n ≤ k'.d.length
          · obtain ⟨j, h1, h2⟩ := old n
            refine ⟨j, h1, ?_⟩
            rw [← h2]
            simp only [crR, List.take_append_of_le_length hn]
          · refine ⟨(q ++ [x]).length, Nat.le_refl _, ?_⟩
            rw [List.take_length, ← hnew]
            have : (k'.d ++ [x]).length ≤ n := by simp; omega
            simp [crR, List.take_of_length_le this, seenK]

/-! ### Saves -/

theorem fdo_can {l : List Fl} {x : De} (h : canF l x = true) : fdo l x = doF l x := by simp [fdo, h]

theorem ris_fdo {l : List Fl} (x : De) (h : RisF l) : RisF (fdo l x) := by
  rcases fdo_or l x with e | e <;> rw [e]
  · exact ris_do x h
  · exact h

theorem ris_fdoL {l : List Fl} (p : List De) (h : RisF l) : RisF (p.foldl fdo l) := by
  induction p generalizing l with
  | nil => exact h
  | cons x p ih => exact ih (ris_fdo x h)

/-- A deed that touches one file alone. -/
def only (t : List UInt8) (x : De) : Prop := ((x.kind = 0 ∨ x.kind = 1) ∧ x.name = t) ∨ x.kind = 4

theorem fdo_only {l : List Fl} {x : De} {t : List UInt8} (h : RisF l) (hx : only t x) (u : List UInt8) (hu : u ≠ t) : lk (fdo l x) u = lk l u := by
  unfold fdo
  split
  · rename_i hc
    obtain ⟨k, n, s⟩ := x
    rcases hx with ⟨hk | hk, hn⟩ | hk
    · simp only [] at hk hn
      subst hk; subst hn
      rw [do_new _ _ h, if_neg hu]
    · simp only [] at hk hn
      subst hk; subst hn
      have : hasF l n = true := by simpa [canF, needsD] using (by rw [canF, Bool.and_eq_true] at hc; exact hc.2)
      rw [has_lk] at this
      obtain ⟨v, hv⟩ := Option.isSome_iff_exists.1 this
      rw [do_more h hv, if_neg hu]
    · simp only [] at hk
      subst hk
      rw [do_flush]
  · rfl

theorem fdoL_only {l : List Fl} {p : List De} {t : List UInt8} (h : RisF l) (hp : ∀ x ∈ p, only t x) (u : List UInt8) (hu : u ≠ t) : lk (p.foldl fdo l) u = lk l u := by
  induction p generalizing l with
  | nil => rfl
  | cons x p ih =>
    rw [List.foldl_cons, ih (ris_fdo x h) (fun y hy => hp y (by simp [hy])), fdo_only h (hp x (by simp)) u hu]

/-- A name that a file may be saved under. -/
def svName (n : List UInt8) : Prop := 1 ≤ n.length ∧ n.length ≤ 36

theorem tmp_ok {n : List UInt8} (h : svName n) : nameOk (tmpF n) = true := by
  have : (tmpF n).length = n.length + 4 := by simp [tmpF]
  exact decide_eq_true ⟨by omega, by have := h.2; omega⟩

theorem nm_ok {n : List UInt8} (h : svName n) : nameOk n = true := decide_eq_true ⟨h.1, by have := h.2; omega⟩

theorem tmp_ne (n : List UInt8) : tmpF n ≠ n := fun h => by
  have := congrArg List.length h
  simp [tmpF] at this

theorem chunks_lk {t : List UInt8} (ht : nameOk t = true) : ∀ (n : Nat) (s : List UInt8), s.length ≤ n → ∀ (l : List Fl) (u : List UInt8), RisF l → lk l t = some u → lk ((chk t n s).foldl fdo l) t = some (u ++ s)
  | 0, s, hs, l, u, _, hu => by
    have : s = [] := List.eq_nil_of_length_eq_zero (by omega)
    simp [chk, this, hu]
  | n + 1, s, hs, l, u, h, hu => by
    simp only [chk]
    split
    · rename_i e; simp [e, hu]
    · rename_i e
      have hp : 0 < s.length := List.length_pos_iff.2 e
      have hh : hasF l t = true := by rw [has_lk, hu]; rfl
      have hc : canF l ⟨1, t, s.take 64⟩ = true := by simp [canF, mayD, ht, hh]
      rw [List.foldl_cons, fdo_can hc]
      have h1 := do_more (s := s.take 64) h hu t
      rw [if_pos rfl] at h1
      rw [chunks_lk ht n (s.drop 64) (by simp; omega) _ _ (ris_do _ h) h1, List.append_assoc, List.take_append_drop]

/-- The deeds of a save ahead of its move. -/
def headP (name s : List UInt8) : List De := ⟨0, tmpF name, []⟩ :: (chunks (tmpF name) s ++ [⟨4, [], []⟩])

theorem plan_head (name s : List UInt8) : planF name s = headP name s ++ [⟨2, tmpF name, name⟩, ⟨4, [], []⟩] := by simp [planF, headP]

theorem head_only (name s : List UInt8) : ∀ x ∈ headP name s, only (tmpF name) x := by
  intro x hx
  simp only [headP, List.mem_cons, List.mem_append, List.not_mem_nil, or_false] at hx
  rcases hx with rfl | hx | rfl
  · exact .inl ⟨.inl rfl, rfl⟩
  · obtain ⟨a, b, _⟩ := (chk_facts (tmpF name) s.length s (Nat.le_refl _)).2.2 x hx
    exact .inl ⟨.inr a, b⟩
  · exact .inr rfl

theorem head_lk {name s : List UInt8} {l : List Fl} (hn : svName name) (h : RisF l) : lk ((headP name s).foldl fdo l) (tmpF name) = some s := by
  have ht := tmp_ok hn
  have hc : canF l ⟨0, tmpF name, []⟩ = true := by simp [canF, mayD, needsD, ht]
  rw [headP, List.foldl_cons, fdo_can hc, List.foldl_append]
  have h1 := do_new (tmpF name) [] h (tmpF name)
  rw [if_pos rfl] at h1
  have h2 := chunks_lk ht s.length s (Nat.le_refl _) _ _ (ris_do _ h) h1
  have hfl : ∀ g, fdo g ⟨4, [], []⟩ = g := fun g => by
    unfold fdo; split
    · exact do_flush _ _ _
    · rfl
  simp only [List.foldl_cons, List.foldl_nil, hfl]
  simpa [chunks] using h2

/-- The move of a save. -/
theorem move_lk {name s : List UInt8} {g : List Fl} (hn : svName name) (h : RisF g) (ht : lk g (tmpF name) = some s) (u : List UInt8) :
    lk (fdo g ⟨2, tmpF name, name⟩) u = if u = name then some s else if u = tmpF name then none else lk g u := by
  have hh : hasF g (tmpF name) = true := by rw [has_lk, ht]; rfl
  have hc : canF g ⟨2, tmpF name, name⟩ = true := by simp [canF, mayD, tmp_ok hn, nm_ok hn, hh]
  rw [fdo_can hc, do_move h ht]

theorem fdo_flush (g : List Fl) (n s : List UInt8) : fdo g ⟨4, n, s⟩ = g := by
  unfold fdo; split
  · exact do_flush _ _ _
  · rfl

/-- All of a save done. -/
theorem plan_lk {name s : List UInt8} {l : List Fl} (hn : svName name) (h : RisF l) (u : List UInt8) :
    lk ((planF name s).foldl fdo l) u = if u = name then some s else if u = tmpF name then none else lk l u := by
  rw [plan_head, List.foldl_append]
  simp only [List.foldl_cons, List.foldl_nil, fdo_flush]
  rw [move_lk hn (ris_fdoL _ h) (head_lk hn h)]
  by_cases h1 : u = name
  · simp [h1]
  · by_cases h2 : u = tmpF name
    · simp [h1, h2]
    · simp only [h1, h2, if_false]
      exact fdoL_only h (head_only name s) u h2

/-- A save, stopped anywhere: others are as they were; the file holds what it held, or what was to be saved. -/
theorem part_lk {name s : List UInt8} {l : List Fl} (hn : svName name) (h : RisF l) (j : Nat) :
    (∀ u, u ≠ name → u ≠ tmpF name → lk (((planF name s).take j).foldl fdo l) u = lk l u) ∧
    (lk (((planF name s).take j).foldl fdo l) name = lk l name ∨ lk (((planF name s).take j).foldl fdo l) name = some s) := by
  by_cases hj : j ≤ (headP name s).length
  · have e : (planF name s).take j = (headP name s).take j := by rw [plan_head, List.take_append_of_le_length hj]
    have ho : ∀ x ∈ (headP name s).take j, only (tmpF name) x := fun x hx => head_only name s x (List.mem_of_mem_take hx)
    rw [e]
    exact ⟨fun u _ h2 => fdoL_only h ho u h2, .inl (fdoL_only h ho name (fun e => tmp_ne name e.symm))⟩
  · have key : ∀ u, lk (((planF name s).take j).foldl fdo l) u = if u = name then some s else if u = tmpF name then none else lk l u := by
      intro u
      by_cases hj2 : j = (headP name s).length + 1
      · have e : (planF name s).take j = headP name s ++ [⟨2, tmpF name, name⟩] := by
          rw [plan_head, hj2, List.take_append, List.take_of_length_le (by omega)]
          simp
        rw [e, List.foldl_append]
        simp only [List.foldl_cons, List.foldl_nil]
        rw [move_lk hn (ris_fdoL _ h) (head_lk hn h)]
        by_cases h1 : u = name
        · simp [h1]
        · by_cases h2 : u = tmpF name
          · simp [h1, h2]
          · simp only [h1, h2, if_false]
            exact fdoL_only h (head_only name s) u h2
      · have e : (planF name s).take j = planF name s := by
          rw [List.take_of_length_le]
          rw [plan_head]; simp; omega
        rw [e]
        exact plan_lk hn h u
    refine ⟨fun u h1 h2 => by rw [key, if_neg h1, if_neg h2], .inr (by rw [key, if_pos rfl])⟩

/-- All of a save done leaves no deeds. -/
theorem plan_all (k : Dk) (name s : List UInt8) : doL k (planF name s) = ⟨(planF name s).foldl fdo (seenK k), []⟩ := by
  have e : planF name s = (headP name s ++ [⟨2, tmpF name, name⟩]) ++ [⟨4, [], []⟩] := by rw [plan_head]; simp
  have hfl : ∀ q : List De, (q ++ [(⟨4, [], []⟩ : De)]).foldl fdo (seenK k) = q.foldl fdo (seenK k) := fun q => by rw [List.foldl_append]; simp only [List.foldl_cons, List.foldl_nil, fdo_flush]
  rw [e, doL_app]
  have hd : ∀ k' : Dk, (doK k' ⟨4, [], []⟩).1 = ⟨seenK k', []⟩ := fun k' => by simp [doK, mayD, canF, needsD]
  rw [hd, seen_doL, hfl]

end Lp

/-! LpK4 -/

namespace Lp
open Go Go.Proofs

set_option maxHeartbeats 8000000
set_option maxRecDepth 20000
set_option linter.unusedSimpArgs false

theorem getS_lk (k : Dk) (s : List UInt8) : getS k s = (lk (seenK k) s).getD [] := by
  unfold getS
  rw [has_lk, get_lk]
  cases lk (seenK k) s <;> rfl

theorem hasS_lk (k : Dk) (s : List UInt8) : hasF (seenK k) s = (lk (seenK k) s).isSome := has_lk _ _

theorem OkR.ris {k : Dk} (h : OkR k) : RisF (seenK k) := (h.c.end doF (fun _ _ => .inl rfl)).ris

theorem ine : ((4 : Int) = 0) = False ∧ ((4 : Int) = 1) = False ∧ ((4 : Int) = 2) = False ∧ ((4 : Int) = 3) = False ∧ ((6 : Int) = 0) = False ∧ ((6 : Int) = 4) = False ∧ ((1 : Int) = 0) = False ∧ ((2 : Int) = 0) = False ∧ ((2 : Int) = 1) = False ∧ ((3 : Int) = 0) = False ∧ ((3 : Int) = 1) = False ∧ ((3 : Int) = 2) = False ∧ ((0 : Int) = 4) = False ∧ ((10 : Int) = 4) = False ∧ ((10 : Int) = 0) = False :=
  ⟨by simp, by simp, by simp, by simp, by simp, by simp, by simp, by simp, by simp, by simp, by simp, by simp, by simp, by simp, by simp⟩

theorem OkR.get {k : Dk} (h : OkR k) (s : List UInt8) : (getS k s).length ≤ 4611686018427387903 := by
  have h1 := (h.c.end doF (fun _ _ => .inl rfl)).mas
  have h2 := mas_get (k.d.foldl doF k.l) s
  unfold getS
  split
  · show (getF (k.d.foldl doF k.l) s).length ≤ _
    omega
  · simp

theorem okR_okS {k : Dk} (h : OkR k) (hr : rightK k = true) : OkS k := ⟨h.c.len, h.c.mas, h.c.ok, fun f hf => by
  have := ((nm_iff2 k.l).1 (right_nm hr).1).2 f hf
  unfold nameOk at this
  have := of_decide_eq_true this
  omega⟩

theorem doK_can {k : Dk} {x : De} (hm : mayD x = true) (hc : canF (seenK k) x = true) : doK k x = ((doK k x).1, 0) ∧ seenK (doK k x).1 = doF (seenK k) x := by
  refine ⟨?_, by rw [seen_do, fdo_can hc]⟩
  by_cases k4 : x.kind = 4 <;> simp [doK, hm, hc, k4]

theorem fileDeeds_spec (d : Dk) (x : De) (hd : BigK d) (_hx : okX x) : FnSpec Try.prog f_loupelaw23_FileDeeds [encK d, encX x] [] (.bool true) [] := by
  refine k_loupelaw23_FileDeeds.pureG (T := tabL Try.prog [(f_louperef23_Few, ctrFew), (f_loupelaw23_alive, ctrAlive), (f_file_See, ctrSee), (f_file_Do, ctrFDo), (f_louperef23_Same, ctrRSame), (f_louperef23_Right, ctrRRight)]) 0 hD (kOk_tabL (tabOk_cons ctrFew_ok (tabOk_cons ctrAlive_ok (tabOk_cons ctrSee_ok (tabOk_cons ctrFDo_ok (tabOk_cons ctrRSame_ok (tabOk_cons ctrRRight_ok tabOk_nil))))))) hmix (by decide) fun Q hQ => ?_
  try simp only [F_all]
  simp (maxSteps := 400000) only [↓preZ, postZ, coreZ, ↓preF, postF, D_all, F_all, unR, outL, onePV, binS, ↓binS, boundR, ↓boundR, fieldOf, ↓fieldOf, boxR, allocR, newObj, zeroElem, buildSliceR, appendR, setAll, storeR, St.freeze, makeSliceR, minmaxR, makeFuncR, BEq.rfl, reduceIte, reduceCtorEq, Nat.reduceLT, Nat.reduceAdd, Nat.reduceSub, Nat.reduceMul, Nat.reduceBEq, Nat.reduceLeDiff, Int.reduceToNat, Int.reduceLE, hQ, c_loupelaw23_FileDeeds]
  refine wpc_weak _ (Weak.freeze 1 0 (Nat.zero_le _) _) ?_
  have a1 := eq_true hd.1
  have a2 := eq_true hd.2
  cases hf : fewK d
  · simp (maxSteps := 400000) only [↓preZ, postZ, coreZ, ↓preF, postF, D_all, F_all, unR, outL, onePV, binS, ↓binS, boundR, ↓boundR, fieldOf, ↓fieldOf, boxR, allocR, newObj, zeroElem, buildSliceR, appendR, setAll, storeR, St.freeze, makeSliceR, minmaxR, makeFuncR, BEq.rfl, reduceIte, reduceCtorEq, Nat.reduceLT, Nat.reduceAdd, Nat.reduceSub, Nat.reduceMul, Nat.reduceBEq, Nat.reduceLeDiff, Int.reduceToNat, Int.reduceLE, hQ, ↓ctrFew, ↓ctrAlive, a1, a2, hf]
  by_cases h1 : x.name.length ≤ 100
  rotate_left 1
  · have h1' : (100 < (x.name.length : Int)) = True := eq_true (by omega)
    simp (maxSteps := 400000) only [↓preZ, postZ, coreZ, ↓preF, postF, D_all, F_all, unR, outL, onePV, binS, ↓binS, boundR, ↓boundR, fieldOf, ↓fieldOf, boxR, allocR, newObj, zeroElem, buildSliceR, appendR, setAll, storeR, St.freeze, makeSliceR, minmaxR, makeFuncR, BEq.rfl, reduceIte, reduceCtorEq, Nat.reduceLT, Nat.reduceAdd, Nat.reduceSub, Nat.reduceMul, Nat.reduceBEq, Nat.reduceLeDiff, Int.reduceToNat, Int.reduceLE, hQ, ↓ctrFew, ↓ctrAlive, a1, a2, hf, h1']
  have h1' : (100 < (x.name.length : Int)) = False := eq_false (by omega)
  by_cases h2 : x.s.length ≤ 2000
  rotate_left 1
  · have h2' : (2000 < (x.s.length : Int)) = True := eq_true (by omega)
    simp (maxSteps := 400000) only [↓preZ, postZ, coreZ, ↓preF, postF, D_all, F_all, unR, outL, onePV, binS, ↓binS, boundR, ↓boundR, fieldOf, ↓fieldOf, boxR, allocR, newObj, zeroElem, buildSliceR, appendR, setAll, storeR, St.freeze, makeSliceR, minmaxR, makeFuncR, BEq.rfl, reduceIte, reduceCtorEq, Nat.reduceLT, Nat.reduceAdd, Nat.reduceSub, Nat.reduceMul, Nat.reduceBEq, Nat.reduceLeDiff, Int.reduceToNat, Int.reduceLE, hQ, ↓ctrFew, ↓ctrAlive, a1, a2, hf, h1', h2']
  have h2' : (2000 < (x.s.length : Int)) = False := eq_false (by omega)
  obtain ⟨oR, hs, hr⟩ := few_ok hf
  have oP := okP_one (x := x) hs oR (by omega) (by omega)
  have q1 := eq_true oR
  have q2 := eq_true oR.c
  have q3 := eq_true (show okX x from ⟨by omega, by omega⟩)
  have q4 := eq_true (okK_of oR.c)
  cases hm : mayD x
  · have hdo : doK d x = (d, 4) := by simp [doK, hm]
    simp (maxSteps := 400000) only [↓preZ, postZ, coreZ, ↓preF, postF, D_all, F_all, unR, outL, onePV, binS, ↓binS, boundR, ↓boundR, fieldOf, ↓fieldOf, boxR, allocR, newObj, zeroElem, buildSliceR, appendR, setAll, storeR, St.freeze, makeSliceR, minmaxR, makeFuncR, BEq.rfl, reduceIte, reduceCtorEq, Nat.reduceLT, Nat.reduceAdd, Nat.reduceSub, Nat.reduceMul, Nat.reduceBEq, Nat.reduceLeDiff, Int.reduceToNat, Int.reduceLE, hQ, ↓ctrFew, ↓ctrAlive, ↓ctrSee, ↓ctrFDo, ↓ctrRSame, a1, a2, hf, h1', h2', q1, q2, q3, q4, hdo, etaR, decide_true, ine]
  cases hc : canF (seenK d) x
  · have hdo : doK d x = (d, 6) := by simp [doK, hm, hc]
    have hh : hasF (seenK d) x.name = false := by
      rw [canF, hm, Bool.true_and, Bool.or_eq_false_iff] at hc
      exact hc.2
    simp (maxSteps := 400000) only [↓preZ, postZ, coreZ, ↓preF, postF, D_all, F_all, unR, outL, onePV, binS, ↓binS, boundR, ↓boundR, fieldOf, ↓fieldOf, boxR, allocR, newObj, zeroElem, buildSliceR, appendR, setAll, storeR, St.freeze, makeSliceR, minmaxR, makeFuncR, BEq.rfl, reduceIte, reduceCtorEq, Nat.reduceLT, Nat.reduceAdd, Nat.reduceSub, Nat.reduceMul, Nat.reduceBEq, Nat.reduceLeDiff, Int.reduceToNat, Int.reduceLE, hQ, ↓ctrFew, ↓ctrAlive, ↓ctrSee, ↓ctrFDo, ↓ctrRSame, a1, a2, hf, h1', h2', q1, q2, q3, q4, hdo, hh, etaR, decide_true, ine]
  obtain ⟨hdo, hsn⟩ := doK_can hm hc
  have oR' := oP.step.r
  have hrt := right_do hr x
  generalize (doK d x).1 = k' at hdo hsn oR' hrt
  have q5 := eq_true oR'
  have q6 := eq_true oR'.c
  have ris := oR.ris
  have gd := fun s => getS_lk d s
  have gk := fun s => getS_lk k' s
  have bd := fun s => hasS_lk d s
  have bk := fun s => hasS_lk k' s
  rw [hsn] at gk
  have bk : ∀ s, hasF (seenK k') s = (lk (doF (seenK d) x) s).isSome := fun s => by rw [bk, hsn]
  have hneed : needsD x = true → hasF (seenK d) x.name = true := by
    intro hn; rw [canF, hm, hn] at hc; simpa using hc
  obtain ⟨kd, nm, s⟩ := x
  simp only at h1' h2' hneed
  have hk : kd = 0 ∨ kd = 1 ∨ kd = 2 ∨ kd = 3 ∨ kd = 4 := by
    have : mayD ⟨kd, nm, s⟩ = true := hm
    unfold mayD at this
    simp only at this
    by_cases c0 : kd = 0
    · exact .inl c0
    by_cases c1 : kd = 1
    · exact .inr (.inl c1)
    by_cases c2 : kd = 2
    · exact .inr (.inr (.inl c2))
    by_cases c3 : kd = 3
    · exact .inr (.inr (.inr (.inl c3)))
    by_cases c4 : kd = 4
    · exact .inr (.inr (.inr (.inr c4)))
    · simp [c0, c1, c2, c3, c4] at this
  rcases hk with rfl | rfl | rfl | rfl | rfl
  · have g1 : getS k' nm = [] := by rw [gk, do_new _ _ ris, if_pos rfl]; rfl
    have g2 : hasF (seenK k') nm = true := by rw [bk, do_new _ _ ris, if_pos rfl]; rfl
    simp (maxSteps := 400000) only [↓preZ, postZ, coreZ, ↓preF, postF, D_all, F_all, unR, outL, onePV, binS, ↓binS, boundR, ↓boundR, fieldOf, ↓fieldOf, boxR, allocR, newObj, zeroElem, buildSliceR, appendR, setAll, storeR, St.freeze, makeSliceR, minmaxR, makeFuncR, BEq.rfl, reduceIte, reduceCtorEq, Nat.reduceLT, Nat.reduceAdd, Nat.reduceSub, Nat.reduceMul, Nat.reduceBEq, Nat.reduceLeDiff, Int.reduceToNat, Int.reduceLE, hQ, ↓ctrFew, ↓ctrAlive, ↓ctrSee, ↓ctrFDo, ↓ctrRSame, a1, a2, hf, h1', h2', q1, q2, q3, q4, q5, q6, hdo, g1, g2, etaR, decide_true, ine]
  · have g0 : hasF (seenK d) nm = true := hneed rfl
    obtain ⟨u, hu⟩ : ∃ u, lk (seenK d) nm = some u := Option.isSome_iff_exists.1 (by rw [← bd]; exact g0)
    have g1 : getS k' nm = getS d nm ++ s := by rw [gk, gd, do_more ris hu, if_pos rfl, hu]; rfl
    have g2 : hasF (seenK k') nm = true := by rw [bk, do_more ris hu, if_pos rfl]; rfl
    have q8 := eq_true (show (getS d nm).length + s.length ≤ 9223372036854775807 by have := oR.get nm; have h3 : s.length ≤ 2000 := h2; omega)
    simp (maxSteps := 400000) only [↓preZ, postZ, coreZ, ↓preF, postF, D_all, F_all, unR, outL, onePV, binS, ↓binS, boundR, ↓boundR, fieldOf, ↓fieldOf, boxR, allocR, newObj, zeroElem, buildSliceR, appendR, setAll, storeR, St.freeze, makeSliceR, minmaxR, makeFuncR, BEq.rfl, reduceIte, reduceCtorEq, Nat.reduceLT, Nat.reduceAdd, Nat.reduceSub, Nat.reduceMul, Nat.reduceBEq, Nat.reduceLeDiff, Int.reduceToNat, Int.reduceLE, hQ, ↓ctrFew, ↓ctrAlive, ↓ctrSee, ↓ctrFDo, ↓ctrRSame, a1, a2, hf, h1', h2', q1, q2, q3, q4, q5, q6, q8, hdo, g0, g1, g2, etaR, decide_true, ine]
  · have g0 : hasF (seenK d) nm = true := hneed rfl
    obtain ⟨u, hu⟩ : ∃ u, lk (seenK d) nm = some u := Option.isSome_iff_exists.1 (by rw [← bd]; exact g0)
    have g1 : getS k' s = getS d nm := by rw [gk, gd, do_move ris hu, if_pos rfl, hu]
    have g2 : hasF (seenK k') s = true := by rw [bk, do_move ris hu, if_pos rfl]; rfl
    have g3 : hasF (seenK k') nm = decide (s = nm) := by
      rw [bk, do_move ris hu]
      by_cases e : nm = s
      · simp [e]
      · have e' : ¬ s = nm := fun h => e h.symm
        simp [e, e']
    rcases tf (s = nm) with e | e
    all_goals
      simp (maxSteps := 400000) only [↓preZ, postZ, coreZ, ↓preF, postF, D_all, F_all, unR, outL, onePV, binS, ↓binS, boundR, ↓boundR, fieldOf, ↓fieldOf, boxR, allocR, newObj, zeroElem, buildSliceR, appendR, setAll, storeR, St.freeze, makeSliceR, minmaxR, makeFuncR, BEq.rfl, reduceIte, reduceCtorEq, Nat.reduceLT, Nat.reduceAdd, Nat.reduceSub, Nat.reduceMul, Nat.reduceBEq, Nat.reduceLeDiff, Int.reduceToNat, Int.reduceLE, hQ, ↓ctrFew, ↓ctrAlive, ↓ctrSee, ↓ctrFDo, ↓ctrRSame, a1, a2, hf, h1', h2', q1, q2, q3, q4, q5, q6, hdo, g0, g1, g2, g3, e, etaR, decide_true, ine]
  · have g0 : hasF (seenK d) nm = true := hneed rfl
    obtain ⟨u, hu⟩ : ∃ u, lk (seenK d) nm = some u := Option.isSome_iff_exists.1 (by rw [← bd]; exact g0)
    have g1 : hasF (seenK k') nm = false := by rw [bk, do_drop hu, if_pos rfl]; rfl
    simp (maxSteps := 400000) only [↓preZ, postZ, coreZ, ↓preF, postF, D_all, F_all, unR, outL, onePV, binS, ↓binS, boundR, ↓boundR, fieldOf, ↓fieldOf, boxR, allocR, newObj, zeroElem, buildSliceR, appendR, setAll, storeR, St.freeze, makeSliceR, minmaxR, makeFuncR, BEq.rfl, reduceIte, reduceCtorEq, Nat.reduceLT, Nat.reduceAdd, Nat.reduceSub, Nat.reduceMul, Nat.reduceBEq, Nat.reduceLeDiff, Int.reduceToNat, Int.reduceLE, hQ, ↓ctrFew, ↓ctrAlive, ↓ctrSee, ↓ctrFDo, ↓ctrRSame, a1, a2, hf, h1', h2', q1, q2, q3, q4, q5, q6, hdo, g0, g1, etaR, decide_true, ine]
  · have q7 : OkS k' := okR_okS oR' hrt
    have q7' := eq_true q7
    simp (maxSteps := 400000) only [↓preZ, postZ, coreZ, ↓preF, postF, D_all, F_all, unR, outL, onePV, binS, ↓binS, boundR, ↓boundR, fieldOf, ↓fieldOf, boxR, allocR, newObj, zeroElem, buildSliceR, appendR, setAll, storeR, St.freeze, makeSliceR, minmaxR, makeFuncR, BEq.rfl, reduceIte, reduceCtorEq, Nat.reduceLT, Nat.reduceAdd, Nat.reduceSub, Nat.reduceMul, Nat.reduceBEq, Nat.reduceLeDiff, Int.reduceToNat, Int.reduceLE, hQ, ↓ctrFew, ↓ctrAlive, ↓ctrSee, ↓ctrFDo, ↓ctrRSame, ↓ctrRRight, a1, a2, hf, h1', h2', q1, q2, q3, q4, q5, q6, q7', hdo, hrt, etaR, decide_true, ine]

end Lp

/-! LpK5 -/

namespace Lp
open Go Go.Proofs

set_option maxHeartbeats 8000000
set_option maxRecDepth 20000
set_option linter.unusedSimpArgs false

theorem cnt_stop {n : Nat} {stop : Int} (h : 0 ≤ stop) : ¬ stop < (cntP n stop : Nat) := by
  unfold cntP
  split <;> omega

theorem cnt_le (n : Nat) (stop : Int) : cntP n stop ≤ n := by
  unfold cntP
  split <;> omega

theorem save_bad {k : Dk} {name s : List UInt8} (stop : Int) (h : ¬ svName name) : saveK k name s stop = (k, 0, 4) := by
  unfold saveK
  rw [if_pos]
  by_cases e : name = []
  · exact .inl e
  · have : 0 < name.length := List.length_pos_iff.2 e
    exact .inr (by unfold svName at h; omega)

theorem save_good {k : Dk} {name s : List UInt8} (stop : Int) (h : svName name) : saveK k name s stop =
    (doL k ((planF name s).take (cntP (planF name s).length stop)), ((cntP (planF name s).length stop : Nat) : Int), if cntP (planF name s).length stop < (planF name s).length then (10 : Int) else 0) := by
  unfold saveK
  rw [if_neg]
  rintro (e | e)
  · subst e; simp [svName] at h
  · have := h.2; omega

/-- A save that is stopped, and a crash: what is there. -/
theorem oneOr_facts {k : Dk} {name s : List UInt8} (hn : svName name) (oR : OkR k) (h0 : k.d = []) (c n : Nat) :
    (∀ u, u ≠ name → u ≠ tmpF name → lk (crR (doL k ((planF name s).take c)) n).l u = lk (seenK k) u) ∧
    (lk (crR (doL k ((planF name s).take c)) n).l name = lk (seenK k) name ∨ lk (crR (doL k ((planF name s).take c)) n).l name = some s) ∧
    ((planF name s).length ≤ c → lk (crR (doL k ((planF name s).take c)) n).l name = some s) := by
  obtain ⟨l, d⟩ := k
  subst h0
  have ris := oR.ris
  have hs : seenK ⟨l, []⟩ = l := rfl
  rw [hs] at ris ⊢
  obtain ⟨j, _, hj⟩ := crash_seen l ((planF name s).take c) n
  rw [List.take_take] at hj
  obtain ⟨p1, p2⟩ := part_lk (s := s) hn ris (min j c)
  rw [hj]
  refine ⟨p1, p2, fun hc => ?_⟩
  rw [List.take_of_length_le hc, plan_all] at hj
  rw [← hj]
  have e : ∀ X : List Fl, (crR ⟨X, []⟩ n).l = X := fun X => by simp [crR]
  rw [e, hs, plan_lk hn ris, if_pos rfl]

theorem fileOneOr_spec (q : Sv) (hq : BigQ q) : FnSpec Try.prog f_loupelaw23_FileOneOr [encQ q] [] (.bool true) [] := by
  refine k_loupelaw23_FileOneOr.pureG (T := tabL Try.prog [(f__loupelaw23_SaveIn__given, ctrGiven), (f_loupelaw23_alive, ctrAlive), (f_file_See, ctrSee), (f_file_Save, ctrFSave), (f_louperef23_Same, ctrRSame), (f_file_Crash, ctrCr), (f_louperef23_Right, ctrRRight)]) 0 hD (kOk_tabL (tabOk_cons ctrGiven_ok (tabOk_cons ctrAlive_ok (tabOk_cons ctrSee_ok (tabOk_cons ctrFSave_ok (tabOk_cons ctrRSame_ok (tabOk_cons ctrCr_ok (tabOk_cons ctrRRight_ok tabOk_nil)))))))) hmix (by decide) fun Q hQ => ?_
  try simp only [F_all]
  simp (maxSteps := 400000) only [↓preZ, postZ, coreZ, ↓preF, postF, D_all, F_all, unR, outL, onePV, binS, ↓binS, boundR, ↓boundR, fieldOf, ↓fieldOf, boxR, allocR, newObj, zeroElem, buildSliceR, appendR, setAll, storeR, St.freeze, makeSliceR, minmaxR, makeFuncR, BEq.rfl, reduceIte, reduceCtorEq, Nat.reduceLT, Nat.reduceAdd, Nat.reduceSub, Nat.reduceMul, Nat.reduceBEq, Nat.reduceLeDiff, Int.reduceToNat, Int.reduceLE, hQ, c_loupelaw23_FileOneOr]
  refine wpc_weak _ (Weak.freeze 1 0 (Nat.zero_le _) _) ?_
  have a1 := eq_true hq.d.1
  have a2 := eq_true hq.d.2
  have a3 := eq_true (show q.name.length ≤ 4611686018427387904 from hq.name)
  have a4 := eq_true (show q.s.length ≤ 4611686018427387904 from hq.s)
  have a5 := eq_true (show q.other.length ≤ 4611686018427387904 from hq.other)
  have a6 := eq_true hq.n
  cases hg : givenQ q
  · simp (maxSteps := 400000) only [↓preZ, postZ, coreZ, ↓preF, postF, D_all, F_all, unR, outL, onePV, binS, ↓binS, boundR, ↓boundR, fieldOf, ↓fieldOf, boxR, allocR, newObj, zeroElem, buildSliceR, appendR, setAll, storeR, St.freeze, makeSliceR, minmaxR, makeFuncR, BEq.rfl, reduceIte, reduceCtorEq, Nat.reduceLT, Nat.reduceAdd, Nat.reduceSub, Nat.reduceMul, Nat.reduceBEq, Nat.reduceLeDiff, Int.reduceToNat, Int.reduceLE, hQ, ↓ctrGiven, ↓ctrAlive, a1, a2, a3, a4, a5, hg]
  have g := given_ok hg
  by_cases h0 : q.d.d = []
  rotate_left 1
  · have h0' : (0 < (q.d.d.length : Int)) = True := eq_true (by have := List.length_pos_iff.2 h0; omega)
    simp (maxSteps := 400000) only [↓preZ, postZ, coreZ, ↓preF, postF, D_all, F_all, unR, outL, onePV, binS, ↓binS, boundR, ↓boundR, fieldOf, ↓fieldOf, boxR, allocR, newObj, zeroElem, buildSliceR, appendR, setAll, storeR, St.freeze, makeSliceR, minmaxR, makeFuncR, BEq.rfl, reduceIte, reduceCtorEq, Nat.reduceLT, Nat.reduceAdd, Nat.reduceSub, Nat.reduceMul, Nat.reduceBEq, Nat.reduceLeDiff, Int.reduceToNat, Int.reduceLE, hQ, ↓ctrGiven, ↓ctrAlive, a1, a2, a3, a4, a5, hg, h0']
  have h0' : (0 < (q.d.d.length : Int)) = False := eq_false (by rw [h0]; simp)
  have b1 : (q.name.length ≤ 1000000) = True := eq_true (by have := g.name; omega)
  have b2 : (q.s.length ≤ 1000000) = True := eq_true (by have := g.s; omega)
  have b3 := eq_true g.p
  have b4 := eq_true g.r
  have b5 := eq_true (okK_of g.r.c)
  by_cases hn : svName q.name
  rotate_left 1
  · have hsv := save_bad (k := q.d) (s := q.s) q.stop hn
    simp (maxSteps := 400000) only [↓preZ, postZ, coreZ, ↓preF, postF, D_all, F_all, unR, outL, onePV, binS, ↓binS, boundR, ↓boundR, fieldOf, ↓fieldOf, boxR, allocR, newObj, zeroElem, buildSliceR, appendR, setAll, storeR, St.freeze, makeSliceR, minmaxR, makeFuncR, BEq.rfl, reduceIte, reduceCtorEq, Nat.reduceLT, Nat.reduceAdd, Nat.reduceSub, Nat.reduceMul, Nat.reduceBEq, Nat.reduceLeDiff, Int.reduceToNat, Int.reduceLE, hQ, ↓ctrGiven, ↓ctrAlive, ↓ctrSee, ↓ctrFSave, ↓ctrRSame, a1, a2, a3, a4, a5, hg, h0', b1, b2, b3, b4, b5, hsv, etaR, decide_true, ine]
  have hsv := save_good (k := q.d) (s := q.s) q.stop hn
  have hso := save_ok (stop := q.stop) g.p
  have hst := fun h : 0 ≤ q.stop => cnt_stop (n := (planF q.name q.s).length) h
  have hcl := cnt_le (planF q.name q.s).length q.stop
  rw [hsv] at hso
  simp only at hso
  generalize cntP (planF q.name q.s).length q.stop = c at hsv hst hso hcl
  obtain ⟨f1, f2, f3⟩ := oneOr_facts (s := q.s) hn g.r h0 c q.n.toNat
  have hrt := right_doL ((planF q.name q.s).take c) g.rt
  have hrc := right_cr hrt q.n.toNat
  have hoc : OkR (crR (doL q.d ((planF q.name q.s).take c)) q.n.toNat) := ⟨crR_ok hso.c _, rfl⟩
  have hcr : crR (doL q.d ((planF q.name q.s).take c)) q.n.toNat = ⟨(crR (doL q.d ((planF q.name q.s).take c)) q.n.toNat).l, []⟩ := rfl
  generalize (crR (doL q.d ((planF q.name q.s).take c)) q.n.toNat).l = cl at hcr f1 f2 f3
  rw [hcr] at hrc hoc
  generalize doL q.d ((planF q.name q.s).take c) = k' at hcr hsv hso hrt
  have s1 := getS_lk ⟨cl, []⟩
  have s2 := getS_lk q.d
  have s3 := hasS_lk ⟨cl, []⟩
  have s4 := hasS_lk q.d
  have s5 : seenK ⟨cl, []⟩ = cl := rfl
  rw [s5] at s1 s3
  have c1 := eq_true hso
  have c2 := eq_true hoc
  have c3 := eq_true (okR_okS hso hrt)
  have c4 := eq_true (okR_okS hoc hrc)
  have hnl : (q.name.length ≤ 9223372036854775803) = True := eq_true (by have := g.name; omega)
  have htm : q.name ++ [46, 116, 109, 112] = tmpF q.name := rfl
  have name_same : lk cl q.name = lk (seenK q.d) q.name → getS ⟨cl, []⟩ q.name = getS q.d q.name ∧ hasF cl q.name = hasF (seenK q.d) q.name := fun h => by rw [s1, s2, s3, s4, h]; exact ⟨rfl, rfl⟩
  have name_new : lk cl q.name = some q.s → getS ⟨cl, []⟩ q.name = q.s ∧ hasF cl q.name = true := fun h => by rw [s1, s3, h]; exact ⟨rfl, rfl⟩
  have other : (q.other = q.name) = True ∨ (q.other = q.name) = False ∧ (q.other = tmpF q.name) = True ∨ (q.other = q.name) = False ∧ (q.other = tmpF q.name) = False ∧ getS ⟨cl, []⟩ q.other = getS q.d q.other ∧ hasF cl q.other = hasF (seenK q.d) q.other := by
    by_cases h1 : q.other = q.name
    · exact .inl (eq_true h1)
    by_cases h2 : q.other = tmpF q.name
    · exact .inr (.inl ⟨eq_false h1, eq_true h2⟩)
    · have h := f1 _ h1 h2
      exact .inr (.inr ⟨eq_false h1, eq_false h2, by rw [s1, s2, h], by rw [s3, s4, h]⟩)
  clear s1 s2 s3 s4 f1
  have z0 : ((0 : Nat) : Int) = 0 := rfl
  have st : (0 ≤ q.stop) = False ∨ ((0 ≤ q.stop) = True ∧ (q.stop < (c : Int)) = False) := by
    by_cases h : 0 ≤ q.stop
    · exact .inr ⟨eq_true h, eq_false (hst h)⟩
    · exact .inl (eq_false h)
  by_cases hall : c < (planF q.name q.s).length
  · rw [if_pos hall] at hsv
    simp (maxSteps := 400000) only [↓preZ, postZ, coreZ, ↓preF, postF, D_all, F_all, unR, outL, onePV, binS, ↓binS, boundR, ↓boundR, fieldOf, ↓fieldOf, boxR, allocR, newObj, zeroElem, buildSliceR, appendR, setAll, storeR, St.freeze, makeSliceR, minmaxR, makeFuncR, BEq.rfl, reduceIte, reduceCtorEq, Nat.reduceLT, Nat.reduceAdd, Nat.reduceSub, Nat.reduceMul, Nat.reduceBEq, Nat.reduceLeDiff, Int.reduceToNat, Int.reduceLE, hQ, ↓ctrGiven, ↓ctrAlive, ↓ctrSee, ↓ctrFSave, ↓ctrRSame, ↓ctrCr, ↓ctrRRight, a1, a2, a3, a4, a5, a6, hg, h0', b1, b2, b3, b4, b5, hsv, hcr, hrt, hrc, c1, c2, c3, c4, s5, hnl, htm, z0, etaR, decide_true, ine]
    have k : ∀ w : Bool, hasF (seenK q.d) q.name = w → (getS ⟨cl, []⟩ q.name = getS q.d q.name ∧ hasF cl q.name = w) ∨ (getS ⟨cl, []⟩ q.name = q.s ∧ hasF cl q.name = true) := fun w hw => by
      rcases f2 with h | h
      · exact .inl ⟨(name_same h).1, by rw [← hw]; exact (name_same h).2⟩
      · exact .inr (name_new h)
    rcases other with o1 | ⟨o1, o2⟩ | ⟨o1, o2, o3, o4⟩
    all_goals
      rcases st with t1 | ⟨t1, t2⟩
      all_goals
        cases hh : hasF (seenK q.d) q.name
        all_goals
          rcases k _ hh with ⟨n1, n2⟩ | ⟨n1, n2⟩
          all_goals
            simp [*, ifP_def]
  · rw [if_neg hall] at hsv
    obtain ⟨n1, n2⟩ := name_new (f3 (by omega))
    simp (maxSteps := 400000) only [↓preZ, postZ, coreZ, ↓preF, postF, D_all, F_all, unR, outL, onePV, binS, ↓binS, boundR, ↓boundR, fieldOf, ↓fieldOf, boxR, allocR, newObj, zeroElem, buildSliceR, appendR, setAll, storeR, St.freeze, makeSliceR, minmaxR, makeFuncR, BEq.rfl, reduceIte, reduceCtorEq, Nat.reduceLT, Nat.reduceAdd, Nat.reduceSub, Nat.reduceMul, Nat.reduceBEq, Nat.reduceLeDiff, Int.reduceToNat, Int.reduceLE, hQ, ↓ctrGiven, ↓ctrAlive, ↓ctrSee, ↓ctrFSave, ↓ctrRSame, ↓ctrCr, ↓ctrRRight, a1, a2, a3, a4, a5, a6, hg, h0', b1, b2, b3, b4, b5, hsv, hcr, hrt, hrc, c1, c2, c3, c4, s5, n1, n2, hnl, htm, z0, etaR, decide_true, ine]
    rcases other with o1 | ⟨o1, o2⟩ | ⟨o1, o2, o3, o4⟩
    all_goals
      rcases st with t1 | ⟨t1, t2⟩
      all_goals
        cases hh : hasF (seenK q.d) q.name
        all_goals
          simp [*, ifP_def]

end Lp

/-! LpK6 -/

namespace Lp
open Go Go.Proofs

set_option maxHeartbeats 8000000
set_option maxRecDepth 20000
set_option linter.unusedSimpArgs false

theorem masX_app2 (a b : List De) : masX (a ++ b) = masX a + masX b := by simp [masX]

theorem OkP.left {k : Dk} {a b : List De} (h : OkP k (a ++ b)) : OkP k a := by
  obtain ⟨⟨c1, c2, c3, c4⟩, hd⟩ := h
  rw [← List.append_assoc] at c2 c3 c4
  refine ⟨⟨c1, by simp at c2 ⊢; omega, ?_, fun x hx => c4 x (List.mem_append_left _ hx)⟩, hd⟩
  rw [masX_app2] at c3; omega

theorem OkP.on {k : Dk} {a b : List De} (h : OkP k (a ++ b)) : OkP (doL k a) b := by
  have h1 := h.at (i := a.length) (by simp)
  rwa [List.take_left, List.drop_left] at h1

theorem okP_three {k : Dk} {n1 s1 n2 s2 n3 s3 : List UInt8} (hs : smK k = true) (hr : OkR k) (a1 : n1.length ≤ 1000) (b1 : s1.length ≤ 10000) (a2 : n2.length ≤ 1000) (b2 : s2.length ≤ 10000) (a3 : n3.length ≤ 1000) (b3 : s3.length ≤ 10000) :
    OkP k (planF n1 s1 ++ (planF n2 s2 ++ planF n3 s3)) := by
  have hm := sm_small hs
  obtain ⟨f1, g1, e1⟩ := plan_facts n1 s1
  obtain ⟨f2, g2, e2⟩ := plan_facts n2 s2
  obtain ⟨f3, g3, e3⟩ := plan_facts n3 s3
  obtain ⟨⟨c1, c2, c3, c4⟩, hd⟩ := hr
  refine ⟨⟨c1, by simp; omega, by simp only [masX_app2]; omega, fun x hx => ?_⟩, hd⟩
  simp only [List.mem_append] at hx
  rcases hx with hx | hx | hx | hx
  · exact c4 x hx
  · obtain ⟨u, v⟩ := e1 x hx
    exact ⟨by omega, by omega⟩
  · obtain ⟨u, v⟩ := e2 x hx
    exact ⟨by omega, by omega⟩
  · obtain ⟨u, v⟩ := e3 x hx
    exact ⟨by omega, by omega⟩

theorem save_all (k : Dk) {name : List UInt8} (s : List UInt8) (h : svName name) : saveK k name s (-1) = (doL k (planF name s), (((planF name s).length : Nat) : Int), 0) := by
  rw [save_good _ h]
  have : cntP (planF name s).length (-1) = (planF name s).length := by unfold cntP; rw [if_neg (by omega)]
  rw [this, List.take_length, if_neg (Nat.lt_irrefl _)]

theorem fileTwice_spec (q : Sv) (t : List UInt8) (hq : BigQ q) (_ht : BigS t) : FnSpec Try.prog f_loupelaw23_FileTwice [encQ q, .str t] [] (.bool true) [] := by
  refine k_loupelaw23_FileTwice.pureG (T := tabL Try.prog [(f__loupelaw23_SaveIn__given, ctrGiven), (f_loupelaw23_alive, ctrAlive), (f_file_See, ctrSee), (f_file_Save, ctrFSave), (f_louperef23_Same, ctrRSame), (f_file_Crash, ctrCr)]) 0 hD (kOk_tabL (tabOk_cons ctrGiven_ok (tabOk_cons ctrAlive_ok (tabOk_cons ctrSee_ok (tabOk_cons ctrFSave_ok (tabOk_cons ctrRSame_ok (tabOk_cons ctrCr_ok tabOk_nil))))))) hmix (by decide) fun Q hQ => ?_
  try simp only [F_all]
  simp (maxSteps := 400000) only [↓preZ, postZ, coreZ, ↓preF, postF, D_all, F_all, unR, outL, onePV, binS, ↓binS, boundR, ↓boundR, fieldOf, ↓fieldOf, boxR, allocR, newObj, zeroElem, buildSliceR, appendR, setAll, storeR, St.freeze, makeSliceR, minmaxR, makeFuncR, BEq.rfl, reduceIte, reduceCtorEq, Nat.reduceLT, Nat.reduceAdd, Nat.reduceSub, Nat.reduceMul, Nat.reduceBEq, Nat.reduceLeDiff, Int.reduceToNat, Int.reduceLE, hQ, c_loupelaw23_FileTwice]
  refine wpc_weak _ (Weak.freeze 1 0 (Nat.zero_le _) _) ?_
  have a1 := eq_true hq.d.1
  have a2 := eq_true hq.d.2
  have a3 := eq_true (show q.name.length ≤ 4611686018427387904 from hq.name)
  have a4 := eq_true (show q.s.length ≤ 4611686018427387904 from hq.s)
  have a5 := eq_true (show q.other.length ≤ 4611686018427387904 from hq.other)
  have a6 := eq_true hq.n
  cases hg : givenQ q
  · simp (maxSteps := 400000) only [↓preZ, postZ, coreZ, ↓preF, postF, D_all, F_all, unR, outL, onePV, binS, ↓binS, boundR, ↓boundR, fieldOf, ↓fieldOf, boxR, allocR, newObj, zeroElem, buildSliceR, appendR, setAll, storeR, St.freeze, makeSliceR, minmaxR, makeFuncR, BEq.rfl, reduceIte, reduceCtorEq, Nat.reduceLT, Nat.reduceAdd, Nat.reduceSub, Nat.reduceMul, Nat.reduceBEq, Nat.reduceLeDiff, Int.reduceToNat, Int.reduceLE, hQ, ↓ctrGiven, ↓ctrAlive, a1, a2, a3, a4, a5, hg]
  have g := given_ok hg
  by_cases hl : t.length ≤ 2000
  rotate_left 1
  · have hl' : (2000 < (t.length : Int)) = True := eq_true (by omega)
    simp (maxSteps := 400000) only [↓preZ, postZ, coreZ, ↓preF, postF, D_all, F_all, unR, outL, onePV, binS, ↓binS, boundR, ↓boundR, fieldOf, ↓fieldOf, boxR, allocR, newObj, zeroElem, buildSliceR, appendR, setAll, storeR, St.freeze, makeSliceR, minmaxR, makeFuncR, BEq.rfl, reduceIte, reduceCtorEq, Nat.reduceLT, Nat.reduceAdd, Nat.reduceSub, Nat.reduceMul, Nat.reduceBEq, Nat.reduceLeDiff, Int.reduceToNat, Int.reduceLE, hQ, ↓ctrGiven, ↓ctrAlive, a1, a2, a3, a4, a5, hg, hl']
  have hl' : (2000 < (t.length : Int)) = False := eq_false (by omega)
  have b1 : (q.name.length ≤ 1000000) = True := eq_true (by have := g.name; omega)
  have b2 : (q.s.length ≤ 1000000) = True := eq_true (by have := g.s; omega)
  have b3 : (t.length ≤ 1000000) = True := eq_true (by omega)
  have b4 : (q.other.length ≤ 1000000) = True := eq_true (by have := g.other; omega)
  have b5 := eq_true (okK_of g.r.c)
  have p3 := okP_three (n1 := q.name) (s1 := q.s) (n2 := q.name) (s2 := t) (n3 := q.other) (s3 := q.s) g.sm g.r (by have := g.name; omega) (by have := g.s; omega) (by have := g.name; omega) (by omega) (by have := g.other; omega) (by have := g.s; omega)
  by_cases hn : svName q.name
  rotate_left 1
  · have hsv := save_bad (k := q.d) (s := q.s) (-1) hn
    have hsw := save_bad (k := q.d) (s := t) (-1) hn
    have c1 := eq_true p3.left
    have c2 := eq_true (okP_of (k := q.d) (name := q.name) (s := t) g.sm g.rt (by have := g.name; omega) (by omega))
    simp (maxSteps := 400000) only [↓preZ, postZ, coreZ, ↓preF, postF, D_all, F_all, unR, outL, onePV, binS, ↓binS, boundR, ↓boundR, fieldOf, ↓fieldOf, boxR, allocR, newObj, zeroElem, buildSliceR, appendR, setAll, storeR, St.freeze, makeSliceR, minmaxR, makeFuncR, BEq.rfl, reduceIte, reduceCtorEq, Nat.reduceLT, Nat.reduceAdd, Nat.reduceSub, Nat.reduceMul, Nat.reduceBEq, Nat.reduceLeDiff, Int.reduceToNat, Int.reduceLE, hQ, ↓ctrGiven, ↓ctrAlive, ↓ctrFSave, ↓ctrRSame, a1, a2, a3, a4, a5, hg, hl', b1, b2, b3, b5, hsv, hsw, c1, c2, etaR, decide_true, ine]
  have hsv := save_all q.d q.s hn
  have p1 := eq_true p3.left
  have p2 := p3.on
  have ris1 := p2.r.ris
  generalize doL q.d (planF q.name q.s) = k1 at hsv p2 ris1
  have hsw := save_all k1 t hn
  have p2' := eq_true p2.left
  have p4 := p2.on
  have hk2 := plan_all k1 q.name t
  have l2 := fun u => plan_lk (s := t) hn ris1 u
  rw [hk2] at p4 hsw
  generalize (planF q.name t).foldl fdo (seenK k1) = l at p4 hsw l2
  have p4' := eq_true p4
  have hcr : crR ⟨l, []⟩ q.n.toNat = ⟨l, []⟩ := by simp [crR]
  have okl := p4.r
  have okl' := eq_true okl
  have s5 : seenK ⟨l, []⟩ = l := rfl
  have g1 := getS_lk ⟨l, []⟩ q.name
  have g2 := hasS_lk ⟨l, []⟩ q.name
  rw [s5, l2, if_pos rfl] at g1 g2
  have g1 : getS ⟨l, []⟩ q.name = t := g1
  have g2 : hasF l q.name = true := g2
  have ris2 : RisF l := okl.ris
  have lt1 : q.other ++ [46, 116, 109, 112] = tmpF q.other := rfl
  have lt2 : q.name ++ [46, 116, 109, 112] = tmpF q.name := rfl
  have z0 : ((0 : Nat) : Int) = 0 := rfl
  have nl1 : (q.name.length ≤ 9223372036854775803) = True := eq_true (by have := g.name; omega)
  have nl2 : (q.other.length ≤ 9223372036854775803) = True := eq_true (by have := g.other; omega)
  by_cases ho : svName q.other
  rotate_left 1
  · have hsx := save_bad (k := ⟨l, []⟩) (s := q.s) (-1) ho
    simp (maxSteps := 400000) only [↓preZ, postZ, coreZ, ↓preF, postF, D_all, F_all, unR, outL, onePV, binS, ↓binS, boundR, ↓boundR, fieldOf, ↓fieldOf, boxR, allocR, newObj, zeroElem, buildSliceR, appendR, setAll, storeR, St.freeze, makeSliceR, minmaxR, makeFuncR, BEq.rfl, reduceIte, reduceCtorEq, Nat.reduceLT, Nat.reduceAdd, Nat.reduceSub, Nat.reduceMul, Nat.reduceBEq, Nat.reduceLeDiff, Int.reduceToNat, Int.reduceLE, hQ, ↓ctrGiven, ↓ctrAlive, ↓ctrFSave, ↓ctrRSame, ↓ctrCr, ↓ctrSee, a1, a2, a3, a4, a5, a6, hg, hl', b1, b2, b3, b4, b5, hsv, hsw, hsx, p1, p2', p4', hcr, okl', s5, g1, g2, lt1, lt2, nl1, nl2, z0, etaR, decide_true, ine]
  have hsx := save_all ⟨l, []⟩ q.s ho
  have hk3 := plan_all ⟨l, []⟩ q.other q.s
  have l3 := fun u => plan_lk (s := q.s) ho (show RisF (seenK ⟨l, []⟩) from ris2) u
  have okm := (show OkP ⟨l, []⟩ (planF q.other q.s ++ []) by rw [List.append_nil]; exact p4).on.r
  rw [hk3] at hsx okm
  generalize (planF q.other q.s).foldl fdo (seenK ⟨l, []⟩) = m at hsx okm l3
  have okm' := eq_true okm
  rw [s5] at l3
  have s6 : seenK ⟨m, []⟩ = m := rfl
  have gm := getS_lk ⟨m, []⟩
  have hm := hasS_lk ⟨m, []⟩
  rw [s6] at gm hm
  have g3 : getS ⟨m, []⟩ q.other = q.s := by rw [gm, l3, if_pos rfl]; rfl
  have g4 : hasF m q.other = true := by rw [hm, l3, if_pos rfl]; rfl
  have g5 : hasF m (tmpF q.other) = false := by rw [hm, l3, if_neg (tmp_ne _), if_pos rfl]; rfl
  rcases tf (q.other = q.name) with o1 | o1
  · simp (maxSteps := 400000) only [↓preZ, postZ, coreZ, ↓preF, postF, D_all, F_all, unR, outL, onePV, binS, ↓binS, boundR, ↓boundR, fieldOf, ↓fieldOf, boxR, allocR, newObj, zeroElem, buildSliceR, appendR, setAll, storeR, St.freeze, makeSliceR, minmaxR, makeFuncR, BEq.rfl, reduceIte, reduceCtorEq, Nat.reduceLT, Nat.reduceAdd, Nat.reduceSub, Nat.reduceMul, Nat.reduceBEq, Nat.reduceLeDiff, Int.reduceToNat, Int.reduceLE, hQ, ↓ctrGiven, ↓ctrAlive, ↓ctrFSave, ↓ctrRSame, ↓ctrCr, ↓ctrSee, a1, a2, a3, a4, a5, a6, hg, hl', b1, b2, b3, b4, b5, hsv, hsw, hsx, p1, p2', p4', hcr, okl', s5, g1, g2, lt1, lt2, nl1, nl2, z0, o1, etaR, decide_true, ine]
  rcases tf (tmpF q.other = q.name) with o2 | o2
  · simp (maxSteps := 400000) only [↓preZ, postZ, coreZ, ↓preF, postF, D_all, F_all, unR, outL, onePV, binS, ↓binS, boundR, ↓boundR, fieldOf, ↓fieldOf, boxR, allocR, newObj, zeroElem, buildSliceR, appendR, setAll, storeR, St.freeze, makeSliceR, minmaxR, makeFuncR, BEq.rfl, reduceIte, reduceCtorEq, Nat.reduceLT, Nat.reduceAdd, Nat.reduceSub, Nat.reduceMul, Nat.reduceBEq, Nat.reduceLeDiff, Int.reduceToNat, Int.reduceLE, hQ, ↓ctrGiven, ↓ctrAlive, ↓ctrFSave, ↓ctrRSame, ↓ctrCr, ↓ctrSee, a1, a2, a3, a4, a5, a6, hg, hl', b1, b2, b3, b4, b5, hsv, hsw, hsx, p1, p2', p4', hcr, okl', s5, g1, g2, lt1, lt2, nl1, nl2, z0, o1, o2, etaR, decide_true, ine]
  rcases tf (tmpF q.name = q.other) with o3 | o3
  · simp (maxSteps := 400000) only [↓preZ, postZ, coreZ, ↓preF, postF, D_all, F_all, unR, outL, onePV, binS, ↓binS, boundR, ↓boundR, fieldOf, ↓fieldOf, boxR, allocR, newObj, zeroElem, buildSliceR, appendR, setAll, storeR, St.freeze, makeSliceR, minmaxR, makeFuncR, BEq.rfl, reduceIte, reduceCtorEq, Nat.reduceLT, Nat.reduceAdd, Nat.reduceSub, Nat.reduceMul, Nat.reduceBEq, Nat.reduceLeDiff, Int.reduceToNat, Int.reduceLE, hQ, ↓ctrGiven, ↓ctrAlive, ↓ctrFSave, ↓ctrRSame, ↓ctrCr, ↓ctrSee, a1, a2, a3, a4, a5, a6, hg, hl', b1, b2, b3, b4, b5, hsv, hsw, hsx, p1, p2', p4', hcr, okl', s5, g1, g2, lt1, lt2, nl1, nl2, z0, o1, o2, o3, etaR, decide_true, ine]
  have x1 : ¬ q.name = q.other := fun h => by have := o1.mp h.symm; exact this
  have x2 : ¬ q.name = tmpF q.other := fun h => by have := o2.mp h.symm; exact this
  have g6 : getS ⟨m, []⟩ q.name = t := by rw [gm, l3, if_neg x1, if_neg x2, l2, if_pos rfl]; rfl
  have g7 : hasF m q.name = true := by rw [hm, l3, if_neg x1, if_neg x2, l2, if_pos rfl]; rfl
  simp (maxSteps := 400000) only [↓preZ, postZ, coreZ, ↓preF, postF, D_all, F_all, unR, outL, onePV, binS, ↓binS, boundR, ↓boundR, fieldOf, ↓fieldOf, boxR, allocR, newObj, zeroElem, buildSliceR, appendR, setAll, storeR, St.freeze, makeSliceR, minmaxR, makeFuncR, BEq.rfl, reduceIte, reduceCtorEq, Nat.reduceLT, Nat.reduceAdd, Nat.reduceSub, Nat.reduceMul, Nat.reduceBEq, Nat.reduceLeDiff, Int.reduceToNat, Int.reduceLE, hQ, ↓ctrGiven, ↓ctrAlive, ↓ctrFSave, ↓ctrRSame, ↓ctrCr, ↓ctrSee, a1, a2, a3, a4, a5, a6, hg, hl', b1, b2, b3, b4, b5, hsv, hsw, hsx, p1, p2', p4', hcr, okl', okm', s5, s6, g1, g2, g3, g4, g5, g6, g7, lt1, lt2, nl1, nl2, z0, o1, o2, o3, etaR, decide_true, ine]

end Lp
