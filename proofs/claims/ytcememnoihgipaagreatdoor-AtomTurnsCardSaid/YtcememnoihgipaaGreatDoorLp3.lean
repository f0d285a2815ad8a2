/-
  Part 3 of what the statement rests on: LpN, LpNb, LpO, LpP, LpT, LpQ, LpR, LpS. No condition.
-/
import Derived.Test.YtcememnoihgipaaGreatDoorLp2
import Derived.RangeFuncRecord
import Derived.RangeFuncLeaves
import Derived.KernelRfl

set_option linter.all false

/-! LpN -/

namespace Lp
open Go
variable {P : Program} {D : TypeId → TInfo} {l : Option Nat}
structure Ent where
  r : PV
  objs : List Obj
  t : Nat
  deriving Inhabited
def q1x (ops : List Oper) (g : Option (Nat × Bool)) (tmps : List PV) : Option Bool :=
  match g with
  | none => some true
  | some (j, want) =>
    match (ops[j]?).bind (·.dst) with
    | none => none
    | some d =>
      match tmps.getD d .dead with
      | .bool b => some (b == want)
      | .tup [] => some false
      | _ => none
theorem q8z {ops : List Oper} {g : Option (Nat × Bool)} {S : St} {X Y : St → Prop} (h : q51 ops g S X Y) :
    (q1x ops g S.tmps = some true ∧ X S) ∨ (q1x ops g S.tmps = some false ∧ Y S) := by
  unfold q51 at h
  unfold q1x
  split at h
  · exact .inl ⟨rfl, h⟩
  · rename_i j want
    simp only []
    split at h
    · exact h.elim
    · rename_i d hd
      rw [hd]
      simp only []
      split at h
      · rename_i b hb
        rw [hb]
        by_cases hbw : b = want
        · left
          have := h.1 hbw
          rw [q97 (by rw [hb, hbw]) (by simp)] at this
          exact ⟨by simp [hbw], this⟩
        · right
          have hbn : b = !want := by cases b <;> cases want <;> simp_all
          have := h.2 hbn
          rw [q97 (by rw [hb, hbn]) (by simp)] at this
          exact ⟨by simp [hbn], this⟩
      · rename_i hb
        rw [hb]
        exact .inr ⟨rfl, h⟩
      · exact h.elim
theorem q90 {ops : List Oper} {g : Option (Nat × Bool)} {S : St} {b : Bool} (h : q1x ops g S.tmps = some b) :
    q51 ops g S (fun _ => b = true) (fun _ => b = false) := by
  unfold q1x at h
  unfold q51
  split at h
  · simpa using h.symm
  · rename_i j want
    simp only []
    split at h
    · cases h
    · rename_i d hd
      rw [hd]
      simp only []
      split at h
      · rename_i b0 hb
        rw [hb]
        simp only [Option.some.injEq] at h
        subst h
        exact ⟨fun e => by simp [e], fun e => by simp [e]⟩
      · rename_i hb
        rw [hb]
        simpa using h.symm
      · cases h
theorem q3s {ops : List Oper} {base prot : Nat → Prop} {w0 : Wz} {S : St} {blk : Nat → Option Nat} {a : Act} {w : World} {b : Bool} {o : Oper}
    (R : Rel base prot w0 S blk a w) (h : q1x ops o.guard S.tmps = some b) : Region.wanted o (yielded ops.toArray a.tmps) = b := by
  rcases q6l R (q90 h) o rfl with ⟨h1, h2⟩ | ⟨h1, h2⟩ <;> rw [h1, h2]
def q6b (P : Program) (D : TypeId → TInfo) (own : Bool) (ops : List Oper) (o : Oper) (S : St) (e : Ent) : Prop :=
  (q1x ops o.guard S.tmps = some true ∧ (co e.t ≠ 2 → e.objs = S.objs) ∧ (∀ K : KT, K e.r e.objs e.t → opR P D own S.ev S.objs o.op K) ∧
    (e.t = 0 → ∀ (objs2 : List Obj) (K : KT), K e.r objs2 0 → opR P D own S.ev objs2 o.op K) ∧ Fine (fun ob K => opR P D own S.ev ob o.op K) S.objs e.r e.objs e.t) ∨
  (q1x ops o.guard S.tmps = some false ∧ e.r = .tup [] ∧ e.objs = S.objs ∧ e.t = 0)
def Trace (P : Program) (D : TypeId → TInfo) (own : Nat → Bool) (ops : List Oper) : List Oper → Nat → St → List Ent → St → Prop
  | [], _, S, tr, S' => tr = [] ∧ S' = S
  | o :: rest, i, S, tr, S' => ∃ e tr', tr = e :: tr' ∧ q6b P D (own i) ops o S e ∧ Trace P D own ops rest (i + 1) (St.put ⟨S.tmps, e.objs⟩ o.dst e.r) tr' S'
theorem q2p {own : Nat → Bool} {ops : List Oper} : ∀ (lst : List Oper) (i : Nat) (S : St) (ts : List Nat) (K : St → List Nat → Prop), listR P D own ops lst i S ts K →
    ∃ tr S', Trace P D own ops lst i S tr S' ∧ K S' (ts ++ tr.map (·.t))
  | [], i, S, ts, K, h => ⟨[], S, ⟨rfl, rfl⟩, by simpa [listR] using h⟩
  | o :: rest, i, S, ts, K, h => by
    unfold listR at h
    rcases q8z h with ⟨hw, hx⟩ | ⟨hw, hy⟩
    · obtain ⟨r, ob, t, h1, h2, h3, h4, h4b⟩ := ql5 hx
      obtain ⟨tr, S', h5, h6⟩ := q2p rest _ _ _ K h1
      refine ⟨⟨r, ob, t⟩ :: tr, S', ⟨_, _, rfl, .inl ⟨hw, h2, h3, h4, h4b⟩, h5⟩, by simpa using h6⟩
    · obtain ⟨tr, S', h5, h6⟩ := q2p rest _ _ _ K hy
      refine ⟨⟨.tup [], S.objs, 0⟩ :: tr, S', ⟨_, _, rfl, .inr ⟨hw, rfl, rfl, rfl⟩, ?_⟩, by simpa using h6⟩
      exact h5
def putT (dst : Option Nat) (r : PV) (tm : List PV) : List PV :=
  match dst with
  | some d => tm.set d r
  | none => tm
section
variable (dst : Nat → Option Nat) (en : Nat → Ent)
def tmX (X : Nat → Bool) : Nat → List PV → List PV
  | 0, tm => tm
  | n + 1, tm => if X n then putT (dst n) (en n).r (tmX X n tm) else tmX X n tm
def obX (X : Nat → Bool) : Nat → List Obj → List Obj
  | 0, ob => ob
  | n + 1, ob => if X n && co (en n).t == 2 then (en n).objs else obX X n ob
def upd (X : Nat → Bool) (i : Nat) (j : Nat) : Bool := X j || j == i
variable {dst en}
theorem q3b {X Y : Nat → Bool} : ∀ (n : Nat) (tm : List PV), (∀ j, j < n → X j = Y j) → tmX dst en X n tm = tmX dst en Y n tm
  | 0, _, _ => rfl
  | n + 1, tm, h => by simp only [tmX]; rw [h n (by omega), q3b n tm (fun j hj => h j (by omega))]
theorem q4b {X Y : Nat → Bool} : ∀ (n : Nat) (ob : List Obj), (∀ j, j < n → co (en j).t = 2 → X j = Y j) → obX en X n ob = obX en Y n ob
  | 0, _, _ => rfl
  | n + 1, ob, h => by
    simp only [obX]
    rw [q4b n ob (fun j hj => h j (by omega))]
    by_cases ht : co (en n).t = 2
    · rw [h n (by omega) ht]
    · simp [ht]
theorem qfx (d : Option Nat) (r : PV) (tm : List PV) : (putT d r tm).length = tm.length := by cases d <;> simp [putT]
theorem q7w (X : Nat → Bool) : ∀ (n : Nat) (tm : List PV), (tmX dst en X n tm).length = tm.length
  | 0, _ => rfl
  | n + 1, tm => by simp only [tmX]; split <;> simp [qfx, q7w X n tm]
theorem q8f {d : Option Nat} {x : Nat} (h : d ≠ some x) (r : PV) (tm : List PV) : (putT d r tm).getD x .dead = tm.getD x .dead := by
  cases d with
  | none => rfl
  | some d =>
    have : d ≠ x := fun e => h (by rw [e])
    simp [putT, List.getD_eq_getElem?_getD, List.getElem?_set_ne this]
theorem qa1 {d : Option Nat} {x : Nat} {r : PV} {tm tm' : List PV} (hl : tm.length = tm'.length) (h : tm.getD x .dead = tm'.getD x .dead) : (putT d r tm).getD x .dead = (putT d r tm').getD x .dead := by
  cases d with
  | none => exact h
  | some d =>
    by_cases hd : d = x
    · subst hd
      simp [putT, List.getD_eq_getElem?_getD, List.getElem?_set, hl]
    · simpa [putT, List.getD_eq_getElem?_getD, List.getElem?_set_ne hd] using h
theorem qcl {X Y : Nat → Bool} {x : Nat} : ∀ (n : Nat) (tm : List PV), (∀ j, j < n → dst j = some x → X j = Y j) → (tmX dst en X n tm).getD x .dead = (tmX dst en Y n tm).getD x .dead
  | 0, _, _ => rfl
  | n + 1, tm, h => by
    have ih := qcl (X := X) (Y := Y) (x := x) n tm (fun j hj => h j (by omega))
    simp only [tmX]
    by_cases hd : dst n = some x
    · rw [h n (by omega) hd]
      split
      · exact qa1 (by rw [q7w, q7w]) ih
      · exact ih
    · split <;> split <;> (try rw [q8f hd]) <;> (try rw [q8f hd]) <;> exact ih
theorem ql7 {d d' : Option Nat} {r r' : PV} {tm : List PV} (h : ∀ x, d = some x → d' ≠ some x) : putT d r (putT d' r' tm) = putT d' r' (putT d r tm) := by
  cases d with
  | none => rfl
  | some x =>
    cases d' with
    | none => rfl
    | some y =>
      have hxy : y ≠ x := fun e => h x rfl (by rw [e])
      simp only [putT]
      exact List.set_comm _ _ hxy
theorem qfy {X : Nat → Bool} {i : Nat} : ∀ (n : Nat) (tm : List PV), i < n → X i = false → (∀ j, i < j → j < n → X j = true → ∀ x, dst i = some x → dst j ≠ some x) →
    putT (dst i) (en i).r (tmX dst en X n tm) = tmX dst en (upd X i) n tm
  | 0, _, h, _, _ => by omega
  | n + 1, tm, hi, hx, hd => by
    simp only [tmX]
    by_cases hin : i = n
    · subst hin
      simp only [hx, upd, beq_self_eq_true, Bool.or_true, if_true, Bool.false_eq_true, if_false]
      rw [q3b (Y := upd X i) i tm (fun j hj => by simp [upd]; omega)]
    · have ih := qfy (X := X) n tm (by omega) hx (fun j h1 h2 => hd j h1 (by omega))
      have hu : upd X i n = X n := by simp [upd]; omega
      rw [hu]
      split
      · rename_i hn
        rw [← ih, ql7 (fun x hx' => hd n (by omega) (by omega) hn x hx')]
      · exact ih
theorem qfz {X : Nat → Bool} {i : Nat} : ∀ (n : Nat) (ob : List Obj), i < n → co (en i).t = 2 → (∀ j, i < j → j < n → X j = true → co (en j).t ≠ 2) → obX en (upd X i) n ob = (en i).objs
  | 0, _, h, _, _ => by omega
  | n + 1, ob, hi, ht, hd => by
    simp only [obX]
    by_cases hin : i = n
    · subst hin
      simp [upd, ht]
    · have hu : upd X i n = X n := by simp [upd]; omega
      rw [hu]
      cases hn : X n with
      | false => simpa using qfz n ob (by omega) ht (fun j h1 h2 => hd j h1 (by omega))
      | true =>
        have := hd n (by omega) (by omega) hn
        simpa [this] using qfz n ob (by omega) ht (fun j h1 h2 => hd j h1 (by omega))
def cnt (X : Nat → Bool) : Nat → Nat
  | 0 => 0
  | n + 1 => cnt X n + if X n then 0 else 1
theorem qeb {X Y : Nat → Bool} : ∀ (n : Nat), (∀ j, j < n → X j = Y j) → cnt X n = cnt Y n
  | 0, _ => rfl
  | n + 1, h => by simp only [cnt]; rw [h n (by omega), qeb n (fun j hj => h j (by omega))]
theorem qg0 {X : Nat → Bool} {i : Nat} : ∀ (n : Nat), i < n → X i = false → cnt (upd X i) n + 1 = cnt X n
  | 0, h, _ => by omega
  | n + 1, hi, hx => by
    simp only [cnt]
    by_cases hin : i = n
    · subst hin
      rw [qeb (Y := upd X i) (X := X) i (fun j hj => by simp [upd]; omega)]
      simp [upd, hx]
    · have := qg0 (X := X) n (by omega) hx
      have hu : upd X i n = X n := by simp [upd]; omega
      rw [hu]; omega
theorem qcm {X : Nat → Bool} : ∀ (n : Nat), cnt X n = 0 → ∀ j, j < n → X j = true
  | 0, _, j, h => by omega
  | n + 1, h, j, hj => by
    simp only [cnt] at h
    by_cases hjn : j = n
    · subst hjn
      cases hx : X j with
      | true => rfl
      | false => simp [hx] at h
    · exact qcm n (by omega) j (by omega)
end
def lookL (ops : List Oper) (o : Oper) : List Nat :=
  (o.op.operands.toList.filterMap fun | .tmp t => some t | _ => none) ++
  (match o.guard with
   | some (g, _) => ((ops[g]?).bind (·.dst)).toList
   | none => [])
def qbs (acc : List Nat) (o : Oper) : Nat :=
  o.after.toList.foldl (fun m e => if Region.binds .any e then (m ||| (1 <<< e.on)) ||| acc.getD e.on 0 else m) 0
def masks : List Oper → List Nat → List Nat
  | [], acc => acc
  | o :: rest, acc => masks rest (acc ++ [qbs acc o])
def clash (dj di : Option Nat) (lj li : List Nat) (tj ti : Nat) : Bool :=
  (match dj with
   | some d => li.contains d || di == some d
   | none => false) ||
  (match di with
   | some d => lj.contains d
   | none => false) ||
  (tj == 2 && ti != 0) || (ti == 2 && tj != 0)
def q74 (ops : List Oper) (ts : List Nat) : Bool :=
  let ms := masks ops []
  let ls := ops.map (lookL ops)
  (List.range ops.length).all fun i =>
    match ops[i]? with
    | none => true
    | some o =>
      (o.after.toList.all fun e => !Region.binds .any e || decide (e.on < i)) &&
      (ms.getD i 0 &&& qbs ms o == ms.getD i 0) &&
      (List.range i).all fun j =>
        !clash ((ops[j]?).bind (·.dst)) o.dst (ls.getD j []) (ls.getD i []) (co (ts.getD j 0)) (co (ts.getD i 0)) || (ms.getD i 0).testBit j
theorem qbt {acc : List Nat} {o : Oper} {j : Nat} (h : (qbs acc o).testBit j = true) :
    ∃ e ∈ o.after.toList, Region.binds .any e = true ∧ (j = e.on ∨ (acc.getD e.on 0).testBit j = true) := by
  unfold qbs at h
  have key : ∀ (es : List Edge) (m : Nat), (es.foldl (fun m e => if Region.binds .any e then (m ||| (1 <<< e.on)) ||| acc.getD e.on 0 else m) m).testBit j = true →
      m.testBit j = true ∨ ∃ e ∈ es, Region.binds .any e = true ∧ (j = e.on ∨ (acc.getD e.on 0).testBit j = true) := by
    intro es
    induction es with
    | nil => intro m h; exact .inl h
    | cons e es ih =>
      intro m h
      rw [List.foldl_cons] at h
      rcases ih _ h with h | ⟨e', h1, h2⟩
      · split at h
        · rename_i hb
          rw [Nat.testBit_or, Nat.testBit_or] at h
          simp only [Bool.or_eq_true] at h
          rcases h with (h | h) | h
          · exact .inl h
          · rw [Nat.one_shiftLeft, Nat.testBit_two_pow] at h
            exact .inr ⟨e, List.mem_cons_self, hb, .inl (of_decide_eq_true h).symm⟩
          · exact .inr ⟨e, List.mem_cons_self, hb, .inr h⟩
        · exact .inl h
      · exact .inr ⟨e', List.mem_cons_of_mem _ h1, h2⟩
  rcases key _ _ h with h | h
  · simp at h
  · exact h
structure DrawOk (ops : List Oper) (ts : List Nat) (ms : List Nat) : Prop where
  back : ∀ (i : Nat) (o : Oper), ops[i]? = some o → ∀ e ∈ o.after.toList, Region.binds .any e = true → e.on < i
  mask : ∀ (i : Nat) (o : Oper), ops[i]? = some o → ∀ j, (ms.getD i 0).testBit j = true → ∃ e ∈ o.after.toList, Region.binds .any e = true ∧ (j = e.on ∨ (ms.getD e.on 0).testBit j = true)
  ord : ∀ (i : Nat) (o : Oper) (j : Nat) (p : Oper), ops[i]? = some o → ops[j]? = some p → j < i → clash p.dst o.dst (lookL ops p) (lookL ops o) (co (ts.getD j 0)) (co (ts.getD i 0)) = true → (ms.getD i 0).testBit j = true
theorem qa2 {ops : List Oper} {ts : List Nat} (h : q74 ops ts = true) : DrawOk ops ts (masks ops []) := by
  unfold q74 at h
  simp only [List.all_eq_true, List.mem_range] at h
  have hh : ∀ i o, ops[i]? = some o → _ := fun i o ho => by
    have := h i (List.getElem?_eq_some_iff.1 ho).1
    rw [ho] at this
    simp only [Bool.and_eq_true, List.all_eq_true, List.mem_range, beq_iff_eq] at this
    exact this
  refine ⟨fun i o ho e he hb => by simpa [hb] using (hh i o ho).1.1 e he, fun i o ho j hj => ?_, fun i o j p ho hp hji hc => ?_⟩
  · refine qbt ?_
    have h2 := (hh i o ho).1.2
    rw [← h2, Nat.testBit_and] at hj
    simp only [Bool.and_eq_true] at hj
    exact hj.2
  · have h3 := (hh i o ho).2 j hji
    have hlt := (List.getElem?_eq_some_iff.1 hp).1
    have e1 : (ops.map (lookL ops)).getD j [] = lookL ops p := by rw [List.getD_eq_getElem?_getD, List.getElem?_map, hp]; rfl
    have e2 : (ops.map (lookL ops)).getD i [] = lookL ops o := by rw [List.getD_eq_getElem?_getD, List.getElem?_map, ho]; rfl
    rw [e1, e2, hp] at h3
    simp only [Option.bind_some, hc, Bool.not_true, Bool.false_or] at h3
    exact h3
def dstOf (ops : List Oper) (i : Nat) : Option Nat := (ops[i]?).bind (·.dst)
def entOf (tr : List Ent) (i : Nat) : Ent := tr.getD i default
def stX (ops : List Oper) (tr : List Ent) (S : St) (X : Nat → Bool) (n : Nat) : St := ⟨tmX (dstOf ops) (entOf tr) X n S.tmps, obX (entOf tr) X n S.objs⟩
theorem q6n {own : Nat → Bool} {ops : List Oper} {S0 : St} {tr0 : List Ent} : ∀ (lst : List Oper) (k : Nat) (S : St) (tr : List Ent) (S' : St), Trace P D own ops lst k S tr S' →
    (∀ j, lst[j]? = ops[k + j]?) → (∀ j, tr[j]? = tr0[k + j]?) → S = stX ops tr0 S0 (fun _ => true) k →
    (∀ i o, k ≤ i → ops[i]? = some o → q6b P D (own i) ops o (stX ops tr0 S0 (fun _ => true) i) (entOf tr0 i)) ∧ S' = stX ops tr0 S0 (fun _ => true) (k + lst.length)
  | [], k, S, tr, S', h, hl, ht, hs => by
    refine ⟨fun i o hi ho => ?_, by rw [h.2, hs]; rfl⟩
    have := hl (i - k)
    rw [show k + (i - k) = i by omega, ho] at this
    simp at this
  | o :: rest, k, S, tr, S', h, hl, ht, hs => by
    obtain ⟨e, tr', rfl, h1, h2⟩ := h
    have ho : ops[k]? = some o := by simpa using (hl 0).symm
    have he : entOf tr0 k = e := by
      have := ht 0
      simp only [List.getElem?_cons_zero, Nat.add_zero] at this
      simp [entOf, List.getD_eq_getElem?_getD, ← this]
    have hst : St.put ⟨S.tmps, e.objs⟩ o.dst e.r = stX ops tr0 S0 (fun _ => true) (k + 1) := by
      have e1 : (stX ops tr0 S0 (fun _ => true) (k + 1)).tmps = putT o.dst e.r S.tmps := by
        simp only [stX, tmX, if_true, he, dstOf, ho, Option.bind_some]
        rw [hs]; rfl
      have e2 : (stX ops tr0 S0 (fun _ => true) (k + 1)).objs = e.objs := by
        simp only [stX, obX, he, Bool.true_and]
        have hso : S.objs = obX (entOf tr0) (fun _ => true) k S0.objs := by rw [hs]; rfl
        split
        · rfl
        · rename_i hne
          have hne : co e.t ≠ 2 := by simpa using hne
          rcases h1 with ⟨_, h1, _⟩ | ⟨_, _, h1, _⟩
          · rw [h1 hne, hso]
          · rw [h1, hso]
      cases hd : o.dst with
      | none => rw [hd] at e1; simp only [St.put, putT] at e1 ⊢; rw [← e1, ← e2]
      | some d => rw [hd] at e1; simp only [St.put, putT] at e1 ⊢; rw [← e1, ← e2]
    obtain ⟨h3, h4⟩ := q6n rest (k + 1) _ tr' S' h2 (fun j => by have := hl (j + 1); simpa [Nat.add_assoc, Nat.add_comm 1 j] using this)
      (fun j => by have := ht (j + 1); simpa [Nat.add_assoc, Nat.add_comm 1 j] using this) hst
    refine ⟨fun i o' hi ho' => ?_, by rw [h4, List.length_cons]; congr 1; omega⟩
    by_cases hik : i = k
    · subst hik
      rw [ho] at ho'
      cases ho'
      rw [he, ← hs]; exact h1
    · exact h3 i o' (by omega) ho'
theorem qa3 {dst : Nat → Option Nat} {en : Nat → Ent} {i : Nat} : ∀ (n : Nat) (tm : List PV), i ≤ n → tmX dst en (fun j => decide (j < i)) n tm = tmX dst en (fun _ => true) i tm
  | 0, _, h => by have : i = 0 := by omega
                  subst this; rfl
  | n + 1, tm, h => by
    by_cases hi : i = n + 1
    · subst hi
      exact q3b (n + 1) tm fun j hj => by simp [hj]
    · simp only [tmX]
      rw [if_neg (by simp; omega)]
      exact qa3 n tm (by omega)
theorem qec {en : Nat → Ent} {i : Nat} : ∀ (n : Nat) (ob : List Obj), i ≤ n → obX en (fun j => decide (j < i)) n ob = obX en (fun _ => true) i ob
  | 0, _, h => by have : i = 0 := by omega
                  subst this; rfl
  | n + 1, tm, h => by
    by_cases hi : i = n + 1
    · subst hi
      exact q4b (n + 1) tm fun j hj _ => by simp [hj]
    · simp only [obX]
      rw [if_neg (by simp; omega)]
      exact qec n tm (by omega)
theorem qbu {dj di : Option Nat} {lj li : List Nat} {tj ti x : Nat} (h : dj = some x) (hx : x ∈ li) : clash dj di lj li tj ti = true := by simp [clash, h, hx]
theorem qa4 {dj di : Option Nat} {lj li : List Nat} {tj ti x : Nat} (h : di = some x) (hx : x ∈ lj) : clash dj di lj li tj ti = true := by simp [clash, h, hx]
theorem qed {dj di : Option Nat} {lj li : List Nat} {tj ti x : Nat} (h : dj = some x) (hx : di = some x) : clash dj di lj li tj ti = true := by simp [clash, h, hx]
theorem ql8 {dj di : Option Nat} {lj li : List Nat} {tj ti : Nat} (h : tj = 2) (hx : ti ≠ 0) : clash dj di lj li tj ti = true := by simp [clash, h, hx]
theorem qng {dj di : Option Nat} {lj li : List Nat} {tj ti : Nat} (h : ti = 2) (hx : tj ≠ 0) : clash dj di lj li tj ti = true := by simp [clash, h, hx]
theorem qee {own : Bool} {ops : List Oper} {o : Oper} {S S' : St} {e : Ent} (h : q6b P D own ops o S e) (hx : ∀ x ∈ lookL ops o, S.tmps.getD x .dead = S'.tmps.getD x .dead) (ho : e.t ≠ 0 → S.objs = S'.objs) :
    (q1x ops o.guard S'.tmps = some true ∧ (co e.t ≠ 2 → e.t ≠ 0 → e.objs = S'.objs) ∧ opR P D own S'.ev S'.objs o.op (fun r objs' t => r = e.r ∧ t = e.t ∧ (e.t = 0 → objs' = S'.objs) ∧ (e.t ≠ 0 → objs' = e.objs))) ∨
    (q1x ops o.guard S'.tmps = some false ∧ e.r = .tup [] ∧ e.t = 0) := by
  have hev : ∀ x ∈ o.op.operands, S.ev x = S'.ev x := by
    intro x hm
    cases x with
    | tmp t => exact hx t (List.mem_append_left _ (List.mem_filterMap.2 ⟨.tmp t, by simpa using hm, rfl⟩))
    | _ => rfl
  have hg : q1x ops o.guard S.tmps = q1x ops o.guard S'.tmps := by
    cases hgd : o.guard with
    | none => rfl
    | some g =>
      obtain ⟨j, want⟩ := g
      simp only [q1x]
      cases hd : (ops[j]?).bind (·.dst) with
      | none => rfl
      | some d =>
        simp only []
        rw [hx d (List.mem_append_right _ (by rw [hgd]; simp [hd]))]
  rcases h with ⟨h1, h2, h3, h4, _⟩ | ⟨h1, h2, h3, h4⟩
  · left
    refine ⟨hg ▸ h1, fun a b => by rw [h2 a, ho b], ?_⟩
    by_cases ht : e.t = 0
    · exact q72 hev (h4 ht S'.objs _ ⟨rfl, ht.symm, fun _ => rfl, fun c => absurd ht c⟩)
    · have := q72 hev (h3 (fun r objs' t => r = e.r ∧ t = e.t ∧ (e.t = 0 → objs' = S'.objs) ∧ (e.t ≠ 0 → objs' = e.objs)) ⟨rfl, rfl, fun c => absurd c ht, fun _ => rfl⟩)
      rw [ho ht] at this
      exact this
  · exact .inr ⟨hg ▸ h1, h2, h4⟩
theorem ql9 {own : Nat → Bool} {ops : List Oper} {ts : List Nat} {ms : List Nat} {tr : List Ent} {S0 : St} (hD : ∀ t, TOk P t (D t)) (hok : DrawOk ops ts ms)
    (hts : ∀ i, i < ops.length → ts.getD i 0 = (entOf tr i).t)
    (hst : ∀ i o, ops[i]? = some o → q6b P D (own i) ops o (stX ops tr S0 (fun _ => true) i) (entOf tr i))
    {X : Nat → Bool} {i : Nat} {o : Oper} (ho : ops[i]? = some o) (hX : X i = false) (hcl : ∀ j, j < ops.length → X j = true → ∀ x, (ms.getD j 0).testBit x = true → X x = true)
    (hrd : ∀ x, (ms.getD i 0).testBit x = true → X x = true)
    {base prot : Nat → Prop} {w0 : Wz} {blk : Nat → Option Nat} {a : Act} {w : World} (R : Rel base prot w0 (stX ops tr S0 X ops.length) blk a w)
    {Q : Exit → Act → World → Prop} {K : Act → World → Prop} (hK : ∀ blk' a' w', Rel base prot w0 (stX ops tr S0 (upd X i) ops.length) blk' a' w' → K a' w') :
    wpOpIn (fen l) 0 P ops.toArray Q i K a w := by
  have hi : i < ops.length := (List.getElem?_eq_some_iff.1 ho).1
  have hdst : dstOf ops i = o.dst := by simp [dstOf, ho]
  have getO : ∀ j, j < ops.length → ∃ p, ops[j]? = some p ∧ dstOf ops j = p.dst := fun j hj => ⟨ops[j], List.getElem?_eq_getElem hj, by simp [dstOf, List.getElem?_eq_getElem hj]⟩
  -- what clashes with i has run just if it stands ahead
  have before : ∀ j p, ops[j]? = some p → j < i → clash p.dst o.dst (lookL ops p) (lookL ops o) (co (ts.getD j 0)) (co (ts.getD i 0)) = true → X j = true :=
    fun j p hp hj hc => hrd j (hok.ord i o j p ho hp hj hc)
  have behind : ∀ j p, ops[j]? = some p → i < j → clash o.dst p.dst (lookL ops o) (lookL ops p) (co (ts.getD i 0)) (co (ts.getD j 0)) = true → X j = false := fun j p hp hj hc => by
    cases hx : X j with
    | false => rfl
    | true =>
      have := hcl j (List.getElem?_eq_some_iff.1 hp).1 hx i (hok.ord j p i o hp ho hj hc)
      rw [hX] at this; cases this
  have hlook : ∀ x ∈ lookL ops o, (stX ops tr S0 (fun _ => true) i).tmps.getD x .dead = (stX ops tr S0 X ops.length).tmps.getD x .dead := by
    intro x hx
    simp only [stX]
    rw [← qa3 (dst := dstOf ops) ops.length S0.tmps (Nat.le_of_lt hi)]
    refine qcl _ _ fun j hj hd => ?_
    obtain ⟨p, hp, hpd⟩ := getO j hj
    rw [hpd] at hd
    rcases Nat.lt_trichotomy j i with hji | hji | hji
    · rw [before j p hp hji (qbu hd hx)]; simp [hji]
    · subst hji; rw [hX]; simp
    · rw [behind j p hp hji (qa4 hd hx)]; simp; omega
  have hobj : (entOf tr i).t ≠ 0 → (stX ops tr S0 (fun _ => true) i).objs = (stX ops tr S0 X ops.length).objs := by
    intro ht
    simp only [stX]
    rw [← qec ops.length S0.objs (Nat.le_of_lt hi)]
    refine q4b _ _ fun j hj h2 => ?_
    obtain ⟨p, hp, hpd⟩ := getO j hj
    rcases Nat.lt_trichotomy j i with hji | hji | hji
    · rw [before j p hp hji (ql8 (by rw [hts j hj]; exact h2) (by rw [hts i hi]; exact qkw ht))]; simp [hji]
    · subst hji; rw [hX]; simp
    · rw [behind j p hp hji (qng (by rw [hts j hj]; exact h2) (by rw [hts i hi]; exact qkw ht))]; simp; omega
  have hadd : putT o.dst (entOf tr i).r (stX ops tr S0 X ops.length).tmps = (stX ops tr S0 (upd X i) ops.length).tmps := by
    simp only [stX]
    rw [← hdst]
    refine qfy _ _ hi hX fun j hj hjn hxj x hx hd => ?_
    obtain ⟨p, hp, hpd⟩ := getO j hjn
    rw [hpd] at hd
    rw [hdst] at hx
    have := behind j p hp hj (qed hx hd)
    rw [this] at hxj; cases hxj
  have hobj' : (stX ops tr S0 (upd X i) ops.length).objs = if co (entOf tr i).t = 2 then (entOf tr i).objs else (stX ops tr S0 X ops.length).objs := by
    simp only [stX]
    split
    · rename_i ht
      refine qfz _ _ hi ht fun j hj hjn hxj hj2 => ?_
      obtain ⟨p, hp, hpd⟩ := getO j hjn
      have := behind j p hp hj (ql8 (by rw [hts i hi]; exact ht) (by rw [hts j hjn, hj2]; decide))
      rw [this] at hxj; cases hxj
    · rename_i ht
      refine q4b _ _ fun j hj h2 => ?_
      have hne : j ≠ i := fun e => ht (e ▸ h2)
      simp [upd, hne]
  have hput : ∀ objs', (objs' = (stX ops tr S0 (upd X i) ops.length).objs) → St.put ⟨(stX ops tr S0 X ops.length).tmps, objs'⟩ o.dst (entOf tr i).r = stX ops tr S0 (upd X i) ops.length := by
    rintro objs' rfl
    cases hd : o.dst with
    | none => rw [hd] at hadd; simp only [putT] at hadd; simp only [St.put]; rw [hadd]
    | some d => rw [hd] at hadd; simp only [putT] at hadd; simp only [St.put]; rw [hadd]
  unfold wpOpIn
  have h0 : ops.toArray[i]? = some o := by simpa using ho
  rw [h0]
  simp only []
  rcases qee (hst i o ho) hlook hobj with ⟨h1, h2, h3⟩ | ⟨h1, h2, h3⟩
  · rw [if_pos (q3s R h1)]
    refine q96 l hD R h3 fun r objs' t v w' blk' hr R' hv => ?_
    obtain ⟨rfl, rfl, e0, e1⟩ := hr
    have := R'.put hv o.dst
    rw [hput objs' (by
      rw [hobj']
      split
      · rename_i ht; exact e1 (fun hz => by rw [hz] at ht; exact absurd ht (by decide))
      · rename_i ht
        by_cases hz : (entOf tr i).t = 0
        · exact e0 hz
        · rw [e1 hz]; exact h2 ht hz)] at this
    exact hK _ _ _ this
  · rw [if_neg (by rw [q3s R h1]; simp)]
    refine ⟨fun _ _ => trivial, ?_⟩
    have := R.put (q73 w _ _ blk) o.dst
    rw [← h2] at this
    have hs := hput (stX ops tr S0 X ops.length).objs (by rw [hobj', if_neg (by rw [h3]; decide)])
    rw [show (stX ops tr S0 X ops.length).put o.dst (entOf tr i).r = St.put ⟨(stX ops tr S0 X ops.length).tmps, (stX ops tr S0 X ops.length).objs⟩ o.dst (entOf tr i).r from rfl, hs] at this
    exact hK _ _ _ this
theorem qbv {own : Nat → Bool} {ops : List Oper} {ts : List Nat} {ms : List Nat} {tr : List Ent} {S0 : St} (hD : ∀ t, TOk P t (D t)) (hok : DrawOk ops ts ms)
    (hts : ∀ i, i < ops.length → ts.getD i 0 = (entOf tr i).t)
    (hst : ∀ i o, ops[i]? = some o → q6b P D (own i) ops o (stX ops tr S0 (fun _ => true) i) (entOf tr i))
    {base prot : Nat → Prop} {w0 : Wz} {Q : Exit → Act → World → Prop}
    (hQ : ∀ blk' a' w', Rel base prot w0 (stX ops tr S0 (fun _ => true) ops.length) blk' a' w' → Q .normal a' w') :
    ∀ (fuel : Nat) (L : Array Bool) (blk : Nat → Option Nat) (a : Act) (w : World), L.size = ops.length →
      (∀ j, j < ops.length → L.getD j false = true → ∀ x, (ms.getD j 0).testBit x = true → L.getD x false = true) → cnt (fun j => L.getD j false) ops.length ≤ fuel →
      Rel base prot w0 (stX ops tr S0 (fun j => L.getD j false) ops.length) blk a w → wpAnyIn (fen l) 0 P .any ops.toArray Q fuel L a w := by
  have full : ∀ (L : Array Bool), L.size = ops.length → Region.ready .any ops.toArray L = [] → ∀ i, i < ops.length → L.getD i false = true := by
    intro L hsz hr i
    induction i using Nat.strongRecOn with
    | _ i ih =>
      intro hi
      cases hx : L.getD i false with
      | true => rfl
      | false =>
        have hmem : i ∈ Region.ready .any ops.toArray L := by
          simp only [Region.ready, List.mem_filter, List.mem_range, Bool.and_eq_true]
          refine ⟨by simpa using hi, ?_, ?_⟩
          · have hil : i < L.size := by omega
            rw [Array.getD_eq_getD_getElem?, Array.getElem?_eq_getElem hil, Option.getD_some] at hx ⊢
            rw [hx]; rfl
          · have ho : ops.toArray[i]? = some ops[i] := by simp [hi]
            rw [ho]
            simp only [Option.map_some, Option.getD_some]
            rw [Array.all_eq_true']
            intro e he
            cases hbd : Region.binds .any e with
            | false => simp
            | true =>
              have hb := hok.back i ops[i] (List.getElem?_eq_getElem hi) e (by simpa using he) hbd
              rw [ih e.on hb (by omega)]; simp
        rw [hr] at hmem
        simp at hmem
  have step : ∀ (L : Array Bool) (i : Nat), L.size = ops.length → i ∈ Region.ready .any ops.toArray L → ∃ o, ops[i]? = some o ∧ L.getD i false = false ∧ ∀ e ∈ o.after.toList, Region.binds .any e = true → L.getD e.on false = true := by
    intro L i hsz hm
    simp only [Region.ready, List.mem_filter, List.mem_range, Bool.and_eq_true] at hm
    obtain ⟨hi, h1, h2⟩ := hm
    have hi : i < ops.length := by simpa using hi
    have ho : ops.toArray[i]? = some ops[i] := by simp [hi]
    rw [ho] at h2
    simp only [Option.map_some, Option.getD_some] at h2
    rw [Array.all_eq_true'] at h2
    refine ⟨ops[i], List.getElem?_eq_getElem hi, ?_, fun e he hb => ?_⟩
    · have hil : i < L.size := by omega
      rw [Array.getD_eq_getD_getElem?, Array.getElem?_eq_getElem hil, Option.getD_some] at h1 ⊢
      simpa using h1
    · have := h2 e (by simpa using he)
      rw [hb] at this
      simpa using this
  intro fuel
  induction fuel with
  | zero =>
    intro L blk a w hsz hcl hc R
    have hall := qcm (X := fun j => L.getD j false) ops.length (by omega)
    have hst' : stX ops tr S0 (fun j => L.getD j false) ops.length = stX ops tr S0 (fun _ => true) ops.length := by
      simp only [stX]; rw [q3b ops.length _ hall, q4b ops.length _ fun j hj _ => hall j hj]
    refine ⟨?_, hQ blk a w (hst' ▸ R)⟩
    cases hr : Region.ready .any ops.toArray L with
    | nil => rfl
    | cons i is =>
      obtain ⟨o, ho, hx, _⟩ := step L i hsz (by rw [hr]; exact List.mem_cons_self)
      rw [hall i (List.getElem?_eq_some_iff.1 ho).1] at hx
      cases hx
  | succ fuel ih =>
    intro L blk a w hsz hcl hc R
    refine ⟨fun hr => ?_, fun i hm => ?_⟩
    · have hall := full L hsz hr
      have hst' : stX ops tr S0 (fun j => L.getD j false) ops.length = stX ops tr S0 (fun _ => true) ops.length := by
        simp only [stX]; rw [q3b ops.length _ hall, q4b ops.length _ fun j hj _ => hall j hj]
      exact hQ blk a w (hst' ▸ R)
    · obtain ⟨o, ho, hx, hrd⟩ := step L i hsz hm
      have hi : i < ops.length := (List.getElem?_eq_some_iff.1 ho).1
      have hclx : ∀ x, (ms.getD i 0).testBit x = true → L.getD x false = true := by
        intro x hb
        obtain ⟨e, h1, h2, h3⟩ := hok.mask i o ho x hb
        have he := hrd e h1 h2
        rcases h3 with rfl | h3
        · exact he
        · exact hcl e.on (by have := hok.back i o ho e h1 h2; omega) he x h3
      have hupd : ∀ j, (L.setIfInBounds i true).getD j false = upd (fun j => L.getD j false) i j := by
        intro j
        rw [Array.getD_eq_getD_getElem?, Array.getElem?_setIfInBounds]
        simp only [upd]
        by_cases hij : i = j
        · subst hij
          rw [if_pos rfl, if_pos (by omega)]; simp
        · rw [if_neg hij, Array.getD_eq_getD_getElem?]
          have : (j == i) = false := by simp; omega
          rw [this, Bool.or_false]
      have hfun : (fun j => (L.setIfInBounds i true).getD j false) = upd (fun j => L.getD j false) i := funext hupd
      refine ql9 (X := fun j => L.getD j false) hD hok hts hst ho hx hcl hclx R fun blk' a' w' R' => ?_
      refine ih _ blk' a' w' (by simpa using hsz) ?_ ?_ (by rw [hfun]; exact R')
      · intro j hj hb x hbx
        rw [hupd] at hb ⊢
        simp only [upd, Bool.or_eq_true, beq_iff_eq] at hb ⊢
        rcases hb with hb | rfl
        · exact .inl (hcl j hj hb x hbx)
        · exact .inl (hclx x hbx)
      · rw [hfun]
        have := qg0 (X := fun j => L.getD j false) ops.length hi hx
        omega
theorem PW.draw {E : Env} {id : Nat} {ops : List Oper} {Q : Exit → St → Prop} {S : St} (own : Nat → Bool) (hD : ∀ t, TOk P t (D t)) (hm : P.follows .mixedOrders = true)
    (h : listR P D own ops ops 0 S [] fun S' ts => q74 ops ts = true ∧ Q .normal S') : PW P l E (.region id ops.toArray true) Q S := by
  intro base prot V hE blk a w ⟨w0, hV, R⟩
  obtain ⟨tr, S', h1, h2, h3⟩ := q2p _ _ _ _ _ h
  obtain ⟨h4, h5⟩ := q6n (S0 := S) (tr0 := tr) ops 0 S tr S' h1 (fun j => by simp) (fun j => by simp) rfl
  refine wpIn_region_any hm ?_
  have R' : Rel base prot w0 S blk a { w with drawn := w.drawn + 1 } := R.grew (.same rfl)
  have hR : ∀ (L : Array Bool), (∀ j, L.getD j false = false) → stX ops tr S (fun j => L.getD j false) ops.length = S := by
    intro L hL
    have e1 : ∀ n tm, tmX (dstOf ops) (entOf tr) (fun j => L.getD j false) n tm = tm := by
      intro n tm
      induction n with
      | zero => rfl
      | succ n ih => simp only [tmX]; rw [if_neg (by rw [hL n]; simp)]; exact ih
    have e2 : ∀ n ob, obX (entOf tr) (fun j => L.getD j false) n ob = ob := by
      intro n ob
      induction n with
      | zero => rfl
      | succ n ih => simp only [obX]; rw [if_neg (by rw [hL n]; simp)]; exact ih
    simp only [stX, e1, e2]
  have hcn : ∀ (X : Nat → Bool) n, cnt X n ≤ n := by
    intro X n
    induction n with
    | zero => exact Nat.le_refl _
    | succ n ih => simp only [cnt]; split <;> omega
  have hrep : ∀ j, (Array.replicate ops.toArray.size false).getD j false = false := by
    intro j
    rw [Array.getD_eq_getD_getElem?, Array.getElem?_replicate]
    split <;> rfl
  have hts : ∀ i, i < ops.length → (tr.map (·.t)).getD i 0 = (entOf tr i).t := by
    intro i hi
    have hl : tr.length = ops.length := by
      clear h2 h3 h4 h5 h
      have : ∀ (lst : List Oper) (k : Nat) (S : St) (tr : List Ent) (S' : St), Trace P D own ops lst k S tr S' → tr.length = lst.length := by
        intro lst
        induction lst with
        | nil => rintro k S tr S' ⟨rfl, _⟩; rfl
        | cons o lst ih =>
          rintro k S tr S' ⟨e, tr', rfl, _, h⟩
          simp [ih _ _ _ _ h]
      exact this _ _ _ _ _ h1
    have hil : i < tr.length := by omega
    simp [entOf, List.getD_eq_getElem?_getD, List.getElem?_map, List.getElem?_eq_getElem hil]
  rw [Nat.zero_add] at h5
  subst h5
  have hc := hcn (fun j => (Array.replicate ops.toArray.size false).getD j false) ops.length
  have hsz : ops.toArray.size = ops.length := by simp
  have hrs : (Array.replicate ops.toArray.size false).size = ops.length := by simp
  have hQ : ∀ blk' a' w', Rel base prot w0 (stX ops tr S (fun _ => true) ops.length) blk' a' w' → ∃ S' blk'', Q .normal S' ∧ RelV base prot V S' blk'' a' w' :=
    fun blk' a' w' R'' => ⟨_, blk', h3, w0, hV, R''⟩
  have R1 : Rel base prot w0 (stX ops tr S (fun j => (Array.replicate ops.toArray.size false).getD j false) ops.length) blk a { w with drawn := w.drawn + 1 } := by rw [hR _ hrep]; exact R'
  have hcl : ∀ j, j < ops.length → (Array.replicate ops.toArray.size false).getD j false = true → ∀ x, ((masks ops []).getD j 0).testBit x = true → (Array.replicate ops.toArray.size false).getD x false = true := by
    intro j _ hb
    rw [hrep] at hb; cases hb
  have h2' : q74 ops (tr.map (·.t)) = true := h2
  generalize Array.replicate ops.toArray.size false = L at *
  exact qbv (Q := fun e a' w' => ∃ S' blk', Q e S' ∧ RelV base prot V S' blk' a' w') hD (qa2 h2') hts (fun i o ho => h4 i o (Nat.zero_le _) ho) hQ ops.toArray.size L blk a _ hrs hcl (by rw [hsz]; exact hc) R1
end Lp

/-! LpNb -/

namespace Lp
open Go
variable {P : Program} {D : TypeId → TInfo} {l : Option Nat}
def hole : Obj := ⟨0, 0, [], false, 0⟩
section
variable {base prot : Nat → Prop} {w0 : Wz} {blk : Nat → Option Nat} {a : Act} {w : World}
theorem q98 {ok : Nat → Prop} {objs : List Obj} {cs : List PV} {vs : List Value} (h : RepL (RepS w ok objs blk) cs vs) : cs.all (PV.ltS objs.length) = true := by
  rw [List.all_eq_true]
  intro p hp
  obtain ⟨i, hi, rfl⟩ := List.getElem_of_mem hp
  exact q3q (h.2 i _ _ (List.getElem?_eq_getElem hi) (List.getElem?_eq_getElem (by rw [← h.1]; exact hi)))
theorem qhl {ok : Nat → Prop} {objs : List Obj} {p : PV} {v : Value} (h : RepT w ok objs blk p v) : p.lt objs.length = true := by
  cases p with
  | fn f a c => obtain ⟨_, _, _, h1, h2⟩ := h; simp only [PV.lt, q98 h1, q98 h2, Bool.and_self]
  | tup cs => obtain ⟨_, _, h1⟩ := h; simp only [PV.lt, q98 h1]
  | agg cs => obtain ⟨_, _, h1⟩ := h; simp only [PV.lt, q98 h1]
  | osl k ver => exact q3q (w := w) (ok := ok) (p := .osl k ver) (v := v) h
  | optr k ver i f => exact q3q (w := w) (ok := ok) (p := .optr k ver i f) (v := v) h
  | omp k ver => exact q3q (w := w) (ok := ok) (p := .omp k ver) (v := v) h
  | _ => rfl
theorem Rel.holes {S : St} (R : Rel base prot w0 S blk a w) : ∀ n : Nat, ∃ blk', Rel base prot w0 ⟨S.tmps, S.objs ++ List.replicate n hole⟩ blk' a w
  | 0 => ⟨blk, by simpa using R⟩
  | n + 1 => by
    obtain ⟨blk', R'⟩ := R.holes n
    have h := R'.addObj (o1 := hole) (gb := none) (Grew.refl w) (fun g hg => by cases hg) fun _ => by
      unfold ObjRep q0g
      rw [if_pos rfl]
      rfl
    rw [List.replicate_succ', ← List.append_assoc]
    exact ⟨_, h⟩
theorem Rel.fill {tm : List PV} {O : List Obj} {o1 : Obj} {k : Nat} {w' : World} {blk' : Nat → Option Nat} (R : Rel base prot w0 ⟨tm, O⟩ blk a w) (hk : O[k]? = some hole) (hl : o1.live = true) (hv : o1.ver = 1)
    (R' : Rel base prot w0 ⟨tm, O ++ [o1]⟩ blk' a w') (hn : NewLt O (O ++ [o1])) {mk : Nat → PV} (hm : Mk mk) {v : Value} (hr : RepT w' (okL base (O ++ [o1]) blk') (O ++ [o1]) blk' (mk O.length) v) :
    ∃ blk2, Rel base prot w0 ⟨tm, O.set k o1⟩ blk2 a w' ∧ RepT w' (okL base (O.set k o1) blk2) (O.set k o1) blk2 (mk k) v := by
  have hkl := (List.getElem?_eq_some_iff.1 hk).1
  obtain ⟨blk2, hb2⟩ : ∃ blk2 : Nat → Option Nat, blk2 = fun j => if j = k then blk' O.length else blk' j := ⟨_, rfl⟩
  have bk : blk2 k = blk' O.length := by rw [hb2]; simp
  have bo : ∀ j, j ≠ k → blk2 j = blk' j := fun j hj => by rw [hb2]; simp [hj]
  have gend : (O ++ [o1])[O.length]? = some o1 := by simp
  have gold : ∀ j o, O[j]? = some o → (O ++ [o1])[j]? = some o := fun j o h => by
    rw [List.getElem?_append_left (List.getElem?_eq_some_iff.1 h).1]; exact h
  have gk : (O.set k o1)[k]? = some o1 := by rw [List.getElem?_set]; simp [hkl]
  have go : ∀ j, j ≠ k → (O.set k o1)[j]? = O[j]? := fun j hj => by rw [List.getElem?_set, if_neg (fun e => hj e.symm)]
  -- live objects are the same
  have hlive : ∀ (j : Nat) (o : Obj), (O.set k o1)[j]? = some o → o.live = true → ∃ j', (O ++ [o1])[j']? = some o ∧ blk' j' = blk2 j ∧ ((j = k ∧ j' = O.length) ∨ (j ≠ k ∧ j' = j ∧ j < O.length)) := by
    intro j o h1 h2
    by_cases hj : j = k
    · subst hj
      rw [gk] at h1; cases h1
      exact ⟨O.length, gend, bk.symm, .inl ⟨rfl, rfl⟩⟩
    · rw [go j hj] at h1
      exact ⟨j, gold j o h1, (bo j hj).symm, .inr ⟨hj, rfl, (List.getElem?_eq_some_iff.1 h1).1⟩⟩
  have hnl : ∀ b, q0k (O ++ [o1]) blk' b → q0k (O.set k o1) blk2 b := by
    intro b h j o h1 h2 h3
    obtain ⟨j', g1, g2, _⟩ := hlive j o h1 h2
    exact h j' o g1 h2 (by rw [g2]; exact h3)
  have hok : ∀ b, okL base (O ++ [o1]) blk' b → okL base (O.set k o1) blk2 b := fun b h => ⟨h.1, hnl b h.2⟩
  -- values carry over
  have hS : ∀ (p : PV) (u : Value), p.ltS O.length = true → RepS w' (okL base (O ++ [o1]) blk') (O ++ [o1]) blk' p u → RepS w' (okL base (O.set k o1) blk2) (O.set k o1) blk2 p u := by
    intro p u hp h
    have hm' : ∀ q : PV, Rep w' (okL base (O ++ [o1]) blk') q u → Rep w' (okL base (O.set k o1) blk2) q u := fun q hq => hq.mono (Nat.le_refl _) (fun b _ hb => hok b hb) (fun _ _ _ h => h)
    cases p with
    | osl j ver =>
      have hj : j < O.length := by simpa [PV.ltS] using hp
      obtain ⟨h0, o, g1, g2, g3⟩ := h
      rw [List.getElem?_append_left hj] at g1
      by_cases hjk : j = k
      · subst hjk
        rw [hk] at g1; cases g1
        refine ⟨h0, o1, gk, by rw [hv]; exact Nat.le_trans g2 (by decide), fun _ e => ?_⟩
        have : ver ≤ 0 := g2
        omega
      · refine ⟨h0, o, by rw [go j hjk]; exact g1, g2, fun e1 e2 => ?_⟩
        obtain ⟨hM, this⟩ := g3 e1 e2
        refine ⟨hM, ?_⟩
        unfold Hdr at this ⊢
        rw [bo j hjk]; exact this
    | optr j ver i f =>
      have hj : j < O.length := by simpa [PV.ltS] using hp
      obtain ⟨h0, o, g1, g2, g3⟩ := h
      rw [List.getElem?_append_left hj] at g1
      by_cases hjk : j = k
      · subst hjk
        rw [hk] at g1; cases g1
        refine ⟨h0, o1, gk, by rw [hv]; exact Nat.le_trans g2 (by decide), fun _ e => ?_⟩
        have : ver ≤ 0 := g2
        omega
      · refine ⟨h0, o, by rw [go j hjk]; exact g1, g2, fun e1 e2 => ?_⟩
        rw [bo j hjk]; exact g3 e1 e2
    | omp j ver =>
      have hj : j < O.length := by simpa [PV.ltS] using hp
      obtain ⟨h0, o, g1, g2, g3⟩ := h
      rw [List.getElem?_append_left hj] at g1
      by_cases hjk : j = k
      · subst hjk
        rw [hk] at g1; cases g1
        refine ⟨h0, o1, gk, by rw [hv]; exact Nat.le_trans g2 (by decide), fun _ e => ?_⟩
        have : ver ≤ 0 := g2
        omega
      · refine ⟨h0, o, by rw [go j hjk]; exact g1, g2, fun e1 e2 => ?_⟩
        rw [bo j hjk]; exact g3 e1 e2
    | _ => exact hm' _ h
  have hLs : ∀ (cs : List PV) (us : List Value), cs.all (PV.ltS O.length) = true → RepL (RepS w' (okL base (O ++ [o1]) blk') (O ++ [o1]) blk') cs us → RepL (RepS w' (okL base (O.set k o1) blk2) (O.set k o1) blk2) cs us :=
    fun cs us hc h => ⟨h.1, fun i p u h1 h2 => hS p u (List.all_eq_true.1 hc p (List.mem_of_getElem? h1)) (h.2 i p u h1 h2)⟩
  have hT : ∀ (p : PV) (u : Value), p.lt O.length = true → RepT w' (okL base (O ++ [o1]) blk') (O ++ [o1]) blk' p u → RepT w' (okL base (O.set k o1) blk2) (O.set k o1) blk2 p u := by
    intro p u hp h
    cases p with
    | fn f a c =>
      simp only [PV.lt, Bool.and_eq_true] at hp
      obtain ⟨va, vc, rfl, h1, h2⟩ := h
      exact ⟨va, vc, rfl, hLs _ _ hp.1 h1, hLs _ _ hp.2 h2⟩
    | tup cs => obtain ⟨us, rfl, h1⟩ := h; exact ⟨us, rfl, hLs _ _ hp h1⟩
    | agg cs => obtain ⟨us, rfl, h1⟩ := h; exact ⟨us, rfl, hLs _ _ hp h1⟩
    | osl j ver => exact hS (.osl j ver) u hp h
    | optr j ver i f => exact hS (.optr j ver i f) u hp h
    | omp j ver => exact hS (.omp j ver) u hp h
    | _ => exact .of_repS (hS _ u rfl (by exact h))
  have hob : ∀ (j j' : Nat) (o : Obj), ObjRep w' (okL base (O ++ [o1]) blk') (O ++ [o1]) blk' j' o → blk' j' = blk2 j → (∀ x ∈ o.xs, ∀ p ∈ x.cells, ∀ u, RepS w' (okL base (O ++ [o1]) blk') (O ++ [o1]) blk' p u → RepS w' (okL base (O.set k o1) blk2) (O.set k o1) blk2 p u) →
      ObjRep w' (okL base (O.set k o1) blk2) (O.set k o1) blk2 j o := by
    intro j j' o h e ht
    unfold ObjRep at h ⊢
    rw [← e]
    cases hb : blk' j' with
    | none => rw [hb] at h; exact h
    | some g =>
      rw [hb] at h
      obtain ⟨c, x1, x2, x3⟩ := h
      refine ⟨c, x1, x2, fun i x hx => ⟨(x3 i x hx).1, fun q p hp => ?_⟩⟩
      obtain ⟨u, y1, y2⟩ := (x3 i x hx).2 q p hp
      exact ⟨u, y1, ht x (List.mem_of_getElem? hx) p (List.mem_of_getElem? hp) u y2⟩
  refine ⟨blk2, ⟨R'.nodef.mono (fun b _ h => ⟨hok b h.1, h.2⟩) (fun _ _ _ h => h), R'.tsz, fun t p hp => hT p _ (qhl (R.tm t p hp)) (R'.tm t p hp), ⟨?_, ?_, ?_⟩, R'.pr, R'.fr, R'.gr, R'.pb, fun x hx => hT _ _ (qhl (R.ext x hx)) (R'.ext x hx), R'.exn, R'.sm, R'.gl⟩, ?_⟩
  · intro j o h1 h2
    obtain ⟨j', g1, g2, hc⟩ := hlive j o h1 h2
    have h3 := R'.objs.ob j' o g1 h2
    refine hob j j' o h3 g2 fun x hx p hp u hu => ?_
    rcases hc with ⟨rfl, rfl⟩ | ⟨hj, _, hjl⟩
    · rw [gk] at h1; cases h1
      exact hS p u (hn o1 rfl x hx p hp) hu
    · -- an old object: what it holds was there ahead
      rw [go j hj] at h1
      have h4 := R.objs.ob j o h1 h2
      have hlt : p.ltS O.length = true := by
        obtain ⟨i, hi, rfl⟩ := List.getElem_of_mem hx
        obtain ⟨q, hq, rfl⟩ := List.getElem_of_mem hp
        unfold ObjRep at h4
        cases hb : blk j with
        | none => rw [hb] at h4; simp [h4] at hi
        | some g =>
          rw [hb] at h4
          obtain ⟨c, _, _, x3⟩ := h4
          obtain ⟨u', _, y2⟩ := (x3 i _ (List.getElem?_eq_getElem hi)).2 q _ (List.getElem?_eq_getElem hq)
          exact q3q y2
      exact hS p u hlt hu
  · intro j1 j2 q1 q2 g hne h1 h2 h3 h4 h5
    obtain ⟨i1, a1, a2, a3⟩ := hlive j1 q1 h1 h2
    obtain ⟨i2, b1, b2, b3⟩ := hlive j2 q2 h3 h4
    rw [← a2] at h5
    rw [← b2]
    refine R'.objs.dis i1 i2 q1 q2 g ?_ a1 h2 b1 h4 h5
    rcases a3 with ⟨rfl, rfl⟩ | ⟨_, rfl, _⟩ <;> rcases b3 with ⟨rfl, rfl⟩ | ⟨_, rfl, _⟩ <;> first | exact absurd rfl hne | omega
  · intro j o g h1 h2 h3
    obtain ⟨j', g1, g2, _⟩ := hlive j o h1 h2
    rw [← g2] at h3
    exact R'.objs.np j' o g g1 h2 h3
  · rcases hm with rfl | rfl | rfl
    · obtain ⟨h0, o, g1, g2, g3⟩ := hr
      rw [gend] at g1; cases g1
      refine ⟨h0, o1, gk, g2, fun e1 e2 => ?_⟩
      obtain ⟨hM, this⟩ := g3 e1 e2
      refine ⟨hM, ?_⟩
      unfold Hdr at this ⊢
      rw [bk]; exact this
    · obtain ⟨h0, o, g1, g2, g3⟩ := hr
      rw [gend] at g1; cases g1
      refine ⟨h0, o1, gk, g2, fun e1 e2 => ?_⟩
      rw [bk]; exact g3 e1 e2
    · obtain ⟨h0, o, g1, g2, g3⟩ := hr
      rw [gend] at g1; cases g1
      refine ⟨h0, o1, gk, g2, fun e1 e2 => ?_⟩
      rw [bk]; exact g3 e1 e2
end
def wrK (t : Nat) : Option Nat := if 5 ≤ t ∧ t % 2 = 1 then some ((t - 5) / 2) else none
theorem qla (k : Nat) : wrK (5 + 2 * k) = some k := by
  unfold wrK; rw [if_pos (by omega)]; congr 1; omega
theorem qo1 (k : Nat) : wrK (4 + 2 * k) = none := by unfold wrK; rw [if_neg (by omega)]
theorem qhm : wrK 0 = none := rfl
def tclash (tj ti : Nat) : Bool := decide (4 ≤ tj) && decide (4 ≤ ti) && (tj - 4) / 2 == (ti - 4) / 2 && (tj % 2 == 1 || ti % 2 == 1)
theorem qa5 {tj ti k : Nat} (h : (wrK tj = some k ∧ (ti = 4 + 2 * k ∨ ti = 5 + 2 * k)) ∨ (wrK ti = some k ∧ (tj = 4 + 2 * k ∨ tj = 5 + 2 * k))) : tclash tj ti = true := by
  have key : ∀ t, wrK t = some k → t = 5 + 2 * k := by
    intro t ht
    unfold wrK at ht
    split at ht
    · simp only [Option.some.injEq] at ht; omega
    · cases ht
  unfold tclash
  simp only [Bool.and_eq_true, decide_eq_true_eq, Bool.or_eq_true, beq_iff_eq]
  rcases h with ⟨h1, h2 | h2⟩ | ⟨h1, h2 | h2⟩ <;> have := key _ h1 <;> omega
def fineT (t : Nat) : Bool := t == 0 || decide (4 ≤ t)
theorem qa6 {t : Nat} (h : fineT t = true) : t = 0 ∨ (∃ k, t = 4 + 2 * k) ∨ ∃ k, t = 5 + 2 * k := by
  simp only [fineT, Bool.or_eq_true, beq_iff_eq, decide_eq_true_eq] at h
  rcases h with h | h
  · exact .inl h
  · rcases Nat.mod_two_eq_zero_or_one t with e | e
    · exact .inr (.inl ⟨(t - 4) / 2, by omega⟩)
    · exact .inr (.inr ⟨(t - 5) / 2, by omega⟩)
structure DrawOk2 (ops : List Oper) (ts : List Nat) (ms : List Nat) : Prop where
  fine : ∀ i, i < ops.length → fineT (ts.getD i 0) = true
  back : ∀ (i : Nat) (o : Oper), ops[i]? = some o → ∀ e ∈ o.after.toList, Region.binds .any e = true → e.on < i
  mask : ∀ (i : Nat) (o : Oper), ops[i]? = some o → ∀ j, (ms.getD i 0).testBit j = true → ∃ e ∈ o.after.toList, Region.binds .any e = true ∧ (j = e.on ∨ (ms.getD e.on 0).testBit j = true)
  ord : ∀ (i : Nat) (o : Oper) (j : Nat) (p : Oper), ops[i]? = some o → ops[j]? = some p → j < i → (clash p.dst o.dst (lookL ops p) (lookL ops o) 0 0 || tclash (ts.getD j 0) (ts.getD i 0)) = true → (ms.getD i 0).testBit j = true
section
variable {en : Nat → Ent}
def obY (en : Nat → Ent) (X : Nat → Bool) : Nat → List Obj → List Obj
  | 0, ob => ob
  | n + 1, ob => if X n then (match wrK (en n).t with
    | some k => (obY en X n ob).set k ((en n).objs.getD k hole)
    | none => obY en X n ob) else obY en X n ob
theorem q4c (X : Nat → Bool) : ∀ (n : Nat) (ob : List Obj), (obY en X n ob).length = ob.length
  | 0, _ => rfl
  | n + 1, ob => by
    simp only [obY]
    split
    · split
      · rw [List.length_set, q4c X n ob]
      · exact q4c X n ob
    · exact q4c X n ob
theorem q5d {X Y : Nat → Bool} : ∀ (n : Nat) (ob : List Obj), (∀ j, j < n → X j = Y j) → obY en X n ob = obY en Y n ob
  | 0, _, _ => rfl
  | n + 1, ob, h => by simp only [obY]; rw [h n (by omega), q5d n ob (fun j hj => h j (by omega))]
theorem qlb {X Y : Nat → Bool} {k : Nat} : ∀ (n : Nat) (ob : List Obj), (∀ j, j < n → wrK (en j).t = some k → X j = Y j) → (obY en X n ob)[k]? = (obY en Y n ob)[k]?
  | 0, _, _ => rfl
  | n + 1, ob, h => by
    have ih := qlb (X := X) (Y := Y) (k := k) n ob (fun j hj => h j (by omega))
    have hl : (obY en X n ob).length = (obY en Y n ob).length := by rw [q4c, q4c]
    simp only [obY]
    cases hw : wrK (en n).t with
    | none => simp only []; split <;> split <;> exact ih
    | some k' =>
      simp only []
      by_cases hk : k' = k
      · subst hk
        rw [h n (by omega) hw]
        split
        · rw [List.getElem?_set, List.getElem?_set]; simp [hl]
        · exact ih
      · split <;> split <;> (try rw [List.getElem?_set, if_neg hk]) <;> (try rw [List.getElem?_set, if_neg hk]) <;> exact ih
theorem qef {i : Nat} : ∀ (n : Nat) (ob : List Obj), i ≤ n → obY en (fun j => decide (j < i)) n ob = obY en (fun _ => true) i ob
  | 0, _, h => by have : i = 0 := by omega
                  subst this; rfl
  | n + 1, ob, h => by
    by_cases hi : i = n + 1
    · subst hi
      exact q5d (n + 1) ob fun j hj => by simp [hj]
    · simp only [obY]
      rw [if_neg (by simp; omega)]
      exact qef n ob (by omega)
theorem qlc {X : Nat → Bool} {i k : Nat} : ∀ (n : Nat) (ob : List Obj), i < n → X i = false → wrK (en i).t = some k → (∀ j, i < j → j < n → X j = true → wrK (en j).t ≠ some k) →
    obY en (upd X i) n ob = (obY en X n ob).set k ((en i).objs.getD k hole)
  | 0, _, h, _, _, _ => by omega
  | n + 1, ob, hi, hx, hw, hd => by
    simp only [obY]
    by_cases hin : i = n
    · subst hin
      simp only [hx, upd, beq_self_eq_true, Bool.or_true, if_true, Bool.false_eq_true, if_false, hw]
      rw [q5d (en := en) (X := upd X i) (Y := X) i ob (fun j hj => by simp [upd]; omega)]
    · have hu : upd X i n = X n := by simp [upd]; omega
      rw [hu]
      have ih := qlc (X := X) n ob (by omega) hx hw (fun j h1 h2 => hd j h1 (by omega))
      split
      · rename_i hn
        have := hd n (by omega) (by omega) hn
        split
        · rename_i k' hk'
          rw [hk'] at this
          have hne : k ≠ k' := fun e => this (by rw [e])
          rw [ih, List.set_comm _ _ hne]
        · exact ih
      · exact ih
theorem qhn {X : Nat → Bool} {i : Nat} : ∀ (n : Nat) (ob : List Obj), wrK (en i).t = none → obY en (upd X i) n ob = obY en X n ob
  | 0, _, _ => rfl
  | n + 1, ob, hw => by
    have ih := qhn (X := X) n ob hw
    simp only [obY]
    by_cases hin : n = i
    · subst hin
      rw [hw, ih]
      simp
    · have hu : upd X i n = X n := by simp [upd, hin]
      rw [hu, ih]
end
def stY (ops : List Oper) (tr : List Ent) (S : St) (A : Nat) (X : Nat → Bool) (n : Nat) : St := ⟨tmX (dstOf ops) (entOf tr) X n S.tmps, obY (entOf tr) X n (S.objs ++ List.replicate A hole)⟩
theorem qld {own : Nat → Bool} {ops : List Oper} {tr : List Ent} {S0 : St} (hst : ∀ i o, ops[i]? = some o → q6b P D (own i) ops o (stX ops tr S0 (fun _ => true) i) (entOf tr i))
    (hf : ∀ i, i < ops.length → fineT (entOf tr i).t = true) : ∀ i, i < ops.length → (obX (entOf tr) (fun _ => true) i S0.objs).length ≤ (obX (entOf tr) (fun _ => true) (i + 1) S0.objs).length ∧
      ((wrK (entOf tr i).t = none ∧ obX (entOf tr) (fun _ => true) (i + 1) S0.objs = obX (entOf tr) (fun _ => true) i S0.objs) ∨
       ∃ k o1, wrK (entOf tr i).t = some k ∧ (entOf tr i).objs.getD k hole = o1 ∧
        ((k < (obX (entOf tr) (fun _ => true) i S0.objs).length ∧ obX (entOf tr) (fun _ => true) (i + 1) S0.objs = (obX (entOf tr) (fun _ => true) i S0.objs).set k o1) ∨
         (k = (obX (entOf tr) (fun _ => true) i S0.objs).length ∧ obX (entOf tr) (fun _ => true) (i + 1) S0.objs = obX (entOf tr) (fun _ => true) i S0.objs ++ [o1]))) := by
  intro i hi
  have h := hst i ops[i] (List.getElem?_eq_getElem hi)
  have hfi := hf i hi
  have hobj : (stX ops tr S0 (fun _ => true) i).objs = obX (entOf tr) (fun _ => true) i S0.objs := rfl
  have hX : obX (entOf tr) (fun _ => true) (i + 1) S0.objs = if co (entOf tr i).t = 2 then (entOf tr i).objs else obX (entOf tr) (fun _ => true) i S0.objs := by
    simp only [obX, Bool.true_and, beq_iff_eq]
  rcases h with ⟨_, _, _, _, hfine⟩ | ⟨_, _, _, h4⟩
  · rw [hobj] at hfine
    rcases qa6 hfi with h0 | ⟨k, hk⟩ | ⟨k, hk⟩
    · rw [hX, h0, if_neg (by decide)]
      exact ⟨Nat.le_refl _, .inl ⟨qhm, rfl⟩⟩
    · rw [hX, hk, co_rd, if_neg (by decide)]
      exact ⟨Nat.le_refl _, .inl ⟨qo1 k, rfl⟩⟩
    · rw [hX, if_pos (by rw [hk]; exact co_wr k)]
      rcases hfine.wr k hk with ⟨o1, g1, g2, _⟩ | ⟨g1, o1, mk, _, _, g2, _⟩
      · rw [g2]
        refine ⟨by simp, .inr ⟨k, o1, by rw [hk]; exact qla k, ?_, .inl ⟨g1, rfl⟩⟩⟩
        rw [List.getD_eq_getElem?_getD, List.getElem?_set]; simp [g1]
      · rw [g2]
        refine ⟨by simp, .inr ⟨k, o1, by rw [hk]; exact qla k, ?_, .inr ⟨g1, rfl⟩⟩⟩
        rw [List.getD_eq_getElem?_getD, g1]; simp
  · rw [hX, h4, if_neg (by decide)]
    exact ⟨Nat.le_refl _, .inl ⟨qhm, rfl⟩⟩
theorem textY {own : Nat → Bool} {ops : List Oper} {tr : List Ent} {S0 : St} {A : Nat} (hst : ∀ i o, ops[i]? = some o → q6b P D (own i) ops o (stX ops tr S0 (fun _ => true) i) (entOf tr i))
    (hf : ∀ i, i < ops.length → fineT (entOf tr i).t = true) (hA : (obX (entOf tr) (fun _ => true) ops.length S0.objs).length = S0.objs.length + A) :
    ∀ i, i ≤ ops.length → (obX (entOf tr) (fun _ => true) i S0.objs).length ≤ S0.objs.length + A ∧
      obY (entOf tr) (fun _ => true) i (S0.objs ++ List.replicate A hole) = obX (entOf tr) (fun _ => true) i S0.objs ++ List.replicate (S0.objs.length + A - (obX (entOf tr) (fun _ => true) i S0.objs).length) hole := by
  have one := qld hst hf
  have mono : ∀ d i, i + d = ops.length → (obX (entOf tr) (fun _ => true) i S0.objs).length ≤ S0.objs.length + A := by
    intro d
    induction d with
    | zero => intro i hi; rw [Nat.add_zero] at hi; rw [hi, hA]; exact Nat.le_refl _
    | succ d ih => intro i hi; exact Nat.le_trans (one i (by omega)).1 (ih (i + 1) (by omega))
  intro i
  induction i with
  | zero => intro _; exact ⟨by simp [obX], by simp [obY, obX]⟩
  | succ i ih =>
    intro hi
    obtain ⟨h1, h2⟩ := ih (by omega)
    have hle := mono (ops.length - (i + 1)) (i + 1) (by omega)
    refine ⟨hle, ?_⟩
    simp only [obY, if_true]
    rcases (one i (by omega)).2 with ⟨g1, g2⟩ | ⟨k, o1, g1, g0, ⟨g2, g3⟩ | ⟨g2, g3⟩⟩
    · rw [g1, g2]; exact h2
    · rw [g1]
      simp only []
      rw [g0, h2, g3, List.set_append_left _ _ g2, List.length_set]
    · rw [g1]
      simp only []
      rw [g3, List.length_append, List.length_singleton] at hle
      rw [g0, h2, g3, List.set_append_right _ _ (by omega), List.length_append, List.length_singleton]
      have : S0.objs.length + A - (obX (entOf tr) (fun _ => true) i S0.objs).length = (S0.objs.length + A - ((obX (entOf tr) (fun _ => true) i S0.objs).length + 1)) + 1 := by omega
      rw [this, List.replicate_succ, g2, Nat.sub_self, List.set_cons_zero, List.append_assoc]
      rfl
theorem qih {own : Nat → Bool} {ops : List Oper} {ts : List Nat} {ms : List Nat} {tr : List Ent} {S0 : St} {A : Nat} (hD : ∀ t, TOk P t (D t)) (hok : DrawOk2 ops ts ms)
    (hts : ∀ i, i < ops.length → ts.getD i 0 = (entOf tr i).t)
    (hst : ∀ i o, ops[i]? = some o → q6b P D (own i) ops o (stX ops tr S0 (fun _ => true) i) (entOf tr i))
    (hA : (obX (entOf tr) (fun _ => true) ops.length S0.objs).length = S0.objs.length + A)
    {X : Nat → Bool} {i : Nat} {o : Oper} (ho : ops[i]? = some o) (hX : X i = false) (hcl : ∀ j, j < ops.length → X j = true → ∀ x, (ms.getD j 0).testBit x = true → X x = true)
    (hrd : ∀ x, (ms.getD i 0).testBit x = true → X x = true)
    {base prot : Nat → Prop} {w0 : Wz} {blk : Nat → Option Nat} {a : Act} {w : World} (R : Rel base prot w0 (stY ops tr S0 A X ops.length) blk a w)
    {Q : Exit → Act → World → Prop} {K : Act → World → Prop} (hK : ∀ blk' a' w', Rel base prot w0 (stY ops tr S0 A (upd X i) ops.length) blk' a' w' → K a' w') :
    wpOpIn (fen l) 0 P ops.toArray Q i K a w := by
  have hi : i < ops.length := (List.getElem?_eq_some_iff.1 ho).1
  have hdst : dstOf ops i = o.dst := by simp [dstOf, ho]
  have getO : ∀ j, j < ops.length → ∃ p, ops[j]? = some p ∧ dstOf ops j = p.dst := fun j hj => ⟨ops[j], List.getElem?_eq_getElem hj, by simp [dstOf, List.getElem?_eq_getElem hj]⟩
  have hf : ∀ j, j < ops.length → fineT (entOf tr j).t = true := fun j hj => by rw [← hts j hj]; exact hok.fine j hj
  have before : ∀ j p, ops[j]? = some p → j < i → (clash p.dst o.dst (lookL ops p) (lookL ops o) 0 0 || tclash (entOf tr j).t (entOf tr i).t) = true → X j = true :=
    fun j p hp hj hc => hrd j (hok.ord i o j p ho hp hj (by rw [hts j (List.getElem?_eq_some_iff.1 hp).1, hts i hi]; exact hc))
  have behind : ∀ j p, ops[j]? = some p → i < j → (clash o.dst p.dst (lookL ops o) (lookL ops p) 0 0 || tclash (entOf tr i).t (entOf tr j).t) = true → X j = false := fun j p hp hj hc => by
    cases hx : X j with
    | false => rfl
    | true =>
      have hjl := (List.getElem?_eq_some_iff.1 hp).1
      have := hcl j hjl hx i (hok.ord j p i o hp ho hj (by rw [hts j hjl, hts i hi]; exact hc))
      rw [hX] at this; cases this
  have hlook : ∀ x ∈ lookL ops o, (stX ops tr S0 (fun _ => true) i).tmps.getD x .dead = (stY ops tr S0 A X ops.length).tmps.getD x .dead := by
    intro x hx
    simp only [stX, stY]
    rw [← qa3 (dst := dstOf ops) ops.length S0.tmps (Nat.le_of_lt hi)]
    refine qcl _ _ fun j hj hd => ?_
    obtain ⟨p, hp, hpd⟩ := getO j hj
    rw [hpd] at hd
    rcases Nat.lt_trichotomy j i with hji | hji | hji
    · rw [before j p hp hji (by rw [qbu hd hx]; rfl)]; simp [hji]
    · subst hji; rw [hX]; simp
    · rw [behind j p hp hji (by rw [qa4 hd hx]; rfl)]; simp; omega
  have hadd : putT o.dst (entOf tr i).r (stY ops tr S0 A X ops.length).tmps = (stY ops tr S0 A (upd X i) ops.length).tmps := by
    simp only [stY]
    rw [← hdst]
    refine qfy _ _ hi hX fun j hj hjn hxj x hx hd => ?_
    obtain ⟨p, hp, hpd⟩ := getO j hjn
    rw [hpd] at hd
    rw [hdst] at hx
    have := behind j p hp hj (by rw [qed hx hd]; rfl)
    rw [this] at hxj; cases hxj
  -- the object that is touched lies as text order has it
  obtain ⟨hle, htxt⟩ := textY hst hf hA i (Nat.le_of_lt hi)
  obtain ⟨T, hT⟩ : ∃ T, T = obX (entOf tr) (fun _ => true) i S0.objs := ⟨_, rfl⟩
  rw [← hT] at hle htxt
  obtain ⟨B, hB⟩ : ∃ B, B = obY (entOf tr) X ops.length (S0.objs ++ List.replicate A hole) := ⟨_, rfl⟩
  have slot : ∀ k, ((entOf tr i).t = 4 + 2 * k ∨ (entOf tr i).t = 5 + 2 * k) → B[k]? = (T ++ List.replicate (S0.objs.length + A - T.length) hole)[k]? := by
    intro k hk
    rw [hB, ← htxt, ← qef ops.length _ (Nat.le_of_lt hi)]
    refine qlb _ _ fun j hj hw => ?_
    obtain ⟨p, hp, hpd⟩ := getO j hj
    rcases Nat.lt_trichotomy j i with hji | hji | hji
    · rw [before j p hp hji (by rw [qa5 (.inl ⟨hw, hk⟩), Bool.or_true])]; simp [hji]
    · subst hji; rw [hX]; simp
    · rw [behind j p hp hji (by rw [qa5 (.inr ⟨hw, hk⟩), Bool.or_true])]; simp; omega
  have hwr : ∀ k, wrK (entOf tr i).t = some k → ((entOf tr i).t = 4 + 2 * k ∨ (entOf tr i).t = 5 + 2 * k) → (stY ops tr S0 A (upd X i) ops.length).objs = B.set k ((entOf tr i).objs.getD k hole) := by
    intro k hw hk
    simp only [stY]
    rw [hB]
    refine qlc _ _ hi hX hw fun j hj hjn hxj hwj => ?_
    obtain ⟨p, hp, hpd⟩ := getO j hjn
    have := behind j p hp hj (by rw [qa5 (.inr ⟨hwj, hk⟩), Bool.or_true])
    rw [this] at hxj; cases hxj
  have hskip : wrK (entOf tr i).t = none → (stY ops tr S0 A (upd X i) ops.length).objs = B := fun hw => by
    simp only [stY]; rw [hB]; exact qhn _ _ hw
  have hput : ∀ objs', (objs' = (stY ops tr S0 A (upd X i) ops.length).objs) → St.put ⟨(stY ops tr S0 A X ops.length).tmps, objs'⟩ o.dst (entOf tr i).r = stY ops tr S0 A (upd X i) ops.length := by
    rintro objs' rfl
    cases hd : o.dst with
    | none => rw [hd] at hadd; simp only [putT] at hadd; simp only [St.put]; rw [hadd]
    | some d => rw [hd] at hadd; simp only [putT] at hadd; simp only [St.put]; rw [hadd]
  have hobjs : (stY ops tr S0 A X ops.length).objs = B := hB.symm
  have hTo : (stX ops tr S0 (fun _ => true) i).objs = T := hT.symm
  have hev : ∀ x ∈ o.op.operands, (stX ops tr S0 (fun _ => true) i).ev x = (stY ops tr S0 A X ops.length).ev x := by
    intro x hm
    cases x with
    | tmp t => exact hlook t (List.mem_append_left _ (List.mem_filterMap.2 ⟨.tmp t, by simpa using hm, rfl⟩))
    | _ => rfl
  have hg : q1x ops o.guard (stX ops tr S0 (fun _ => true) i).tmps = q1x ops o.guard (stY ops tr S0 A X ops.length).tmps := by
    cases hgd : o.guard with
    | none => rfl
    | some g =>
      obtain ⟨j, want⟩ := g
      simp only [q1x]
      cases hd : (ops[j]?).bind (·.dst) with
      | none => rfl
      | some d =>
        simp only []
        rw [hlook d (List.mem_append_right _ (by rw [hgd]; simp [hd]))]
  unfold wpOpIn
  have h0 : ops.toArray[i]? = some o := by simpa using ho
  rw [h0]
  simp only []
  rcases hst i o ho with ⟨h1, _, _, h4, hfine⟩ | ⟨h1, h2, _, h3⟩
  · rw [hg] at h1
    rw [if_pos (q3s R h1)]
    rw [hTo] at hfine
    have run : ∀ (O2 : List Obj) (r2 : PV), (∀ K : KT, (∀ t, K r2 O2 t) → opR P D (own i) (stX ops tr S0 (fun _ => true) i).ev B o.op K) → r2 = (entOf tr i).r → O2 = (stY ops tr S0 A (upd X i) ops.length).objs →
        o.wpIn (fen l) 0 P a w K Q := by
      intro O2 r2 hop hr2 hO2
      have h5 := q72 hev (hop (fun r objs' _ => r = r2 ∧ objs' = O2) (fun _ => ⟨rfl, rfl⟩))
      rw [← hobjs] at h5
      refine q96 l hD R h5 fun r objs' t v w' blk' hr R' hv => ?_
      obtain ⟨rfl, rfl⟩ := hr
      have := R'.put hv o.dst
      rw [hr2, hput objs' hO2] at this
      exact hK _ _ _ this
    rcases qa6 (hf i hi) with ht | ⟨k, hk⟩ | ⟨k, hk⟩
    · exact run B _ (fun K hk => h4 ht B K (hk 0)) rfl (hskip (by rw [ht]; rfl)).symm
    · obtain ⟨_, g1, g2⟩ := hfine.rd k hk
      have hs := slot k (.inl hk)
      rw [List.getElem?_append_left g1] at hs
      exact run B _ (fun K hk' => g2 B K hs (hk' _)) rfl (hskip (by rw [hk]; exact qo1 k)).symm
    · have hs := slot k (.inr hk)
      have hw := hwr k (by rw [hk]; exact qla k) (.inr hk)
      rcases hfine.wr k hk with ⟨o1, g1, g2, g3⟩ | ⟨g1, o1, mk, hm, gr, g2, hl1, hv1, g3⟩
      · rw [List.getElem?_append_left g1] at hs
        have hc : (entOf tr i).objs.getD k hole = o1 := by
          rw [g2, List.getD_eq_getElem?_getD, List.getElem?_set]; simp [g1]
        exact run (B.set k o1) _ (fun K hk' => g3 B K hs (hk' _)) rfl (by rw [hw, hc])
      · have hc : (entOf tr i).objs.getD k hole = o1 := by
          rw [g2, List.getD_eq_getElem?_getD, g1]; simp
        have hlen : (obX (entOf tr) (fun _ => true) (i + 1) S0.objs).length ≤ S0.objs.length + A := (textY hst hf hA (i + 1) hi).1
        have hX1 : obX (entOf tr) (fun _ => true) (i + 1) S0.objs = T ++ [o1] := by
          simp only [obX, Bool.true_and, beq_iff_eq]
          rw [if_pos (by rw [hk]; exact co_wr k), g2]
        rw [hX1, List.length_append, List.length_singleton] at hlen
        have hhole : B[k]? = some hole := by
          rw [hs, g1, List.getElem?_append_right (Nat.le_refl _), Nat.sub_self, List.getElem?_replicate, if_pos (by omega)]
        have h5 := q72 hev (g3 B (fun r objs' _ => r = mk B.length ∧ objs' = B ++ [o1]) ⟨rfl, rfl⟩)
        rw [← hobjs] at h5
        refine qe9 l hD R h5 fun r objs' t v w' blk' hr R' hv hn => ?_
        obtain ⟨rfl, rfl⟩ := hr
        rw [hobjs] at R' hv hn
        have R0 : Rel base prot w0 ⟨(stY ops tr S0 A X ops.length).tmps, B⟩ blk a w := by rw [← hobjs]; exact R
        obtain ⟨blk2, R2, hv2⟩ := R0.fill hhole hl1 hv1 R' hn hm hv
        have := R2.put hv2 o.dst
        rw [← gr, hput _ (by rw [hw, hc])] at this
        exact hK _ _ _ this
  · rw [hg] at h1
    rw [if_neg (by rw [q3s R h1]; simp)]
    refine ⟨fun _ _ => trivial, ?_⟩
    have := R.put (q73 w _ _ blk) o.dst
    rw [← h2] at this
    have hs := hput (stY ops tr S0 A X ops.length).objs (by rw [hobjs, hskip (by rw [h3]; rfl)])
    rw [show (stY ops tr S0 A X ops.length).put o.dst (entOf tr i).r = St.put ⟨(stY ops tr S0 A X ops.length).tmps, (stY ops tr S0 A X ops.length).objs⟩ o.dst (entOf tr i).r from rfl, hs] at this
    exact hK _ _ _ this
theorem qg1 {own : Nat → Bool} {ops : List Oper} {ts : List Nat} {ms : List Nat} {tr : List Ent} {S0 : St} {A : Nat} (hD : ∀ t, TOk P t (D t)) (hok : DrawOk2 ops ts ms)
    (hts : ∀ i, i < ops.length → ts.getD i 0 = (entOf tr i).t)
    (hst : ∀ i o, ops[i]? = some o → q6b P D (own i) ops o (stX ops tr S0 (fun _ => true) i) (entOf tr i))
    (hA : (obX (entOf tr) (fun _ => true) ops.length S0.objs).length = S0.objs.length + A)
    {base prot : Nat → Prop} {w0 : Wz} {Q : Exit → Act → World → Prop}
    (hQ : ∀ blk' a' w', Rel base prot w0 (stY ops tr S0 A (fun _ => true) ops.length) blk' a' w' → Q .normal a' w') :
    ∀ (fuel : Nat) (L : Array Bool) (blk : Nat → Option Nat) (a : Act) (w : World), L.size = ops.length →
      (∀ j, j < ops.length → L.getD j false = true → ∀ x, (ms.getD j 0).testBit x = true → L.getD x false = true) → cnt (fun j => L.getD j false) ops.length ≤ fuel →
      Rel base prot w0 (stY ops tr S0 A (fun j => L.getD j false) ops.length) blk a w → wpAnyIn (fen l) 0 P .any ops.toArray Q fuel L a w := by
  have full : ∀ (L : Array Bool), L.size = ops.length → Region.ready .any ops.toArray L = [] → ∀ i, i < ops.length → L.getD i false = true := by
    intro L hsz hr i
    induction i using Nat.strongRecOn with
    | _ i ih =>
      intro hi
      cases hx : L.getD i false with
      | true => rfl
      | false =>
        have hmem : i ∈ Region.ready .any ops.toArray L := by
          simp only [Region.ready, List.mem_filter, List.mem_range, Bool.and_eq_true]
          refine ⟨by simpa using hi, ?_, ?_⟩
          · have hil : i < L.size := by omega
            rw [Array.getD_eq_getD_getElem?, Array.getElem?_eq_getElem hil, Option.getD_some] at hx ⊢
            rw [hx]; rfl
          · have ho : ops.toArray[i]? = some ops[i] := by simp [hi]
            rw [ho]
            simp only [Option.map_some, Option.getD_some]
            rw [Array.all_eq_true']
            intro e he
            cases hbd : Region.binds .any e with
            | false => simp
            | true =>
              have hb := hok.back i ops[i] (List.getElem?_eq_getElem hi) e (by simpa using he) hbd
              rw [ih e.on hb (by omega)]; simp
        rw [hr] at hmem
        simp at hmem
  have step : ∀ (L : Array Bool) (i : Nat), L.size = ops.length → i ∈ Region.ready .any ops.toArray L → ∃ o, ops[i]? = some o ∧ L.getD i false = false ∧ ∀ e ∈ o.after.toList, Region.binds .any e = true → L.getD e.on false = true := by
    intro L i hsz hm
    simp only [Region.ready, List.mem_filter, List.mem_range, Bool.and_eq_true] at hm
    obtain ⟨hi, h1, h2⟩ := hm
    have hi : i < ops.length := by simpa using hi
    have ho : ops.toArray[i]? = some ops[i] := by simp [hi]
    rw [ho] at h2
    simp only [Option.map_some, Option.getD_some] at h2
    rw [Array.all_eq_true'] at h2
    refine ⟨ops[i], List.getElem?_eq_getElem hi, ?_, fun e he hb => ?_⟩
    · have hil : i < L.size := by omega
      rw [Array.getD_eq_getD_getElem?, Array.getElem?_eq_getElem hil, Option.getD_some] at h1 ⊢
      simpa using h1
    · have := h2 e (by simpa using he)
      rw [hb] at this
      simpa using this
  intro fuel
  induction fuel with
  | zero =>
    intro L blk a w hsz hcl hc R
    have hall := qcm (X := fun j => L.getD j false) ops.length (by omega)
    have hst' : stY ops tr S0 A (fun j => L.getD j false) ops.length = stY ops tr S0 A (fun _ => true) ops.length := by
      simp only [stY]; rw [q3b ops.length _ hall, q5d ops.length _ fun j hj => hall j hj]
    refine ⟨?_, hQ blk a w (hst' ▸ R)⟩
    cases hr : Region.ready .any ops.toArray L with
    | nil => rfl
    | cons i is =>
      obtain ⟨o, ho, hx, _⟩ := step L i hsz (by rw [hr]; exact List.mem_cons_self)
      rw [hall i (List.getElem?_eq_some_iff.1 ho).1] at hx
      cases hx
  | succ fuel ih =>
    intro L blk a w hsz hcl hc R
    refine ⟨fun hr => ?_, fun i hm => ?_⟩
    · have hall := full L hsz hr
      have hst' : stY ops tr S0 A (fun j => L.getD j false) ops.length = stY ops tr S0 A (fun _ => true) ops.length := by
        simp only [stY]; rw [q3b ops.length _ hall, q5d ops.length _ fun j hj => hall j hj]
      exact hQ blk a w (hst' ▸ R)
    · obtain ⟨o, ho, hx, hrd⟩ := step L i hsz hm
      have hi : i < ops.length := (List.getElem?_eq_some_iff.1 ho).1
      have hclx : ∀ x, (ms.getD i 0).testBit x = true → L.getD x false = true := by
        intro x hb
        obtain ⟨e, h1, h2, h3⟩ := hok.mask i o ho x hb
        have he := hrd e h1 h2
        rcases h3 with rfl | h3
        · exact he
        · exact hcl e.on (by have := hok.back i o ho e h1 h2; omega) he x h3
      have hupd : ∀ j, (L.setIfInBounds i true).getD j false = upd (fun j => L.getD j false) i j := by
        intro j
        rw [Array.getD_eq_getD_getElem?, Array.getElem?_setIfInBounds]
        simp only [upd]
        by_cases hij : i = j
        · subst hij
          rw [if_pos rfl, if_pos (by omega)]; simp
        · rw [if_neg hij, Array.getD_eq_getD_getElem?]
          have : (j == i) = false := by simp; omega
          rw [this, Bool.or_false]
      have hfun : (fun j => (L.setIfInBounds i true).getD j false) = upd (fun j => L.getD j false) i := funext hupd
      refine qih (X := fun j => L.getD j false) hD hok hts hst hA ho hx hcl hclx R fun blk' a' w' R' => ?_
      refine ih _ blk' a' w' (by simpa using hsz) ?_ ?_ (by rw [hfun]; exact R')
      · intro j hj hb x hbx
        rw [hupd] at hb ⊢
        simp only [upd, Bool.or_eq_true, beq_iff_eq] at hb ⊢
        rcases hb with hb | rfl
        · exact .inl (hcl j hj hb x hbx)
        · exact .inl (hclx x hbx)
      · rw [hfun]
        have := qg0 (X := fun j => L.getD j false) ops.length hi hx
        omega
def q7x (ops : List Oper) (ts : List Nat) : Bool :=
  let ms := masks ops []
  let ls := ops.map (lookL ops)
  ((List.range ops.length).all fun i => fineT (ts.getD i 0)) &&
  (List.range ops.length).all fun i =>
    match ops[i]? with
    | none => true
    | some o =>
      (o.after.toList.all fun e => !Region.binds .any e || decide (e.on < i)) &&
      (ms.getD i 0 &&& qbs ms o == ms.getD i 0) &&
      (List.range i).all fun j =>
        !(clash ((ops[j]?).bind (·.dst)) o.dst (ls.getD j []) (ls.getD i []) 0 0 || tclash (ts.getD j 0) (ts.getD i 0)) || (ms.getD i 0).testBit j
theorem qeg {ops : List Oper} {ts : List Nat} (h : q7x ops ts = true) : DrawOk2 ops ts (masks ops []) := by
  unfold q7x at h
  simp only [Bool.and_eq_true, List.all_eq_true, List.mem_range] at h
  obtain ⟨hfine, h⟩ := h
  have hh : ∀ i o, ops[i]? = some o → _ := fun i o ho => by
    have := h i (List.getElem?_eq_some_iff.1 ho).1
    rw [ho] at this
    simp only [Bool.and_eq_true, List.all_eq_true, List.mem_range, beq_iff_eq] at this
    exact this
  refine ⟨hfine, fun i o ho e he hb => by simpa [hb] using (hh i o ho).1.1 e he, fun i o ho j hj => ?_, fun i o j p ho hp hji hc => ?_⟩
  · refine qbt ?_
    have h2 := (hh i o ho).1.2
    rw [← h2, Nat.testBit_and] at hj
    simp only [Bool.and_eq_true] at hj
    exact hj.2
  · have h3 := (hh i o ho).2 j hji
    have hlt := (List.getElem?_eq_some_iff.1 hp).1
    have e1 : (ops.map (lookL ops)).getD j [] = lookL ops p := by rw [List.getD_eq_getElem?_getD, List.getElem?_map, hp]; rfl
    have e2 : (ops.map (lookL ops)).getD i [] = lookL ops o := by rw [List.getD_eq_getElem?_getD, List.getElem?_map, ho]; rfl
    rw [e1, e2, hp] at h3
    simp only [Option.bind_some, hc, Bool.not_true, Bool.false_or] at h3
    exact h3
theorem PW.drawB {E : Env} {id : Nat} {ops : List Oper} {Q : Exit → St → Prop} {S : St} (own : Nat → Bool) (hD : ∀ t, TOk P t (D t)) (hm : P.follows .mixedOrders = true)
    (h : listR P D own ops ops 0 S [] fun S' ts => (q74 ops ts || q7x ops ts) = true ∧ Q .normal S') : PW P l E (.region id ops.toArray true) Q S := by
  intro base prot V hE blk a w ⟨w0, hV, R⟩
  obtain ⟨tr, S', h1, h2, h3⟩ := q2p _ _ _ _ _ h
  obtain ⟨h4, h5⟩ := q6n (S0 := S) (tr0 := tr) ops 0 S tr S' h1 (fun j => by simp) (fun j => by simp) rfl
  refine wpIn_region_any hm ?_
  have R' : Rel base prot w0 S blk a { w with drawn := w.drawn + 1 } := R.grew (.same rfl)
  have hcn : ∀ (X : Nat → Bool) n, cnt X n ≤ n := by
    intro X n
    induction n with
    | zero => exact Nat.le_refl _
    | succ n ih => simp only [cnt]; split <;> omega
  have hrep : ∀ j, (Array.replicate ops.toArray.size false).getD j false = false := by
    intro j
    rw [Array.getD_eq_getD_getElem?, Array.getElem?_replicate]
    split <;> rfl
  have htr : tr.length = ops.length := by
    clear h2 h3 h4 h5 h
    have : ∀ (lst : List Oper) (k : Nat) (S : St) (tr : List Ent) (S' : St), Trace P D own ops lst k S tr S' → tr.length = lst.length := by
      intro lst
      induction lst with
      | nil => rintro k S tr S' ⟨rfl, _⟩; rfl
      | cons o lst ih =>
        rintro k S tr S' ⟨e, tr', rfl, _, h⟩
        simp [ih _ _ _ _ h]
    exact this _ _ _ _ _ h1
  have hts : ∀ i, i < ops.length → (tr.map (·.t)).getD i 0 = (entOf tr i).t := by
    intro i hi
    have hil : i < tr.length := by omega
    simp [entOf, List.getD_eq_getElem?_getD, List.getElem?_map, List.getElem?_eq_getElem hil]
  rw [Nat.zero_add] at h5
  subst h5
  have hst : ∀ i o, ops[i]? = some o → q6b P D (own i) ops o (stX ops tr S (fun _ => true) i) (entOf tr i) := fun i o ho => h4 i o (Nat.zero_le _) ho
  have hc := hcn (fun j => (Array.replicate ops.toArray.size false).getD j false) ops.length
  have hsz : ops.toArray.size = ops.length := by simp
  have hrs : (Array.replicate ops.toArray.size false).size = ops.length := by simp
  have hQ : ∀ blk' a' w', Rel base prot w0 (stX ops tr S (fun _ => true) ops.length) blk' a' w' → ∃ S' blk'', Q .normal S' ∧ RelV base prot V S' blk'' a' w' :=
    fun blk' a' w' R'' => ⟨_, blk', h3, w0, hV, R''⟩
  have hcl : ∀ j, j < ops.length → (Array.replicate ops.toArray.size false).getD j false = true → ∀ x, ((masks ops []).getD j 0).testBit x = true → (Array.replicate ops.toArray.size false).getD x false = true := by
    intro j _ hb
    rw [hrep] at hb; cases hb
  have e1 : ∀ (L : Array Bool), (∀ j, L.getD j false = false) → ∀ n tm, tmX (dstOf ops) (entOf tr) (fun j => L.getD j false) n tm = tm := by
    intro L hL n tm
    induction n with
    | zero => rfl
    | succ n ih => simp only [tmX]; rw [if_neg (by rw [hL n]; simp)]; exact ih
  rcases Bool.or_eq_true _ _ ▸ h2 with h2 | h2
  · have hR : ∀ (L : Array Bool), (∀ j, L.getD j false = false) → stX ops tr S (fun j => L.getD j false) ops.length = S := by
      intro L hL
      have e2 : ∀ n ob, obX (entOf tr) (fun j => L.getD j false) n ob = ob := by
        intro n ob
        induction n with
        | zero => rfl
        | succ n ih => simp only [obX]; rw [if_neg (by rw [hL n]; simp)]; exact ih
      simp only [stX, e1 L hL, e2]
    have R1 : Rel base prot w0 (stX ops tr S (fun j => (Array.replicate ops.toArray.size false).getD j false) ops.length) blk a { w with drawn := w.drawn + 1 } := by rw [hR _ hrep]; exact R'
    have h2' : q74 ops (tr.map (·.t)) = true := h2
    generalize Array.replicate ops.toArray.size false = L at *
    exact qbv (Q := fun e a' w' => ∃ S' blk', Q e S' ∧ RelV base prot V S' blk' a' w') hD (qa2 h2') hts hst hQ ops.toArray.size L blk a _ hrs hcl (by rw [hsz]; exact hc) R1
  · have h2' := qeg h2
    have hf : ∀ i, i < ops.length → fineT (entOf tr i).t = true := fun i hi => by rw [← hts i hi]; exact h2'.fine i hi
    have mono : ∀ i, i ≤ ops.length → S.objs.length ≤ (obX (entOf tr) (fun _ => true) i S.objs).length := by
      intro i
      induction i with
      | zero => intro _; exact Nat.le_refl _
      | succ i ih => intro hi; exact Nat.le_trans (ih (by omega)) (qld hst hf i (by omega)).1
    obtain ⟨A, hA⟩ : ∃ A, (obX (entOf tr) (fun _ => true) ops.length S.objs).length = S.objs.length + A := ⟨(obX (entOf tr) (fun _ => true) ops.length S.objs).length - S.objs.length, by have := mono ops.length (Nat.le_refl _); omega⟩
    obtain ⟨blk0, R0⟩ := R'.holes A
    have hR : ∀ (L : Array Bool), (∀ j, L.getD j false = false) → stY ops tr S A (fun j => L.getD j false) ops.length = ⟨S.tmps, S.objs ++ List.replicate A hole⟩ := by
      intro L hL
      have e2 : ∀ n ob, obY (entOf tr) (fun j => L.getD j false) n ob = ob := by
        intro n ob
        induction n with
        | zero => rfl
        | succ n ih => simp only [obY]; rw [if_neg (by rw [hL n]; simp)]; exact ih
      simp only [stY, e1 L hL, e2]
    have R1 : Rel base prot w0 (stY ops tr S A (fun j => (Array.replicate ops.toArray.size false).getD j false) ops.length) blk0 a { w with drawn := w.drawn + 1 } := by rw [hR _ hrep]; exact R0
    have hend : stY ops tr S A (fun _ => true) ops.length = stX ops tr S (fun _ => true) ops.length := by
      have := (textY hst hf hA ops.length (Nat.le_refl _)).2
      simp only [stY, stX]
      rw [this, hA, Nat.sub_self, List.replicate_zero, List.append_nil]
    have hQ2 : ∀ blk' a' w', Rel base prot w0 (stY ops tr S A (fun _ => true) ops.length) blk' a' w' → ∃ S' blk'', Q .normal S' ∧ RelV base prot V S' blk'' a' w' :=
      fun blk' a' w' R'' => hQ blk' a' w' (hend ▸ R'')
    generalize Array.replicate ops.toArray.size false = L at *
    exact qg1 (Q := fun e a' w' => ∃ S' blk', Q e S' ∧ RelV base prot V S' blk' a' w') hD h2' hts hst hA hQ2 ops.toArray.size L blk0 a _ hrs hcl (by rw [hsz]; exact hc) R1
end Lp

/-! LpO -/

namespace Lp
open Go
def PV.mapCells (f : PV → PV) : PV → PV
  | .agg cs => .agg (cs.map f)
  | p => f p
theorem q8g {p : PV} (h : p.isAgg = false) : p.cells = [p] := by cases p <;> first | rfl | (simp [PV.isAgg] at h)
theorem q2q {f : PV → PV} (hf : ∀ p, p.isAgg = false → (f p).isAgg = false) (x : PV) : (x.mapCells f).cells = x.cells.map f := by
  cases hx : x.isAgg with
  | true =>
    cases x <;> simp [PV.isAgg] at hx
    rfl
  | false =>
    have : x.mapCells f = f x := by cases x <;> first | rfl | (simp [PV.isAgg] at hx)
    rw [this, q8g hx, q8g (hf x hx)]
    rfl
def frzI : Nat → Nat → List Obj → PV → PV
  | 0, _, _, .osl .. => .dead
  | 0, _, _, .optr .. => .dead
  | _, _, _, .omp .. => .dead
  | d + 1, n, objs, .osl k ver =>
    match objs[k]? with
    | some o => if decide (n ≤ k) && o.live && o.ver == ver then .sl o.sz (o.xs.map (PV.mapCells (frzI d n objs))) none else .dead
    | none => .dead
  | d + 1, n, objs, .optr k ver i f =>
    match objs[k]? with
    | some o => if decide (n ≤ k) && o.live && o.ver == ver && f == 0 then (match o.xs[i]? with | some x => .addr (x.mapCells (frzI d n objs)) | none => .dead) else .dead
    | none => .dead
  | _, _, _, p => p
def frz (d n : Nat) (objs : List Obj) : PV → PV
  | .osl k ver => if k < n then .osl k ver else frzI d n objs (.osl k ver)
  | .optr k ver i f => if k < n then .optr k ver i f else frzI d n objs (.optr k ver i f)
  | .omp k ver => if k < n then .omp k ver else .dead
  | p => p
def frzT (d n : Nat) (objs : List Obj) : PV → PV
  | .fn f a c => .fn f (a.map (frz d n objs)) (c.map (frz d n objs))
  | .tup cs => .tup (cs.map (frz d n objs))
  | .agg cs => .agg (cs.map (frz d n objs))
  | p => frz d n objs p
def frzO (d n : Nat) (objs : List Obj) (o : Obj) : Obj := { o with xs := o.xs.map (PV.mapCells (frz d n objs)) }
def St.freeze (d n : Nat) (S : St) : St := ⟨S.tmps.map (frzT d n S.objs), (S.objs.take n).map (frzO d n S.objs)⟩
theorem qcn (d n : Nat) (objs : List Obj) (p : PV) (h : p.isAgg = false) : (frzI d n objs p).isAgg = false := by
  cases d <;> cases p <;> simp only [frzI] <;> first | rfl | exact h | (split <;> first | rfl | (split <;> first | rfl | (split <;> rfl)))
theorem qle (d n : Nat) (objs : List Obj) (p : PV) (h : p.isAgg = false) : (frz d n objs p).isAgg = false := by
  cases p <;> simp only [frz] <;> first | rfl | exact h | (split <;> first | rfl | (exact qcn _ _ _ _ rfl))
section
variable {base prot : Nat → Prop} {w0 : Wz} {S : St} {blk : Nat → Option Nat} {a : Act} {w : World}
theorem q36 {d n k : Nat} {o' : Obj} (h : (S.freeze d n).objs[k]? = some o') : k < n ∧ ∃ o, S.objs[k]? = some o ∧ o' = frzO d n S.objs o := by
  simp only [St.freeze, List.getElem?_map, List.getElem?_take] at h
  split at h
  · rename_i hk
    cases ho : S.objs[k]? with
    | none => rw [ho] at h; simp at h
    | some o => rw [ho] at h; exact ⟨hk, o, rfl, by simpa using h.symm⟩
  · simp at h
theorem qba {d n b : Nat} (h : q0k S.objs blk b) : q0k (S.freeze d n).objs blk b := by
  intro k o' ho' hl
  obtain ⟨_, o, ho, rfl⟩ := q36 ho'
  exact h k o ho hl
theorem q75 {d n b : Nat} (h : okL base S.objs blk b) : okL base (S.freeze d n).objs blk b := ⟨h.1, qba h.2⟩
theorem q8h (R : Rel base prot w0 S blk a w) {d n k g : Nat} {o : Obj} (hk : n ≤ k) (ho : S.objs[k]? = some o) (hl : o.live = true) (hg : blk k = some g) : okL base (S.freeze d n).objs blk g := by
  refine ⟨R.pb g (R.objs.np k o g ho hl hg), fun k' o' ho' hl' => ?_⟩
  obtain ⟨hk', o1, ho1, rfl⟩ := q36 ho'
  exact R.objs.dis k k' o o1 g (by omega) ho hl ho1 hl' hg
theorem qho (R : Rel base prot w0 S blk a w) (d' n : Nat) : ∀ (d : Nat) (p : PV) (v : Value), RepS w (okL base S.objs blk) S.objs blk p v → Rep w (okL base (S.freeze d' n).objs blk) (frzI d n S.objs p) v := by
  intro d
  induction d with
  | zero =>
    intro p v h
    have hm : ∀ q : PV, Rep w (okL base S.objs blk) q v → Rep w (okL base (S.freeze d' n).objs blk) q v := fun q hq => hq.mono (Nat.le_refl _) (fun b _ h => q75 h) (fun _ _ _ h => h)
    cases p <;> simp only [frzI] <;> first | exact .dead v | exact hm _ h
  | succ d ih =>
    intro p v h
    have hm : ∀ q : PV, Rep w (okL base S.objs blk) q v → Rep w (okL base (S.freeze d' n).objs blk) q v := fun q hq => hq.mono (Nat.le_refl _) (fun b _ h => q75 h) (fun _ _ _ h => h)
    cases p
    case osl k ver =>
      obtain ⟨_, o, ho, _, h3⟩ := h
      simp only [frzI, ho]
      split
      · rename_i hc
        simp only [Bool.and_eq_true, decide_eq_true_eq, beq_iff_eq] at hc
        obtain ⟨⟨hn, hl⟩, hv⟩ := hc
        obtain ⟨hM, hh⟩ := h3 hl hv
        have hb := R.objs.ob k o ho hl
        unfold Hdr at hh
        unfold ObjRep at hb
        cases hg : blk k with
        | none =>
          rw [hg] at hh
          obtain ⟨rfl, hx⟩ := hh
          rw [hx]
          exact .slnil _ _ (by simp)
        | some g =>
          rw [hg] at hh hb
          obtain ⟨cap, c, rfl, hc, h4, h5, h6⟩ := hh
          obtain ⟨c', hc', h7, h8⟩ := hb
          rw [q39 hM, hc] at hc'
          cases hc'
          have hlen : (o.xs.map (PV.mapCells (frzI d n S.objs))).length = o.xs.length := by simp
          rw [← hlen]
          have hel : ∀ (i : Nat) (x : PV), (o.xs.map (PV.mapCells (frzI d n S.objs)))[i]? = some x → ∃ x0, o.xs[i]? = some x0 ∧ x.cells = x0.cells.map (frzI d n S.objs) := by
            intro i x hx
            rw [List.getElem?_map] at hx
            cases h0 : o.xs[i]? with
            | none => rw [h0] at hx; simp at hx
            | some x0 =>
              rw [h0] at hx
              simp only [Option.map_some, Option.some.injEq] at hx
              subst hx
              exact ⟨x0, rfl, q2q (qcn _ _ _) x0⟩
          have hgl : g < w.heap.size := (Array.getElem?_eq_some_iff.1 hc).1
          refine .sl _ _ _ (by simp) g 0 cap (fun i j => c.getD (i * o.sz + j) undef) (fun _ => ⟨q8h R hn ho hl hg, hgl⟩) (by rw [hlen]; exact h4) h5 ?_ ?_ ?_
          · intro i x hx
            obtain ⟨x0, hx0, e⟩ := hel i x hx
            rw [e, List.length_map]; exact (h8 i x0 hx0).1
          · intro i x j p hx hp
            obtain ⟨x0, hx0, e⟩ := hel i x hx
            rw [e, List.getElem?_map] at hp
            cases hp0 : x0.cells[j]? with
            | none => rw [hp0] at hp; simp at hp
            | some p0 =>
              obtain ⟨u, hu, _⟩ := (h8 i x0 hx0).2 j p0 hp0
              have : 0 + i * o.sz + j = i * o.sz + j := by omega
              unfold World.cell?
              simp only [hc, this]
              rw [Array.getD_eq_getD_getElem?, hu]
              rfl
          · intro i x j p hx hp
            obtain ⟨x0, hx0, e⟩ := hel i x hx
            rw [e, List.getElem?_map] at hp
            cases hp0 : x0.cells[j]? with
            | none => rw [hp0] at hp; simp at hp
            | some p0 =>
              rw [hp0] at hp
              simp only [Option.map_some, Option.some.injEq] at hp
              subst hp
              obtain ⟨u, hu, hr⟩ := (h8 i x0 hx0).2 j p0 hp0
              rw [Array.getD_eq_getD_getElem?, hu]
              exact ih p0 u hr
      · exact .dead v
    case optr k ver i f =>
      obtain ⟨_, o, ho, _, h3⟩ := h
      simp only [frzI, ho]
      split
      · rename_i hc
        simp only [Bool.and_eq_true, decide_eq_true_eq, beq_iff_eq] at hc
        obtain ⟨⟨⟨hn, hl⟩, hv⟩, rfl⟩ := hc
        obtain ⟨hM, g, hg, rfl⟩ := h3 hl hv
        have hb := R.objs.ob k o ho hl
        unfold ObjRep at hb
        rw [hg] at hb
        obtain ⟨c, hc, h7, h8⟩ := hb
        rw [q39 hM] at hc
        have hgl : g < w.heap.size := (Array.getElem?_eq_some_iff.1 hc).1
        cases hx : o.xs[i]? with
        | none => exact .dead _
        | some x0 =>
          have e := q2q (qcn d n S.objs) x0
          refine .addr _ g (i * o.sz + 0) (fun j => c.getD (i * o.sz + j) undef) ⟨q8h R hn ho hl hg, hgl⟩ ?_ ?_
          · intro j p hp
            rw [e, List.getElem?_map] at hp
            cases hp0 : x0.cells[j]? with
            | none => rw [hp0] at hp; simp at hp
            | some p0 =>
              obtain ⟨u, hu, _⟩ := (h8 i x0 hx).2 j p0 hp0
              unfold World.cell?
              simp only [hc, Nat.add_zero]
              rw [Array.getD_eq_getD_getElem?, hu]
              rfl
          · intro j p hp
            rw [e, List.getElem?_map] at hp
            cases hp0 : x0.cells[j]? with
            | none => rw [hp0] at hp; simp at hp
            | some p0 =>
              rw [hp0] at hp
              simp only [Option.map_some, Option.some.injEq] at hp
              subst hp
              obtain ⟨u, hu, hr⟩ := (h8 i x0 hx).2 j p0 hp0
              rw [Array.getD_eq_getD_getElem?, hu]
              exact ih p0 u hr
      · exact .dead _
    case omp k ver => simp only [frzI]; exact .dead v
    all_goals (simp only [frzI]; exact hm _ h)
theorem q4u (R : Rel base prot w0 S blk a w) (d n : Nat) (p : PV) (v : Value) (h : RepS w (okL base S.objs blk) S.objs blk p v) :
    RepS w (okL base (S.freeze d n).objs blk) (S.freeze d n).objs blk (frz d n S.objs p) v := by
  have hm : ∀ q : PV, Rep w (okL base S.objs blk) q v → Rep w (okL base (S.freeze d n).objs blk) q v := fun q hq => hq.mono (Nat.le_refl _) (fun b _ h => q75 h) (fun _ _ _ h => h)
  have hget : ∀ k o, k < n → S.objs[k]? = some o → (S.freeze d n).objs[k]? = some (frzO d n S.objs o) := by
    intro k o hk ho
    simp only [St.freeze, List.getElem?_map, List.getElem?_take, if_pos hk, ho, Option.map_some]
  cases p
  case osl k ver =>
    simp only [frz]
    split
    · rename_i hk
      obtain ⟨h0, o, ho, h2, h3⟩ := h
      refine ⟨h0, _, hget k o hk ho, h2, fun hl hv => ?_⟩
      obtain ⟨hM, hh⟩ := h3 hl hv
      refine ⟨hM, ?_⟩
      unfold Hdr at hh ⊢
      cases hg : blk k with
      | none => rw [hg] at hh; exact ⟨hh.1, by simp [frzO, hh.2]⟩
      | some g => rw [hg] at hh; simpa [frzO] using hh
    · exact .of_rep (qho R d n d _ v h)
  case optr k ver i f =>
    simp only [frz]
    split
    · rename_i hk
      obtain ⟨h0, o, ho, h2, h3⟩ := h
      exact ⟨h0, _, hget k o hk ho, h2, h3⟩
    · exact .of_rep (qho R d n d _ v h)
  case omp k ver =>
    simp only [frz]
    split
    · rename_i hk
      obtain ⟨h0, o, ho, h2, h3⟩ := h
      exact ⟨h0, _, hget k o hk ho, h2, h3⟩
    · exact .of_rep (.dead v)
  all_goals (simp only [frz]; exact .of_rep (hm _ h))
theorem q76 {R R' : PV → Value → Prop} {f : PV → PV} {cs : List PV} {vs : List Value} (h : RepL R cs vs) (hf : ∀ p v, R p v → R' (f p) v) : RepL R' (cs.map f) vs := by
  refine ⟨by simpa using h.1, fun i p v hp hv => ?_⟩
  rw [List.getElem?_map] at hp
  cases hc : cs[i]? with
  | none => rw [hc] at hp; simp at hp
  | some p0 =>
    rw [hc] at hp
    simp only [Option.map_some, Option.some.injEq] at hp
    subst hp
    exact hf p0 v (h.2 i p0 v hc hv)
theorem qco (R : Rel base prot w0 S blk a w) (d n : Nat) (p : PV) (v : Value) (h : RepT w (okL base S.objs blk) S.objs blk p v) :
    RepT w (okL base (S.freeze d n).objs blk) (S.freeze d n).objs blk (frzT d n S.objs p) v := by
  have hS : RepS w (okL base S.objs blk) S.objs blk p v → RepT w (okL base (S.freeze d n).objs blk) (S.freeze d n).objs blk (frz d n S.objs p) v := fun h => .of_repS (q4u R d n p v h)
  cases p
  case fn f a c =>
    obtain ⟨va, vc, rfl, h1, h2⟩ := h
    exact ⟨va, vc, rfl, q76 h1 (q4u R d n), q76 h2 (q4u R d n)⟩
  case tup cs => obtain ⟨vs, rfl, h1⟩ := h; exact ⟨vs, rfl, q76 h1 (q4u R d n)⟩
  case agg cs => obtain ⟨vs, rfl, h1⟩ := h; exact ⟨vs, rfl, q76 h1 (q4u R d n)⟩
  all_goals exact hS h
theorem qg2 {d n : Nat} {objs : List Obj} {p : PV} (h : p.ltS n = true) : frz d n objs p = p := by
  cases p <;> simp only [frz] <;> (try rfl) <;> (simp only [PV.ltS, decide_eq_true_eq] at h; rw [if_pos h])
theorem qcp {d n : Nat} {objs : List Obj} {cs : List PV} (h : cs.all (PV.ltS n) = true) : cs.map (frz d n objs) = cs := by
  conv => rhs; rw [← List.map_id cs]
  exact List.map_congr_left fun p hp => qg2 (List.all_eq_true.1 h p hp)
theorem qp0 {d n : Nat} {objs : List Obj} {p : PV} (h : p.lt n = true) : frzT d n objs p = p := by
  cases p <;> simp only [frzT] <;> simp only [PV.lt, Bool.and_eq_true] at h
  case fn f a c => rw [qcp h.1, qcp h.2]
  case tup cs => rw [qcp h]
  case agg cs => rw [qcp h]
  all_goals exact qg2 h
theorem qcq {n m : Nat} (h : n ≤ m) {p : PV} (hp : p.ltS n = true) : p.ltS m = true := by
  cases p <;> simp only [PV.ltS, decide_eq_true_eq] at hp ⊢ <;> omega
theorem q3t {n m : Nat} (h : n ≤ m) {cs : List PV} (hp : cs.all (PV.ltS n) = true) : cs.all (PV.ltS m) = true := by
  rw [List.all_eq_true] at hp ⊢
  exact fun p hm => qcq h (hp p hm)
theorem qlf {n m : Nat} (h : n ≤ m) {p : PV} (hp : p.lt n = true) : p.lt m = true := by
  cases p <;> simp only [PV.lt, Bool.and_eq_true] at hp ⊢
  case fn f a c => exact ⟨q3t h hp.1, q3t h hp.2⟩
  case tup cs => exact q3t h hp
  case agg cs => exact q3t h hp
  all_goals exact qcq h hp
theorem Rel.freeze (R : Rel base prot w0 S blk a w) (d n : Nat) (hn : w0.nx ≤ n) : Rel base prot w0 (S.freeze d n) blk a w := by
  refine ⟨R.nodef.mono (fun b _ h => ⟨q75 h.1, h.2⟩) (fun _ _ _ h => h), by simpa [St.freeze] using R.tsz, fun t p hp => ?_, ⟨fun k o' ho' hl => ?_, ?_, ?_⟩, R.pr, R.fr, R.gr, R.pb, fun x hx => (qp0 (d := d) (objs := S.objs) (qlf hn (R.exn x hx))) ▸ qco R d n x.1 x.2 (R.ext x hx), R.exn, R.sm, R.gl⟩
  · simp only [St.freeze, List.getElem?_map] at hp
    cases ht : S.tmps[t]? with
    | none => rw [ht] at hp; simp at hp
    | some p0 =>
      rw [ht] at hp
      simp only [Option.map_some, Option.some.injEq] at hp
      subst hp
      exact qco R d n p0 _ (R.tm t p0 ht)
  · obtain ⟨hk, o, ho, rfl⟩ := q36 ho'
    have hb := R.objs.ob k o ho hl
    unfold ObjRep at hb ⊢
    cases hg : blk k with
    | none => rw [hg] at hb; simp [frzO, hb]
    | some g =>
      rw [hg] at hb
      obtain ⟨c, hc, h7, h8⟩ := hb
      refine ⟨c, hc, by simpa [frzO, fits] using h7, fun i x hx => ?_⟩
      simp only [frzO, List.getElem?_map] at hx
      cases hx0 : o.xs[i]? with
      | none => rw [hx0] at hx; simp at hx
      | some x0 =>
        rw [hx0] at hx
        simp only [Option.map_some, Option.some.injEq] at hx
        subst hx
        have e := q2q (qle d n S.objs) x0
        refine ⟨by rw [e, List.length_map]; exact (h8 i x0 hx0).1, fun j p hp => ?_⟩
        rw [e, List.getElem?_map] at hp
        cases hp0 : x0.cells[j]? with
        | none => rw [hp0] at hp; simp at hp
        | some p0 =>
          rw [hp0] at hp
          simp only [Option.map_some, Option.some.injEq] at hp
          subst hp
          obtain ⟨u, hu, hr⟩ := (h8 i x0 hx0).2 j p0 hp0
          exact ⟨u, hu, q4u R d n p0 u hr⟩
  · intro k k' o o' g hne h1 h2 h3 h4 h5
    obtain ⟨_, o1, ho1, rfl⟩ := q36 h1
    obtain ⟨_, o2, ho2, rfl⟩ := q36 h3
    exact R.objs.dis k k' o1 o2 g hne ho1 h2 ho2 h4 h5
  · intro k o g h1 h2 h3
    obtain ⟨_, o1, ho1, rfl⟩ := q36 h1
    exact R.objs.np k o1 g ho1 h2 h3
def fgt : List Bool → List PV → List PV
  | _, [] => []
  | [], p :: ps => .dead :: fgt [] ps
  | true :: ks, p :: ps => p :: fgt ks ps
  | false :: ks, _ :: ps => .dead :: fgt ks ps
theorem q37 : ∀ (ks : List Bool) (ps : List PV), (fgt ks ps).length = ps.length
  | ks, [] => by cases ks <;> simp [fgt]
  | [], _ :: ps => by simp [fgt, q37 [] ps]
  | true :: ks, p :: ps => by simp [fgt, q37 ks ps]
  | false :: ks, p :: ps => by simp [fgt, q37 ks ps]
theorem fgt_get : ∀ (ks : List Bool) (ps : List PV) (t : Nat) (p : PV), (fgt ks ps)[t]? = some p → p = .dead ∨ ps[t]? = some p
  | ks, [], _, _, h => by cases ks <;> simp [fgt] at h
  | [], q :: ps, 0, p, h => by simp only [fgt, List.getElem?_cons_zero, Option.some.injEq] at h; exact .inl h.symm
  | [], q :: ps, t + 1, p, h => by simp only [fgt, List.getElem?_cons_succ] at h ⊢; exact fgt_get [] ps t p h
  | true :: ks, q :: ps, 0, p, h => by simp only [fgt, List.getElem?_cons_zero, Option.some.injEq] at h; exact .inr (by simpa using h)
  | true :: ks, q :: ps, t + 1, p, h => by simp only [fgt, List.getElem?_cons_succ] at h ⊢; exact fgt_get ks ps t p h
  | false :: ks, q :: ps, 0, p, h => by simp only [fgt, List.getElem?_cons_zero, Option.some.injEq] at h; exact .inl h.symm
  | false :: ks, q :: ps, t + 1, p, h => by simp only [fgt, List.getElem?_cons_succ] at h ⊢; exact fgt_get ks ps t p h
def St.forget (ks : List Bool) (S : St) : St := ⟨fgt ks S.tmps, S.objs⟩
theorem RepT.dead {ok : Nat → Prop} {objs : List Obj} (v : Value) : RepT w ok objs blk .dead v := .of_rep (.dead v)
theorem Rel.forget (R : Rel base prot w0 S blk a w) (ks : List Bool) : Rel base prot w0 (S.forget ks) blk a w := by
  refine ⟨R.nodef, by simpa [St.forget, q37] using R.tsz, fun t p hp => ?_, R.objs, R.pr, R.fr, R.gr, R.pb, R.ext, R.exn, R.sm, R.gl⟩
  rcases fgt_get ks S.tmps t p hp with rfl | h
  · exact .dead _
  · exact R.tm t p h
def St.adopt (t ty sz : Nat) (S : St) : St :=
  match S.tmps[t]? with
  | some (.sl _ [] _) => ⟨S.tmps.set t (.osl S.objs.length 0), S.objs ++ [⟨ty, sz, [], true, 0⟩]⟩
  | _ => S
end
theorem Weak.refl (m : Nat) (S : St) : Weak m S S := fun _ _ _ blk _ _ _ R => ⟨blk, R⟩
theorem Weak.trans {m : Nat} {S S' S'' : St} (h : Weak m S S') (h' : Weak m S' S'') : Weak m S S'' := fun base prot w0 blk a w hm R => let ⟨blk', R'⟩ := h base prot w0 blk a w hm R; h' base prot w0 blk' a w hm R'
theorem Weak.freeze {m : Nat} (d n : Nat) (hn : m ≤ n) (S : St) : Weak m S (S.freeze d n) := fun _ _ _ blk _ _ hm R => ⟨blk, R.freeze d n (Nat.le_trans hm hn)⟩
theorem Weak.forget (m : Nat) (ks : List Bool) (S : St) : Weak m S (S.forget ks) := fun _ _ _ blk _ _ _ R => ⟨blk, R.forget ks⟩
def St.norm (ks : List Bool) (fz : Option (Nat × Nat)) (S : St) : St :=
  match fz with
  | none => S.forget ks
  | some (d, n) => (S.forget ks).freeze d n
def fzOk (m : Nat) : Option (Nat × Nat) → Prop
  | none => True
  | some (_, n) => m ≤ n
theorem Weak.norm {m : Nat} (ks : List Bool) (fz : Option (Nat × Nat)) (h : fzOk m fz) (S : St) : Weak m S (S.norm ks fz) := by
  cases fz with
  | none => exact .forget m ks S
  | some x => exact (Weak.forget m ks S).trans (Weak.freeze _ _ h _)
theorem Rel.adopt {base prot : Nat → Prop} {w0 : Wz} {S : St} {blk : Nat → Option Nat} {a : Act} {w : World} (R : Rel base prot w0 S blk a w) {t sz ty : Nat} {sz' : Nat} (h : S.tmps[t]? = some (.sl sz' [] (some true))) (hM : ty ≠ MT) :
    Rel base prot w0 ⟨S.tmps.set t (.osl S.objs.length 0), S.objs ++ [⟨ty, sz, [], true, 0⟩]⟩ (q0g blk S.objs.length none) a w := by
  have h1 := R.addObj (o1 := ⟨ty, sz, [], true, 0⟩) (gb := none) (Grew.refl w) (fun g hg => by cases hg) fun _ => by
    unfold ObjRep q0g
    rw [if_pos rfl]
  refine ⟨h1.nodef, by simpa using h1.tsz, fun t' p hp => ?_, h1.objs, h1.pr, h1.fr, h1.gr, h1.pb, h1.ext, h1.exn, h1.sm, h1.gl⟩
  simp only [List.getElem?_set] at hp
  split at hp
  · rename_i ht
    subst ht
    split at hp
    · cases hp
      have hx := R.tm t _ h
      have hx' : Rep w (okL base S.objs blk) (.sl sz' [] (some true)) (a.tmps.getD t undef) := hx
      generalize hv : a.tmps.getD t undef = v at hx'
      cases hx' with
      | slnil _ _ _ =>
        refine ⟨rfl, ⟨ty, sz, [], true, 0⟩, qoy _ _, Nat.le_refl _, fun _ _ => ⟨hM, ?_⟩⟩
        unfold Hdr q0g
        rw [if_pos rfl]
        exact ⟨rfl, rfl⟩
      | slz _ _ hq => exact absurd rfl hq
      | sl _ _ _ hq => exact absurd rfl hq
    · cases hp
  · exact h1.tm t' p hp
theorem Weak.adopt {m : Nat} {tm : List PV} {objs : List Obj} (t ty sz : Nat) {sz' : Nat} (h : tm[t]? = some (.sl sz' [] (some true))) (hM : ty ≠ MT := by decide) :
    Weak m ⟨tm, objs⟩ ⟨tm.set t (.osl objs.length 0), objs ++ [⟨ty, sz, [], true, 0⟩]⟩ :=
  fun _ _ _ _ _ _ _ R => ⟨_, Rel.adopt (S := ⟨tm, objs⟩) R h hM⟩
def q2s (objs : List Obj) : Prop := ∀ o ∈ objs, ∀ x ∈ o.xs, ∀ c ∈ x.cells, c.ltS objs.length = true
theorem qg3 {f : PV → PV} {x : PV} (h : ∀ c ∈ x.cells, f c = c) : x.mapCells f = x := by
  cases x <;> simp only [PV.mapCells] <;> simp only [PV.cells] at h
  case agg cs => congr 1; conv => rhs; rw [← List.map_id cs]
                 exact List.map_congr_left fun c hc => h c hc
  all_goals exact h _ List.mem_cons_self
theorem qcr {d : Nat} {objs objs' : List Obj} (h : q2s objs) : objs.map (frzO d objs.length objs') = objs := by
  conv => rhs; rw [← List.map_id objs]
  refine List.map_congr_left fun o ho => ?_
  have hx : o.xs.map (PV.mapCells (frz d objs.length objs')) = o.xs := by
    conv => rhs; rw [← List.map_id o.xs]
    exact List.map_congr_left fun x hx => qg3 fun c hc => qg2 (h o ho x hx c hc)
  simp only [frzO, hx, id]
end Lp

/-! LpP -/

namespace Lp
open Go
structure Step where
  dst : Option Nat
  op : Op
  g : Option (Option Nat × Bool)
  own : Bool
inductive LC where
  | skip
  | ret
  | bad
  | reg (ss : List Step)
  | draw (ss : List Step) (un : List Nat)
  | seq (a b : LC)
  | cond (c : Operand) (a b : LC)
  | block (id : Nat) (c : LC)
  | loop (ks : List Bool) (fz : Option (Nat × Nat)) (c : LC)
  | exit (id : Nat)
  | weak (c : LC)
  | rf (f : Operand) (ps : List Nat) (fz : Option (Nat × Nat)) (a b : LC)
def unord (ops : List Oper) (ms : List Nat) : List Nat :=
  (List.range ops.length).map fun i => (List.range i).foldl (fun u j => if (ms.getD i 0).testBit j then u else u ||| (1 <<< j)) 0
def q1i (ops : List Oper) (ms : List Nat) : Bool :=
  let ls := ops.map (lookL ops)
  let zs := ops.map fun _ => 0
  (List.range ops.length).all fun i =>
    match ops[i]? with
    | none => true
    | some o =>
      (o.after.toList.all fun e => !Region.binds .any e || decide (e.on < i)) &&
      (ms.getD i 0 &&& qbs ms o == ms.getD i 0) &&
      (List.range i).all fun j =>
        (ms.getD i 0).testBit j || !clash ((ops[j]?).bind (·.dst)) o.dst (ls.getD j []) (ls.getD i []) (zs.getD j 0) (zs.getD i 0)
def q4d (un ts : List Nat) : Bool :=
  (List.range un.length).all fun i => co (ts.getD i 0) == 0 || (List.range i).all fun j => !(un.getD i 0).testBit j || !((co (ts.getD j 0) == 2 && co (ts.getD i 0) != 0) || (co (ts.getD i 0) == 2 && co (ts.getD j 0) != 0))
def q7y (un ts : List Nat) : Bool :=
  ((List.range un.length).all fun i => fineT (ts.getD i 0)) && (List.range un.length).all fun i => (List.range i).all fun j => !(un.getD i 0).testBit j || !tclash (ts.getD j 0) (ts.getD i 0)
def q3c (un ts : List Nat) : Bool := q4d un ts || q7y un ts
def q8i (ops : List Oper) (o : Oper) : Step := ⟨o.dst, o.op, match o.guard with
  | none => none
  | some (j, b) => some ((ops[j]?).bind (·.dst), b), false⟩
def comp : Code → LC
  | .skip => .skip
  | .ret => .ret
  | .exit id => .exit id
  | .region _ ops false => .reg (ops.toList.map (q8i ops.toList))
  | .region _ ops true => bif q1i ops.toList (masks ops.toList []) then .draw (ops.toList.map (q8i ops.toList)) (unord ops.toList (masks ops.toList [])) else .bad
  | .seq a b => .seq (comp a) (comp b)
  | .cond c a b => .cond c (comp a) (comp b)
  | .block id c => .block id (comp c)
  | .loop c => .loop [] none (comp c)
  | .rangeFunc f ps a b => .rf f ps.toList none (comp a) (comp b)
  | _ => .bad
def qbw (s : Step) : Step := { s with own := false }
def strip : LC → LC
  | .reg ss => .reg (ss.map qbw)
  | .draw ss un => .draw (ss.map qbw) un
  | .seq a b => .seq (strip a) (strip b)
  | .cond c a b => .cond c (strip a) (strip b)
  | .block id c => .block id (strip c)
  | .loop _ _ c => .loop [] none (strip c)
  | .weak c => strip c
  | .rf f ps _ a b => .rf f ps none (strip a) (strip b)
  | c => c
abbrev Tab := FuncId → List PV → List Obj → KT → Prop
abbrev YT := List PV → List Obj → (Bool → List Obj → Prop) → Prop
structure Know where
  fn : Tab
  y : Nat
  Y : YT
  top : Bool
  gives : FuncId → List PV → List (List PV) → Prop
  nx : Nat
def callT (T : Know) (pt : Bool) (f : PV) (args : List PV) (objs : List Obj) (K : KT) : Prop :=
  match f with
  | .fn g first cap => T.fn g (first ++ args ++ cap) objs K
  | .yld l => l = T.y ∧ pt = true ∧ args.all PV.pure = true ∧ T.Y args objs fun b o => K (.bool b) o 2
  | _ => False
def Know.noY (T : Know) : Know := { T with Y := fun _ _ _ => False }
def Know.inner (T : Know) (n : Nat) : Know := { T with top := false, Y := fun _ _ _ => False, nx := n }
def opT (P : Program) (D : TypeId → TInfo) (T : Know) (own pt : Bool) (ev : Operand → PV) (objs : List Obj) (op : Op) (K : KT) : Prop :=
  match op with
  | .call { callee := .value f, args, .. } => callT T pt (ev f) (args.toList.map ev) objs K
  | op => opR P D own ev objs op K
def q8j (g : Option (Option Nat × Bool)) (S : St) (X Y : St → Prop) : Prop :=
  match g with
  | none => X S
  | some (none, _) => False
  | some (some d, want) =>
    match S.tmps.getD d .dead with
    | .bool b => (b = want → X { S with tmps := S.tmps.set d (.bool want) }) ∧ (b = !want → Y { S with tmps := S.tmps.set d (.bool !want) })
    | .tup [] => Y S
    | _ => False
def LR (P : Program) (D : TypeId → TInfo) (T : Know) : List Step → St → List Nat → (St → List Nat → Prop) → Prop
  | [], S, ts, K => K S ts
  | s :: rest, S, ts, K =>
    q8j s.g S
      (fun S => opT P D T s.own (S.tmps.all PV.pure) S.ev S.objs s.op fun r objs' t => LR P D T rest (St.put ⟨S.tmps, objs'⟩ s.dst r) (ts ++ [t]) K)
      (fun S => LR P D T rest (S.put s.dst (.tup [])) (ts ++ [0]) K)
def qlg (fz : Option (Nat × Nat)) (I : List Obj → Prop) : Exit → St → Prop
  | .normal, S => I (S.norm [] fz).objs
  | _, _ => False
def setL : List Nat → List PV → List PV → List PV
  | p :: ps, y :: ys, tm => setL ps ys (tm.set p y)
  | _, _, tm => tm
def ghA : Obj := ⟨0, 0, [], true, 0⟩
def flipG (k : Nat) (O : List Obj) : List Obj := (O.set k hole).set (k + 1) ghA
def Gh (k : Nat) (O : List Obj) : Prop := k + 2 ≤ O.length ∧ q2s O ∧ O[k]? = some ghA ∧ O[k + 1]? = some hole
def qeh : Exit → Option Code
  | .ret => some .ret
  | .exit id => some (.exit id)
  | _ => none
def qg4 (fz : Option (Nat × Nat)) (I : List Obj → Prop) (lv : Exit) (J : List Obj → Prop) : Exit → St → Prop
  | .normal, S => I (S.norm [] fz).objs
  | e, S => e = lv ∧ J (S.norm [] fz).objs
def wpc (P : Program) (D : TypeId → TInfo) : Know → LC → (Exit → St → Prop) → St → Prop
  | _, .skip, Q, S => Q .normal S
  | _, .ret, Q, S => Q .ret S
  | _, .bad, _, _ => False
  | T, .reg ss, Q, S => LR P D T ss S [] fun S' _ => Q .normal S'
  | T, .draw ss un, Q, S => LR P D T.noY ss S [] fun S' ts => q3c un ts = true ∧ Q .normal S'
  | T, .seq a b, Q, S => wpc P D T a (thenS (fun S' => wpc P D T b Q S') Q) S
  | T, .cond c a b, Q, S => condR (S.ev c) (wpc P D T a Q S) (wpc P D T b Q S)
  | T, .block id c, Q, S => wpc P D T c (q6a id Q) S
  | T, .loop ks fz c, Q, S => fzOk T.nx fz ∧ ∃ I : Nat → St → Prop, (∃ S0 m, Weak T.nx S S0 ∧ I m S0) ∧
      ∀ m S, I m S → wpc P D T c (thenS (fun S' => ∃ m', m' < m ∧ I m' (S'.norm ks fz)) Q) S
  | _, .exit id, Q, S => Q (.exit id) S
  | T, .weak c, Q, S => ∃ S', Weak T.nx S S' ∧ wpc P D T c Q S'
  | T, .rf f ps fz x y, Q, S => T.top = true ∧ ∃ (g : FuncId) (cap : List PV) (ys : List (List PV)),
      S.ev f = .fn g [] cap ∧ cap.all PV.pure = true ∧ T.gives g cap ys ∧ (∀ y ∈ ys, y.length = ps.length) ∧
      ((∃ I : Nat → List Obj → Prop, fzOk S.objs.length fz ∧ I 0 S.objs ∧ (∀ i objs, I i objs → S.objs.length ≤ objs.length ∧ q2s objs) ∧
        (∀ i args objs, I i objs → ys[i]? = some args → wpc P D (T.inner S.objs.length) x (thenS (fun S1 => wpc P D (T.inner S.objs.length) y (qlg fz (I (i + 1))) S1) (fun _ _ => False)) ⟨setL ps args S.tmps, objs⟩) ∧
        ∀ objs, I ys.length objs → Q .normal ⟨S.tmps, objs⟩) ∨
      (∃ (I J : Nat → List Obj → Prop) (lv : Exit) (lc : Code), qeh lv = some lc ∧ fzOk (S.objs.length + 2) fz ∧ I 0 (S.objs ++ [ghA, hole]) ∧ (∀ i objs, I i objs → Gh S.objs.length objs) ∧ (∀ i objs, J i objs → Gh S.objs.length objs ∧ NoRefs objs) ∧
        (∀ i args objs, I i objs → ys[i]? = some args → wpc P D (T.inner (S.objs.length + 2)) x (thenS (fun S1 => wpc P D (T.inner (S.objs.length + 2)) y (qg4 fz (I (i + 1)) lv (J i)) S1) (fun _ _ => False)) ⟨setL ps args S.tmps, objs⟩) ∧
        (∀ objs, I ys.length objs → Q .normal ⟨S.tmps, objs⟩) ∧ ∀ i objs, i < ys.length → J i objs → Q lv ⟨S.tmps, flipG S.objs.length objs⟩))
def TabOk (P : Program) (T : Tab) : Prop := ∀ f args objs K, T f args objs K → ∃ r objs' t, CallR P f args objs r objs' t ∧ K r objs' t
def YOk (P : Program) (l : Option Nat) (base prot : Nat → Prop) (V : Wz → Prop) (T : Know) : Prop :=
  ∀ (S : St) (blk : Nat → Option Nat) (a : Act) (w : World) (args : List PV) (vs : List Value) (K : Bool → List Obj → Prop), RelV base prot V S blk a w → S.tmps.all PV.pure = true →
    RepL (Rep w (okL base S.objs blk)) args vs → T.Y args S.objs K →
    ∃ r : Loop, w.heap[T.y]? = some (.loop r) ∧ vs.length = r.params.size ∧
      RoundIn (fen l) 0 P T.y r.fn ((r.params.zip (⟨vs⟩ : Array Value)).foldl (fun t (p, v) => t.setIfInBounds p v) r.tmps) r.assign r.body w
        (fun e w' => ∃ b objs' blk', e = .returned (.bool b) ∧ K b objs' ∧ RelV base prot V ⟨S.tmps, objs'⟩ blk' a w')
variable {P : Program} {D : TypeId → TInfo} {T : Know} {l : Option Nat}
theorem qlh (hT : TabOk P T.fn) {own pt : Bool} {ev : Operand → PV} {objs : List Obj} {op : Op} {K : KT} (h : opT P D T.noY own pt ev objs op K) : opR P D own ev objs op K := by
  unfold opT at h
  split at h
  · unfold callT at h
    split at h
    · rename_i e
      simp only [opR, callR, e]
      exact hT _ _ _ _ h
    · exact h.2.2.2.elim
    · exact h.elim
  · exact h
theorem qp1 {base prot : Nat → Prop} {V : Wz → Prop} {S : St} {blk : Nat → Option Nat} {a : Act} {w : World} {own : Bool} {o : Oper} {K : KT} {next : Act → World → Prop} {Q : Exit → Act → World → Prop}
    (hD : ∀ t, TOk P t (D t)) (hT : TabOk P T.fn) (hY : YOk P l base prot V T) (R : RelV base prot V S blk a w) (h : opT P D T own (S.tmps.all PV.pure) S.ev S.objs o.op K)
    (hn : ∀ r objs' t v w' blk', K r objs' t → RelV base prot V ⟨S.tmps, objs'⟩ blk' a w' → RepT w' (okL base objs' blk') objs' blk' r v → next (a.put o.dst v) w') :
    o.wpIn (fen l) 0 P a w next Q := by
  obtain ⟨w0, hV, R0⟩ := R
  have base_case : opR P D own S.ev S.objs o.op K → o.wpIn (fen l) 0 P a w next Q := fun h =>
    q96 l hD R0 h fun r objs' t v w' blk' h1 h2 h3 => hn r objs' t v w' blk' h1 ⟨w0, hV, h2⟩ h3
  unfold opT at h
  split at h
  · rename_i f args argTypes ho
    unfold callT at h
    split at h
    · rename_i e
      refine base_case ?_
      simp only [ho, opR, callR, e]
      exact hT _ _ _ _ h
    · rename_i y e
      obtain ⟨rfl, hpt, hpure, hy⟩ := h
      have hf := R0.ev f
      rw [e] at hf
      have hf' : Rep w (okL base S.objs blk) (.yld T.y) (a.eval f) := hf
      have hv : a.eval f = .func (.yield T.y) #[] #[] := by
        generalize a.eval f = v at hf'
        cases hf'
        rfl
      have hargs : RepL (Rep w (okL base S.objs blk)) (args.toList.map S.ev) (args.toList.map a.eval) := by
        have h0 : RepL (RepT w (okL base S.objs blk) S.objs blk) (args.toList.map S.ev) (args.toList.map a.eval) := q95 _ fun x _ => R0.ev x
        exact ⟨h0.1, fun i p v hp hv => (h0.2 i p v hp hv).rep (List.all_eq_true.1 hpure p (List.mem_of_getElem? hp))⟩
      obtain ⟨r, hr, hsz, hround⟩ := hY S blk a w _ _ _ ⟨w0, hV, R0⟩ hpt hargs hy
      refine ⟨fun _ _ => trivial, ?_⟩
      rw [Oper.semAt_eq _ _ _ (by rw [ho]; simp)]
      have e1 : args.map a.eval = Array.mk (args.toList.map a.eval) := by apply Array.ext'; simp
      have hrun : (execOp a.eval o).run P w = .ok (.round T.y r.fn ((r.params.zip (⟨args.toList.map a.eval⟩ : Array Value)).foldl (fun t (p, v) => t.setIfInBounds p v) r.tmps) r.assign r.body) w := by
        simp only [execOp, ho, resolve, hv, Deferred.ofValue, Sem.run_bind, Sem.run_pure, Result.andThen_ok, invoke]
        rw [e1]
        rw [Array.empty_append]
        exact run_yield (args := Array.mk (args.toList.map a.eval)) hr (by simpa using hsz)
      rw [hrun]
      refine ⟨(fun h => by cases h), ?_⟩
      refine RoundIn.mono hround fun e w' ⟨b, objs', blk', h1, h2, h3⟩ => ?_
      subst h1
      exact hn _ _ _ _ _ _ h2 h3 (.of_rep (.bool b))
    · exact h.elim
  · exact base_case h
theorem qhp {own : Bool} {ev : Operand → PV} {objs : List Obj} {op : Op} {K K' : KT} (h : opR P D own ev objs op K) (hk : ∀ r o t, K r o t → K' r o t) : opR P D own ev objs op K' := by
  obtain ⟨r, o, t, h1, _, h2, _, _⟩ := ql5 h
  exact h2 _ (hk _ _ _ h1)
theorem qbx {ops : List Oper} {g : Option (Nat × Bool)} {S : St} {X Y : St → Prop}
    (h : q8j (match g with | none => none | some (j, b) => some ((ops[j]?).bind (·.dst), b)) S X Y) : q51 ops g S X Y := by
  unfold q8j at h
  unfold q51
  cases g with
  | none => exact h
  | some g =>
    obtain ⟨j, want⟩ := g
    simp only [] at h ⊢
    cases hd : (ops[j]?).bind (·.dst) with
    | none => rw [hd] at h; exact h
    | some d => rw [hd] at h; exact h
theorem qa7 {ops : List Oper} {g : Option (Nat × Bool)} {S : St} {X X' Y Y' : St → Prop} (h : q51 ops g S X Y) (hx : ∀ S', S'.tmps.length = S.tmps.length → X S' → X' S')
    (hy : ∀ S', S'.tmps.length = S.tmps.length → Y S' → Y' S') : q51 ops g S X' Y' := by
  cases g with
  | none => exact hx _ rfl h
  | some g =>
    obtain ⟨j, want⟩ := g
    simp only [q51] at h ⊢
    cases hd : (ops[j]?).bind (·.dst) with
    | none => rw [hd] at h; exact h
    | some d =>
      rw [hd] at h
      simp only [] at h ⊢
      generalize hv : S.tmps.getD d .dead = v at h ⊢
      cases v
      case bool b => exact ⟨fun hb => hx _ (by simp) (h.1 hb), fun hb => hy _ (by simp) (h.2 hb)⟩
      case tup cs =>
        cases cs with
        | nil => exact hy _ rfl h
        | cons c cs => exact h
      all_goals exact h
theorem q6o (hT : TabOk P T.fn) {ops : List Oper} {own : Nat → Bool} : ∀ (lst : List Oper) (ss : List Step) (i : Nat) (S : St) (ts : List Nat) (K : St → List Nat → Prop),
    ss.map qbw = lst.map (q8i ops) → (∀ j s, ss[j]? = some s → own (i + j) = s.own) → LR P D T.noY ss S ts K → listR P D own ops lst i S ts K
  | [], ss, i, S, ts, K, he, ho, h => by
    have : ss = [] := by simpa using he
    subst this
    exact h
  | o :: lst, ss, i, S, ts, K, he, ho, h => by
    cases ss with
    | nil => simp at he
    | cons s ss =>
      simp only [List.map_cons, List.cons.injEq] at he
      obtain ⟨he1, he2⟩ := he
      have hd : s.dst = o.dst := congrArg (fun x : Step => x.dst) he1
      have hop : s.op = o.op := congrArg (fun x : Step => x.op) he1
      have hg : s.g = (q8i ops o).g := (congrArg (fun x : Step => x.g) he1 : (qbw s).g = (q8i ops o).g)
      have hown : own i = s.own := ho 0 s rfl
      unfold LR at h
      unfold listR
      rw [hg] at h
      refine qa7 (qbx h) ?_ ?_
      · intro S' hS' hx
        rw [hown, ← hop]
        refine qhp (qlh hT hx) ?_
        intro r objs' t hk
        rw [← hd]
        exact q6o hT lst ss (i + 1) _ _ K he2 (fun j s' hs' => by rw [show i + 1 + j = i + (j + 1) by omega]; exact ho (j + 1) s' hs') hk
      · intro S' hS' hy
        rw [← hd]
        exact q6o hT lst ss (i + 1) _ _ K he2 (fun j s' hs' => by rw [show i + 1 + j = i + (j + 1) by omega]; exact ho (j + 1) s' hs') hy
theorem q7z {ops : List Oper} {own : Nat → Bool} {K K' : St → List Nat → Prop} (hk : ∀ S ts, K S ts → K' S ts) : ∀ (lst : List Oper) (i : Nat) (S : St) (ts : List Nat), listR P D own ops lst i S ts K → listR P D own ops lst i S ts K'
  | [], _, _, _, h => hk _ _ h
  | o :: lst, i, S, ts, h => by
    unfold listR at h ⊢
    exact qa7 h (fun S' _ hx => qhp hx fun r o' t hh => q7z hk lst _ _ _ hh) (fun S' _ hy => q7z hk lst _ _ _ hy)
theorem PW.loopI {E : Env} {c : Code} {Q : Exit → St → Prop} {S : St} {m nx : Nat} (hE : ∀ base prot V, E base prot V → ∀ w0, V w0 → w0.nx ≤ nx) (I : Nat → St → Prop) (h0 : I m S)
    (round : ∀ m S, I m S → PW P l E c (thenS (fun S' => ∃ S'' m', Weak nx S' S'' ∧ I m' S'' ∧ m' < m) Q) S) : PW P l E (.loop c) Q S := by
  intro base prot V hEE blk a w R b k cs hro hb hroom
  have hE' := hE base prot V hEE
  have key : ∀ n S blk a w, I n S → RelV base prot V S blk a w →
      ∃ e a' w', (∃ S' blk', Q e S' ∧ RelV base prot V S' blk' a' w') ∧ ArrivesIn (Machine.fenced P (fen l)) P (lone (b.atR a (.code c :: .inLoop c :: k)) cs w) b k cs e a' w' := by
    intro n
    induction n using Nat.strongRecOn with
    | _ n ih =>
      intro S blk a w hI R
      obtain ⟨e, a₁, w₁, ⟨S₁, blk₁, h1, R₁⟩, harr⟩ := round n S hI base prot V hEE blk a w R b (.inLoop c :: k) cs hro hb hroom
      cases e with
      | normal =>
        obtain ⟨S₂, m', hw, hI₂, hlt⟩ := h1
        obtain ⟨w0, hV, R₁⟩ := R₁
        obtain ⟨blk₂, R₂⟩ := hw base prot w0 blk₁ a₁ w₁ (hE' w0 hV) R₁
        obtain ⟨e₂, a₂, w₂, hq₂, harr₂⟩ := ih m' hlt S₂ blk₂ a₁ w₁ hI₂ ⟨w0, hV, R₂⟩
        exact ⟨e₂, a₂, w₂, hq₂, .of_steps (StepsIn.trans harr (.one (fenced_calm hb hroom rfl) stepR_inLoop)) harr₂⟩
      | exit id => exact ⟨_, a₁, w₁, ⟨S₁, blk₁, h1, R₁⟩, .pass (x := .inLoop c) rfl (fun _ _ => .inl (by simp)) harr⟩
      | goto t => exact ⟨_, a₁, w₁, ⟨S₁, blk₁, h1, R₁⟩, .pass (x := .inLoop c) rfl (fun _ _ => .inl (by simp)) harr⟩
      | ret => exact ⟨_, a₁, w₁, ⟨S₁, blk₁, h1, R₁⟩, .pass (x := .inLoop c) rfl (fun _ _ => .inl (by simp)) harr⟩
      | panic ch => exact ⟨_, a₁, w₁, ⟨S₁, blk₁, h1, R₁⟩, .pass (x := .inLoop c) rfl (fun _ _ => .inl (by simp)) harr⟩
      | outgrown => exact ⟨_, a₁, w₁, ⟨S₁, blk₁, h1, R₁⟩, .pass (x := .inLoop c) rfl (fun _ _ => .inl (by simp)) harr⟩
  obtain ⟨e, a', w', hq, harr⟩ := key m S blk a w h0 R
  exact ⟨e, a', w', hq, .of_steps (.one (fenced_calm hb hroom rfl) stepR_loop) harr⟩
theorem q5v {next next' : St → Prop} {Q : Exit → St → Prop} (h : ∀ S, next S → next' S) : ∀ e S, thenS next Q e S → thenS next' Q e S := by
  intro e S hh
  cases e <;> first | exact h _ hh | exact hh
theorem q6c {n : Nat} {f : Nat → Bool} (h : (List.range n).all f = true) {i : Nat} (hi : i < n) : f i = true := by
  rw [List.all_eq_true] at h
  exact h i (List.mem_range.2 hi)
theorem qei {m : Nat} {i : Nat} : ∀ (n : Nat), i < n → ((List.range n).foldl (fun u j => if m.testBit j then u else u ||| (1 <<< j)) 0).testBit i = !m.testBit i := by
  have key : ∀ (n : Nat) (j : Nat), ((List.range n).foldl (fun u j => if m.testBit j then u else u ||| (1 <<< j)) 0).testBit j = (decide (j < n) && !m.testBit j) := by
    intro n
    induction n with
    | zero => intro j; simp
    | succ n ih =>
      intro j
      rw [List.range_succ, List.foldl_append, List.foldl_cons, List.foldl_nil]
      split
      · rename_i hm
        rw [ih j]
        by_cases hj : j = n
        · subst hj; simp [hm]
        · have : decide (j < n + 1) = decide (j < n) := by congr 1; apply propext; omega
          rw [this]
      · rename_i hm
        rw [Nat.testBit_or, ih j, Nat.one_shiftLeft, Nat.testBit_two_pow]
        by_cases hj : n = j
        · subst hj; simp [hm]
        · have : decide (j < n + 1) = decide (j < n) := by congr 1; apply propext; omega
          rw [this]; simp [hj]
  intro n hi
  rw [key n i]; simp [hi]
theorem qii {ops : List Oper} {ts : List Nat} (h1 : q1i ops (masks ops []) = true) (h2 : q4d (unord ops (masks ops [])) ts = true) : q74 ops ts = true := by
  unfold q74
  unfold q1i at h1
  unfold q4d at h2
  generalize masks ops [] = ms at *
  simp only [List.all_eq_true, List.mem_range] at h1 ⊢
  intro i hi
  have h1 := h1 i hi
  rw [List.getElem?_eq_getElem hi] at h1 ⊢
  simp only [Bool.and_eq_true, List.all_eq_true, List.mem_range] at h1 ⊢
  refine ⟨⟨h1.1.1, h1.1.2⟩, fun j hj => ?_⟩
  have hz := h1.2 j hj
  cases hb : (ms.getD i 0).testBit j with
  | true => simp
  | false =>
    rw [hb] at hz
    have hzz : ∀ k, (ops.map fun _ => 0).getD k 0 = 0 := by
      intro k
      rw [List.getD_eq_getElem?_getD, List.getElem?_map]
      cases ops[k]? <;> rfl
    rw [hzz, hzz] at hz
    simp only [Bool.false_or, Bool.not_eq_true', Bool.or_false] at hz ⊢
    have hlen : (unord ops ms).length = ops.length := by simp [unord]
    have h2 := q6c h2 (i := i) (by omega)
    have hun : (unord ops ms).getD i 0 = (List.range i).foldl (fun u j => if (ms.getD i 0).testBit j then u else u ||| (1 <<< j)) 0 := by
      rw [List.getD_eq_getElem?_getD, unord, List.getElem?_map, List.getElem?_range hi]
      rfl
    have ht : ((co (ts.getD j 0) == 2 && co (ts.getD i 0) != 0) || (co (ts.getD i 0) == 2 && co (ts.getD j 0) != 0)) = false := by
      simp only [Bool.or_eq_true] at h2
      rcases h2 with h2 | h2
      · have : co (ts.getD i 0) = 0 := by simpa using h2
        rw [this]; simp
      · have := q6c h2 hj
        rw [hun, qei i hj, hb] at this
        simp only [Bool.not_false, Bool.not_true, Bool.false_or, Bool.not_eq_true'] at this
        exact this
    unfold clash at hz ⊢
    simp only [Bool.or_eq_false_iff] at hz ht ⊢
    exact ⟨⟨⟨hz.1.1.1, hz.1.1.2⟩, ht.1⟩, ht.2⟩
theorem qij {ops : List Oper} {ts : List Nat} (h1 : q1i ops (masks ops []) = true) (h2 : q7y (unord ops (masks ops [])) ts = true) : q7x ops ts = true := by
  unfold q7x
  unfold q1i at h1
  unfold q7y at h2
  generalize masks ops [] = ms at *
  have hlen : (unord ops ms).length = ops.length := by simp [unord]
  simp only [Bool.and_eq_true, List.all_eq_true, List.mem_range, hlen] at h1 h2 ⊢
  refine ⟨h2.1, fun i hi => ?_⟩
  have h1 := h1 i hi
  rw [List.getElem?_eq_getElem hi] at h1 ⊢
  simp only [Bool.and_eq_true, List.all_eq_true, List.mem_range] at h1 ⊢
  refine ⟨⟨h1.1.1, h1.1.2⟩, fun j hj => ?_⟩
  have hz := h1.2 j hj
  cases hb : (ms.getD i 0).testBit j with
  | true => simp
  | false =>
    rw [hb] at hz
    have hzz : ∀ k, (ops.map fun _ => 0).getD k 0 = 0 := by
      intro k
      rw [List.getD_eq_getElem?_getD, List.getElem?_map]
      cases ops[k]? <;> rfl
    rw [hzz, hzz] at hz
    simp only [Bool.false_or, Bool.not_eq_true', Bool.or_false] at hz ⊢
    have hun : (unord ops ms).getD i 0 = (List.range i).foldl (fun u j => if (ms.getD i 0).testBit j then u else u ||| (1 <<< j)) 0 := by
      rw [List.getD_eq_getElem?_getD, unord, List.getElem?_map, List.getElem?_range hi]
      rfl
    have := h2.2 i hi j hj
    rw [hun, qei i hj, hb] at this
    simp only [Bool.not_false, Bool.not_true, Bool.false_or, Bool.not_eq_true'] at this
    rw [this, Bool.or_false]
    exact hz
theorem qli {ops : List Oper} {ts : List Nat} (h1 : q1i ops (masks ops []) = true) (h2 : q3c (unord ops (masks ops [])) ts = true) : (q74 ops ts || q7x ops ts) = true := by
  unfold q3c at h2
  rcases Bool.or_eq_true _ _ ▸ h2 with h2 | h2
  · rw [qii h1 h2]; rfl
  · rw [qij h1 h2, Bool.or_true]
theorem qcs {base prot : Nat → Prop} {V : Wz → Prop} {ops : List Oper} {Qm : Exit → Act → World → Prop} (hD : ∀ t, TOk P t (D t)) (hT : TabOk P T.fn) (hY : YOk P l base prot V T) :
    ∀ (lst : List Oper) (ss : List Step) (k : Nat) (S : St) (ts : List Nat) (K : St → List Nat → Prop) (blk : Nat → Option Nat) (a : Act) (w : World), ss.map qbw = lst.map (q8i ops) → (∀ j, lst[j]? = ops[k + j]?) →
      LR P D T ss S ts K → RelV base prot V S blk a w → (∀ S' ts' blk' a' w', K S' ts' → RelV base prot V S' blk' a' w' → Qm .normal a' w') → wpOpsIn (fen l) 0 P ops.toArray Qm (List.range' k lst.length) a w
  | [], ss, k, S, ts, K, blk, a, w, he, _, h, R, hq => by
    have : ss = [] := by simpa using he
    subst this
    exact hq S ts blk a w h R
  | o :: lst, ss, k, S, ts, K, blk, a, w, he, hl, h, R, hq => by
    cases ss with
    | nil => simp at he
    | cons s ss =>
      simp only [List.map_cons, List.cons.injEq] at he
      obtain ⟨he1, he2⟩ := he
      have hd : s.dst = o.dst := congrArg (fun x : Step => x.dst) he1
      have hop : s.op = o.op := congrArg (fun x : Step => x.op) he1
      have hg : s.g = (q8i ops o).g := (congrArg (fun x : Step => x.g) he1 : (qbw s).g = (q8i ops o).g)
      have h0 : ops.toArray[k]? = some o := by simpa using (hl 0).symm
      have hl' : ∀ j, lst[j]? = ops[k + 1 + j]? := fun j => by have := hl (j + 1); simpa [Nat.add_assoc, Nat.add_comm 1 j] using this
      simp only [List.length_cons, List.range'_succ, wpOpsIn, h0]
      unfold LR at h
      rw [hg] at h
      rcases q6l R.choose_spec.2 (qbx h) o rfl with ⟨hw, hx⟩ | ⟨hw, hy⟩
      · rw [if_pos hw]
        rw [hop] at hx
        refine qp1 hD hT hY R hx fun r objs' t v w' blk' hK R' hr => ?_
        rw [hd] at hK
        obtain ⟨w0, hV, R0⟩ := R'
        exact qcs hD hT hY lst ss (k + 1) _ _ K blk' _ w' he2 hl' hK ⟨w0, hV, R0.put hr o.dst⟩ hq
      · rw [if_neg (by rw [hw]; simp)]
        rw [hd] at hy
        obtain ⟨w0, hV, R0⟩ := R
        exact ⟨fun _ _ => trivial, qcs hD hT hY lst ss (k + 1) _ _ K blk _ w he2 hl' hy ⟨w0, hV, R0.put (q73 _ _ _ _) o.dst⟩ hq⟩
theorem YOk.noY {base prot : Nat → Prop} {V : Wz → Prop} : YOk P l base prot V T.noY := fun _ _ _ _ _ _ _ _ _ _ h => h.elim
theorem YOk.inner {base prot : Nat → Prop} {V : Wz → Prop} {n : Nat} : YOk P l base prot V (T.inner n) := fun _ _ _ _ _ _ _ _ _ _ h => h.elim
end Lp

/-! LpT -/

namespace Lp
open Go
variable {P : Program} {D : TypeId → TInfo} {T : Know} {l : Option Nat}
def Yof (ys : List (List PV)) (I J : Nat → List Obj → Prop) : YT := fun args objs K => ∃ i, I i objs ∧ ys[i]? = some args ∧ (∀ objs', I (i + 1) objs' → K true objs') ∧ ∀ objs', J i objs' → K false objs'
def act0 : Act := { tmps := #[], defers := [] }
def know0 (y : Nat) (Y : YT) : Know := ⟨fun _ _ _ _ => False, y, Y, false, fun _ _ _ => False, 0⟩
def Gives (P : Program) (g : FuncId) (cap : List PV) (ys : List (List PV)) : Prop :=
  qe5 P g ∧
  ∀ (I J : Nat → List Obj → Prop) (base prot : Nat → Prop) (V : Wz → Prop) (y : Nat) (objs : List Obj) (blk : Nat → Option Nat) (w : World) (vcap : List Value),
    YOk P none base prot V (know0 y (Yof ys I J)) → (∀ w0, V w0 → w0.nx ≤ objs.length) → RelV base prot V ⟨[], objs⟩ blk act0 w → I 0 objs → (∀ i O, I i O → objs.length ≤ O.length ∧ q2s O) → (∀ i O, J i O → objs.length ≤ O.length ∧ q2s O) → RepL (Rep w (okL base objs blk)) cap vcap →
    Calls P g ⟨.func (.yield y) #[] #[] :: vcap⟩ w fun e w' => ∃ objs' blk', e = .returned (.tuple #[]) ∧ (I ys.length objs' ∨ ∃ i, i < ys.length ∧ J i objs') ∧ RelV base prot V ⟨[], objs'⟩ blk' act0 w'
def q1y (x : Go.Obj) : Prop := (∃ c t y, x = .cells c t y) ∨ ∃ es n, x = .map es n
theorem q8k (ty : TypeId) (c : Array Value) : q1y (hobj ty c) := by
  unfold hobj
  split
  · exact .inr ⟨_, _, rfl⟩
  · exact .inl ⟨_, _, _, rfl⟩
section
variable {base prot : Nat → Prop} {w0 : Wz} {S : St} {blk : Nat → Option Nat} {a : Act} {w : World}
theorem ObjsTo.cells {w w' : World} (h : ∀ (k : Nat) x, w.heap[k]? = some x → q1y x → w'.heap[k]? = some x) (objs : List Obj) (blk : Nat → Option Nat) : ObjsTo w w' objs objs blk blk :=
  fun _ o ho => ⟨o, ho, Nat.le_refl _, fun hl _ => ⟨hl, rfl, rfl, rfl, fun _ => rfl, fun g c _ hc => ⟨c, h g _ hc (.inl ⟨c, _, _, rfl⟩), rfl⟩⟩⟩
theorem ObjsRel.cells {objs : List Obj} {w w' : World} {prot' : Nat → Prop} (R : ObjsRel base prot objs blk w) (hs : w.heap.size ≤ w'.heap.size) (h : ∀ (k : Nat) x, w.heap[k]? = some x → q1y x → w'.heap[k]? = some x)
    (hnp : ∀ k o g, objs[k]? = some o → o.live = true → blk k = some g → ¬ prot' g) : ObjsRel base prot' objs blk w' := by
  refine ⟨fun k o h1 h4 => ?_, R.dis, hnp⟩
  have hh := R.ob k o h1 h4
  unfold ObjRep at hh ⊢
  cases hg : blk k with
  | none => rw [hg] at hh; exact hh
  | some g =>
    rw [hg] at hh
    obtain ⟨c, x1, x2, x3⟩ := hh
    refine ⟨c, h g _ x1 (q8k _ _), x2, fun i x hx => ⟨(x3 i x hx).1, fun j p hp => ?_⟩⟩
    obtain ⟨v, y1, y2⟩ := (x3 i x hx).2 j p hp
    exact ⟨v, y1, y2.monoC hs (fun _ _ h => h) (fun k x _ hx hcx => h k x hx (.inl hcx)) (.cells h _ _)⟩
theorem q1a {ok : Nat → Prop} {objs : List Obj} {w w' : World} {p : PV} {v : Value} (R : RepT w ok objs blk p v) (hs : w.heap.size ≤ w'.heap.size) (h : ∀ (k : Nat) x, w.heap[k]? = some x → q1y x → w'.heap[k]? = some x) :
    RepT w' ok objs blk p v := R.monoC hs (fun _ _ h => h) (fun k x _ hx hcx => h k x hx (.inl hcx)) (.cells h _ _)
theorem qlj {ok : Nat → Prop} {objs : List Obj} {p : PV} {v : Value} (h : RepS w ok objs blk p v) : p.ltS objs.length = true := by
  cases p <;> simp only [PV.ltS, decide_eq_true_eq] <;> (obtain ⟨_, o, ho, _⟩ := h; exact (List.getElem?_eq_some_iff.1 ho).1)
theorem qct {ok : Nat → Prop} {objs : List Obj} {cs : List PV} {vs : List Value} (h : RepL (RepS w ok objs blk) cs vs) : cs.all (PV.ltS objs.length) = true := by
  rw [List.all_eq_true]
  intro p hp
  obtain ⟨i, hi, rfl⟩ := List.mem_iff_getElem.1 hp
  exact qlj (h.2 i cs[i] (vs[i]'(by rw [← h.1]; exact hi)) (List.getElem?_eq_getElem hi) (List.getElem?_eq_getElem _))
theorem qcu {ok : Nat → Prop} {objs : List Obj} {p : PV} {v : Value} (h : RepT w ok objs blk p v) : p.lt objs.length = true := by
  have hS : RepS w ok objs blk p v → p.ltS objs.length = true := qlj
  cases p
  case fn f a c => obtain ⟨va, vc, rfl, h1, h2⟩ := h; simp only [PV.lt, qct h1, qct h2, Bool.and_self]
  case tup cs => obtain ⟨vs, rfl, h1⟩ := h; exact qct h1
  case agg cs => obtain ⟨vs, rfl, h1⟩ := h; exact qct h1
  all_goals exact hS h
theorem qlk {p : PV} {n : Nat} (h : p.pure = true) : p.lt n = true := by
  have hS : ∀ p : PV, (!p.ref) = true → p.ltS n = true := fun p h => by cases p <;> first | rfl | (simp [PV.ref] at h)
  cases p <;> simp only [PV.pure, Bool.and_eq_true, List.all_eq_true] at h <;> simp only [PV.lt, Bool.and_eq_true, List.all_eq_true] <;> first
    | rfl
    | exact ⟨fun q hq => hS q (h.1 q hq), fun q hq => hS q (h.2 q hq)⟩
    | exact fun q hq => hS q (h q hq)
    | cases h
def pairs (tm : List PV) (vs : Array Value) : List (PV × Value) := tm.zip vs.toList
theorem q2t {tm : List PV} {vs : Array Value} {x : PV × Value} (h : x ∈ pairs tm vs) : ∃ t : Nat, tm[t]? = some x.1 ∧ vs.getD t undef = x.2 := by
  obtain ⟨i, hi⟩ := List.mem_iff_getElem?.1 h
  rw [pairs, List.getElem?_zip_eq_some] at hi
  refine ⟨i, hi.1, ?_⟩
  rw [Array.getD_eq_getD_getElem?, ← Array.getElem?_toList, hi.2]
  rfl
theorem q3d {tm : List PV} {vs : Array Value} (hl : vs.size = tm.length) {t : Nat} {p : PV} (h : tm[t]? = some p) : (p, vs.getD t undef) ∈ pairs tm vs := by
  refine List.mem_iff_getElem?.2 ⟨t, ?_⟩
  rw [pairs, List.getElem?_zip_eq_some]
  have hlt : t < vs.size := by rw [hl]; exact (List.getElem?_eq_some_iff.1 h).1
  refine ⟨h, ?_⟩
  rw [Array.getD_eq_getD_getElem?, Array.getElem?_toList, Array.getElem?_eq_getElem hlt]
  rfl
theorem qcv {R : PV → Value → Prop} (hdead : ∀ v, R .dead v) : ∀ (ps : List Nat) (args : List PV) (vs : List Value) (tm : List PV) (xs : Array Value), args.length = vs.length → xs.size = tm.length →
    (∀ (t : Nat) (p : PV), tm[t]? = some p → R p (xs.getD t undef)) → (∀ (i : Nat) (p : PV) (v : Value), args[i]? = some p → vs[i]? = some v → R p v) →
    ((ps.zip vs).foldl (fun t (p, v) => t.setIfInBounds p v) xs).size = (setL ps args tm).length ∧ ∀ (t : Nat) (p : PV), (setL ps args tm)[t]? = some p → R p (((ps.zip vs).foldl (fun t (p, v) => t.setIfInBounds p v) xs).getD t undef)
  | [], args, vs, tm, xs, _, hs, h, _ => by cases args <;> exact ⟨hs, h⟩
  | p :: ps, [], vs, tm, xs, hl, hs, h, _ => by
    have : vs = [] := by cases vs <;> simp_all
    subst this
    exact ⟨hs, h⟩
  | p :: ps, q :: args, [], tm, xs, hl, hs, h, _ => by simp at hl
  | p :: ps, q :: args, v :: vs, tm, xs, hl, hs, h, ha => by
    simp only [setL, List.zip_cons_cons, List.foldl_cons]
    refine qcv hdead ps args vs (tm.set p q) (xs.setIfInBounds p v) (by simpa using hl) (by simpa using hs) (fun t r hr => ?_) (fun i r u h1 h2 => ha (i + 1) r u (by simpa using h1) (by simpa using h2))
    rw [q3p]
    rw [List.getElem?_set] at hr
    by_cases hpt : p = t
    · subst hpt
      rw [if_pos rfl] at hr
      split at hr
      · cases hr
        rename_i hlt
        rw [if_pos ⟨rfl, by omega⟩]
        exact ha 0 q v rfl rfl
      · cases hr
    · rw [if_neg hpt] at hr
      rw [if_neg (fun e => hpt e.1)]
      exact h t r hr
theorem q1u {w : World} {k : Nat} {o o' : Go.Obj} (ho : w.heap[k]? = some o) (hn : ¬ q1y o) : ∀ (j : Nat) x, w.heap[j]? = some x → q1y x → (w.putObj k o').heap[j]? = some x := by
  intro j x hx hc
  rw [World.putObj_heap_other (fun e => hn (by subst e; rw [ho] at hx; cases hx; exact hc))]
  exact hx
def E0 (n : Nat) : Env := fun _ _ V => ∀ w0, V w0 → w0.nx ≤ n
theorem qnh {f : Operand} {ps : List Nat} {x y : Code} {fz : Option (Nat × Nat)} {g : FuncId} {cap : List PV} {ys : List (List PV)} {I : Nat → List Obj → Prop}
    (hg : Gives P g cap ys) (hys : ∀ y ∈ ys, y.length = ps.length) (hI0 : I 0 S.objs) (hIl : ∀ i objs, I i objs → S.objs.length ≤ objs.length ∧ q2s objs) (R : Rel base prot w0 S blk a w) (hx : w0.xs = []) (hf : S.ev f = .fn g [] cap) (hcap : cap.all PV.pure = true) (hfz : fzOk S.objs.length fz)
    (hround : ∀ i args objs, I i objs → ys[i]? = some args → ∀ l0, PW P (some l0) (E0 S.objs.length) x (thenS (fun S1 => PW P (some l0) (E0 S.objs.length) y (qlg fz (I (i + 1))) S1) (fun _ _ => False)) ⟨setL ps args S.tmps, objs⟩) :
    (Code.rangeFunc f ps.toArray x y).wpIn (fen none) 0 P (fun e a' w' => ∃ objs' blk', e = .normal ∧ I ys.length objs' ∧ Rel base prot w0 ⟨S.tmps, objs'⟩ blk' a' w') a w := by
  refine wpIn_rangeFunc fun fn _ => ?_
  have hff := R.ev f
  rw [hf] at hff
  obtain ⟨va, vc, hv, r1, r2⟩ := hff
  have hva : va = [] := List.eq_nil_of_length_eq_zero r1.1.symm
  subst hva
  obtain ⟨rec, hrec⟩ : ∃ rec : LoopState → Loop, rec = fun st => { state := st, pending := none, fn, tmps := a.tmps, params := ps.toArray, assign := x, body := y, defers := w.heap.size } := ⟨_, rfl⟩
  obtain ⟨W1, hW1⟩ : ∃ W1, (w.alloc (.deferred (some []))).alloc (.loop (rec .ready)) = W1 := ⟨_, rfl⟩
  have hL1 : W1.heap[w.heap.size + 1]? = some (.loop (rec .ready)) := by
    rw [← hW1]; have := World.alloc_heap_new (w.alloc (.deferred (some []))) (.loop (rec .ready)); rwa [World.size_alloc] at this
  have hK1 : W1.heap[w.heap.size]? = some (.deferred (some [])) := by
    rw [← hW1]; exact (Grew.push (w := w.alloc (.deferred (some []))) (w' := (w.alloc (.deferred (some []))).alloc (.loop (rec .ready))) rfl).2.1 _ _ (World.alloc_heap_new w _)
  have hs1 : W1.heap.size = w.heap.size + 2 := by rw [← hW1, World.size_alloc, World.size_alloc]
  have hgrew : Grew w W1 := by
    rw [← hW1]
    exact (Grew.push (w' := w.alloc (.deferred (some []))) rfl).trans (Grew.push rfl)
  have hnl : ∀ k, w.heap.size ≤ k → q0k S.objs blk k := fun k hk j o h1 h2 h3 => by
    have := qcg R.objs h1 h2 h3; omega
  obtain ⟨⟨fng, hfn, hname, hbody⟩, hgive⟩ := hg
  refine ⟨w.heap.size + 1, [{ target := .collected w.heap.size, args := #[] }], W1, { target := .fn (.func g) ⟨vc⟩, args := #[.func (.yield (w.heap.size + 1)) #[] #[]] }, W1, g,
    ⟨.func (.yield (w.heap.size + 1)) #[] #[] :: vc⟩, W1, ?_, ?_, fun _ _ => trivial, ?_, (fun h => by cases h), ?_⟩
  · rw [← hW1, hrec]; exact run_enterLoop_outer _ _ _ _ _
  · simp only [resolve, hv]
    simp [go_sem]
  · have e1 : (#[.func (.yield (w.heap.size + 1)) #[] #[]] : Array Value) ++ Array.mk vc = Array.mk (.func (.yield (w.heap.size + 1)) #[] #[] :: vc) := by apply Array.ext'; simp
    simp only [invoke, callFunc, run_program, Sem.run_bind, Result.andThen_ok, hfn, hname, hbody, Bool.false_eq_true, if_false, Sem.run_pure]
    rw [e1]
  · rw [show (0 - 1 : Nat) = 0 from rfl]
    refine callsIn_wide.2 ?_
    -- the iterator's surroundings
    obtain ⟨l0, hl0⟩ : ∃ l0, l0 = w.heap.size + 1 := ⟨_, rfl⟩
    rw [← hl0] at hL1 ⊢
    obtain ⟨prot2, hprot2⟩ : ∃ prot2 : Nat → Prop, prot2 = fun b => b < W1.heap.size ∧ q0k S.objs blk b := ⟨_, rfl⟩
    obtain ⟨V2, hV2⟩ : ∃ V2 : Wz → Prop, V2 = fun z => z = ⟨W1.heap, pairs S.tmps a.tmps, S.objs.length, w⟩ := ⟨_, rfl⟩
    have hpl0 : prot2 l0 := by rw [hprot2]; exact ⟨by omega, hnl _ (by omega)⟩
    have hpD : prot2 w.heap.size := by rw [hprot2]; exact ⟨by omega, hnl _ (Nat.le_refl _)⟩
    have hR1 := R.grew hgrew
    have hpb2 : ∀ b, ¬ prot2 b → base b := by
      intro b hb
      rw [hprot2] at hb
      by_cases h : prot b
      · exact absurd ⟨Nat.lt_of_lt_of_le (R.pr b h) (Nat.le_trans R.gr (by omega)), fun k o h1 h2 h3 => R.objs.np k o b h1 h2 h3 h⟩ hb
      · exact R.pb b h
    have hnp2 : ∀ k o g, S.objs[k]? = some o → o.live = true → blk k = some g → ¬ prot2 g := by
      intro k o g h1 h2 h3 h4
      rw [hprot2] at h4
      exact h4.2 k o h1 h2 h3
    have hext : ∀ x ∈ pairs S.tmps a.tmps, RepT W1 (okL base S.objs blk) S.objs blk x.1 x.2 := by
      intro x hx
      obtain ⟨t, h1, h2⟩ := q2t hx
      rw [← h2]
      exact hR1.tm t x.1 h1
    have hgb0 : ∀ b ∈ glob.blocks, b < w.heap.size := fun b hb => Nat.lt_of_lt_of_le (R.pr b (R.gl.2 b hb)) R.gr
    have hgb2 : ∀ b ∈ glob.blocks, prot2 b := fun b hb => by
      rw [hprot2]; exact ⟨by have := hgb0 b hb; omega, fun k o h1 h2 h3 => R.objs.np k o b h1 h2 h3 (R.gl.2 b hb)⟩
    have hRel : Rel base prot2 ⟨W1.heap, pairs S.tmps a.tmps, S.objs.length, w⟩ ⟨[], S.objs⟩ blk act0 W1 := by
      refine ⟨.nil _ _, rfl, fun t p hp => by simp at hp, ⟨hR1.objs.ob, R.objs.dis, hnp2⟩, fun b hb => by rw [hprot2] at hb; exact hb.1, fun _ _ => rfl, Nat.le_refl _, hpb2, hext, fun x hx => qcu (hext x hx), hgrew.2.2, ⟨hR1.globOk, hgb2⟩⟩
    have hcapR : RepL (Rep W1 (okL base S.objs blk)) cap vc := by
      refine ⟨r2.1, fun i p v hp hv => ?_⟩
      have hpp := List.all_eq_true.1 hcap p (List.mem_of_getElem? hp)
      have h1 : RepT w (okL base S.objs blk) S.objs blk p v := .of_repS (r2.2 i p v hp hv)
      exact (h1.rep hpp).mono hgrew.1 (fun _ _ h => h) (fun b x _ h => hgrew.2.1 b x h)
    have hYok : YOk P none base prot2 V2 (know0 l0 (Yof ys I fun _ _ => False)) := by
      rintro S2 blk2 a2 w2 args vs K ⟨z, hz, R2⟩ hpt hargs ⟨i, hIi, hyi, hK, _⟩
      rw [hV2] at hz
      subst hz
      have hL2 : w2.heap[l0]? = some (.loop (rec .ready)) := (R2.fr l0 hpl0).trans hL1
      have hlen : args.length = ps.length := hys args (List.mem_of_getElem? hyi)
      refine ⟨rec .ready, hL2, by rw [hrec]; simp [← hargs.1, hlen], ?_⟩
      rw [show (know0 l0 (Yof ys I fun _ _ => False)).y = l0 from rfl]
      refine roundIn_of_wpIn trivial ?_
      have hlt2 : l0 < w2.heap.size := (Array.getElem?_eq_some_iff.1 hL2).1
      -- the round's surroundings
      obtain ⟨prot3, hprot3⟩ : ∃ prot3 : Nat → Prop, prot3 = fun b => b < w2.heap.size ∧ q0k S2.objs blk2 b := ⟨_, rfl⟩
      obtain ⟨xs3, hxs3⟩ : ∃ xs3, xs3 = pairs S.tmps a.tmps ++ pairs S2.tmps a2.tmps := ⟨_, rfl⟩
      have h23 : ∀ b, prot2 b → prot3 b := by
        intro b hb
        rw [hprot3]
        exact ⟨Nat.lt_of_lt_of_le (R2.pr b hb) R2.gr, fun k o h1 h2 h3 => R2.objs.np k o b h1 h2 h3 hb⟩
      have hpb3 : ∀ b, ¬ prot3 b → base b := fun b hb => R2.pb b fun h => hb (h23 b h)
      have hnp3 : ∀ k o g, S2.objs[k]? = some o → o.live = true → blk2 k = some g → ¬ prot3 g := by
        intro k o g h1 h2 h3 h4
        rw [hprot3] at h4
        exact h4.2 k o h1 h2 h3
      have hext3 : ∀ x ∈ xs3, RepT w2 (okL base S2.objs blk2) S2.objs blk2 x.1 x.2 := by
        intro x hx
        rw [hxs3] at hx
        rcases List.mem_append.1 hx with hx | hx
        · exact R2.ext x hx
        · obtain ⟨t, h1, h2⟩ := q2t hx
          rw [← h2]
          exact R2.tm t x.1 h1
      have hexn3 : ∀ x ∈ xs3, x.1.lt S.objs.length = true := by
        intro x hx
        rw [hxs3] at hx
        rcases List.mem_append.1 hx with hx | hx
        · exact R2.exn x hx
        · obtain ⟨t, h1, _⟩ := q2t hx
          exact qlk (List.all_eq_true.1 hpt x.1 (List.mem_of_getElem? h1))
      obtain ⟨tm0, htm0⟩ : ∃ tm0, tm0 = (((rec .ready).params.zip (⟨vs⟩ : Array Value)).foldl (fun t (p, v) => t.setIfInBounds p v) (rec .ready).tmps) := ⟨_, rfl⟩
      rw [← htm0]
      have htm0' : tm0 = (ps.zip vs).foldl (fun t (p, v) => t.setIfInBounds p v) a.tmps := by
        rw [htm0, hrec]
        simp only []
        rw [← Array.foldl_toList]
        simp
      have hset := qcv (R := RepT w2 (okL base S2.objs blk2) S2.objs blk2) (fun v => .dead v) ps args vs S.tmps a.tmps hargs.1 R.tsz
        (fun t p hp => R2.ext (p, a.tmps.getD t undef) (q3d R.tsz hp)) (fun i p v h1 h2 => .of_rep (hargs.2 i p v h1 h2))
      have Rr : Rel base prot3 ⟨w2.heap, xs3, S.objs.length, w⟩ ⟨setL ps args S.tmps, S2.objs⟩ blk2 { tmps := tm0, defers := [] } w2 := by
        refine ⟨.nil _ _, by rw [htm0']; exact hset.1, fun t p hp => by rw [htm0']; exact hset.2 t p hp, ⟨R2.objs.ob, R2.objs.dis, hnp3⟩, fun b hb => by rw [hprot3] at hb; exact hb.1, fun _ _ => rfl, Nat.le_refl _, hpb3, hext3, hexn3, R2.sm, ⟨R2.globOk, fun b hb => h23 b (hgb2 b hb)⟩⟩
      have hround' := hround i args S2.objs hIi hyi l0 base prot3 (fun z => z = ⟨w2.heap, xs3, S.objs.length, w⟩) (by rintro z rfl; exact Nat.le_refl _) blk2 _ w2 ⟨_, rfl, Rr⟩
      rw [show (rec .ready).assign = x by rw [hrec], show (rec .ready).body = y by rw [hrec]]
      change x.wpIn (fen (some l0)) 0 P _ _ _
      refine wpIn_mono hround' ?_
      rintro e a3 w3 ⟨S3, blk3, he, z, rfl, R3⟩
      cases e with
      | normal =>
        have hp3 : prot3 l0 := h23 l0 hpl0
        have hL3 : w3.heap[l0]? = some (.loop (rec .ready)) := (R3.fr l0 hp3).trans hL2
        refine ⟨_, run_beginRound hL3 (by rw [hrec]), ?_⟩
        have hbusy : ({ rec .ready with state := .busy } : Loop) = rec .busy := by rw [hrec]
        rw [hbusy]
        obtain ⟨w4, hw4⟩ : ∃ w4, w4 = w3.putObj l0 (.loop (rec .busy)) := ⟨_, rfl⟩
        rw [← hw4]
        have hnc : ∀ st, ¬ q1y (.loop (rec st)) := by rintro st (⟨c, t, y, h⟩ | ⟨es, n, h⟩) <;> cases h
        have hcl4 : ∀ (k : Nat) x, w3.heap[k]? = some x → q1y x → w4.heap[k]? = some x := by rw [hw4]; exact q1u hL3 (hnc _)
        have hs4 : w4.heap.size = w3.heap.size := by rw [hw4]; exact World.putObj_size
        have ho4 : ∀ k : Nat, k ≠ l0 → w4.heap[k]? = w3.heap[k]? := fun k hk => by rw [hw4]; exact World.putObj_heap_other hk
        have hl34 : l0 < w3.heap.size := (Array.getElem?_eq_some_iff.1 hL3).1
        have hL4 : w4.heap[l0]? = some (.loop (rec .busy)) := by rw [hw4]; exact World.putObj_heap_same hl34
        have hpr3 : ∀ b, prot3 b → b < w2.heap.size := fun b hb => by rw [hprot3] at hb; exact hb.1
        have h23s : w2.heap.size ≤ w3.heap.size := R3.gr
        have R4 : Rel base prot3 ⟨w4.heap, xs3, S.objs.length, w⟩ S3 blk3 a3 w4 := by
          refine ⟨?_, R3.tsz, fun t p hp => q1a (R3.tm t p hp) (Nat.le_of_eq hs4.symm) hcl4, R3.objs.cells (Nat.le_of_eq hs4.symm) hcl4 R3.objs.np, fun b hb => ?_, fun _ _ => rfl, Nat.le_refl _, hpb3, fun x hx => q1a (R3.ext x hx) (Nat.le_of_eq hs4.symm) hcl4, R3.exn, R3.sm.trans (by rw [hw4]; exact ⟨rfl, rfl⟩), ⟨glob.keep (fun b hb => ho4 b (by have := hgb0 b hb; omega)) R3.globOk, fun b hb => h23 b (hgb2 b hb)⟩⟩
          · obtain ⟨Ds, h1, h2, h3⟩ := R3.nodef
            refine ⟨Ds, h1, h2, fun b hb => ?_⟩
            rw [ho4 b (fun e => (h3 b hb).2.2 (e ▸ hp3))]
            exact h3 b hb
          · have := hpr3 b hb; show b < w4.heap.size; omega
        have hbody := he base prot3 (fun z => z = ⟨w4.heap, xs3, S.objs.length, w⟩) (by rintro z rfl; exact Nat.le_refl _) blk3 a3 w4 ⟨_, rfl, R4⟩
        refine wpIn_mono hbody ?_
        rintro e a5 w5 ⟨S5, blk5, he5, z, rfl, R5⟩
        cases e with
        | normal =>
          have hL5 : w5.heap[l0]? = some (.loop (rec .busy)) := (R5.fr l0 hp3).trans hL4
          refine ⟨_, _, run_endRound none hL5, ?_⟩
          have hready : ({ rec .busy with state := if (none : Option Code).isNone then .ready else .done, pending := none } : Loop) = rec .ready := by rw [hrec]; rfl
          rw [hready]
          obtain ⟨w6, hw6⟩ : ∃ w6, w6 = w5.putObj l0 (.loop (rec .ready)) := ⟨_, rfl⟩
          rw [← hw6]
          obtain ⟨blk6, R6⟩ := Weak.norm (m := S.objs.length) [] fz hfz S5 base prot3 _ blk5 a5 w5 (Nat.le_refl _) R5
          have hcl6 : ∀ (k : Nat) x, w5.heap[k]? = some x → q1y x → w6.heap[k]? = some x := by rw [hw6]; exact q1u hL5 (hnc _)
          have hs6 : w6.heap.size = w5.heap.size := by rw [hw6]; exact World.putObj_size
          have ho6 : ∀ k : Nat, k ≠ l0 → w6.heap[k]? = w5.heap[k]? := fun k hk => by rw [hw6]; exact World.putObj_heap_other hk
          have hl5 : l0 < w5.heap.size := (Array.getElem?_eq_some_iff.1 hL5).1
          have h45s : w4.heap.size ≤ w5.heap.size := R5.gr
          have hall : ∀ b, prot3 b → w6.heap[b]? = w2.heap[b]? := by
            intro b hb
            by_cases hbl : b = l0
            · subst hbl
              rw [hL2, hw6, World.putObj_heap_same hl5]
            · rw [ho6 b hbl, R5.fr b hb]
              show w4.heap[b]? = _
              rw [ho4 b hbl]
              exact R3.fr b hb
          have hnl6 : ∀ b, prot3 b → q0k (S5.norm [] fz).objs blk6 b := fun b hb k o h1 h2 h3 => R6.objs.np k o b h1 h2 h3 hb
          refine ⟨true, (S5.norm [] fz).objs, blk6, rfl, hK _ he5, ⟨W1.heap, pairs S.tmps a.tmps, S.objs.length, w⟩, by rw [hV2], ?_⟩
          have hx3a : ∀ x ∈ pairs S.tmps a.tmps, x ∈ xs3 := fun x hx => by rw [hxs3]; exact List.mem_append_left _ hx
          have hx3b : ∀ x ∈ pairs S2.tmps a2.tmps, x ∈ xs3 := fun x hx => by rw [hxs3]; exact List.mem_append_right _ hx
          refine ⟨?_, R2.tsz, fun t p hp => ?_, R6.objs.cells (Nat.le_of_eq hs6.symm) hcl6 (fun k o g h1 h2 h3 h4 => R6.objs.np k o g h1 h2 h3 (h23 g h4)), R2.pr, fun b hb => ?_, ?_, R2.pb, fun x hx => q1a (R6.ext x (hx3a x hx)) (Nat.le_of_eq hs6.symm) hcl6, R2.exn, R6.sm.trans (by rw [hw6]; exact ⟨rfl, rfl⟩), R2.gl⟩
          · obtain ⟨Ds, h1, h2, h3⟩ := R2.nodef
            refine ⟨Ds, h1, h2, fun b hb => ?_⟩
            obtain ⟨q1, q2, q3⟩ := h3 b hb
            have hb3 : prot3 b := by rw [hprot3]; exact ⟨(Array.getElem?_eq_some_iff.1 q1).1, q2.2⟩
            exact ⟨by rw [hall b hb3]; exact q1, ⟨q2.1, hnl6 b hb3⟩, q3⟩
          · exact q1a (R6.ext (p, a2.tmps.getD t undef) (hx3b _ (q3d R2.tsz hp))) (Nat.le_of_eq hs6.symm) hcl6
          · rw [hall b (h23 b hb)]; exact R2.fr b hb
          · have := R2.gr; show W1.heap.size ≤ w6.heap.size; simp only at this; omega
        | _ => exact he5.elim
      | _ => exact he.elim
    refine Calls.mono (hgive I (fun _ _ => False) base prot2 V2 l0 S.objs blk W1 vc hYok (fun z hz => by rw [hV2] at hz; rw [hz]; exact Nat.le_refl _) ⟨_, by rw [hV2], hRel⟩ hI0 hIl (fun _ _ h => h.elim) hcapR) ?_
    rintro e w3 ⟨objs', blk', rfl, hIJ, z, hz, R3⟩
    have hI : I ys.length objs' := hIJ.resolve_right fun ⟨_, _, h⟩ => h
    rw [hV2] at hz
    subst hz
    have hL3 : w3.heap[l0]? = some (.loop (rec .ready)) := (R3.fr l0 hpl0).trans hL1
    have hD3 : w3.heap[w.heap.size]? = some (.deferred (some [])) := (R3.fr _ hpD).trans hK1
    have hnc : ¬ q1y (.loop (rec .ready)) := by rintro (⟨c, t, y, h⟩ | ⟨es, n, h⟩) <;> cases h
    have hend := run_endLoop (P := P) hL3 (by rw [hrec]; simp)
    refine ⟨none, w3.putObj l0 (.loop { rec .ready with state := .exhausted }), by rw [hend, hrec], ?_⟩
    simp only []
    have hcl := q1u (o' := .loop { rec .ready with state := .exhausted }) hL3 hnc
    have hsz : (w3.putObj l0 (.loop { rec .ready with state := .exhausted })).heap.size = w3.heap.size := World.putObj_size
    have hle : w.heap.size ≤ w3.heap.size := by have := R3.gr; simp only at this; omega
    have hother : ∀ k : Nat, k ≠ l0 → (w3.putObj l0 (.loop { rec .ready with state := .exhausted })).heap[k]? = w3.heap[k]? := fun k hk => World.putObj_heap_other hk
    -- what was no live object's ahead is none behind
    have hkeep : ∀ b, b < w.heap.size → q0k S.objs blk b → q0k objs' blk' b := by
      intro b hb hnb k o h1 h2 h3
      refine R3.objs.np k o b h1 h2 h3 ?_
      rw [hprot2]; exact ⟨by omega, hnb⟩
    have hsame : ∀ b, b < w.heap.size → q0k S.objs blk b → (w3.putObj l0 (.loop { rec .ready with state := .exhausted })).heap[b]? = w.heap[b]? := by
      intro b hb hnb
      rw [hother b (by omega), R3.fr b (by rw [hprot2]; exact ⟨by omega, hnb⟩)]
      have hbx : w.heap[b]? = some (w.heap[b]) := Array.getElem?_eq_getElem hb
      rw [hgrew.2.1 b _ hbx, hbx]
    have hpn : ∀ b, prot b → b < w.heap.size ∧ q0k S.objs blk b := fun b hb => ⟨Nat.lt_of_lt_of_le (R.pr b hb) R.gr, fun k o h1 h2 h3 => R.objs.np k o b h1 h2 h3 hb⟩
    have hnpn : ∀ k o g, objs'[k]? = some o → o.live = true → blk' k = some g → ¬ prot g := fun k o g h1 h2 h3 h4 => hkeep g (hpn g h4).1 (hpn g h4).2 k o h1 h2 h3
    refine ⟨objs', blk', trivial, hI, ?_, R.tsz, fun t p hp => ?_, R3.objs.cells (Nat.le_of_eq hsz.symm) hcl hnpn, R.pr, fun b hb => ?_, Nat.le_trans R.gr (by rw [hsz]; exact hle), R.pb, (by rw [hx]; intro x h; simp at h), R.exn, (R.sm.trans R3.sm).trans ⟨rfl, rfl⟩, R.gl⟩
    · obtain ⟨Ds, h1, h2, h3⟩ := R.nodef
      refine ⟨w.heap.size :: Ds, by simp [h1], List.nodup_cons.2 ⟨fun hm => ?_, h2⟩, fun b hb => ?_⟩
      · have := (Array.getElem?_eq_some_iff.1 (h3 _ hm).1).1; omega
      · rcases List.mem_cons.1 hb with rfl | hb
        · refine ⟨by rw [hother _ (by omega)]; exact hD3, ⟨R.bs _ R.gr, fun k o h1 h2 h3 => R3.objs.np k o _ h1 h2 h3 hpD⟩, fun hp => by have := (hpn _ hp).1; omega⟩
        · obtain ⟨q1, q2, q3⟩ := h3 b hb
          have hbs := (Array.getElem?_eq_some_iff.1 q1).1
          exact ⟨by rw [hsame b hbs q2.2]; exact q1, ⟨q2.1, hkeep b hbs q2.2⟩, q3⟩
    · exact q1a (R3.ext (p, a.tmps.getD t undef) (q3d R.tsz hp)) (Nat.le_of_eq hsz.symm) hcl
    · rw [hsame b (hpn b hb).1 (hpn b hb).2]; exact R.fr b hb
theorem qej (k : Nat) (O : List Obj) : (flipG k O).length = O.length := by simp [flipG]
theorem q4e {k j : Nat} {O : List Obj} (h1 : j ≠ k) (h2 : j ≠ k + 1) : (flipG k O)[j]? = O[j]? := by
  unfold flipG
  rw [List.getElem?_set, if_neg (fun e => h2 e.symm), List.getElem?_set, if_neg (fun e => h1 e.symm)]
theorem qcw {k : Nat} {O : List Obj} (h : k + 1 < O.length) : (flipG k O)[k]? = some hole := by
  unfold flipG
  rw [List.getElem?_set, if_neg (by omega), List.getElem?_set]; simp; omega
theorem qg5 {k : Nat} {O : List Obj} (h : k + 1 < O.length) : (flipG k O)[k + 1]? = some ghA := by
  unfold flipG
  rw [List.getElem?_set]; simp; omega
def flipB (k : Nat) (blk : Nat → Option Nat) : Nat → Option Nat := fun j => if j = k + 1 then none else blk j
theorem q5e {k b : Nat} {O : List Obj} {bl : Nat → Option Nat} (hk : k + 1 < O.length) (h : q0k O bl b) : q0k (flipG k O) (flipB k bl) b := by
  intro j o h1 h2 h3
  by_cases e2 : j = k + 1
  · subst e2; simp [flipB] at h3
  · by_cases e1 : j = k
    · subst e1; rw [qcw hk] at h1; cases h1; cases h2
    · rw [q4e e1 e2] at h1
      refine h j o h1 h2 ?_
      simpa [flipB, e2] using h3
theorem q5f {k : Nat} {O : List Obj} {bl : Nat → Option Nat} {p : PV} {v : Value} {ok ok' : Nat → Prop} (hp : p.ltS k = true) (hok : ∀ b, ok b → ok' b) (h : RepS w ok O bl p v) : RepS w ok' (flipG k O) (flipB k bl) p v := by
  have hm : ∀ q : PV, Rep w ok q v → Rep w ok' q v := fun q hq => hq.mono (Nat.le_refl _) (fun b _ h => hok b h) (fun _ _ _ h => h)
  cases p with
  | osl j ver =>
    have hj : j < k := by simpa [PV.ltS] using hp
    obtain ⟨h0, o, h1, h2, h3⟩ := h
    refine ⟨h0, o, by rw [q4e (by omega) (by omega)]; exact h1, h2, fun e1 e2 => ?_⟩
    obtain ⟨hM, hh⟩ := h3 e1 e2
    refine ⟨hM, ?_⟩
    unfold Hdr at hh ⊢
    rw [show flipB k bl j = bl j by simp [flipB]; omega]
    exact hh
  | optr j ver i f =>
    have hj : j < k := by simpa [PV.ltS] using hp
    obtain ⟨h0, o, h1, h2, h3⟩ := h
    refine ⟨h0, o, by rw [q4e (by omega) (by omega)]; exact h1, h2, fun e1 e2 => ?_⟩
    rw [show flipB k bl j = bl j by simp [flipB]; omega]
    exact h3 e1 e2
  | omp j ver =>
    have hj : j < k := by simpa [PV.ltS] using hp
    obtain ⟨h0, o, h1, h2, h3⟩ := h
    refine ⟨h0, o, by rw [q4e (by omega) (by omega)]; exact h1, h2, fun e1 e2 => ?_⟩
    rw [show flipB k bl j = bl j by simp [flipB]; omega]
    exact h3 e1 e2
  | _ => exact hm _ h
theorem qll {k : Nat} {O : List Obj} {bl : Nat → Option Nat} {p : PV} {v : Value} {ok ok' : Nat → Prop} (hp : p.lt k = true) (hok : ∀ b, ok b → ok' b) (h : RepT w ok O bl p v) : RepT w ok' (flipG k O) (flipB k bl) p v := by
  have hl : ∀ (cs : List PV) (vs : List Value), cs.all (PV.ltS k) = true → RepL (RepS w ok O bl) cs vs → RepL (RepS w ok' (flipG k O) (flipB k bl)) cs vs :=
    fun cs vs hc h => ⟨h.1, fun i p u h1 h2 => q5f (List.all_eq_true.1 hc p (List.mem_of_getElem? h1)) hok (h.2 i p u h1 h2)⟩
  cases p with
  | fn f a c =>
    simp only [PV.lt, Bool.and_eq_true] at hp
    obtain ⟨va, vc, rfl, h1, h2⟩ := h
    exact ⟨va, vc, rfl, hl _ _ hp.1 h1, hl _ _ hp.2 h2⟩
  | tup cs => obtain ⟨us, rfl, h1⟩ := h; exact ⟨us, rfl, hl _ _ hp h1⟩
  | agg cs => obtain ⟨us, rfl, h1⟩ := h; exact ⟨us, rfl, hl _ _ hp h1⟩
  | osl j ver => exact q5f (p := .osl j ver) hp hok h
  | optr j ver i f => exact q5f (w := w) (p := .optr j ver i f) hp hok h
  | omp j ver => exact q5f (w := w) (p := .omp j ver) hp hok h
  | _ => exact .of_repS (q5f rfl hok (by exact h))
theorem qlm {k : Nat} {O : List Obj} {bl : Nat → Option Nat} {prot' : Nat → Prop} (R : ObjsRel base prot' O bl w) (hk : k + 1 < O.length) (hn : NoRefs O) (hA : O[k]? = some ghA) :
    ObjsRel base prot' (flipG k O) (flipB k bl) w := by
  have hok : ∀ b, okL base O bl b → okL base (flipG k O) (flipB k bl) b := fun b h => ⟨h.1, q5e hk h.2⟩
  have get : ∀ (j : Nat) (o : Obj), (flipG k O)[j]? = some o → o.live = true → (j = k + 1 ∧ o = ghA) ∨ (j ≠ k ∧ j ≠ k + 1 ∧ O[j]? = some o ∧ flipB k bl j = bl j) := by
    intro j o h1 h2
    by_cases e2 : j = k + 1
    · subst e2; rw [qg5 hk] at h1; cases h1; exact .inl ⟨rfl, rfl⟩
    · by_cases e1 : j = k
      · subst e1; rw [qcw hk] at h1; cases h1; cases h2
      · rw [q4e e1 e2] at h1; exact .inr ⟨e1, e2, h1, by simp [flipB, e2]⟩
  have hB : flipB k bl (k + 1) = none := by simp [flipB]
  refine ⟨fun j o h1 h2 => ?_, fun j j' o o' g hne h1 h2 h3 h4 h5 h6 => ?_, fun j o g h1 h2 h3 => ?_⟩
  · rcases get j o h1 h2 with ⟨rfl, rfl⟩ | ⟨e1, e2, h1', hb⟩
    · unfold ObjRep; rw [hB]; rfl
    · have hh := R.ob j o h1' h2
      unfold ObjRep at hh ⊢
      rw [hb]
      cases hbj : bl j with
      | none => rw [hbj] at hh; exact hh
      | some g =>
        rw [hbj] at hh
        obtain ⟨c, x1, x2, x3⟩ := hh
        refine ⟨c, x1, x2, fun i x hx => ⟨(x3 i x hx).1, fun q p hp => ?_⟩⟩
        obtain ⟨u, y1, y2⟩ := (x3 i x hx).2 q p hp
        exact ⟨u, y1, .of_rep ((y2.rep (hn o (List.mem_of_getElem? h1') x (List.mem_of_getElem? hx) p (List.mem_of_getElem? hp))).anyOk fun b _ hb => hok b hb)⟩
  · rcases get j o h1 h2 with ⟨rfl, rfl⟩ | ⟨_, _, h1', hb⟩
    · rw [hB] at h5; cases h5
    · rcases get j' o' h3 h4 with ⟨rfl, rfl⟩ | ⟨_, _, h3', hb'⟩
      · rw [hB] at h6; cases h6
      · rw [hb] at h5; rw [hb'] at h6
        exact R.dis j j' o o' g hne h1' h2 h3' h4 h5 h6
  · rcases get j o h1 h2 with ⟨rfl, rfl⟩ | ⟨_, _, h1', hb⟩
    · rw [hB] at h3; cases h3
    · rw [hb] at h3; exact R.np j o g h1' h2 h3
theorem qln {f : Operand} {ps : List Nat} {x y : Code} {fz : Option (Nat × Nat)} {g : FuncId} {cap : List PV} {ys : List (List PV)} {I J : Nat → List Obj → Prop} {lv : Exit} {lc : Code}
    (hg : Gives P g cap ys) (hys : ∀ y ∈ ys, y.length = ps.length) (hlv : qeh lv = some lc) (hI0 : I 0 (S.objs ++ [ghA, hole])) (hIl : ∀ i objs, I i objs → Gh S.objs.length objs) (hJl : ∀ i objs, J i objs → Gh S.objs.length objs ∧ NoRefs objs) (R : Rel base prot w0 S blk a w) (hx : w0.xs = []) (hf : S.ev f = .fn g [] cap) (hcap : cap.all PV.pure = true) (hfz : fzOk (S.objs.length + 2) fz)
    (hround : ∀ i args objs, I i objs → ys[i]? = some args → ∀ l0, PW P (some l0) (E0 (S.objs.length + 2)) x (thenS (fun S1 => PW P (some l0) (E0 (S.objs.length + 2)) y (qg4 fz (I (i + 1)) lv (J i)) S1) (fun _ _ => False)) ⟨setL ps args S.tmps, objs⟩) :
    (Code.rangeFunc f ps.toArray x y).wpIn (fen none) 0 P (fun e a' w' => ∃ objs' blk', ((e = .normal ∧ I ys.length objs') ∨ (e = lv ∧ ∃ i O, i < ys.length ∧ J i O ∧ objs' = flipG S.objs.length O)) ∧ Rel base prot w0 ⟨S.tmps, objs'⟩ blk' a' w') a w := by
  refine wpIn_rangeFunc fun fn _ => ?_
  have hlt0 : ∀ t : Nat, ∀ p, S.tmps[t]? = some p → p.lt S.objs.length = true := fun t p hp => qcu (R.tm t p hp)
  obtain ⟨k, hk⟩ : ∃ k, k = S.objs.length := ⟨_, rfl⟩
  have hff := R.ev f
  rw [hf] at hff
  obtain ⟨va, vc, hv, r1, r2⟩ := hff
  have hva : va = [] := List.eq_nil_of_length_eq_zero r1.1.symm
  subst hva
  obtain ⟨blkG, RG, hnlG⟩ : ∃ blkG, Rel base prot w0 ⟨S.tmps, S.objs ++ [ghA, hole]⟩ blkG a w ∧ ∀ b, q0k S.objs blk b → q0k (S.objs ++ [ghA, hole]) blkG b := by
    have g1 := R.addObj (o1 := ghA) (gb := none) (Grew.refl w) (fun g hg => by cases hg) fun _ => by
      unfold ObjRep q0g; rw [if_pos rfl]; rfl
    have g2 := g1.addObj (o1 := hole) (gb := none) (Grew.refl w) (fun g hg => by cases hg) fun _ => by
      unfold ObjRep q0g; rw [if_pos rfl]; rfl
    have e1 : (S.objs ++ [ghA]).length = S.objs.length + 1 := by simp
    have e2 : S.objs ++ [ghA] ++ [hole] = S.objs ++ [ghA, hole] := by simp
    simp only [e1, e2] at g2
    refine ⟨_, g2, fun b hn j o h1 h2 h3 => ?_⟩
    have hj : j < S.objs.length + 2 := by have := (List.getElem?_eq_some_iff.1 h1).1; simpa using this
    unfold q0g at h3
    split at h3
    · cases h3
    · split at h3
      · cases h3
      · rw [List.getElem?_append_left (by omega)] at h1
        exact hn j o h1 h2 h3
  have hAg : (S.objs ++ [ghA, hole])[S.objs.length]? = some ghA := by simp
  have hBg : (S.objs ++ [ghA, hole])[S.objs.length + 1]? = some hole := by simp
  have hGl : (S.objs ++ [ghA, hole]).length = S.objs.length + 2 := by simp
  obtain ⟨S', hS'⟩ : ∃ S' : St, S' = ⟨S.tmps, S.objs ++ [ghA, hole]⟩ := ⟨_, rfl⟩
  have hSt : S'.tmps = S.tmps := by rw [hS']
  have hSo : S'.objs = S.objs ++ [ghA, hole] := by rw [hS']
  rw [← hS'] at RG
  rw [← hSo] at hAg hBg hGl hI0 hnlG
  rw [← hk] at hAg hBg hGl hfz hround hIl hJl hlt0 ⊢
  obtain ⟨rec, hrec⟩ : ∃ rec : LoopState → Option Code → Loop, rec = fun st pe => { state := st, pending := pe, fn, tmps := a.tmps, params := ps.toArray, assign := x, body := y, defers := w.heap.size } := ⟨_, rfl⟩
  obtain ⟨W1, hW1⟩ : ∃ W1, (w.alloc (.deferred (some []))).alloc (.loop (rec .ready none)) = W1 := ⟨_, rfl⟩
  have hL1 : W1.heap[w.heap.size + 1]? = some (.loop (rec .ready none)) := by
    rw [← hW1]; have := World.alloc_heap_new (w.alloc (.deferred (some []))) (.loop (rec .ready none)); rwa [World.size_alloc] at this
  have hK1 : W1.heap[w.heap.size]? = some (.deferred (some [])) := by
    rw [← hW1]; exact (Grew.push (w := w.alloc (.deferred (some []))) (w' := (w.alloc (.deferred (some []))).alloc (.loop (rec .ready none))) rfl).2.1 _ _ (World.alloc_heap_new w _)
  have hs1 : W1.heap.size = w.heap.size + 2 := by rw [← hW1, World.size_alloc, World.size_alloc]
  have hgrew : Grew w W1 := by
    rw [← hW1]
    exact (Grew.push (w' := w.alloc (.deferred (some []))) rfl).trans (Grew.push rfl)
  have hnl : ∀ k, w.heap.size ≤ k → q0k S'.objs blkG k := fun k hk j o h1 h2 h3 => by
    have := qcg RG.objs h1 h2 h3; omega
  obtain ⟨⟨fng, hfn, hname, hbody⟩, hgive⟩ := hg
  refine ⟨w.heap.size + 1, [{ target := .collected w.heap.size, args := #[] }], W1, { target := .fn (.func g) ⟨vc⟩, args := #[.func (.yield (w.heap.size + 1)) #[] #[]] }, W1, g,
    ⟨.func (.yield (w.heap.size + 1)) #[] #[] :: vc⟩, W1, ?_, ?_, fun _ _ => trivial, ?_, (fun h => by cases h), ?_⟩
  · rw [← hW1, hrec]; exact run_enterLoop_outer _ _ _ _ _
  · simp only [resolve, hv]
    simp [go_sem]
  · have e1 : (#[.func (.yield (w.heap.size + 1)) #[] #[]] : Array Value) ++ Array.mk vc = Array.mk (.func (.yield (w.heap.size + 1)) #[] #[] :: vc) := by apply Array.ext'; simp
    simp only [invoke, callFunc, run_program, Sem.run_bind, Result.andThen_ok, hfn, hname, hbody, Bool.false_eq_true, if_false, Sem.run_pure]
    rw [e1]
  · rw [show (0 - 1 : Nat) = 0 from rfl]
    refine callsIn_wide.2 ?_
    -- the iterator's surroundings
    obtain ⟨l0, hl0⟩ : ∃ l0, l0 = w.heap.size + 1 := ⟨_, rfl⟩
    rw [← hl0] at hL1 ⊢
    obtain ⟨prot2, hprot2⟩ : ∃ prot2 : Nat → Prop, prot2 = fun b => b < W1.heap.size ∧ q0k S'.objs blkG b := ⟨_, rfl⟩
    obtain ⟨z0, hz0⟩ : ∃ z0 : Wz, z0 = ⟨W1.heap, (.osl (k + 1) 0, .bool false) :: pairs S'.tmps a.tmps, S'.objs.length, w⟩ := ⟨_, rfl⟩
    obtain ⟨z1, hz1⟩ : ∃ z1 : Wz, z1 = ⟨(W1.putObj l0 (.loop (rec .done (some lc)))).heap, (.osl k 0, .bool false) :: pairs S'.tmps a.tmps, S'.objs.length, w⟩ := ⟨_, rfl⟩
    obtain ⟨V2, hV2⟩ : ∃ V2 : Wz → Prop, V2 = fun z => z = z0 ∨ z = z1 := ⟨_, rfl⟩
    have ghost : ∀ {ww : World} {ok : Nat → Prop} {O : List Obj} {bl : Nat → Option Nat} {j : Nat}, RepT ww ok O bl (.osl j 0) (.bool false) → O[j]? = some ghA → False := by
      intro ww ok O bl j h h1
      have := h.osl h1 rfl rfl
      unfold Hdr at this
      split at this
      · cases this.1
      · obtain ⟨_, _, h, _⟩ := this; cases h
    have haunt : ∀ {ww : World} {ok : Nat → Prop} {O : List Obj} {bl : Nat → Option Nat} {j : Nat}, O[j]? = some hole → RepT ww ok O bl (.osl j 0) (.bool false) :=
      fun h => ⟨rfl, _, h, Nat.le_refl _, fun hl => by cases hl⟩
    have hpl0 : prot2 l0 := by rw [hprot2]; exact ⟨by omega, hnl _ (by omega)⟩
    have hpD : prot2 w.heap.size := by rw [hprot2]; exact ⟨by omega, hnl _ (Nat.le_refl _)⟩
    have hR1 := RG.grew hgrew
    have hpb2 : ∀ b, ¬ prot2 b → base b := by
      intro b hb
      rw [hprot2] at hb
      by_cases h : prot b
      · exact absurd ⟨Nat.lt_of_lt_of_le (RG.pr b h) (Nat.le_trans RG.gr (by omega)), fun k o h1 h2 h3 => RG.objs.np k o b h1 h2 h3 h⟩ hb
      · exact RG.pb b h
    have hnp2 : ∀ k o g, S'.objs[k]? = some o → o.live = true → blkG k = some g → ¬ prot2 g := by
      intro k o g h1 h2 h3 h4
      rw [hprot2] at h4
      exact h4.2 k o h1 h2 h3
    have hext : ∀ x ∈ pairs S'.tmps a.tmps, RepT W1 (okL base S'.objs blkG) S'.objs blkG x.1 x.2 := by
      intro x hx
      obtain ⟨t, h1, h2⟩ := q2t hx
      rw [← h2]
      exact hR1.tm t x.1 h1
    have hext0 : ∀ x ∈ z0.xs, RepT W1 (okL base S'.objs blkG) S'.objs blkG x.1 x.2 := by
      intro x hx
      rw [hz0] at hx
      rcases List.mem_cons.1 hx with rfl | hx
      · exact haunt hBg
      · exact hext x hx
    have hgb0 : ∀ b ∈ glob.blocks, b < w.heap.size := fun b hb => Nat.lt_of_lt_of_le (R.pr b (R.gl.2 b hb)) R.gr
    have hgb2 : ∀ b ∈ glob.blocks, prot2 b := fun b hb => by
      rw [hprot2]; exact ⟨by have := hgb0 b hb; omega, fun k o h1 h2 h3 => RG.objs.np k o b h1 h2 h3 (R.gl.2 b hb)⟩
    have hRel : Rel base prot2 z0 ⟨[], S'.objs⟩ blkG act0 W1 := by
      refine ⟨.nil _ _, rfl, fun t p hp => by simp at hp, ⟨hR1.objs.ob, RG.objs.dis, hnp2⟩, fun b hb => by rw [hprot2] at hb; rw [hz0]; exact hb.1, fun _ _ => by rw [hz0], by rw [hz0]; exact Nat.le_refl _, hpb2, hext0, fun x hx => ?_, by rw [hz0]; exact hgrew.2.2, by rw [hz0]; exact ⟨hR1.globOk, hgb2⟩⟩
      have := qcu (hext0 x hx)
      rw [hz0]; exact this
    have hokG : ∀ b, b < w.heap.size → okL base S.objs blk b → okL base S'.objs blkG b := by
      intro b _ h
      refine ⟨h.1, fun j o h1 h2 h3 => ?_⟩
      exact hnlG b h.2 j o h1 h2 h3
    have hcapR : RepL (Rep W1 (okL base S'.objs blkG)) cap vc := by
      refine ⟨r2.1, fun i p v hp hv => ?_⟩
      have hpp := List.all_eq_true.1 hcap p (List.mem_of_getElem? hp)
      have h1 : RepT w (okL base S.objs blk) S.objs blk p v := .of_repS (r2.2 i p v hp hv)
      have h2 : Rep w (okL base S'.objs blkG) p v := (h1.rep hpp).anyOk hokG
      exact h2.mono hgrew.1 (fun _ _ h => h) (fun b x _ h => hgrew.2.1 b x h)
    have hYok : YOk P none base prot2 V2 (know0 l0 (Yof ys I fun i O => ∃ O', J i O' ∧ O = flipG k O')) := by
      rintro S2 blk2 a2 w2 args vs K ⟨z, hz, R2⟩ hpt hargs ⟨i, hIi, hyi, hK, hKf⟩
      rw [hV2] at hz
      have hz : z = z0 := by
        rcases hz with hz | hz
        · exact hz
        · exfalso
          refine ghost (R2.ext (.osl k 0, .bool false) ?_) (hIl i _ hIi).2.2.1
          rw [hz, hz1]; exact List.mem_cons_self
      subst hz
      have hzh : z.heap = W1.heap := by rw [hz0]
      have hzx : z.xs = (.osl (k + 1) 0, .bool false) :: pairs S'.tmps a.tmps := by rw [hz0]
      have hzn : z.nx = S'.objs.length := by rw [hz0]
      have hzo : z.out = w := by rw [hz0]
      have hL2 : w2.heap[l0]? = some (.loop (rec .ready none)) := (R2.fr l0 hpl0).trans (by rw [hzh]; exact hL1)
      have hlen : args.length = ps.length := hys args (List.mem_of_getElem? hyi)
      refine ⟨rec .ready none, hL2, by rw [hrec]; simp [← hargs.1, hlen], ?_⟩
      rw [show (know0 l0 (Yof ys I fun i O => ∃ O', J i O' ∧ O = flipG k O')).y = l0 from rfl]
      refine roundIn_of_wpIn trivial ?_
      have hlt2 : l0 < w2.heap.size := (Array.getElem?_eq_some_iff.1 hL2).1
      -- the round's surroundings
      obtain ⟨prot3, hprot3⟩ : ∃ prot3 : Nat → Prop, prot3 = fun b => b < w2.heap.size ∧ q0k S2.objs blk2 b := ⟨_, rfl⟩
      obtain ⟨xs3, hxs3⟩ : ∃ xs3, xs3 = z.xs ++ pairs S2.tmps a2.tmps := ⟨_, rfl⟩
      have h23 : ∀ b, prot2 b → prot3 b := by
        intro b hb
        rw [hprot3]
        exact ⟨Nat.lt_of_lt_of_le (R2.pr b hb) R2.gr, fun k o h1 h2 h3 => R2.objs.np k o b h1 h2 h3 hb⟩
      have hpb3 : ∀ b, ¬ prot3 b → base b := fun b hb => R2.pb b fun h => hb (h23 b h)
      have hnp3 : ∀ k o g, S2.objs[k]? = some o → o.live = true → blk2 k = some g → ¬ prot3 g := by
        intro k o g h1 h2 h3 h4
        rw [hprot3] at h4
        exact h4.2 k o h1 h2 h3
      have hext3 : ∀ x ∈ xs3, RepT w2 (okL base S2.objs blk2) S2.objs blk2 x.1 x.2 := by
        intro x hx
        rw [hxs3] at hx
        rcases List.mem_append.1 hx with hx | hx
        · exact R2.ext x hx
        · obtain ⟨t, h1, h2⟩ := q2t hx
          rw [← h2]
          exact R2.tm t x.1 h1
      have hexn3 : ∀ x ∈ xs3, x.1.lt S'.objs.length = true := by
        intro x hx
        rw [hxs3] at hx
        rcases List.mem_append.1 hx with hx | hx
        · rw [← hzn]; exact R2.exn x hx
        · obtain ⟨t, h1, _⟩ := q2t hx
          exact qlk (List.all_eq_true.1 hpt x.1 (List.mem_of_getElem? h1))
      obtain ⟨tm0, htm0⟩ : ∃ tm0, tm0 = (((rec .ready none).params.zip (⟨vs⟩ : Array Value)).foldl (fun t (p, v) => t.setIfInBounds p v) (rec .ready none).tmps) := ⟨_, rfl⟩
      rw [← htm0]
      have htm0' : tm0 = (ps.zip vs).foldl (fun t (p, v) => t.setIfInBounds p v) a.tmps := by
        rw [htm0, hrec]
        simp only []
        rw [← Array.foldl_toList]
        simp
      have hset := qcv (R := RepT w2 (okL base S2.objs blk2) S2.objs blk2) (fun v => .dead v) ps args vs S'.tmps a.tmps hargs.1 RG.tsz
        (fun t p hp => R2.ext (p, a.tmps.getD t undef) (by rw [hzx]; exact List.mem_cons_of_mem _ (q3d RG.tsz hp))) (fun i p v h1 h2 => .of_rep (hargs.2 i p v h1 h2))
      have Rr : Rel base prot3 ⟨w2.heap, xs3, S'.objs.length, w⟩ ⟨setL ps args S.tmps, S2.objs⟩ blk2 { tmps := tm0, defers := [] } w2 := by
        refine ⟨.nil _ _, by rw [htm0', ← hSt]; exact hset.1, fun t p hp => by rw [← hSt] at hp; rw [htm0']; exact hset.2 t p hp, ⟨R2.objs.ob, R2.objs.dis, hnp3⟩, fun b hb => by rw [hprot3] at hb; exact hb.1, fun _ _ => rfl, Nat.le_refl _, hpb3, hext3, hexn3, by rw [← hzo]; exact R2.sm, ⟨R2.globOk, fun b hb => h23 b (hgb2 b hb)⟩⟩
      have hround' := hround i args S2.objs hIi hyi l0 base prot3 (fun z => z = ⟨w2.heap, xs3, S'.objs.length, w⟩) (by rintro z rfl; rw [← hGl]; exact Nat.le_refl _) blk2 _ w2 ⟨_, rfl, Rr⟩
      rw [show (rec .ready none).assign = x by rw [hrec], show (rec .ready none).body = y by rw [hrec]]
      change x.wpIn (fen (some l0)) 0 P _ _ _
      refine wpIn_mono hround' ?_
      rintro e a3 w3 ⟨S3, blk3, he, zz, rfl, R3⟩
      cases e with
      | normal =>
        have hp3 : prot3 l0 := h23 l0 hpl0
        have hL3 : w3.heap[l0]? = some (.loop (rec .ready none)) := (R3.fr l0 hp3).trans hL2
        refine ⟨_, run_beginRound hL3 (by rw [hrec]), ?_⟩
        have hbusy : ({ rec .ready none with state := .busy } : Loop) = rec .busy none := by rw [hrec]
        rw [hbusy]
        obtain ⟨w4, hw4⟩ : ∃ w4, w4 = w3.putObj l0 (.loop (rec .busy none)) := ⟨_, rfl⟩
        rw [← hw4]
        have hnc : ∀ st pe, ¬ q1y (.loop (rec st pe)) := by rintro st pe (⟨c, t, y, h⟩ | ⟨es, n, h⟩) <;> cases h
        have hcl4 : ∀ (k : Nat) x, w3.heap[k]? = some x → q1y x → w4.heap[k]? = some x := by rw [hw4]; exact q1u hL3 (hnc _ _)
        have hs4 : w4.heap.size = w3.heap.size := by rw [hw4]; exact World.putObj_size
        have ho4 : ∀ k : Nat, k ≠ l0 → w4.heap[k]? = w3.heap[k]? := fun k hk => by rw [hw4]; exact World.putObj_heap_other hk
        have hl34 : l0 < w3.heap.size := (Array.getElem?_eq_some_iff.1 hL3).1
        have hL4 : w4.heap[l0]? = some (.loop (rec .busy none)) := by rw [hw4]; exact World.putObj_heap_same hl34
        have hpr3 : ∀ b, prot3 b → b < w2.heap.size := fun b hb => by rw [hprot3] at hb; exact hb.1
        have h23s : w2.heap.size ≤ w3.heap.size := R3.gr
        have R4 : Rel base prot3 ⟨w4.heap, xs3, S'.objs.length, w⟩ S3 blk3 a3 w4 := by
          refine ⟨?_, R3.tsz, fun t p hp => q1a (R3.tm t p hp) (Nat.le_of_eq hs4.symm) hcl4, R3.objs.cells (Nat.le_of_eq hs4.symm) hcl4 R3.objs.np, fun b hb => ?_, fun _ _ => rfl, Nat.le_refl _, hpb3, fun x hx => q1a (R3.ext x hx) (Nat.le_of_eq hs4.symm) hcl4, R3.exn, R3.sm.trans (by rw [hw4]; exact ⟨rfl, rfl⟩), ⟨glob.keep (fun b hb => ho4 b (by have := hgb0 b hb; omega)) R3.globOk, fun b hb => h23 b (hgb2 b hb)⟩⟩
          · obtain ⟨Ds, h1, h2, h3⟩ := R3.nodef
            refine ⟨Ds, h1, h2, fun b hb => ?_⟩
            rw [ho4 b (fun e => (h3 b hb).2.2 (e ▸ hp3))]
            exact h3 b hb
          · have := hpr3 b hb; show b < w4.heap.size; omega
        have hbody := he base prot3 (fun z => z = ⟨w4.heap, xs3, S'.objs.length, w⟩) (by rintro z rfl; rw [← hGl]; exact Nat.le_refl _) blk3 a3 w4 ⟨_, rfl, R4⟩
        refine wpIn_mono hbody ?_
        rintro e a5 w5 ⟨S5, blk5, he5, zz, rfl, R5⟩
        have leave : qeh e = some lc → J i (S5.norm [] fz).objs → ∃ v w', (Instr.endRound l0 (some lc)).run P w5 = .ok v w' ∧ (∃ b objs' blk', Ending.returned v = .returned (.bool b) ∧ K b objs' ∧ RelV base prot2 V2 ⟨S2.tmps, objs'⟩ blk' a2 w') := by
          intro _ hJ
          have hL5 : w5.heap[l0]? = some (.loop (rec .busy none)) := (R5.fr l0 hp3).trans hL4
          refine ⟨_, _, run_endRound (some lc) hL5, ?_⟩
          have hdone : ({ rec .busy none with state := if (some lc : Option Code).isNone then .ready else .done, pending := some lc } : Loop) = rec .done (some lc) := by rw [hrec]; rfl
          rw [hdone]
          obtain ⟨w6, hw6⟩ : ∃ w6, w6 = w5.putObj l0 (.loop (rec .done (some lc))) := ⟨_, rfl⟩
          rw [← hw6]
          obtain ⟨blk6, R6⟩ := Weak.norm (m := S'.objs.length) [] fz (by rw [hGl]; exact hfz) S5 base prot3 _ blk5 a5 w5 (Nat.le_refl _) R5
          have hcl6 : ∀ (k : Nat) x, w5.heap[k]? = some x → q1y x → w6.heap[k]? = some x := by rw [hw6]; exact q1u hL5 (hnc _ _)
          have hs6 : w6.heap.size = w5.heap.size := by rw [hw6]; exact World.putObj_size
          have ho6 : ∀ k : Nat, k ≠ l0 → w6.heap[k]? = w5.heap[k]? := fun k hk => by rw [hw6]; exact World.putObj_heap_other hk
          have hl5 : l0 < w5.heap.size := (Array.getElem?_eq_some_iff.1 hL5).1
          have h45s : w4.heap.size ≤ w5.heap.size := R5.gr
          have hl1 : l0 < W1.heap.size := (Array.getElem?_eq_some_iff.1 hL1).1
          have hall : ∀ b, prot3 b → b ≠ l0 → w6.heap[b]? = w2.heap[b]? := by
            intro b hb hbl
            rw [ho6 b hbl, R5.fr b hb]
            show w4.heap[b]? = _
            rw [ho4 b hbl]
            exact R3.fr b hb
          obtain ⟨⟨gl, _, gA, gB⟩, gN⟩ := hJl i _ hJ
          have hk1 : k + 1 < (S5.norm [] fz).objs.length := by omega
          have hokF : ∀ b, okL base (S5.norm [] fz).objs blk6 b → okL base (flipG k (S5.norm [] fz).objs) (flipB k blk6) b := fun b h => ⟨h.1, q5e hk1 h.2⟩
          have hnl6 : ∀ b, prot3 b → q0k (flipG k (S5.norm [] fz).objs) (flipB k blk6) b := fun b hb => q5e hk1 fun k o h1 h2 h3 => R6.objs.np k o b h1 h2 h3 hb
          have hx3a : ∀ x ∈ pairs S'.tmps a.tmps, x ∈ xs3 := fun x hx => by rw [hxs3, hzx]; exact List.mem_append_left _ (List.mem_cons_of_mem _ hx)
          have hx3b : ∀ x ∈ pairs S2.tmps a2.tmps, x ∈ xs3 := fun x hx => by rw [hxs3]; exact List.mem_append_right _ hx
          have hob : ObjsRel base prot2 (S5.norm [] fz).objs blk6 w6 := R6.objs.cells (Nat.le_of_eq hs6.symm) hcl6 (fun k o g h1 h2 h3 h4 => R6.objs.np k o g h1 h2 h3 (h23 g h4))
          refine ⟨false, flipG k (S5.norm [] fz).objs, flipB k blk6, rfl, hKf _ ⟨_, hJ, rfl⟩, z1, by rw [hV2]; exact .inr rfl, ?_⟩
          refine ⟨?_, R2.tsz, fun t p hp => ?_, qlm hob hk1 gN gA, fun b hb => ?_, fun b hb => ?_, ?_, R2.pb, fun x hx => ?_, fun x hx => ?_, ?_, by rw [hz1]; exact ⟨glob.keep (fun b hb => World.putObj_heap_other (by have := hgb0 b hb; omega)) hR1.globOk, hgb2⟩⟩
          · obtain ⟨Ds, h1, h2, h3⟩ := R2.nodef
            refine ⟨Ds, h1, h2, fun b hb => ?_⟩
            obtain ⟨q1, q2, q3⟩ := h3 b hb
            have hb3 : prot3 b := by rw [hprot3]; exact ⟨(Array.getElem?_eq_some_iff.1 q1).1, q2.2⟩
            exact ⟨by rw [hall b hb3 (fun e => q3 (e ▸ hpl0))]; exact q1, ⟨q2.1, hnl6 b hb3⟩, q3⟩
          · have hpp : p.pure = true := List.all_eq_true.1 hpt p (List.mem_of_getElem? hp)
            have h1 := q1a (R6.ext (p, a2.tmps.getD t undef) (hx3b _ (q3d R2.tsz hp))) (Nat.le_of_eq hs6.symm) hcl6
            exact .of_rep ((h1.rep hpp).anyOk fun b _ hb => hokF b hb)
          · rw [hprot2] at hb; rw [hz1]; show b < (W1.putObj l0 _).heap.size; rw [World.putObj_size]; exact hb.1
          · rw [hz1]
            show w6.heap[b]? = (W1.putObj l0 (.loop (rec .done (some lc)))).heap[b]?
            by_cases hbl : b = l0
            · subst hbl
              rw [hw6, World.putObj_heap_same hl5, World.putObj_heap_same hl1]
            · rw [hall b (h23 b hb) hbl, World.putObj_heap_other hbl, R2.fr b hb, hzh]
          · rw [hz1]
            show (W1.putObj l0 _).heap.size ≤ w6.heap.size
            rw [World.putObj_size]
            have := R2.gr
            rw [hzh] at this
            omega
          · rw [hz1] at hx
            rcases List.mem_cons.1 hx with rfl | hx
            · exact haunt (qcw hk1)
            · have h1 := q1a (R6.ext x (hx3a x hx)) (Nat.le_of_eq hs6.symm) hcl6
              obtain ⟨t, ht, _⟩ := q2t hx
              exact qll (hlt0 t x.1 (by rw [← hSt]; exact ht)) hokF h1
          · rw [hz1] at hx ⊢
            show x.1.lt S'.objs.length = true
            rcases List.mem_cons.1 hx with rfl | hx
            · simp [PV.lt, PV.ltS, hGl]
            · obtain ⟨t, ht, _⟩ := q2t hx
              exact qlf (by rw [hGl]; omega) (hlt0 t x.1 (by rw [← hSt]; exact ht))
          · rw [hz1]; exact R6.sm.trans (by rw [hw6]; exact ⟨rfl, rfl⟩)
        cases e with
        | normal =>
          have hL5 : w5.heap[l0]? = some (.loop (rec .busy none)) := (R5.fr l0 hp3).trans hL4
          refine ⟨_, _, run_endRound none hL5, ?_⟩
          have hready : ({ rec .busy none with state := if (none : Option Code).isNone then .ready else .done, pending := none } : Loop) = rec .ready none := by rw [hrec]; rfl
          rw [hready]
          obtain ⟨w6, hw6⟩ : ∃ w6, w6 = w5.putObj l0 (.loop (rec .ready none)) := ⟨_, rfl⟩
          rw [← hw6]
          obtain ⟨blk6, R6⟩ := Weak.norm (m := S'.objs.length) [] fz (by rw [hGl]; exact hfz) S5 base prot3 _ blk5 a5 w5 (Nat.le_refl _) R5
          have hcl6 : ∀ (k : Nat) x, w5.heap[k]? = some x → q1y x → w6.heap[k]? = some x := by rw [hw6]; exact q1u hL5 (hnc _ _)
          have hs6 : w6.heap.size = w5.heap.size := by rw [hw6]; exact World.putObj_size
          have ho6 : ∀ k : Nat, k ≠ l0 → w6.heap[k]? = w5.heap[k]? := fun k hk => by rw [hw6]; exact World.putObj_heap_other hk
          have hl5 : l0 < w5.heap.size := (Array.getElem?_eq_some_iff.1 hL5).1
          have h45s : w4.heap.size ≤ w5.heap.size := R5.gr
          have hall : ∀ b, prot3 b → w6.heap[b]? = w2.heap[b]? := by
            intro b hb
            by_cases hbl : b = l0
            · subst hbl
              rw [hL2, hw6, World.putObj_heap_same hl5]
            · rw [ho6 b hbl, R5.fr b hb]
              show w4.heap[b]? = _
              rw [ho4 b hbl]
              exact R3.fr b hb
          have hnl6 : ∀ b, prot3 b → q0k (S5.norm [] fz).objs blk6 b := fun b hb k o h1 h2 h3 => R6.objs.np k o b h1 h2 h3 hb
          refine ⟨true, (S5.norm [] fz).objs, blk6, rfl, hK _ he5, z, by rw [hV2]; exact .inl rfl, ?_⟩
          have hx3a : ∀ x ∈ z.xs, x ∈ xs3 := fun x hx => by rw [hxs3]; exact List.mem_append_left _ hx
          have hx3b : ∀ x ∈ pairs S2.tmps a2.tmps, x ∈ xs3 := fun x hx => by rw [hxs3]; exact List.mem_append_right _ hx
          refine ⟨?_, R2.tsz, fun t p hp => ?_, R6.objs.cells (Nat.le_of_eq hs6.symm) hcl6 (fun k o g h1 h2 h3 h4 => R6.objs.np k o g h1 h2 h3 (h23 g h4)), R2.pr, fun b hb => ?_, ?_, R2.pb, fun x hx => q1a (R6.ext x (hx3a x hx)) (Nat.le_of_eq hs6.symm) hcl6, R2.exn, by rw [hzo]; exact R6.sm.trans (by rw [hw6]; exact ⟨rfl, rfl⟩), R2.gl⟩
          · obtain ⟨Ds, h1, h2, h3⟩ := R2.nodef
            refine ⟨Ds, h1, h2, fun b hb => ?_⟩
            obtain ⟨q1, q2, q3⟩ := h3 b hb
            have hb3 : prot3 b := by rw [hprot3]; exact ⟨(Array.getElem?_eq_some_iff.1 q1).1, q2.2⟩
            exact ⟨by rw [hall b hb3]; exact q1, ⟨q2.1, hnl6 b hb3⟩, q3⟩
          · exact q1a (R6.ext (p, a2.tmps.getD t undef) (hx3b _ (q3d R2.tsz hp))) (Nat.le_of_eq hs6.symm) hcl6
          · rw [hall b (h23 b hb)]; exact R2.fr b hb
          · have := R2.gr; rw [hzh] at this ⊢; omega
        | ret =>
          obtain ⟨rfl, hJ⟩ := he5
          cases hlv
          exact leave rfl hJ
        | exit id =>
          obtain ⟨rfl, hJ⟩ := he5
          cases hlv
          exact leave rfl hJ
        | _ =>
          obtain ⟨rfl, hJ⟩ := he5
          cases hlv
      | _ => exact he.elim
    refine Calls.mono (hgive I (fun i O => ∃ O', J i O' ∧ O = flipG k O') base prot2 V2 l0 S'.objs blkG W1 vc hYok (fun z hz => by
      rw [hV2] at hz
      rcases hz with rfl | rfl
      · rw [hz0]; exact Nat.le_refl _
      · rw [hz1]; exact Nat.le_refl _) ⟨_, by rw [hV2]; exact .inl rfl, hRel⟩ hI0 (fun i O h => ⟨by rw [hGl]; exact (hIl i O h).1, (hIl i O h).2.1⟩) (fun i O h => by
      obtain ⟨O', h, rfl⟩ := h
      obtain ⟨⟨q1, q2, _, _⟩, q5⟩ := hJl i O' h
      refine ⟨by rw [qej, hGl]; exact q1, fun o ho x hx c hc => ?_⟩
      obtain ⟨j, hj⟩ := List.mem_iff_getElem?.1 ho
      rw [qej]
      have hno : o.xs = [] ∨ o ∈ O' := by
        by_cases e2 : j = k + 1
        · subst e2; rw [qg5 (by omega)] at hj; cases hj; exact .inl rfl
        · by_cases e1 : j = k
          · subst e1; rw [qcw (by omega)] at hj; cases hj; exact .inl rfl
          · rw [q4e e1 e2] at hj; exact .inr (List.mem_of_getElem? hj)
      rcases hno with h0 | h0
      · rw [h0] at hx; cases hx
      · exact q2 o h0 x hx c hc) hcapR) ?_
    rintro e w3 ⟨objs', blk', rfl, hIJ, z, hz, R3⟩
    rw [hV2] at hz
    -- both ways out
    have fin : ∀ (hp : Array Go.Obj) (st : LoopState) (pe : Option Code) (e' : Exit), z.heap = hp → (∀ b, b ≠ l0 → hp[b]? = W1.heap[b]?) → hp[l0]? = some (.loop (rec st pe)) → st ≠ .busy → hp.size = W1.heap.size → z.out = w → (∀ x ∈ pairs S'.tmps a.tmps, x ∈ z.xs) →
        (∀ Q' : Exit → Act → World → Prop, ∀ aa ww, Q' e' aa ww → (match pe with | none => Q' .normal aa ww | some c => c.wpIn (fen none) 0 P Q' aa ww)) →
        ((e' = .normal ∧ I ys.length objs') ∨ (e' = lv ∧ ∃ i O, i < ys.length ∧ J i O ∧ objs' = flipG k O)) →
        ∃ jump w4, (Instr.endLoop l0).run P w3 = .ok jump w4 ∧ (match jump with
          | none => (fun e a' w' => ∃ objs' blk', ((e = .normal ∧ I ys.length objs') ∨ (e = lv ∧ ∃ i O, i < ys.length ∧ J i O ∧ objs' = flipG k O)) ∧ Rel base prot w0 ⟨S.tmps, objs'⟩ blk' a' w') .normal { a with defers := [{ target := .collected w.heap.size, args := #[] }] ++ a.defers } w4
          | some c => c.wpIn (fen none) 0 P (fun e a' w' => ∃ objs' blk', ((e = .normal ∧ I ys.length objs') ∨ (e = lv ∧ ∃ i O, i < ys.length ∧ J i O ∧ objs' = flipG k O)) ∧ Rel base prot w0 ⟨S.tmps, objs'⟩ blk' a' w') { a with defers := [{ target := .collected w.heap.size, args := #[] }] ++ a.defers } w4) := by
      intro hp st pe e' hzh hoth hrecl hst hsize hzo hzx hcode hend
      have hL3 : w3.heap[l0]? = some (.loop (rec st pe)) := (R3.fr l0 hpl0).trans (by rw [hzh]; exact hrecl)
      have hD3 : w3.heap[w.heap.size]? = some (.deferred (some [])) := (R3.fr _ hpD).trans (by rw [hzh, hoth _ (by omega)]; exact hK1)
      have hnc : ¬ q1y (.loop (rec st pe)) := by rintro (⟨c, t, y, h⟩ | ⟨es, n, h⟩) <;> cases h
      have hendl := run_endLoop (P := P) hL3 (by rw [hrec]; exact hst)
      refine ⟨pe, w3.putObj l0 (.loop { rec st pe with state := .exhausted }), by rw [hendl, hrec], ?_⟩
      have hcl := q1u (o' := .loop { rec st pe with state := .exhausted }) hL3 hnc
      have hsz : (w3.putObj l0 (.loop { rec st pe with state := .exhausted })).heap.size = w3.heap.size := World.putObj_size
      have hle : w.heap.size ≤ w3.heap.size := by have := R3.gr; rw [hzh, hsize] at this; omega
      have hother : ∀ k : Nat, k ≠ l0 → (w3.putObj l0 (.loop { rec st pe with state := .exhausted })).heap[k]? = w3.heap[k]? := fun k hk => World.putObj_heap_other hk
      have hkeep : ∀ b, b < w.heap.size → q0k S'.objs blkG b → q0k objs' blk' b := by
        intro b hb hnb k o h1 h2 h3
        refine R3.objs.np k o b h1 h2 h3 ?_
        rw [hprot2]; exact ⟨by omega, hnb⟩
      have hsame : ∀ b, b < w.heap.size → q0k S'.objs blkG b → (w3.putObj l0 (.loop { rec st pe with state := .exhausted })).heap[b]? = w.heap[b]? := by
        intro b hb hnb
        rw [hother b (by omega), R3.fr b (by rw [hprot2]; exact ⟨by omega, hnb⟩), hzh, hoth b (by omega)]
        have hbx : w.heap[b]? = some (w.heap[b]) := Array.getElem?_eq_getElem hb
        rw [hgrew.2.1 b _ hbx, hbx]
      have hpn : ∀ b, prot b → b < w.heap.size ∧ q0k S'.objs blkG b := fun b hb => ⟨Nat.lt_of_lt_of_le (RG.pr b hb) RG.gr, fun k o h1 h2 h3 => RG.objs.np k o b h1 h2 h3 hb⟩
      have hnpn : ∀ k o g, objs'[k]? = some o → o.live = true → blk' k = some g → ¬ prot g := fun k o g h1 h2 h3 h4 => hkeep g (hpn g h4).1 (hpn g h4).2 k o h1 h2 h3
      refine hcode (fun e a' w' => ∃ objs' blk', ((e = .normal ∧ I ys.length objs') ∨ (e = lv ∧ ∃ i O, i < ys.length ∧ J i O ∧ objs' = flipG k O)) ∧ Rel base prot w0 ⟨S.tmps, objs'⟩ blk' a' w') _ _ ⟨objs', blk', hend, ?_, R.tsz, fun t p hp => ?_, R3.objs.cells (Nat.le_of_eq hsz.symm) hcl hnpn, R.pr, fun b hb => ?_, Nat.le_trans R.gr (by rw [hsz]; exact hle), R.pb, (by rw [hx]; intro x h; simp at h), R.exn, (R.sm.trans (by rw [← hzo]; exact R3.sm)).trans ⟨rfl, rfl⟩, R.gl⟩
      · obtain ⟨Ds, h1, h2, h3⟩ := RG.nodef
        refine ⟨w.heap.size :: Ds, by simp [h1], List.nodup_cons.2 ⟨fun hm => ?_, h2⟩, fun b hb => ?_⟩
        · have := (Array.getElem?_eq_some_iff.1 (h3 _ hm).1).1; omega
        · rcases List.mem_cons.1 hb with rfl | hb
          · refine ⟨by rw [hother _ (by omega)]; exact hD3, ⟨RG.bs _ RG.gr, fun k o h1 h2 h3 => R3.objs.np k o _ h1 h2 h3 hpD⟩, fun hp => by have := (hpn _ hp).1; omega⟩
          · obtain ⟨q1, q2, q3⟩ := h3 b hb
            have hbs := (Array.getElem?_eq_some_iff.1 q1).1
            exact ⟨by rw [hsame b hbs q2.2]; exact q1, ⟨q2.1, hkeep b hbs q2.2⟩, q3⟩
      · exact q1a (R3.ext (p, a.tmps.getD t undef) (hzx _ (q3d RG.tsz (by rw [hSt]; exact hp)))) (Nat.le_of_eq hsz.symm) hcl
      · rw [hsame b (hpn b hb).1 (hpn b hb).2]; exact R.fr b hb
    rcases hz with rfl | rfl
    · have hI : I ys.length objs' := by
        refine hIJ.resolve_right fun ⟨i, _, O, hJ, e⟩ => ?_
        refine ghost (R3.ext (.osl (k + 1) 0, .bool false) (by rw [hz0]; exact List.mem_cons_self)) ?_
        rw [e]; exact qg5 (by have := (hJl i O hJ).1.1; omega)
      exact fin W1.heap .ready none .normal (by rw [hz0]) (fun _ _ => rfl) hL1 (by simp) rfl (by rw [hz0]) (fun x hx => by rw [hz0]; exact List.mem_cons_of_mem _ hx) (fun Q' aa ww h => h) (.inl ⟨rfl, hI⟩)
    · have hJ : ∃ i O, i < ys.length ∧ J i O ∧ objs' = flipG k O := by
        rcases hIJ with h | ⟨i, hi, O, hJ, e⟩
        · exact (ghost (R3.ext (.osl k 0, .bool false) (by rw [hz1]; exact List.mem_cons_self)) (hIl _ _ h).2.2.1).elim
        · exact ⟨i, O, hi, hJ, e⟩
      have hl1 : l0 < W1.heap.size := (Array.getElem?_eq_some_iff.1 hL1).1
      refine fin (W1.putObj l0 (.loop (rec .done (some lc)))).heap .done (some lc) lv (by rw [hz1]) (fun b hb => World.putObj_heap_other hb) (World.putObj_heap_same hl1) (by simp) World.putObj_size (by rw [hz1]) (fun x hx => by rw [hz1]; exact List.mem_cons_of_mem _ hx) (fun Q' aa ww h => ?_) (.inr ⟨rfl, hJ⟩)
      cases lv <;> simp only [qeh, Option.some.injEq, reduceCtorEq] at hlv
      · subst hlv; exact wpIn_exit h
      · subst hlv; exact wpIn_ret h
end
structure KOk (P : Program) (l : Option Nat) (E : Env) (T : Know) : Prop where
  fn : TabOk P T.fn
  y : ∀ base prot V, E base prot V → YOk P l base prot V T
  nx : ∀ base prot V, E base prot V → ∀ w0, V w0 → w0.nx ≤ T.nx
  top : T.top = true → l = none ∧ ∀ base prot V, E base prot V → ∀ w0, V w0 → w0.xs = []
  gives : ∀ g cap ys, T.gives g cap ys → Gives P g cap ys
theorem KOk.inner {E : Env} (h : KOk P l E T) (n l0 : Nat) : KOk P (some l0) (E0 n) (T.inner n) :=
  ⟨h.fn, fun _ _ _ _ => YOk.inner, fun _ _ _ hE w0 hw => hE w0 hw, (fun h => by cases h), h.gives⟩
theorem q77 (hD : ∀ t, TOk P t (D t)) (hm : P.follows .mixedOrders = true) : ∀ (C : LC) (T : Know) (l : Option Nat) (E : Env) (c : Code) (Q : Exit → St → Prop) (S : St), KOk P l E T → strip C = comp c → wpc P D T C Q S → PW P l E c Q S := by
  intro C
  induction C with
  | skip =>
    intro T l E c Q S hk he h
    cases c <;> simp only [comp, strip] at he <;> first | (cases he; done) | skip
    · exact .skip h
    · rename_i d; cases d <;> simp only [comp] at he <;> first | (cases he; done) | (cases hs : q1i _ _ <;> rw [hs] at he <;> cases he)
  | ret =>
    intro T l E c Q S hk he h
    cases c <;> simp only [comp, strip] at he <;> first | (cases he; done) | skip
    · rename_i d; cases d <;> simp only [comp] at he <;> first | (cases he; done) | (cases hs : q1i _ _ <;> rw [hs] at he <;> cases he)
    · exact .ret h
  | bad => intro T l E c Q S hk he h; exact h.elim
  | exit id =>
    intro T l E c Q S hk he h
    cases c <;> simp only [comp, strip] at he <;> first | (cases he; done) | skip
    · rename_i d; cases d <;> simp only [comp] at he <;> first | (cases he; done) | (cases hs : q1i _ _ <;> rw [hs] at he <;> cases he)
    · cases he; exact .exit h
  | weak x ihx =>
    intro T l E c Q S hk he h
    obtain ⟨S', hw, h⟩ := h
    exact .weak hk.nx hw (ihx _ _ _ _ _ _ hk he h)
  | reg ss =>
    intro T l E c Q S hk he h
    cases c <;> simp only [comp, strip] at he <;> first | (cases he; done) | skip
    rename_i id ops d
    cases d <;> simp only [comp] at he
    · simp only [LC.reg.injEq] at he
      have ht : ops = ops.toList.toArray := by simp
      intro base prot V hE blk a w R
      refine wpIn_region ?_
      have := qcs (Qm := fun e a' w' => ∃ S' blk', Q e S' ∧ RelV base prot V S' blk' a' w') hD hk.fn (hk.y base prot V hE) ops.toList ss 0 S [] _ blk a w he (fun j => by simp) h R (fun S' ts' blk' a' w' hK R' => ⟨S', blk', hK, R'⟩)
      rw [List.range_eq_range']
      simpa using this
    · cases hs : q1i _ _ <;> rw [hs] at he <;> cases he
  | draw ss un =>
    intro T l E c Q S hk he h
    cases c <;> simp only [comp, strip] at he <;> first | (cases he; done) | skip
    rename_i id ops d
    cases d <;> simp only [comp] at he
    · cases he
    · cases hs : q1i ops.toList (masks ops.toList []) <;> rw [hs] at he
      · cases he
      · simp only [cond_true, LC.draw.injEq] at he
        obtain ⟨he, rfl⟩ := he
        have : ops = ops.toList.toArray := by simp
        rw [this]
        refine PW.drawB (fun i => ((ss[i]?).map (·.own)).getD false) hD hm (q7z (fun S' ts hh => ?_) _ _ _ _ (q6o hk.fn ops.toList ss 0 S [] _ he (fun j s hs => by simp [hs]) h))
        exact ⟨qli hs hh.1, hh.2⟩
  | seq x y ihx ihy =>
    intro T l E c Q S hk he h
    cases c <;> simp only [comp, strip] at he <;> first | (cases he; done) | skip
    · rename_i d; cases d <;> simp only [comp] at he <;> first | (cases he; done) | (cases hs : q1i _ _ <;> rw [hs] at he <;> cases he)
    · simp only [LC.seq.injEq] at he
      exact .seq ((ihx _ _ _ _ _ _ hk he.1 h).mono (q5v fun S' h' => ihy _ _ _ _ _ _ hk he.2 h'))
  | cond o x y ihx ihy =>
    intro T l E c Q S hk he h
    cases c <;> simp only [comp, strip] at he <;> first | (cases he; done) | skip
    · rename_i d; cases d <;> simp only [comp] at he <;> first | (cases he; done) | (cases hs : q1i _ _ <;> rw [hs] at he <;> cases he)
    · simp only [LC.cond.injEq] at he
      obtain ⟨rfl, h1, h2⟩ := he
      refine .cond ?_
      unfold wpc condR at h
      unfold condR
      split at h
      · exact ⟨fun hb => ihx _ _ _ _ _ _ hk h1 (h.1 hb), fun hb => ihy _ _ _ _ _ _ hk h2 (h.2 hb)⟩
      · exact h.elim
  | block id x ihx =>
    intro T l E c Q S hk he h
    cases c <;> simp only [comp, strip] at he <;> first | (cases he; done) | skip
    · rename_i d; cases d <;> simp only [comp] at he <;> first | (cases he; done) | (cases hs : q1i _ _ <;> rw [hs] at he <;> cases he)
    · simp only [LC.block.injEq] at he
      obtain ⟨rfl, h1⟩ := he
      exact .block (ihx _ _ _ _ _ _ hk h1 h)
  | loop ks fz x ihx =>
    intro T l E c Q S hk he h
    cases c <;> simp only [comp, strip] at he <;> first | (cases he; done) | skip
    · rename_i d; cases d <;> simp only [comp] at he <;> first | (cases he; done) | (cases hs : q1i _ _ <;> rw [hs] at he <;> cases he)
    · simp only [LC.loop.injEq, true_and] at he
      obtain ⟨hfz, I, ⟨S0, m, hw, hI⟩, hr⟩ := h
      refine .weak hk.nx hw ?_
      exact PW.loopI hk.nx I hI fun m S hS => (ihx _ _ _ _ _ _ hk he (hr m S hS)).mono (q5v fun S' ⟨m', h1, h2⟩ => ⟨S'.norm ks fz, m', Weak.norm ks fz hfz S', h2, h1⟩)
  | rf f ps fz x y ihx ihy =>
    intro T l E c Q S hk he h
    cases c <;> simp only [comp, strip] at he <;> first | (cases he; done) | skip
    · rename_i d; cases d <;> simp only [comp] at he <;> first | (cases he; done) | (cases hs : q1i _ _ <;> rw [hs] at he <;> cases he)
    · rename_i f' ps' x' y'
      simp only [LC.rf.injEq, true_and] at he
      obtain ⟨rfl, rfl, h1, h2⟩ := he
      obtain ⟨htop, g, cap, ys, hf, hcap, hg, hys, h⟩ := h
      obtain ⟨rfl, hxs⟩ := hk.top htop
      intro base prot V hE blk a w ⟨w0, hV, R⟩
      have hps : ps'.toList.toArray = ps' := by simp
      rcases h with ⟨I, hfz, hI0, hIl, hround, hend⟩ | ⟨I, J, lv, lc, hlv, hfz, hI0, hIl, hJl, hround, hend, hleave⟩
      · have := qnh (x := x') (y := y') (hk.gives g cap ys hg) hys hI0 hIl R (hxs base prot V hE w0 hV) hf hcap hfz fun i args objs hi hy l0 =>
          (ihx _ _ _ _ _ _ (hk.inner S.objs.length l0) h1 (hround i args objs hi hy)).mono (q5v fun S1 h' => ihy _ _ _ _ _ _ (hk.inner S.objs.length l0) h2 h')
        rw [hps] at this
        refine wpIn_mono this ?_
        rintro e a' w' ⟨objs', blk', rfl, hI, R'⟩
        exact ⟨_, blk', hend objs' hI, w0, hV, R'⟩
      · have := qln (x := x') (y := y') (hk.gives g cap ys hg) hys hlv hI0 hIl hJl R (hxs base prot V hE w0 hV) hf hcap hfz fun i args objs hi hy l0 =>
          (ihx _ _ _ _ _ _ (hk.inner (S.objs.length + 2) l0) h1 (hround i args objs hi hy)).mono (q5v fun S1 h' => ihy _ _ _ _ _ _ (hk.inner (S.objs.length + 2) l0) h2 h')
        rw [hps] at this
        refine wpIn_mono this ?_
        rintro e a' w' ⟨objs', blk', h, R'⟩
        rcases h with ⟨rfl, hI⟩ | ⟨rfl, i, O, hi, hJ, rfl⟩
        · exact ⟨_, blk', hend objs' hI, w0, hV, R'⟩
        · exact ⟨_, blk', hleave i O hi hJ, w0, hV, R'⟩
end Lp

/-! LpQ -/

namespace Lp
open Go
variable {P : Program} {D : TypeId → TInfo} {T : Know}
def outL (D : TypeId → TInfo) (S : St) : List ResultVar → (List PV → Prop) → Prop
  | [], K => K []
  | .tmp t :: rs, K => outL D S rs fun ps => K (S.tmps.getD t .dead :: ps)
  | .cell a t :: rs, K => loadR (D t) (S.tmps.getD a .dead) S.objs fun p _ _ => outL D S rs fun ps => K (p :: ps)
def onePV : List PV → PV
  | [p] => p
  | ps => .tup ps
def retQ (D : TypeId → TInfo) (d : Nat) (rs : List ResultVar) (r : PV) (e : Exit) (S : St) : Prop :=
  (e = .normal ∨ e = .ret) ∧ outL D S rs fun ps => r = onePV (ps.map (frzT d 0 S.objs))
def retM (d : Nat) (t : Nat) (o' : Obj) (e : Exit) (S : St) : Prop :=
  (e = .normal ∨ e = .ret) ∧ ∃ S' k ver o, Weak 0 S S' ∧ S'.tmps.getD t .dead = .osl k ver ∧ S'.objs[k]? = some o ∧ o.live = true ∧ o.ver = ver ∧ { frzO d (k + 1) S'.objs o with ver := 0 } = o' ∧ NoRefs [o']
section
variable {base prot : Nat → Prop} {w0 : Wz} {S : St} {blk : Nat → Option Nat} {a : Act} {w : World}
theorem q78 {ok : Nat → Prop} {p : PV} {v : Value} (h : RepT w ok [] blk p v) : Rep w ok p v := by
  have hS : ∀ (p : PV) (v : Value), RepS w ok [] blk p v → Rep w ok p v := by
    intro p v h
    cases p <;> first | exact h | (obtain ⟨_, o, ho, _⟩ := h; simp at ho)
  cases p
  case fn f x c => obtain ⟨va, vc, rfl, h1, h2⟩ := h; exact .fn _ _ _ va vc h1.1 h2.1 (fun i p v a b => hS _ _ (h1.2 i p v a b)) (fun i p v a b => hS _ _ (h2.2 i p v a b))
  case tup cs => obtain ⟨vs, rfl, h1⟩ := h; exact .tup _ vs h1.1 (fun i p v a b => hS _ _ (h1.2 i p v a b))
  case agg cs => obtain ⟨vs, rfl, h1⟩ := h; exact .agg _ vs h1.1 (fun i p v a b => hS _ _ (h1.2 i p v a b))
  all_goals exact hS _ _ h
theorem qp2 (S : St) (d : Nat) : (S.freeze d 0).objs = [] := by simp [St.freeze]
theorem frz0 (R : Rel base prot w0 S blk a w) (d : Nat) (p : PV) (v : Value) (h : RepT w (okL base S.objs blk) S.objs blk p v) : Rep w base (frzT d 0 S.objs p) v := by
  have := qco R d 0 p v h
  rw [qp2] at this
  exact (q78 this).anyOk fun b _ h => h.1
theorem qlo (hD : ∀ t, TOk P t (D t)) (R : Rel base prot w0 S blk a w) {t x : Nat} {K : KT} (h : loadR (D t) (S.tmps.getD x .dead) S.objs K) :
    ∃ p ad v τ, a.tmps.getD x undef = .pointer (some ad) ∧ (loadVar t ad).run P w = .ok v w ∧ K p S.objs τ ∧ RepT w (okL base S.objs blk) S.objs blk p v := by
  have hx := R.ev (.tmp x)
  change RepT w (okL base S.objs blk) S.objs blk (S.tmps.getD x .dead) (a.tmps.getD x undef) at hx
  unfold loadR at h
  split at h
  · rename_i p e
    rw [e] at hx
    obtain ⟨hk, h1, h2, h3⟩ := h
    have hx' := hx.addr
    generalize hv : a.tmps.getD x undef = v at hx'
    cases hx' with
    | addr _ b off vs hok hcell hrep =>
      obtain ⟨u, g1, g2⟩ := q2o (hD t) hk (At.rep vs hcell hrep) h1 h2
      exact ⟨_, _, _, _, rfl, g1, h3, q8d g2⟩
  · rename_i k ver i f e
    rw [e] at hx
    obtain ⟨ob, el, h1, h2, h3, h4, hk, h5, h6, h7, h8⟩ := h
    obtain ⟨g, hb, hv, hty⟩ := hx.optr h1 h2 h3
    obtain ⟨y1, y2⟩ := qkg R.objs h1 h2 h4 hb hty
    have hat : At (RepS w (okL base S.objs blk) S.objs blk) w g (i * ob.sz) (.agg el.cells) := y2
    have hs := At.sub hat f (D t).size (D t).agg h5 h6 (q48 h7)
    obtain ⟨c1, c2⟩ := qdz el.cells f _ _ h5 h6 h7
    obtain ⟨u, g1, g2⟩ := q2o (hD t) hk hs c1 c2
    exact ⟨_, _, _, _, hv, g1, h8, q6x g2⟩
  · exact h.elim
def res1 (tmps : Array Value) : ResultVar → Sem Value
  | .tmp t => pure (tmps.getD t undef)
  | .cell a t => do loadVar t (← asAddr (tmps.getD a undef))
def resL (tmps : Array Value) : List ResultVar → Sem (List Value)
  | [] => pure []
  | r :: rs => do
    let v ← res1 tmps r
    let vs ← resL tmps rs
    pure (v :: vs)
theorem qcx (hD : ∀ t, TOk P t (D t)) (R : Rel base prot w0 S blk a w) : ∀ (rs : List ResultVar) (K : List PV → Prop), outL D S rs K →
    ∃ vs ps, (resL a.tmps rs).run P w = .ok vs w ∧ K ps ∧ RepL (RepT w (okL base S.objs blk) S.objs blk) ps vs
  | [], K, h => ⟨[], [], rfl, h, rfl, fun _ _ _ h => by simp at h⟩
  | .tmp t :: rs, K, h => by
    obtain ⟨vs, ps, h1, h2, h3, h4⟩ := qcx hD R rs _ h
    refine ⟨a.tmps.getD t undef :: vs, S.tmps.getD t .dead :: ps, by simp [resL, res1, h1], h2, by simpa using h3, fun i p v hp hv => ?_⟩
    cases i with
    | zero =>
      simp only [List.getElem?_cons_zero, Option.some.injEq] at hp hv
      subst hp; subst hv; exact R.ev (.tmp t)
    | succ i => exact h4 i p v (by simpa using hp) (by simpa using hv)
  | .cell x t :: rs, K, h => by
    obtain ⟨p0, ad, v0, _, e1, e2, h, e3⟩ := qlo hD R h
    obtain ⟨vs, ps, h1, h2, h3, h4⟩ := qcx hD R rs _ h
    refine ⟨v0 :: vs, p0 :: ps, by simp [resL, res1, e1, e2, h1, asAddr], h2, by simpa using h3, fun i p v hp hv => ?_⟩
    cases i with
    | zero =>
      simp only [List.getElem?_cons_zero, Option.some.injEq] at hp hv
      subst hp; subst hv; exact e3
    | succ i => exact h4 i p v (by simpa using hp) (by simpa using hv)
def oneV : List Value → Value
  | [v] => v
  | vs => .tuple ⟨vs⟩
end
theorem q14 {α β : Type} {x : Sem α} {f : α → Sem β} {P : Program} {w w' : World} {b : β} (h : (x >>= f).run P w = .ok b w') : ∃ c w1, x.run P w = .ok c w1 ∧ (f c).run P w1 = .ok b w' := by
  rw [Sem.run_bind] at h
  cases hx : x.run P w with
  | ok c w1 => rw [hx] at h; exact ⟨c, w1, rfl, h⟩
  | halt o w1 => rw [hx] at h; cases h
theorem qg6 {fn : Func} {rs : List ResultVar} (h : fn.results = rs.toArray) (hl : rs.length ≤ 3) {tmps : Array Value} {vs : List Value} {P : Program} {w : World}
    (hr : (resL tmps rs).run P w = .ok vs w) : (results fn tmps).run P w = .ok (oneV vs) w := by
  have hf : results fn tmps = (fn.results.mapM (res1 tmps) >>= fun vs => pure (if h : vs.size = 1 then vs[0] else .tuple vs)) := by
    unfold results
    refine congrArg (fun f : ResultVar → Sem Value => (Array.mapM f fn.results >>= fun vs => pure (if h : vs.size = 1 then vs[0] else Value.tuple vs) : Sem Value)) ?_
    funext r
    cases r <;> rfl
  match rs, hl, h, hr with
  | [], _, h, hr =>
    simp only [resL, Sem.run_pure] at hr
    cases hr
    simp [results, h, oneV]
  | [r1], _, h, hr =>
    simp only [resL] at hr
    obtain ⟨v1, w1, h1, hr⟩ := q14 hr
    obtain ⟨v2, w2, h2, hr⟩ := q14 hr
    simp only [Sem.run_pure] at hr h2
    cases h2; cases hr
    rw [hf, h]
    simp [h1, oneV]
  | [r1, r2], _, h, hr =>
    simp only [resL] at hr
    obtain ⟨v1, w1, h1, hr⟩ := q14 hr
    obtain ⟨v2, w2, h2, hr⟩ := q14 hr
    obtain ⟨v3, w3, h3, h2⟩ := q14 h2
    obtain ⟨v4, w4, h4, h2⟩ := q14 h2
    simp only [Sem.run_pure] at hr h2 h4
    cases h4; cases h2; cases hr
    rw [hf, h]
    simp [h1, h3, oneV]
  | [r1, r2, r3], _, h, hr =>
    simp only [resL] at hr
    obtain ⟨v1, w1, h1, hr⟩ := q14 hr
    obtain ⟨v2, w2, h2, hr⟩ := q14 hr
    obtain ⟨v3, w3, h3, h2⟩ := q14 h2
    obtain ⟨v4, w4, h4, h2⟩ := q14 h2
    obtain ⟨v5, w5, h5, h4⟩ := q14 h4
    obtain ⟨v6, w6, h6, h4⟩ := q14 h4
    simp only [Sem.run_pure] at hr h2 h4 h6
    cases h6; cases h4; cases h2; cases hr
    rw [hf, h]
    simp [h1, h3, h5, oneV]
  | _ :: _ :: _ :: _ :: _, hl, _, _ => simp at hl
theorem q6p {base prot : Nat → Prop} {blk : Nat → Option Nat} {w : World} : ObjsRel base prot [] blk w :=
  ⟨fun _ _ h => by simp at h, fun _ _ _ _ _ _ h => by simp at h, fun _ _ _ h => by simp at h⟩
theorem qg7 (w : World) (b : Nat) (o : Go.Obj) (k : Nat) : (w.putObj b o).heap[k]? = if b = k ∧ b < w.heap.size then some o else w.heap[k]? := by
  simp only [World.putObj, Array.getElem?_setIfInBounds]
  by_cases h : b = k
  · subst h
    by_cases h' : b < w.heap.size
    · simp [h']
    · simp [h']
  · simp [h]
theorem Rel.takeD {base prot : Nat → Prop} {w0 : Wz} {S : St} {blk : Nat → Option Nat} {a : Act} {w : World} (R : Rel base prot w0 S blk a w) {b : Nat} {ds : List Deferred} (hd : a.defers = { target := .collected b, args := #[] } :: ds) :
    w.heap[b]? = some (.deferred (some [])) ∧ Rel base prot w0 S blk { a with defers := ds } (w.putObj b (.deferred none)) := by
  obtain ⟨Ds, h1, h2, h3⟩ := R.nodef
  rw [hd] at h1
  cases Ds with
  | nil => simp at h1
  | cons b' Ds =>
    simp only [List.map_cons, List.cons.injEq, Deferred.mk.injEq, Target.collected.injEq, and_true] at h1
    obtain ⟨rfl, rfl⟩ := h1
    obtain ⟨hb, hbok, hbp⟩ := h3 b List.mem_cons_self
    have hsz : (w.putObj b (.deferred none)).heap.size = w.heap.size := by simp [World.putObj]
    have hne : ∀ k : Nat, k ≠ b → (w.putObj b (.deferred none)).heap[k]? = w.heap[k]? := fun k hk => by rw [qg7, if_neg (fun e => hk e.1.symm)]
    have hc : ∀ (k : Nat) (x : Go.Obj), w.heap[k]? = some x → q1y x → (w.putObj b (.deferred none)).heap[k]? = some x := by
      rintro k x hk (⟨c, t, y, rfl⟩ | ⟨es, n, rfl⟩)
      · rw [hne k (fun e => by subst e; rw [hb] at hk; cases hk), hk]
      · rw [hne k (fun e => by subst e; rw [hb] at hk; cases hk), hk]
    have ho : ObjsTo w (w.putObj b (.deferred none)) S.objs S.objs blk blk := fun k o ho => ⟨o, ho, Nat.le_refl _, fun hl _ => ⟨hl, rfl, rfl, rfl, fun _ => rfl, fun g c _ hg => ⟨c, hc g _ hg (.inl ⟨c, _, _, rfl⟩), rfl⟩⟩⟩
    refine ⟨hb, ⟨⟨Ds, rfl, (List.nodup_cons.1 h2).2, fun k hk => ?_⟩, R.tsz, fun t p hp => (R.tm t p hp).monoC (Nat.le_of_eq hsz.symm) (fun _ _ h => h) (fun k x _ hx hcx => hc k x hx (.inl hcx)) ho, ⟨fun k o h1 h4 => ?_, R.objs.dis, R.objs.np⟩, R.pr, fun k hk => ?_, by rw [hsz]; exact R.gr, R.pb, fun x hx => (R.ext x hx).monoC (Nat.le_of_eq hsz.symm) (fun _ _ h => h) (fun k x _ hx hcx => hc k x hx (.inl hcx)) ho, R.exn, R.sm.trans ⟨rfl, rfl⟩, R.gl⟩⟩
    · have hkb : k ≠ b := fun e => (List.nodup_cons.1 h2).1 (e ▸ hk)
      rw [hne k hkb]
      exact h3 k (List.mem_cons_of_mem _ hk)
    · have hh := R.objs.ob k o h1 h4
      unfold ObjRep at hh ⊢
      cases hg : blk k with
      | none => rw [hg] at hh; exact hh
      | some g =>
        rw [hg] at hh
        obtain ⟨c, x1, x2, x3⟩ := hh
        refine ⟨c, hc g _ x1 (q8k _ _), x2, fun i x hx => ⟨(x3 i x hx).1, fun j p hp => ?_⟩⟩
        obtain ⟨v, y1, y2⟩ := (x3 i x hx).2 j p hp
        exact ⟨v, y1, y2.monoC (Nat.le_of_eq hsz.symm) (fun _ _ h => h) (fun k x _ hx hcx => hc k x hx (.inl hcx)) ho⟩
    · rw [hne k (fun e => hbp (e ▸ hk))]; exact R.fr k hk
theorem q5g {base prot : Nat → Prop} {w0 : Wz} {S : St} {blk : Nat → Option Nat} {P : Program} {fn : Func} {Q : Ending → World → Prop} {tm : Array Value} : ∀ (ds : List Deferred) (w : World), Rel base prot w0 S blk { tmps := tm, defers := ds } w →
    (∀ w', Rel base prot w0 S blk { tmps := tm, defers := [] } w' → ∃ v, (results fn tm).run P w' = .ok v w' ∧ Q (.returned v) w') → LeavesInM (fen none) 0 P fn tm Q ds .returning w
  | [], w, R, h => h w R
  | d :: ds, w, R, h => by
    obtain ⟨Ds, h1, _, _⟩ := R.nodef
    cases Ds with
    | nil => simp at h1
    | cons b Ds =>
      simp only [List.map_cons, List.cons.injEq] at h1
      obtain ⟨rfl, rfl⟩ := h1
      obtain ⟨hb, R'⟩ := R.takeD (b := b) rfl
      exact ⟨by simp, .inl ⟨b, _, rfl, run_takeDeferred hb, q5g _ _ R' h⟩⟩
def Etop : Env := fun _ _ V => ∀ w0, V w0 → w0.xs = [] ∧ w0.nx = 0
theorem KOk.top0 (h : TabOk P T.fn) (hy : T.Y = fun _ _ _ => False) (hg : ∀ g cap ys, T.gives g cap ys → Gives P g cap ys) : KOk P none Etop T :=
  ⟨h, fun _ _ _ _ _ _ _ _ _ _ _ _ _ _ h => by rw [hy] at h; exact h.elim, fun _ _ _ hE w0 hw => by rw [(hE w0 hw).2]; exact Nat.zero_le _, fun _ => ⟨rfl, fun _ _ _ hE w0 hw => (hE w0 hw).1⟩, hg⟩
def q13 (args : List PV) (n : Nat) : St := ⟨args ++ List.replicate (n - args.length) .dead, []⟩
theorem qek {base : Nat → Prop} {w : World} {blk : Nat → Option Nat} {args : List PV} {vs : List Value} (hb : glob.holds w.heap ∧ ∀ b, w.heap.size ≤ b → base b) (h : RepL (RepT w (okL base [] blk) [] blk) args vs) (n : Nat) :
    Rel base (fun b => b < w.heap.size ∧ q0k [] blk b) ⟨w.heap, [], 0, w⟩ (q13 args n) blk { tmps := (⟨vs⟩ : Array Value) ++ Array.replicate (n - (⟨vs⟩ : Array Value).size) undef, defers := [] } w := by
  have hl := h.1
  refine ⟨.nil _ _, ?_, fun t p hp => ?_, q6p, fun b hb => hb.1, fun _ _ => rfl, Nat.le_refl _, fun b hn => hb.2 b ?_, fun x hx => by simp at hx, fun x hx => by simp at hx, .refl w, ⟨hb.1, fun b hg => ⟨glob.lt hb.1 b hg, q0t _ _⟩⟩⟩
  · simp [q13, hl]
  · simp only [q13] at hp
    rw [List.getElem?_append] at hp
    split at hp
    · rename_i ht
      obtain ⟨v, hv⟩ : ∃ v, vs[t]? = some v := ⟨vs[t]'(by omega), List.getElem?_eq_getElem (by omega)⟩
      have hg : ((⟨vs⟩ : Array Value) ++ Array.replicate (n - (⟨vs⟩ : Array Value).size) undef).getD t undef = v := by
        rw [Array.getD_eq_getD_getElem?, Array.getElem?_append, if_pos (by simpa using (by omega : t < vs.length))]
        simp [hv]
      rw [hg]
      exact h.2 t p v hp hv
    · rw [List.getElem?_replicate] at hp
      split at hp
      · cases hp; exact .dead _
      · cases hp
  · rcases Nat.lt_or_ge b w.heap.size with h1 | h1
    · exact absurd ⟨h1, q0t blk b⟩ hn
    · exact h1
theorem qp3 {w : World} {ok : Nat → Prop} {f : PV → PV} {ps : List PV} {vs : List Value} {R : PV → Value → Prop} (h : RepL R ps vs) (hf : ∀ p v, R p v → Rep w ok (f p) v) : Rep w ok (onePV (ps.map f)) (oneV vs) := by
  obtain ⟨hl, h⟩ := h
  match ps, vs, hl, h with
  | [p], [v], _, h => exact hf p v (h 0 p v rfl rfl)
  | [], [], _, _ => exact .tup [] [] rfl (fun _ _ _ h => by simp at h)
  | p :: p' :: ps, v :: v' :: vs, hl, h =>
    refine .tup _ _ (by simpa using hl) fun i q u hq hu => ?_
    rw [← List.map_cons, List.getElem?_map] at hq
    cases hc : (p :: p' :: ps)[i]? with
    | none => rw [hc] at hq; simp at hq
    | some q0 =>
      rw [hc] at hq
      simp only [Option.map_some, Option.some.injEq] at hq
      subst hq
      exact hf q0 u (h i q0 u hc hu)
theorem FnSpec.of_body {f : FuncId} {fn : Func} {c : Code} {C : LC} {args : List PV} {r : PV} (d : Nat) {rs : List ResultVar} {n : Nat} (hD : ∀ t, TOk P t (D t)) (hT : KOk P none Etop T) (hm : P.follows .mixedOrders = true)
    (hf : P.funcs[f]? = some fn) (hname : (fn.name == "runtime.NumGoroutine") = false) (hb : fn.body = some c) (hn : fn.ntmps = n) (hr : fn.results = rs.toArray) (hl : rs.length ≤ 3) (hC : strip C = comp c)
    (h : wpc P D T C (retQ D d rs r) (q13 args n)) : FnSpec P f args [] r [] := by
  refine ⟨⟨fn, hf, hname, by rw [hb]; rfl⟩, fun w blk vs base hbase _ hargs => ?_⟩
  have hpw : PW P none Etop c (retQ D d rs r) (q13 args n) := q77 hD hm C _ _ _ c _ _ hT hC h
  have R := qek hbase hargs n
  have hw := hpw _ _ (fun x => (⟨w.heap, [], 0, w⟩ : Wz) = x) (by rintro z rfl; exact ⟨rfl, rfl⟩) _ _ _ ⟨_, rfl, R⟩
  rw [← callsIn_wide (n := 0)]
  refine callsIn_of_wp_marks hf hb trivial ?_
  rw [hn]
  refine wpIn_mono hw ?_
  rintro e a' w' ⟨S', blk', ⟨he, ho⟩, _, rfl, R'⟩
  have key : ∀ w', Rel base (fun b => b < w.heap.size ∧ q0k [] blk b) ⟨w.heap, [], 0, w⟩ S' blk' { a' with defers := [] } w' → ∃ v, (results fn a'.tmps).run P w' = .ok v w' ∧ (∃ v' blk', Ending.returned v = .returned v' ∧ ObjsRel base (fun b => b < w.heap.size ∧ q0k [] blk b) [] blk' w' ∧
      RepT w' (okL base [] blk') [] blk' r v' ∧ (∀ b, b < w.heap.size → q0k [] blk b → w'.heap[b]? = w.heap[b]?) ∧ w.heap.size ≤ w'.heap.size ∧ Sm w w') := by
    intro w' R'
    obtain ⟨vs', ps, h1, h2, h3⟩ := qcx hD R' rs _ ho
    refine ⟨oneV vs', qg6 hr hl h1, oneV vs', blk', rfl, q6p, ?_, fun b hb1 hb2 => R'.fr b ⟨hb1, hb2⟩, R'.gr, R'.sm⟩
    rw [h2]
    exact .of_rep ((qp3 h3 (fun p v h => frz0 R' d p v h)).anyOk fun b _ h => ⟨h, q0t _ _⟩)
  rcases he with rfl | rfl <;> exact q5g _ _ R' key
def outO1 (d k : Nat) (S : St) (o : Obj) : Obj := { frzO d (k + 1) S.objs o with ver := 0 }
theorem qlp {base prot : Nat → Prop} {w0 : Wz} {S' : St} {blk' : Nat → Option Nat} {a : Act} {w' : World} {d k : Nat} {o : Obj} (R' : Rel base prot w0 S' blk' a w') (ho : S'.objs[k]? = some o) (hlv : o.live = true) (hnr : NoRefs [outO1 d k S' o]) :
    ObjsRel base prot [outO1 d k S' o] (fun j => if j = 0 then blk' k else none) w' ∧
    ∀ v, RepS w' (okL base S'.objs blk') S'.objs blk' (.osl k o.ver) v → RepS w' (okL base [outO1 d k S' o] (fun j => if j = 0 then blk' k else none)) [outO1 d k S' o] (fun j => if j = 0 then blk' k else none) (.osl 0 0) v := by
  unfold outO1 at hnr ⊢
  refine ⟨⟨?_, ?_, ?_⟩, fun v hx => ?_⟩
  · intro j o1 hj hl1
    cases j with
    | succ j => simp at hj
    | zero =>
      simp only [List.getElem?_cons_zero, Option.some.injEq] at hj
      subst hj
      have hb := R'.objs.ob k o ho hlv
      unfold ObjRep at hb ⊢
      simp only [if_true]
      cases hg : blk' k with
      | none => rw [hg] at hb; simp [frzO, hb]
      | some g =>
        rw [hg] at hb
        obtain ⟨c', hc, h7, h8⟩ := hb
        refine ⟨c', hc, by simpa [frzO, fits] using h7, fun i x hx => ?_⟩
        simp only [frzO, List.getElem?_map] at hx
        cases hx0 : o.xs[i]? with
        | none => rw [hx0] at hx; simp at hx
        | some x0 =>
          rw [hx0] at hx
          simp only [Option.map_some, Option.some.injEq] at hx
          subst hx
          have e := q2q (qle d (k + 1) S'.objs) x0
          refine ⟨by rw [e, List.length_map]; exact (h8 i x0 hx0).1, fun j p hp => ?_⟩
          rw [e, List.getElem?_map] at hp
          cases hp0 : x0.cells[j]? with
          | none => rw [hp0] at hp; simp at hp
          | some p0 =>
            rw [hp0] at hp
            simp only [Option.map_some, Option.some.injEq] at hp
            subst hp
            obtain ⟨u, hu, hrr⟩ := (h8 i x0 hx0).2 j p0 hp0
            refine ⟨u, hu, ?_⟩
            have h9 := q4u R' d (k + 1) p0 u hrr
            have h10 : (frz d (k + 1) S'.objs p0).ref = false := by
              refine hnr _ List.mem_cons_self (x0.mapCells (frz d (k + 1) S'.objs)) ?_ _ ?_
              · simp only [frzO, List.mem_map]; exact ⟨x0, List.mem_of_getElem? hx0, rfl⟩
              · rw [e]; exact List.mem_map.2 ⟨p0, List.mem_of_getElem? hp0, rfl⟩
            refine .of_rep ((h9.rep h10).anyOk fun b _ hb => ⟨hb.1, fun k' o' hk' _ => ?_⟩)
            cases k' with
            | succ k' => simp at hk'
            | zero =>
              simp only [if_true]
              rw [← hg]
              refine hb.2 k (frzO d (k + 1) S'.objs o) ?_ hlv
              simp [St.freeze, ho]
  · intro j j' o1 o2 g hne h1 h2 h3 h4
    cases j <;> cases j' <;> simp at h1 h3
    exact absurd rfl hne
  · intro j o1 g h1 h2 h3
    cases j with
    | succ j => simp at h1
    | zero => simp only [if_true] at h3; exact R'.objs.np k o g ho hlv h3
  · obtain ⟨h0, o1, h1, h2, h3⟩ := hx
    rw [ho] at h1
    cases h1
    obtain ⟨hM, hh⟩ := h3 hlv rfl
    refine ⟨h0, _, rfl, Nat.le_refl _, fun _ _ => ⟨hM, ?_⟩⟩
    unfold Hdr at hh ⊢
    simp only [if_true]
    cases hg : blk' k with
    | none => rw [hg] at hh; exact ⟨hh.1, by simp [frzO, hh.2]⟩
    | some g => rw [hg] at hh; simpa [frzO] using hh
theorem FnSpec.made_body {f : FuncId} {fn : Func} {c : Code} {C : LC} {args : List PV} {o' : Obj} (d : Nat) {t n : Nat} (hD : ∀ t, TOk P t (D t)) (hT : KOk P none Etop T) (hm : P.follows .mixedOrders = true)
    (hf : P.funcs[f]? = some fn) (hname : (fn.name == "runtime.NumGoroutine") = false) (hb : fn.body = some c) (hn : fn.ntmps = n) (hr : fn.results = #[.tmp t]) (hC : strip C = comp c)
    (h : wpc P D T C (retM d t o') (q13 args n)) : FnSpec P f args [] (.osl 0 0) [o'] := by
  refine ⟨⟨fn, hf, hname, by rw [hb]; rfl⟩, fun w blk vs base hbase _ hargs => ?_⟩
  have hpw : PW P none Etop c (retM d t o') (q13 args n) := q77 hD hm C _ _ _ c _ _ hT hC h
  have R := qek hbase hargs n
  have hw := hpw _ _ (fun x => (⟨w.heap, [], 0, w⟩ : Wz) = x) (by rintro z rfl; exact ⟨rfl, rfl⟩) _ _ _ ⟨_, rfl, R⟩
  rw [← callsIn_wide (n := 0)]
  refine callsIn_of_wp_marks hf hb trivial ?_
  rw [hn]
  refine wpIn_mono hw ?_
  rintro e a' w' ⟨S0, blk0, ⟨he, S', k, ver, o, hwk, ht, ho, hlv, hv, rfl, hnr⟩, _, rfl, R0⟩
  obtain ⟨blk', R'⟩ := hwk _ _ _ _ _ _ (Nat.le_refl _) R0
  have key : ∀ w', Rel base (fun b => b < w.heap.size ∧ q0k [] blk b) ⟨w.heap, [], 0, w⟩ S' blk' { a' with defers := [] } w' → ∃ v, (results fn a'.tmps).run P w' = .ok v w' ∧ (∃ v' blk'', Ending.returned v = .returned v' ∧
      ObjsRel base (fun b => b < w.heap.size ∧ q0k [] blk b) [outO1 d k S' o] blk'' w' ∧
      RepT w' (okL base [outO1 d k S' o] blk'') [outO1 d k S' o] blk'' (.osl 0 0) v' ∧ (∀ b, b < w.heap.size → q0k [] blk b → w'.heap[b]? = w.heap[b]?) ∧ w.heap.size ≤ w'.heap.size ∧ Sm w w') := by
    intro w' R'
    have hx := R'.ev (.tmp t)
    change RepT w' _ _ blk' (S'.tmps.getD t .dead) (a'.tmps.getD t undef) at hx
    rw [ht, ← hv] at hx
    obtain ⟨c1, c2⟩ := qlp (d := d) R' ho hlv hnr
    exact ⟨_, results_tmp hr _ _ _, a'.tmps.getD t undef, _, rfl, c1, c2 _ hx, fun b hb1 hb2 => R'.fr b ⟨hb1, hb2⟩, R'.gr, R'.sm⟩
  rcases he with rfl | rfl <;> exact q5g _ _ R' key
def retN (D : TypeId → TInfo) (d : Nat) (rs : List ResultVar) (qs : List PV) (o' : Obj) (e : Exit) (S : St) : Prop :=
  (e = .normal ∨ e = .ret) ∧ ∃ S' k o, Weak 0 S S' ∧ outL D S' rs (fun ps => ps = .osl k o.ver :: qs) ∧ S'.objs[k]? = some o ∧ o.live = true ∧ outO1 d k S' o = o' ∧ NoRefs [o'] ∧ qs.all PV.atom = true
def giveQ (n : Nat) (I J : Nat → List Obj → Prop) (e : Exit) (S : St) : Prop := (e = .normal ∨ e = .ret) ∧ (I n S.objs ∨ ∃ i, i < n ∧ J i S.objs)
def knowI (fn : Tab) (y : Nat) (Y : YT) (nx : Nat) : Know := ⟨fn, y, Y, false, fun _ _ _ => False, nx⟩
theorem Gives.of_body {f : FuncId} {fn : Func} {c : Code} {C : LC} {cap : List PV} {ys : List (List PV)} {n : Nat} {fnT : Tab} (hD : ∀ t, TOk P t (D t)) (hT : TabOk P fnT) (hm : P.follows .mixedOrders = true)
    (hf : P.funcs[f]? = some fn) (hname : (fn.name == "runtime.NumGoroutine") = false) (hb : fn.body = some c) (hn : fn.ntmps = n) (hr : fn.results = #[]) (hC : strip C = comp c)
    (h : ∀ (I J : Nat → List Obj → Prop) (objs : List Obj) (y : Nat), I 0 objs → (∀ i O, I i O → objs.length ≤ O.length ∧ q2s O) → (∀ i O, J i O → objs.length ≤ O.length ∧ q2s O) →
      wpc P D (knowI fnT y (Yof ys I J) objs.length) C (giveQ ys.length I J) ⟨(q13 (.yld y :: cap) n).tmps, objs⟩) : Gives P f cap ys := by
  refine ⟨⟨fn, hf, hname, by rw [hb]; rfl⟩, fun I J base prot V y objs blk w vcap hY hnx hR hI0 hIl hJl hcap => ?_⟩
  obtain ⟨w0, hV, R⟩ := hR
  let E : Env := fun base' prot' V' => base' = base ∧ prot' = prot ∧ V' = V
  have hk : KOk P none E (knowI fnT y (Yof ys I J) objs.length) :=
    ⟨hT, by rintro b p v ⟨rfl, rfl, rfl⟩; exact hY, by rintro b p v ⟨rfl, rfl, rfl⟩; exact hnx, (fun h => by cases h), fun _ _ _ h => h.elim⟩
  have hpw : PW P none E c (giveQ ys.length I J) ⟨(q13 (.yld y :: cap) n).tmps, objs⟩ := q77 hD hm C _ _ _ c _ _ hk hC (h I J objs y hI0 hIl hJl)
  have hargs : RepL (RepT w (okL base objs blk) objs blk) (.yld y :: cap) (.func (.yield y) #[] #[] :: vcap) := by
    refine ⟨by simpa using hcap.1, fun i p v hp hv => ?_⟩
    cases i with
    | zero =>
      simp only [List.getElem?_cons_zero, Option.some.injEq] at hp hv
      subst hp; subst hv
      exact .of_rep (.yld y)
    | succ i => exact .of_rep (hcap.2 i p v (by simpa using hp) (by simpa using hv))
  have R1 : Rel base prot w0 ⟨(q13 (.yld y :: cap) n).tmps, objs⟩ blk { tmps := (⟨.func (.yield y) #[] #[] :: vcap⟩ : Array Value) ++ Array.replicate (n - (⟨.func (.yield y) #[] #[] :: vcap⟩ : Array Value).size) undef, defers := [] } w := by
    have hl := hargs.1
    refine ⟨.nil _ _, ?_, fun t p hp => ?_, R.objs, R.pr, R.fr, R.gr, R.pb, R.ext, R.exn, R.sm, R.gl⟩
    · simp only [q13, Array.size_append, Array.size_replicate, List.length_append, List.length_replicate, hl]
      simp
    · simp only [q13] at hp
      rw [List.getElem?_append] at hp
      split at hp
      · rename_i ht
        obtain ⟨v, hv⟩ : ∃ v, (Value.func (.yield y) #[] #[] :: vcap)[t]? = some v := ⟨_, List.getElem?_eq_getElem (by omega)⟩
        have hg : ((⟨.func (.yield y) #[] #[] :: vcap⟩ : Array Value) ++ Array.replicate (n - (⟨.func (.yield y) #[] #[] :: vcap⟩ : Array Value).size) undef).getD t undef = v := by
          rw [Array.getD_eq_getD_getElem?, Array.getElem?_append, if_pos (by simpa using (by rw [← hl]; exact ht : t < (Value.func (.yield y) #[] #[] :: vcap).length))]
          simp [hv]
        rw [hg]
        exact hargs.2 t p v hp hv
      · rw [List.getElem?_replicate] at hp
        split at hp
        · cases hp; exact .dead _
        · cases hp
  have hw := hpw base prot V ⟨rfl, rfl, rfl⟩ blk _ w ⟨w0, hV, R1⟩
  rw [← callsIn_wide (n := 0)]
  refine callsIn_of_wp_marks hf hb trivial ?_
  rw [hn]
  refine wpIn_mono hw ?_
  rintro e a' w' ⟨S', blk', ⟨he, hI⟩, w0', hV', R'⟩
  have key : ∀ w'', Rel base prot w0' S' blk' { a' with defers := [] } w'' → ∃ v, (results fn a'.tmps).run P w'' = .ok v w'' ∧ (∃ objs' blk'', Ending.returned v = .returned (.tuple #[]) ∧ (I ys.length objs' ∨ ∃ i, i < ys.length ∧ J i objs') ∧ RelV base prot V ⟨[], objs'⟩ blk'' act0 w'') := by
    intro w'' R''
    refine ⟨_, results_none hr _ _ _, S'.objs, blk', rfl, hI, w0', hV', .nil _ _, rfl, fun t p hp => by simp at hp, R''.objs, R''.pr, R''.fr, R''.gr, R''.pb, R''.ext, R''.exn, R''.sm, R''.gl⟩
  rcases he with rfl | rfl <;> exact q5g _ _ R' key
theorem qlq {w : World} {ok : Nat → Prop} {sz : Nat} {xs : List PV} {v : Value} (h : Rep w ok (.sl sz xs none) v) : (xs = [] ∧ Rep w ok (.sl sz xs (some true)) v) ∨ Rep w ok (.sl sz xs (some false)) v := by
  cases h with
  | slnil _ _ _ => exact .inl ⟨rfl, .slnil _ _ (by simp)⟩
  | slz _ _ _ a cap hc => exact .inr (.slz _ _ (by simp) a cap hc)
  | sl _ _ _ _ b off cap vs h1 h2 h3 h4 h5 h6 => exact .inr (.sl _ _ _ (by simp) b off cap vs h1 h2 h3 h4 h5 h6)
theorem FnSpec.split {f : FuncId} {pre post : List PV} {sz : Nat} {xs : List PV} {r : PV} {os : List Obj} (h1 : xs = [] → FnSpec P f (pre ++ .sl sz [] (some true) :: post) [] r os) (h2 : FnSpec P f (pre ++ .sl sz xs (some false) :: post) [] r os) :
    FnSpec P f (pre ++ .sl sz xs none :: post) [] r os := by
  refine ⟨h2.1, fun w blk vs base hb ho hargs => ?_⟩
  have key : ∀ p : PV, (∀ v, RepT w (okL base [] blk) [] blk (.sl sz xs none) v → vs[pre.length]? = some v → RepT w (okL base [] blk) [] blk p v) → RepL (RepT w (okL base [] blk) [] blk) (pre ++ p :: post) vs := by
    intro p hp
    refine ⟨by have := hargs.1; simpa using this, fun i q u hq hu => ?_⟩
    rw [List.getElem?_append] at hq
    by_cases hi : i < pre.length
    · rw [if_pos hi] at hq
      exact hargs.2 i q u (by rw [List.getElem?_append, if_pos hi]; exact hq) hu
    · rw [if_neg hi] at hq
      by_cases he : i = pre.length
      · subst he
        simp only [Nat.sub_self, List.getElem?_cons_zero, Option.some.injEq] at hq
        subst hq
        exact hp u (hargs.2 pre.length _ u (by rw [List.getElem?_append, if_neg (by omega)]; simp) hu) hu
      · refine hargs.2 i q u ?_ hu
        rw [List.getElem?_append, if_neg hi]
        obtain ⟨j, hj⟩ : ∃ j, i - pre.length = j + 1 := ⟨i - pre.length - 1, by omega⟩
        rw [hj] at hq ⊢
        simpa using hq
  have hlt : pre.length < vs.length := by have := hargs.1; simp at this; omega
  have hr : Rep w (okL base [] blk) (.sl sz xs none) (vs[pre.length]) := hargs.2 pre.length (.sl sz xs none) _ (by simp) (List.getElem?_eq_getElem hlt)
  rcases qlq hr with ⟨rfl, hr⟩ | hr
  · exact (h1 rfl).2 w blk vs base hb ho (key _ fun v _ hv => by rw [List.getElem?_eq_getElem hlt] at hv; cases hv; exact hr)
  · exact h2.2 w blk vs base hb ho (key _ fun v _ hv => by rw [List.getElem?_eq_getElem hlt] at hv; cases hv; exact hr)
theorem FnSpec.le_res {f : FuncId} {args : List PV} {r r' : PV} (h : FnSpec P f args [] r []) (hr : ∀ w ok v, Rep w ok r v → Rep w ok r' v) : FnSpec P f args [] r' [] := by
  refine ⟨h.1, fun w blk vs base hb ho hargs => Calls.mono (h.2 w blk vs base hb ho hargs) ?_⟩
  rintro e w' ⟨v, blk', h1, h2, h3, h4, h5⟩
  exact ⟨v, blk', h1, h2, .of_rep (hr _ _ _ (q78 h3)), h4, h5⟩
theorem qg8 {w : World} {ok : Nat → Prop} {s s' : Nat} {q : Option Bool} {v : Value} (h : Rep w ok (.sl s [] (some true)) v) (hq : q ≠ some false) : Rep w ok (.sl s' [] q) v := by
  cases h with
  | slnil _ _ _ => exact .slnil _ _ hq
  | slz _ _ hq' => exact absurd rfl hq'
  | sl _ _ _ hq' => exact absurd rfl hq'
end Lp

/-! LpR -/

namespace Lp
open Go
def FnOk (P : Program) (f : FuncId) (n : Nat) (rs : List ResultVar) (C : LC) : Prop :=
  ∃ fn c, P.funcs[f]? = some fn ∧ (fn.name == "runtime.NumGoroutine") = false ∧ fn.body = some c ∧ fn.ntmps = n ∧ fn.results = rs.toArray ∧ strip C = comp c
abbrev Ctr := List PV → List Obj → KT → Prop
def CtrOk (P : Program) (f : FuncId) (c : Ctr) : Prop := ∀ args objs K, c args objs K → ∃ r objs' t, CallR P f args objs r objs' t ∧ K r objs' t
def tabF : List (FuncId × Ctr) → Tab
  | [], _, _, _, _ => False
  | (g, c) :: l, f, args, objs, K => bif f == g then c args objs K else tabF l f args objs K
def tabL (P : Program) (l : List (FuncId × Ctr)) : Know := ⟨tabF l, 0, fun _ _ _ => False, true, Gives P, 0⟩
theorem q0d {P : Program} : TabOk P (tabF []) := fun _ _ _ _ h => h.elim
theorem q0c {P : Program} {g : FuncId} {c : Ctr} {l : List (FuncId × Ctr)} (h : CtrOk P g c) (hl : TabOk P (tabF l)) : TabOk P (tabF ((g, c) :: l)) := by
  intro f args objs K hh
  unfold tabF at hh
  cases he : f == g with
  | true =>
    rw [he] at hh
    have : f = g := by simpa using he
    subst this
    exact h args objs K hh
  | false => rw [he] at hh; exact hl f args objs K hh
theorem q0e {P : Program} {l : List (FuncId × Ctr)} (h : TabOk P (tabF l)) : KOk P none Etop (tabL P l) := .top0 h rfl fun _ _ _ h => h
variable {P : Program} {D : TypeId → TInfo} {T : Know}
theorem FnOk.pure {f : FuncId} {n : Nat} {rs : List ResultVar} {C : LC} {args : List PV} {r : PV} (h : FnOk P f n rs C) (d : Nat) (hD : ∀ t, TOk P t (D t)) (hT : KOk P none Etop T) (hm : P.follows .mixedOrders = true) (hl : rs.length ≤ 3)
    (hw : wpc P D T C (retQ D d rs r) (q13 args n)) : FnSpec P f args [] r [] := by
  obtain ⟨fn, c, h1, h2, h3, h4, h5, h6⟩ := h
  exact FnSpec.of_body d hD hT hm h1 h2 h3 h4 h5 hl h6 hw
theorem FnOk.made {f : FuncId} {n t : Nat} {C : LC} {args : List PV} {o' : Obj} (h : FnOk P f n [.tmp t] C) (d : Nat) (hD : ∀ t, TOk P t (D t)) (hT : KOk P none Etop T) (hm : P.follows .mixedOrders = true)
    (hw : wpc P D T C (retM d t o') (q13 args n)) : FnSpec P f args [] (.osl 0 0) [o'] := by
  obtain ⟨fn, c, h1, h2, h3, h4, h5, h6⟩ := h
  exact FnSpec.made_body d hD hT hm h1 h2 h3 h4 h5 h6 hw
theorem FnOk.gives {f : FuncId} {n : Nat} {C : LC} {cap : List PV} {ys : List (List PV)} {fnT : Tab} (h : FnOk P f n [] C) (hD : ∀ t, TOk P t (D t)) (hT : TabOk P fnT) (hm : P.follows .mixedOrders = true)
    (hw : ∀ (I J : Nat → List Obj → Prop) (objs : List Obj) (y : Nat), I 0 objs → (∀ i O, I i O → objs.length ≤ O.length ∧ q2s O) → (∀ i O, J i O → objs.length ≤ O.length ∧ q2s O) →
      wpc P D (knowI fnT y (Yof ys I J) objs.length) C (giveQ ys.length I J) ⟨(q13 (.yld y :: cap) n).tmps, objs⟩) : Gives P f cap ys := by
  obtain ⟨fn, c, h1, h2, h3, h4, h5, h6⟩ := h
  exact Gives.of_body hD hT hm h1 h2 h3 h4 h5 h6 hw
def mkT (n : Nat) (l : List (Nat × PV)) : List PV := l.foldl (fun tm x => tm.set x.1 x.2) (List.replicate n .dead)
def q3e (v : PV) (d : Nat) (want : Bool) (S : St) (X Y : St → Prop) : Prop :=
  match v with
  | .bool b => (b = want → X { S with tmps := S.tmps.set d (.bool want) }) ∧ (b = !want → Y { S with tmps := S.tmps.set d (.bool !want) })
  | .tup [] => Y S
  | _ => False
def noTwo : List Nat → Bool
  | [] => true
  | t :: ts => co t != 2 && noTwo ts
theorem qa8 : ∀ (ts : List Nat) (i : Nat), noTwo ts = true → co (ts.getD i 0) ≠ 2
  | [], i, _ => by simp [co]
  | t :: ts, i, h => by
    simp only [noTwo, Bool.and_eq_true, bne_iff_ne, ne_eq] at h
    cases i with
    | zero => simpa using h.1
    | succ i => simpa using qa8 ts i h.2
theorem qel (un ts : List Nat) : (q3c un ts = true) = ((noTwo ts || q3c un ts) = true) := by
  cases h : noTwo ts with
  | false => rfl
  | true =>
    have : q4d un ts = true := by
      unfold q4d
      rw [List.all_eq_true]
      intro i _
      simp only [Bool.or_eq_true, List.all_eq_true]
      right
      intro j _
      have h1 := qa8 ts i h
      have h2 := qa8 ts j h
      simp only [beq_eq_false_iff_ne.2 h1, beq_eq_false_iff_ne.2 h2, Bool.false_and, Bool.or_false, Bool.not_false, or_true]
    simp [q3c, this]
theorem wpR :
    (∀ (Q : Exit → St → Prop) S, wpc P D T .skip Q S = Q .normal S) ∧
    (∀ (Q : Exit → St → Prop) S, wpc P D T .ret Q S = Q .ret S) ∧
    (∀ id (Q : Exit → St → Prop) S, wpc P D T (.exit id) Q S = Q (.exit id) S) ∧
    (∀ ss (Q : Exit → St → Prop) S, wpc P D T (.reg ss) Q S = LR P D T ss S [] fun S' _ => Q .normal S') ∧
    (∀ ss un (Q : Exit → St → Prop) S, wpc P D T (.draw ss un) Q S = LR P D T.noY ss S [] fun S' ts => (noTwo ts || q3c un ts) = true ∧ Q .normal S') ∧
    (∀ a b (Q : Exit → St → Prop) S, wpc P D T (.seq a b) Q S = wpc P D T a (thenS (fun S' => wpc P D T b Q S') Q) S) ∧
    (∀ c a b (Q : Exit → St → Prop) S, wpc P D T (.cond c a b) Q S = condR (S.ev c) (wpc P D T a Q S) (wpc P D T b Q S)) ∧
    (∀ id c (Q : Exit → St → Prop) S, wpc P D T (.block id c) Q S = wpc P D T c (q6a id Q) S) := by
  refine ⟨fun _ _ => rfl, fun _ _ => rfl, fun _ _ _ => rfl, fun _ _ _ => rfl, fun ss un Q S => ?_, fun _ _ _ _ => rfl, fun _ _ _ _ _ => rfl, fun _ _ _ _ => rfl⟩
  simp only [← qel]
  rfl
theorem exR :
    (∀ (n : St → Prop) (Q : Exit → St → Prop) S, thenS n Q .normal S = n S) ∧
    (∀ (n : St → Prop) (Q : Exit → St → Prop) S, thenS n Q .ret S = Q .ret S) ∧
    (∀ (n : St → Prop) (Q : Exit → St → Prop) S id, thenS n Q (.exit id) S = Q (.exit id) S) ∧
    (∀ (Q : Exit → St → Prop) S id, q6a id Q .normal S = Q .normal S) ∧
    (∀ (Q : Exit → St → Prop) S id, q6a id Q .ret S = Q .ret S) ∧
    (∀ (Q : Exit → St → Prop) S id id', q6a id Q (.exit id') S = if id' = id then Q .normal S else Q (.exit id') S) ∧
    (∀ b X Y, condR (.bool b) X Y = ((b = true → X) ∧ (b = false → Y))) :=
  ⟨fun _ _ _ => rfl, fun _ _ _ => rfl, fun _ _ _ _ => rfl, fun _ _ _ => rfl, fun _ _ _ => rfl, fun _ _ _ _ => rfl, fun _ _ _ => rfl⟩
theorem lrR :
    (∀ S ts (K : St → List Nat → Prop), LR P D T [] S ts K = K S ts) ∧
    (∀ d o g w rest S ts (K : St → List Nat → Prop), LR P D T (⟨d, o, g, w⟩ :: rest) S ts K = q8j g S
      (fun S => opT P D T w (S.tmps.all PV.pure) S.ev S.objs o fun r objs' t => LR P D T rest (St.put ⟨S.tmps, objs'⟩ d r) (ts ++ [t]) K)
      (fun S => LR P D T rest (S.put d (.tup [])) (ts ++ [0]) K)) := ⟨fun _ _ _ => rfl, fun _ _ _ _ _ _ _ _ => rfl⟩
theorem guR :
    (∀ (S : St) (X Y : St → Prop), q8j none S X Y = X S) ∧
    (∀ d w (S : St) (X Y : St → Prop), q8j (some (some d, w)) S X Y = q3e (S.tmps.getD d .dead) d w S X Y) ∧
    (∀ b d w (S : St) (X Y : St → Prop), q3e (.bool b) d w S X Y = ((b = w → X { S with tmps := S.tmps.set d (.bool w) }) ∧ (b = !w → Y { S with tmps := S.tmps.set d (.bool !w) }))) ∧
    (∀ d w (S : St) (X Y : St → Prop), q3e (.tup []) d w S X Y = Y S) := ⟨fun _ _ _ => rfl, fun _ _ _ _ _ => rfl, fun _ _ _ _ _ _ => rfl, fun _ _ _ _ _ => rfl⟩
theorem stR :
    (∀ tm ob d p, St.put ⟨tm, ob⟩ (some d) p = ⟨tm.set d p, ob⟩) ∧
    (∀ tm ob p, St.put ⟨tm, ob⟩ none p = ⟨tm, ob⟩) ∧
    (∀ tm ob t, St.ev ⟨tm, ob⟩ (.tmp t) = tm.getD t .dead) ∧
    (∀ (S : St) v, S.ev (.const v) = .ofV v) ∧
    (∀ (S : St) f, S.ev (.func f) = .fn f [] []) ∧
    (∀ k n, PV.ofV (.int k n) = .int k n) ∧ (∀ b, PV.ofV (.bool b) = .bool b) ∧ (∀ l, PV.ofV (.string ⟨⟨l⟩⟩) = .str l) ∧
    (PV.ofV (.slice none 0 0) = .sl 0 [] (some true)) ∧ (PV.ofV (.pointer none) = .nilp) ∧ (PV.ofV .nilFunc = .nilf) ∧
    (∀ args n, q13 args n = ⟨args ++ List.replicate (n - args.length) .dead, []⟩) :=
  ⟨fun _ _ _ _ => rfl, fun _ _ _ => rfl, fun _ _ _ => rfl, fun _ _ => rfl, fun _ _ => rfl,
   fun _ _ => rfl, fun _ => rfl, fun _ => rfl, rfl, rfl, rfl, fun _ _ => rfl⟩
theorem opsR (w pt : Bool) (ev : Operand → PV) (objs : List Obj) (K : KT) :
    (∀ x, opT P D T w pt ev objs (.move x) K = K (ev x) objs 0) ∧ (∀ x, opT P D T w pt ev objs (.assign x) K = K (ev x) objs 0) ∧
    (∀ c x y, opT P D T w pt ev objs (.pick c x y) K = pickR (ev c) (ev x) (ev y) objs K) ∧
    (∀ t, opT P D T w pt ev objs (.alloc t) K = q0b t (D t) objs K) ∧
    (∀ t x, opT P D T w pt ev objs (.box t x) K = boxR t (D t) (ev x) objs K) ∧
    (∀ t ps, opT P D T w pt ev objs (.build t ps) K = q1m D t (ps.toList.map fun x => (x.1, ev x.2)) objs K) ∧
    (∀ t n ps, opT P D T w pt ev objs (.buildSlice t n ps) K = q00 D w t n (ps.toList.map fun x => (x.1, ev x.2)) objs K) ∧
    (∀ t x, opT P D T w pt ev objs (.load t x) K = loadR (D t) (ev x) objs K) ∧
    (∀ t x y, opT P D T w pt ev objs (.store t x y) K = q0a (D t) (ev x) (ev y) objs K) ∧
    (∀ x, opT P D T w pt ev objs (.nilCheck x) K = q0s (ev x) objs K) ∧
    (∀ b t x y t', opT P D T w pt ev objs (.binOp b t x y t') K = binR P (D t) t b (ev x) (ev y) fun r => K r objs 0) ∧
    (∀ u t x, opT P D T w pt ev objs (.unOp u t x) K = unR u (ev x) fun r => K r objs 0) ∧
    (∀ s t x, opT P D T w pt ev objs (.convert s t x) K = convO D s t (ev x) objs K) ∧
    (∀ f first cap, opT P D T w pt ev objs (.makeFunc (.func f) first cap) K = q04 f (first.toList.map ev) (cap.toList.map ev) objs K) ∧
    (∀ t l c, opT P D T w pt ev objs (.makeSlice t l c) K = q02 D t (ev l) (ev c) objs K) ∧
    (∀ t x lo hi, opT P D T w pt ev objs (.slice t x lo hi none) K = q21 D t (ev x) (lo.map ev) (hi.map ev) objs K) ∧
    (∀ t x f, opT P D T w pt ev objs (.fieldAddr t x f) K = q0i D t (ev x) f objs K) ∧
    (∀ t x f, opT P D T w pt ev objs (.field t x f) K = q4z D t (ev x) f objs K) ∧
    (∀ t x i, opT P D T w pt ev objs (.indexAddr t x i) K = q0h D t (ev x) (ev i) objs K) ∧
    (∀ t x i, opT P D T w pt ev objs (.index t x i) K = q3a D t (ev x) (ev i) objs K) ∧
    (∀ x i, opT P D T w pt ev objs (.extract x i) K = q16 (ev x) i objs K) ∧
    (∀ t x at', opT P D T w pt ev objs (.call { callee := .builtin .len, args := ⟨[x]⟩, argTypes := ⟨t :: at'⟩ }) K = q19 D .len (t :: at') [x] ev objs K) ∧
    (∀ b args ats, opT P D T w pt ev objs (.call { callee := .builtin b, args := args, argTypes := ats }) K = q19 D b ats.toList args.toList ev objs K) ∧
    (∀ f args ats, opT P D T w pt ev objs (.call { callee := .value f, args := args, argTypes := ats }) K = callT T pt (ev f) (args.toList.map ev) objs K) :=
  ⟨fun _ => rfl, fun _ => rfl, fun _ _ _ => rfl, fun _ => rfl, fun _ _ => rfl, fun _ _ => rfl, fun _ _ _ => rfl, fun _ _ => rfl, fun _ _ _ => rfl, fun _ => rfl, fun _ _ _ _ _ => rfl, fun _ _ _ => rfl, fun _ _ _ => rfl,
   fun _ _ _ => rfl, fun _ _ _ => rfl, fun _ _ _ _ => rfl, fun _ _ _ => rfl, fun _ _ _ => rfl, fun _ _ _ => rfl, fun _ _ _ => rfl, fun _ _ => rfl, fun _ _ _ => rfl, fun _ _ _ => rfl, fun _ _ _ => rfl⟩
theorem caR :
    (∀ pt g first cap args objs (K : KT), callT T pt (.fn g first cap) args objs K = T.fn g (first ++ args ++ cap) objs K) ∧
    (∀ pt l args objs (K : KT), callT T pt (.yld l) args objs K = (l = T.y ∧ pt = true ∧ args.all PV.pure = true ∧ T.Y args objs fun b o => K (.bool b) o 2)) :=
  ⟨fun _ _ _ _ _ _ _ => rfl, fun _ _ _ _ _ => rfl⟩
theorem knR (l : List (FuncId × Ctr)) : ((tabL P l).noY = tabL P l) ∧ ((tabL P l).fn = tabF l) ∧ ((tabL P l).nx = 0) ∧ ((tabL P l).top = true) ∧ ((tabL P l).gives = Gives P) := ⟨rfl, rfl, rfl, rfl, rfl⟩
theorem kiR (fn : Tab) (y : Nat) (Y : YT) (nx : Nat) : ((knowI fn y Y nx).fn = fn) ∧ ((knowI fn y Y nx).y = y) ∧ ((knowI fn y Y nx).Y = Y) ∧ ((knowI fn y Y nx).nx = nx) := ⟨rfl, rfl, rfl, rfl⟩
theorem taR (g f : FuncId) (c : Ctr) (l : List (FuncId × Ctr)) (args : List PV) (objs : List Obj) (K : KT) : tabF ((g, c) :: l) f args objs K = bif f == g then c args objs K else tabF l f args objs K := rfl
def qo2 : TypeDesc → TK
  | .string => .str
  | .bool => .bool
  | .int k => .int k
  | .slice e => .slice e
  | .array n e => .array n e
  | .struct fl => .struct (fl.toList.map fun f => (f.offset, f.type))
  | .map k e => .map k e
  | _ => .other
theorem q08 {P : Program} {t : TypeId} {k : TK} {sz by' : Nat} {z : Value} (h1 : (P.info? t).map (fun i => (i.size, i.bytes, i.zero)) = some (sz, by', some z)) (h2 : (P.underlying t).map qo2 = some k) (h3 : Nat.beq t MT = false) : TOk P t ⟨k, sz, by', z⟩ := by
  cases hi : P.info? t with
  | none => rw [hi] at h1; simp at h1
  | some i =>
    rw [hi] at h1
    simp only [Option.map_some, Option.some.injEq, Prod.mk.injEq] at h1
    cases hu : P.underlying t with
    | none => rw [hu] at h2; simp at h2
    | some d =>
      rw [hu] at h2
      simp only [Option.map_some, Option.some.injEq] at h2
      subst h2
      refine .inr ⟨⟨i, hi, h1.1, h1.2.1, h1.2.2, fun e => by rw [e] at h3; exact absurd h3 (by decide)⟩, ?_⟩
      cases d <;> simp only [qo2] <;> first
        | exact hu
        | exact ⟨_, hu, rfl⟩
theorem qp4 {P : Program} {t : TypeId} : TOk P t TInfo.off := .inl rfl
def AllT (P : Program) : Nat → List TInfo → Prop
  | _, [] => True
  | i, x :: xs => TOk P i x ∧ AllT P (i + 1) xs
theorem qhq {P : Program} : ∀ (l : List TInfo) (i t : Nat), AllT P i l → TOk P (i + t) (l.getD t TInfo.off)
  | [], i, t, _ => by simpa using qp4
  | x :: xs, i, 0, h => h.1
  | x :: xs, i, t + 1, h => by
    have := qhq xs (i + 1) t h.2
    rw [show i + 1 + t = i + (t + 1) by omega] at this
    simpa using this
end Lp

/-! LpS -/

namespace Lp
open Go
variable {P : Program} {D : TypeId → TInfo} {T : Know} {objs objs' : List Obj} {K : KT}
@[congr] theorem LR_congr {ss : List Step} {S S' : St} {ts ts' : List Nat} {K : St → List Nat → Prop} (h : S = S') (h' : ts = ts') : LR P D T ss S ts K = LR P D T ss S' ts' K := by rw [h, h']
@[congr] theorem qo3 {v v' : PV} {d : Nat} {w : Bool} {S : St} {X Y : St → Prop} (h : v = v') : q3e v d w S X Y = q3e v' d w S X Y := by rw [h]
@[congr] theorem qp5 {v v' : PV} {X Y : Prop} (h : v = v') : condR v X Y = condR v' X Y := by rw [h]
@[congr] theorem qp6 {c c' x x' y y' : PV} (h1 : c = c') (h2 : x = x') (h3 : y = y') (ho : objs = objs') : pickR c x y objs K = pickR c' x' y' objs' K := by rw [h1, h2, h3, ho]
@[congr] theorem qo4 {t : TypeId} {ti ti' : TInfo} (h : ti = ti') (ho : objs = objs') : q0b t ti objs K = q0b t ti' objs' K := by rw [h, ho]
@[congr] theorem qvw {t : TypeId} {ti ti' : TInfo} {v v' : PV} (h : ti = ti') (h1 : v = v') (ho : objs = objs') : boxR t ti v objs K = boxR t ti' v' objs' K := by rw [h, h1, ho]
@[congr] theorem qo5 {t : TypeId} {ps ps' : List (Nat × PV)} (h : ps = ps') (ho : objs = objs') : q1m D t ps objs K = q1m D t ps' objs' K := by rw [h, ho]
@[congr] theorem qik {own : Bool} {t : TypeId} {n : Nat} {ps ps' : List (Nat × PV)} (h : ps = ps') (ho : objs = objs') : q00 D own t n ps objs K = q00 D own t n ps' objs' K := by rw [h, ho]
@[congr] theorem qp7 {ti ti' : TInfo} {p p' : PV} (h : ti = ti') (h1 : p = p') (ho : objs = objs') : loadR ti p objs K = loadR ti' p' objs' K := by rw [h, h1, ho]
@[congr] theorem qo6 {ti ti' : TInfo} {p p' v v' : PV} (h : ti = ti') (h1 : p = p') (h2 : v = v') (ho : objs = objs') : q0a ti p v objs K = q0a ti' p' v' objs' K := by rw [h, h1, h2, ho]
@[congr] theorem qlr {x x' : PV} (h : x = x') (ho : objs = objs') : q0s x objs K = q0s x' objs' K := by rw [h, ho]
@[congr] theorem qvx {ti ti' : TInfo} {t : TypeId} {b : BinOp} {x x' y y' : PV} {K : PV → Prop} (h : ti = ti') (h1 : x = x') (h2 : y = y') : binR P ti t b x y K = binR P ti' t b x' y' K := by rw [h, h1, h2]
@[congr] theorem qw4 {u : UnOp} {x x' : PV} {K : PV → Prop} (h : x = x') : unR u x K = unR u x' K := by rw [h]
@[congr] theorem qp8 {s s' d d' : TInfo} {x x' : PV} {K : PV → Prop} (h : s = s') (h1 : d = d') (h2 : x = x') : convR s d x K = convR s' d' x' K := by rw [h, h1, h2]
@[congr] theorem qls {f : FuncId} {a a' c c' : List PV} (h : a = a') (h1 : c = c') (ho : objs = objs') : q04 f a c objs K = q04 f a' c' objs' K := by rw [h, h1, ho]
@[congr] theorem qk3 {t : TypeId} {l l' c c' : PV} (h : l = l') (h1 : c = c') (ho : objs = objs') : q02 D t l c objs K = q02 D t l' c' objs' K := by rw [h, h1, ho]
@[congr] theorem qo7 {t : TypeId} {x x' : PV} {lo lo' hi hi' : Option PV} (h : x = x') (h1 : lo = lo') (h2 : hi = hi') (ho : objs = objs') : q21 D t x lo hi objs K = q21 D t x' lo' hi' objs' K := by rw [h, h1, h2, ho]
@[congr] theorem qk4 {t : TypeId} {x x' : PV} {f : Nat} (h : x = x') (ho : objs = objs') : q0i D t x f objs K = q0i D t x' f objs' K := by rw [h, ho]
@[congr] theorem qo8 {t : TypeId} {x x' : PV} {f : Nat} (h : x = x') (ho : objs = objs') : q4z D t x f objs K = q4z D t x' f objs' K := by rw [h, ho]
@[congr] theorem qk5 {t : TypeId} {x x' i i' : PV} (h : x = x') (h1 : i = i') (ho : objs = objs') : q0h D t x i objs K = q0h D t x' i' objs' K := by rw [h, h1, ho]
@[congr] theorem qo9 {t : TypeId} {x x' i i' : PV} (h : x = x') (h1 : i = i') (ho : objs = objs') : q3a D t x i objs K = q3a D t x' i' objs' K := by rw [h, h1, ho]
@[congr] theorem qmv {x x' : PV} {i : Nat} (h : x = x') (ho : objs = objs') : q16 x i objs K = q16 x' i objs' K := by rw [h, ho]
@[congr] theorem qvy {t : TypeId} {x x' : PV} (h : x = x') (ho : objs = objs') : lenR D t x objs K = lenR D t x' objs' K := by rw [h, ho]
@[congr] theorem qni {t u : TypeId} {s s' x x' : PV} (h : s = s') (h1 : x = x') (ho : objs = objs') : q06 D t u s x objs K = q06 D t u s' x' objs' K := by rw [h, h1, ho]
@[congr] theorem qnj {b : Bool} {xs xs' : List PV} {K : PV → Prop} (h : xs = xs') : q07 b xs K = q07 b xs' K := by rw [h]
@[congr] theorem qp9 {pt pt' : Bool} {f f' : PV} {args args' : List PV} (hp : pt = pt') (h : f = f') (h1 : args = args') (ho : objs = objs') : callT T pt f args objs K = callT T pt' f' args' objs' K := by rw [hp, h, h1, ho]
@[congr] theorem qpa {pl : Nat → Option (Nat × Nat)} {cs cs' : List PV} {ps : List (Nat × PV)} {K : List PV → Prop} (h : cs = cs') : fillR pl cs ps K = fillR pl cs' ps K := by rw [h]
@[congr] theorem qoa {x x' : Option PV} {d d' : Int} {K : Int → Prop} (h : x = x') (h1 : d = d') : q03 x d K = q03 x' d' K := by rw [h, h1]
@[congr] theorem qw5 {C : LC} {Q : Exit → St → Prop} {S S' : St} (h : S = S') : wpc P D T C Q S = wpc P D T C Q S' := by rw [h]
theorem q0q {ks : List Bool} {fz : Option (Nat × Nat)} {c : LC} {Q : Exit → St → Prop} {S : St} (I : Nat → St → Prop) (m : Nat) (h0 : I m (S.norm ks fz))
    (hr : ∀ m S, I m S → wpc P D T c (thenS (fun S' => ∃ m', m' < m ∧ I m' (S'.norm ks fz)) Q) S) (hz : fzOk T.nx fz := by exact trivial) : wpc P D T (.loop ks fz c) Q S := ⟨hz, I, ⟨_, m, Weak.norm ks fz hz S, h0⟩, hr⟩
theorem q0m {c : LC} {Q : Exit → St → Prop} {S : St} (S' : St) (hw : Weak T.nx S S') (h : wpc P D T c Q S') : wpc P D T (.weak c) Q S := ⟨S', hw, h⟩
theorem qob {f : Operand} {ps : List Nat} {fz : Option (Nat × Nat)} {x y : LC} {Q : Exit → St → Prop} {S : St} (g : FuncId) (cap : List PV) (ys : List (List PV)) (I : Nat → List Obj → Prop) (ht : T.top = true)
    (hf : S.ev f = .fn g [] cap) (hc : cap.all PV.pure = true) (hz : fzOk S.objs.length fz) (hg : T.gives g cap ys) (hy : ∀ y ∈ ys, y.length = ps.length) (h0 : I 0 S.objs) (hl : ∀ i objs, I i objs → S.objs.length ≤ objs.length ∧ q2s objs)
    (hr : ∀ i args objs, I i objs → ys[i]? = some args → wpc P D (T.inner S.objs.length) x (thenS (fun S1 => wpc P D (T.inner S.objs.length) y (qlg fz (I (i + 1))) S1) (fun _ _ => False)) ⟨setL ps args S.tmps, objs⟩)
    (he : ∀ objs, I ys.length objs → Q .normal ⟨S.tmps, objs⟩) : wpc P D T (.rf f ps fz x y) Q S := ⟨ht, g, cap, ys, hf, hc, hg, hy, .inl ⟨I, hz, h0, hl, hr, he⟩⟩
theorem qpb {f : Operand} {ps : List Nat} {fz : Option (Nat × Nat)} {x y : LC} {Q : Exit → St → Prop} {S : St} (g : FuncId) (cap : List PV) (ys : List (List PV)) (I J : Nat → List Obj → Prop) (lv : Exit) {lc : Code} (hlv : qeh lv = some lc) (ht : T.top = true)
    (hf : S.ev f = .fn g [] cap) (hc : cap.all PV.pure = true) (hz : fzOk (S.objs.length + 2) fz) (hg : T.gives g cap ys) (hy : ∀ y ∈ ys, y.length = ps.length) (h0 : I 0 (S.objs ++ [ghA, hole])) (hl : ∀ i objs, I i objs → Gh S.objs.length objs)
    (hj : ∀ i objs, J i objs → Gh S.objs.length objs ∧ NoRefs objs)
    (hr : ∀ i args objs, I i objs → ys[i]? = some args → wpc P D (T.inner (S.objs.length + 2)) x (thenS (fun S1 => wpc P D (T.inner (S.objs.length + 2)) y (qg4 fz (I (i + 1)) lv (J i)) S1) (fun _ _ => False)) ⟨setL ps args S.tmps, objs⟩)
    (he : ∀ objs, I ys.length objs → Q .normal ⟨S.tmps, objs⟩) (hv : ∀ i objs, i < ys.length → J i objs → Q lv ⟨S.tmps, flipG S.objs.length objs⟩) : wpc P D T (.rf f ps fz x y) Q S :=
  ⟨ht, g, cap, ys, hf, hc, hg, hy, .inr ⟨I, J, lv, lc, hlv, hz, h0, hl, hj, hr, he, hv⟩⟩
theorem frR (d n : Nat) (objs : List Obj) :
    (∀ k m, frzT d n objs (.int k m) = .int k m) ∧ (∀ b, frzT d n objs (.bool b) = .bool b) ∧ (∀ s, frzT d n objs (.str s) = .str s) ∧ (∀ sz xs q, frzT d n objs (.sl sz xs q) = .sl sz xs q) ∧ (∀ x, frzT d n objs (.addr x) = .addr x) ∧
    (frzT d n objs .dead = .dead) ∧
    (∀ cs, frzT d n objs (.agg cs) = .agg (cs.map (frz d n objs))) ∧ (∀ cs, frzT d n objs (.tup cs) = .tup (cs.map (frz d n objs))) ∧
    (∀ k m, frz d n objs (.int k m) = .int k m) ∧ (∀ b, frz d n objs (.bool b) = .bool b) ∧ (∀ s, frz d n objs (.str s) = .str s) ∧ (∀ sz xs q, frz d n objs (.sl sz xs q) = .sl sz xs q) ∧ (∀ x, frz d n objs (.addr x) = .addr x) ∧ (frz d n objs .dead = .dead) :=
  ⟨fun _ _ => rfl, fun _ => rfl, fun _ => rfl, fun _ _ _ => rfl, fun _ => rfl, rfl, fun _ => rfl, fun _ => rfl, fun _ _ => rfl, fun _ => rfl, fun _ => rfl, fun _ _ _ => rfl, fun _ => rfl, rfl⟩
theorem retR (d : Nat) (rs : List ResultVar) (r : PV) (S : St) :
    (retQ D d rs r .ret S = outL D S rs fun ps => r = onePV (ps.map (frzT d 0 S.objs))) ∧ (retQ D d rs r .normal S = outL D S rs fun ps => r = onePV (ps.map (frzT d 0 S.objs))) := by
  constructor <;> simp [retQ]
theorem retMR (d t : Nat) (o : Obj) (S : St) :
    (retM d t o .ret S = ∃ S' k ver o0, Weak 0 S S' ∧ S'.tmps.getD t .dead = .osl k ver ∧ S'.objs[k]? = some o0 ∧ o0.live = true ∧ o0.ver = ver ∧ { frzO d (k + 1) S'.objs o0 with ver := 0 } = o ∧ NoRefs [o]) ∧
    (retM d t o .normal S = ∃ S' k ver o0, Weak 0 S S' ∧ S'.tmps.getD t .dead = .osl k ver ∧ S'.objs[k]? = some o0 ∧ o0.live = true ∧ o0.ver = ver ∧ { frzO d (k + 1) S'.objs o0 with ver := 0 } = o ∧ NoRefs [o]) := by
  constructor <;> simp [retM]
theorem tmR : (∀ (x p : PV) l n, (x :: l).set (n + 1) p = x :: l.set n p) ∧ (∀ (x p : PV) l, (x :: l).set 0 p = p :: l) ∧ (∀ (x : PV) l n d, (x :: l).getD (n + 1) d = l.getD n d) ∧ (∀ (x : PV) l d, (x :: l).getD 0 d = x) ∧
    (∀ (x : PV) l m, (x :: l) ++ m = x :: (l ++ m)) ∧ (∀ m : List PV, [] ++ m = m) ∧ (∀ n (x : PV), List.replicate (n + 1) x = x :: List.replicate n x) ∧ (∀ (x : PV), List.replicate 0 x = []) ∧ (∀ (x : PV) l, (x :: l).length = l.length + 1) ∧ (([] : List PV).length = 0) ∧
    (∀ (f : Operand → PV) x l, (x :: l).map f = f x :: l.map f) ∧ (∀ (f : Operand → PV), [].map f = []) ∧
    (∀ (f : Nat × Operand → Nat × PV) x l, (x :: l).map f = f x :: l.map f) ∧ (∀ (f : Nat × Operand → Nat × PV), [].map f = []) ∧
    (∀ (f : PV → PV) x l, (x :: l).map f = f x :: l.map f) ∧ (∀ (f : PV → PV), [].map f = []) ∧
    (∀ (f : Operand → PV) x, (some x).map f = some (f x)) ∧ (∀ (f : Operand → PV), none.map f = none) ∧
    (∀ (x : Nat) l m, (x :: l) ++ m = x :: (l ++ m)) ∧ (∀ m : List Nat, [] ++ m = m) ∧
    (∀ n l, mkT n l = l.foldl (fun tm x => tm.set x.1 x.2) (List.replicate n .dead)) ∧
    (∀ (f : List PV → Nat × PV → List PV) x l i, (x :: l).foldl f i = l.foldl f (f i x)) ∧ (∀ (f : List PV → Nat × PV → List PV) i, [].foldl f i = i) :=
  ⟨fun _ _ _ _ => rfl, fun _ _ _ => rfl, fun _ _ _ _ => rfl, fun _ _ _ => rfl, fun _ _ _ => rfl, fun _ => rfl, fun _ _ => rfl, fun _ => rfl, fun _ _ => rfl, rfl, fun _ _ _ => rfl, fun _ => rfl,
   fun _ _ _ => rfl, fun _ => rfl, fun _ _ _ => rfl, fun _ => rfl, fun _ _ => rfl, fun _ => rfl, fun _ _ _ => rfl, fun _ => rfl, fun _ _ => rfl, fun _ _ _ _ => rfl, fun _ _ => rfl⟩
theorem fgR : (∀ ks x (l : List PV), fgt (true :: ks) (x :: l) = x :: fgt ks l) ∧ (∀ ks x (l : List PV), fgt (false :: ks) (x :: l) = .dead :: fgt ks l) ∧ (∀ ks, fgt ks [] = []) ∧ (∀ ks (S : St), S.norm ks none = S.forget ks) ∧ (∀ ks tm ob, St.forget ks ⟨tm, ob⟩ = ⟨fgt ks tm, ob⟩) :=
  ⟨fun _ _ _ => rfl, fun _ _ _ => rfl, fun ks => by cases ks <;> rfl, fun _ _ => rfl, fun _ _ _ => rfl⟩
theorem biR (ti : TInfo) (t : TypeId) (K : PV → Prop) :
    (∀ b k x y, binR P ti t b (.int k x) (.int k y) K = binI b k k x y K) ∧
    (∀ b x y, binR P ti t b (.str x) (.str y) K = binS b x y K) ∧
    (∀ x y, binR P ti t .eql (.bool x) (.bool y) K = (ti.kind = .bool ∧ K (.bool (x == y)))) ∧
    (∀ x y, binR P ti t .neq (.bool x) (.bool y) K = (ti.kind = .bool ∧ K (.bool (!(x == y))))) ∧
    (∀ x y, binR P ti t .eql (.agg x) (.agg y) K = (EqOk P t x y ∧ ∃ r, eqL x y = some r ∧ K (.bool r))) ∧
    (∀ x y, binR P ti t .neq (.agg x) (.agg y) K = (EqOk P t x y ∧ ∃ r, eqL x y = some r ∧ K (.bool (!r)))) ∧
    (∀ s x q s' x', binR P ti t .eql (.sl s x (some q)) (.sl s' x' (some true)) K = ((∃ e, ti.kind = .slice e) ∧ K (.bool q))) ∧
    (∀ s x q s' x', binR P ti t .neq (.sl s x (some q)) (.sl s' x' (some true)) K = ((∃ e, ti.kind = .slice e) ∧ K (.bool (!q)))) :=
  ⟨fun _ _ _ _ => rfl, fun _ _ _ => rfl, fun _ _ => rfl, fun _ _ => rfl, fun _ _ => rfl, fun _ _ => rfl, fun _ _ _ _ _ => rfl, fun _ _ _ _ _ => rfl⟩
theorem biI (k : IntKind) (a b : Int) (K : PV → Prop) :
    (binI .add k k a b K = (inR k (a + b) ∧ K (.int k (a + b)))) ∧ (binI .sub k k a b K = (inR k (a - b) ∧ K (.int k (a - b)))) ∧ (binI .mul k k a b K = (inR k (a * b) ∧ K (.int k (a * b)))) ∧
    (binI .quo k k a b K = (b ≠ 0 ∧ inR k (a.tdiv b) ∧ K (.int k (a.tdiv b)))) ∧ (binI .rem k k a b K = (b ≠ 0 ∧ K (.int k (a.tmod b)))) ∧
    (binI .eql k k a b K = K (.bool (decide (a = b)))) ∧ (binI .neq k k a b K = K (.bool (!decide (a = b)))) ∧ (binI .lss k k a b K = K (.bool (decide (a < b)))) ∧ (binI .leq k k a b K = K (.bool (decide (a ≤ b)))) ∧
    (binI .gtr k k a b K = K (.bool (decide (b < a)))) ∧ (binI .geq k k a b K = K (.bool (decide (b ≤ a)))) := by
  refine ⟨?_, ?_, ?_, ?_, ?_, ?_, ?_, ?_, ?_, ?_, ?_⟩ <;> simp [binI]
theorem inRR (a : Int) : (inR .i64 a = (-9223372036854775808 ≤ a ∧ a ≤ 9223372036854775807)) ∧ (inR .u8 a = (0 ≤ a ∧ a ≤ 255)) := ⟨rfl, rfl⟩
theorem q1e (ev : Operand → PV) : (∀ t x, q19 D .len [t] [x] ev objs K = lenR D t (ev x) objs K) ∧ (∀ t u s x, q19 D .append [t, u] [s, x] ev objs K = q06 D t u (ev s) (ev x) objs K) ∧
    (∀ ts xs, q19 D .max ts xs ev objs K = q07 true (xs.map ev) fun r => K r objs 0) ∧ (∀ ts xs, q19 D .min ts xs ev objs K = q07 false (xs.map ev) fun r => K r objs 0) :=
  ⟨fun _ _ => rfl, fun _ _ _ _ => rfl, fun _ _ => rfl, fun _ _ => rfl⟩
theorem exmap {α : Type} (l : List α) (f : α → PV) (n : Nat) (q : PV → Prop) : (∃ y, (l.map f)[n]? = some y ∧ q y) = ∃ x, l[n]? = some x ∧ q (f x) := by
  apply propext
  constructor
  · rintro ⟨y, h, hq⟩
    rw [List.getElem?_map] at h
    cases hx : l[n]? with
    | none => rw [hx] at h; simp at h
    | some x => rw [hx] at h; simp only [Option.map_some, Option.some.injEq] at h; exact ⟨x, rfl, h ▸ hq⟩
  · rintro ⟨x, h, hq⟩
    exact ⟨f x, by rw [List.getElem?_map, h]; rfl, hq⟩
theorem exi {α : Type} (a : α) (l : List α) (q : α → Prop) : ((∃ x, (a :: l)[0]? = some x ∧ q x) = q a) ∧ (∀ n, (∃ x, (a :: l)[n + 1]? = some x ∧ q x) = ∃ x, l[n]? = some x ∧ q x) := by
  refine ⟨propext ⟨?_, fun h => ⟨a, rfl, h⟩⟩, fun n => rfl⟩
  rintro ⟨x, h, hq⟩
  simp only [List.getElem?_cons_zero, Option.some.injEq] at h
  exact h ▸ hq
theorem agR : (∀ s b z, TInfo.agg ⟨.str, s, b, z⟩ = false) ∧ (∀ k s b z, TInfo.agg ⟨.int k, s, b, z⟩ = false) ∧ (∀ s b z, TInfo.agg ⟨.bool, s, b, z⟩ = false) ∧ (∀ e s b z, TInfo.agg ⟨.slice e, s, b, z⟩ = false) ∧ (∀ s b z, TInfo.agg ⟨.other, s, b, z⟩ = false) ∧
    (∀ fs s b z, TInfo.agg ⟨.struct fs, s, b, z⟩ = true) ∧ (∀ n e s b z, TInfo.agg ⟨.array n e, s, b, z⟩ = true) := ⟨fun _ _ _ => rfl, fun _ _ _ _ => rfl, fun _ _ _ => rfl, fun _ _ _ _ => rfl, fun _ _ _ => rfl, fun _ _ _ _ => rfl, fun _ _ _ _ _ => rfl⟩
theorem subR (cs : List PV) (o n : Nat) : (sub cs o n false = cs.getD o .dead) ∧ (sub cs o n true = .agg ((cs.drop o).take n)) := ⟨rfl, rfl⟩
theorem isR : (∀ k n, PV.isAgg (.int k n) = false) ∧ (∀ b, PV.isAgg (.bool b) = false) ∧ (∀ s, PV.isAgg (.str s) = false) ∧ (∀ s x q, PV.isAgg (.sl s x q) = false) ∧ (∀ cs, PV.isAgg (.agg cs) = true) ∧ (∀ k v, PV.isAgg (.osl k v) = false) ∧ (∀ k v i f, PV.isAgg (.optr k v i f) = false) ∧ (∀ x, PV.isAgg (.addr x) = false) ∧ (PV.isAgg .nilp = false) ∧
    (∀ k n, PV.cells (.int k n) = [.int k n]) ∧ (∀ b, PV.cells (.bool b) = [.bool b]) ∧ (∀ s, PV.cells (.str s) = [.str s]) ∧ (∀ s x q, PV.cells (.sl s x q) = [.sl s x q]) ∧ (∀ cs, PV.cells (.agg cs) = cs) ∧ (∀ k v, PV.cells (.osl k v) = [.osl k v]) ∧ (∀ k v i f, PV.cells (.optr k v i f) = [.optr k v i f]) ∧ (∀ x, PV.cells (.addr x) = [.addr x]) :=
  ⟨fun _ _ => rfl, fun _ => rfl, fun _ => rfl, fun _ _ _ => rfl, fun _ => rfl, fun _ _ => rfl, fun _ _ _ _ => rfl, fun _ => rfl, rfl, fun _ _ => rfl, fun _ => rfl, fun _ => rfl, fun _ _ _ => rfl, fun _ => rfl, fun _ _ => rfl, fun _ _ _ _ => rfl, fun _ => rfl⟩
theorem alR : (∀ (f : PV → Bool) x l, (x :: l).all f = (f x && l.all f)) ∧ (∀ f : PV → Bool, [].all f = true) ∧ (∀ (x : PV) l n, (x :: l).take (n + 1) = x :: l.take n) ∧ (∀ l : List PV, l.take 0 = []) ∧ (∀ (x : PV) l n, (x :: l).drop (n + 1) = l.drop n) ∧ (∀ l : List PV, l.drop 0 = l) ∧ (∀ n, ([] : List PV).take n = []) ∧ (∀ n, ([] : List PV).drop n = []) :=
  ⟨fun _ _ _ => rfl, fun _ => rfl, fun _ _ _ => rfl, fun _ => by simp, fun _ _ _ => rfl, fun _ => rfl, fun _ => by simp, fun _ => by simp⟩
theorem fzR (d n : Nat) (objs : List Obj) : (∀ k v, frzT d n objs (.osl k v) = frz d n objs (.osl k v)) ∧ (∀ k v i f, frzT d n objs (.optr k v i f) = frz d n objs (.optr k v i f)) ∧ (∀ l, frzT d n objs (.yld l) = .yld l) ∧
    (∀ f a c, frzT d n objs (.fn f a c) = .fn f (a.map (frz d n objs)) (c.map (frz d n objs))) := ⟨fun _ _ => rfl, fun _ _ _ _ => rfl, fun _ => rfl, fun _ _ _ => rfl⟩
theorem puR : (∀ k n, PV.pure (.int k n) = true) ∧ (∀ b, PV.pure (.bool b) = true) ∧ (∀ s, PV.pure (.str s) = true) ∧ (∀ s x q, PV.pure (.sl s x q) = true) ∧ (∀ x, PV.pure (.addr x) = true) ∧ (PV.pure .dead = true) ∧ (∀ l, PV.pure (.yld l) = true) :=
  ⟨fun _ _ => rfl, fun _ => rfl, fun _ => rfl, fun _ _ _ => rfl, fun _ => rfl, rfl, fun _ => rfl⟩
theorem q79 {d n : Nat} {objs : List Obj} {k v i f : Nat} (h : n ≤ k) : (frz d n objs (.optr k v i f)).pure = true := by
  simp only [frz, if_neg (Nat.not_lt.2 h)]
  cases d <;> simp only [frzI]
  · rfl
  · split
    · split
      · split <;> rfl
      · rfl
    · rfl
theorem exi2 {α β : Type} (a : α) (l : List α) (q : α → β → Prop) : ((∃ x y, (a :: l)[0]? = some x ∧ q x y) = ∃ y, q a y) ∧ (∀ n, (∃ x y, (a :: l)[n + 1]? = some x ∧ q x y) = ∃ x y, l[n]? = some x ∧ q x y) := by
  refine ⟨propext ⟨?_, fun ⟨y, h⟩ => ⟨a, y, rfl, h⟩⟩, fun n => rfl⟩
  rintro ⟨x, y, h, hq⟩
  simp only [List.getElem?_cons_zero, Option.some.injEq] at h
  exact ⟨y, h ▸ hq⟩
theorem obR : (∀ (x p : Obj) l n, (x :: l).set (n + 1) p = x :: l.set n p) ∧ (∀ (x p : Obj) l, (x :: l).set 0 p = p :: l) ∧ (∀ (x : Obj) l m, (x :: l) ++ m = x :: (l ++ m)) ∧ (∀ m : List Obj, [] ++ m = m) ∧ (∀ (x : Obj) l, (x :: l).length = l.length + 1) ∧ (([] : List Obj).length = 0) :=
  ⟨fun _ _ _ _ => rfl, fun _ _ _ => rfl, fun _ _ _ => rfl, fun _ => rfl, fun _ _ => rfl, rfl⟩
end Lp
