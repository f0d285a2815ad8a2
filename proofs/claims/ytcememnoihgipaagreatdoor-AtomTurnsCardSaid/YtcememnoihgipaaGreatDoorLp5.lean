/-
  Part 5 of what the statement rests on: LpY, LpU, LpZ, LpEq, LpU2, LpX, LpUse, LpRes, LpE0, LpW1, LpW2, LpW3, LpW4, LpW8, LpW14, LpW15, LpW16, LpW17, LpW18, LpW19, LpW20, LpW13, LpW5, LpW6, LpW7, LpH8, LpW23, LpW30, LpD1, LpD2, LpD3, LpH9, LpH20, LpH21, LpH24, LpHN1, LpHN2, LpHN3. No condition.
-/
import Derived.Test.YtcememnoihgipaaGreatDoorLp4
import Derived.Laws.StructEq
import Derived.Deep.Slices
import Derived.ChangeShapes
import Derived.SizedLaws
import Derived.Deep.DeepHandedRow
import Derived.JoinedOf
import Derived.Below
import Derived.Carry
import Derived.ChangeOld
import Derived.RowKit
import Derived.OpenShut

set_option linter.all false

/-! LpY -/

namespace Lp
open Go
def ifP (b : Bool) (X Y : Prop) : Prop := (b = true → X) ∧ (b = false → Y)
@[congr] theorem qyo {b b' : Bool} {X Y : Prop} (h : b = b') : ifP b X Y = ifP b' X Y := by rw [h]
theorem ifR :
    (∀ X Y, ifP true X Y = X) ∧ (∀ X Y, ifP false X Y = Y) ∧
    (∀ (p : Prop) [Decidable p] X Y, ifP (decide p) X Y = ((p → X) ∧ (¬ p → Y))) ∧
    (∀ b X Y, ifP (!b) X Y = ifP b Y X) ∧
    (∀ a b X Y, ifP (a && b) X Y = ifP a (ifP b X Y) Y) ∧
    (∀ a b X Y, ifP (a || b) X Y = ifP a X (ifP b X Y)) ∧
    (∀ (x y : List UInt8) X Y, ifP (x == y) X Y = ((x = y → X) ∧ (x ≠ y → Y))) ∧
    (∀ (x y : Bool) X Y, ifP (x == y) X Y = ((x = y → X) ∧ (x ≠ y → Y))) := by
  refine ⟨fun X Y => ?_, fun X Y => ?_, fun p _ X Y => ?_, fun b X Y => ?_, fun a b X Y => ?_, fun a b X Y => ?_, fun x y X Y => ?_, fun x y X Y => ?_⟩
  · simp [ifP]
  · simp [ifP]
  · simp [ifP]
  · cases b <;> simp [ifP]
  · cases a <;> simp [ifP]
  · cases a <;> simp [ifP]
  · simp [ifP]
  · simp [ifP]
theorem exR2 :
    (∀ (n : St → Prop) (Q : Exit → St → Prop) S, thenS n Q .normal S = n S) ∧
    (∀ (n : St → Prop) (Q : Exit → St → Prop) S, thenS n Q .ret S = Q .ret S) ∧
    (∀ (n : St → Prop) (Q : Exit → St → Prop) S id, thenS n Q (.exit id) S = Q (.exit id) S) ∧
    (∀ (Q : Exit → St → Prop) S id, q6a id Q .normal S = Q .normal S) ∧
    (∀ (Q : Exit → St → Prop) S id, q6a id Q .ret S = Q .ret S) ∧
    (∀ (Q : Exit → St → Prop) S id id', q6a id Q (.exit id') S = if id' = id then Q .normal S else Q (.exit id') S) ∧
    (∀ b X Y, condR (.bool b) X Y = ifP b X Y) :=
  ⟨fun _ _ _ => rfl, fun _ _ _ => rfl, fun _ _ _ _ => rfl, fun _ _ _ => rfl, fun _ _ _ => rfl, fun _ _ _ _ => rfl, fun _ _ _ => rfl⟩
theorem guR2 :
    (∀ (S : St) (X Y : St → Prop), q8j none S X Y = X S) ∧
    (∀ d w (S : St) (X Y : St → Prop), q8j (some (some d, w)) S X Y = q3e (S.tmps.getD d .dead) d w S X Y) ∧
    (∀ b d (S : St) (X Y : St → Prop), q3e (.bool b) d true S X Y = ifP b (X { S with tmps := S.tmps.set d (.bool true) }) (Y { S with tmps := S.tmps.set d (.bool false) })) ∧
    (∀ b d (S : St) (X Y : St → Prop), q3e (.bool b) d false S X Y = ifP b (Y { S with tmps := S.tmps.set d (.bool true) }) (X { S with tmps := S.tmps.set d (.bool false) })) ∧
    (∀ d w (S : St) (X Y : St → Prop), q3e (.tup []) d w S X Y = Y S) :=
  ⟨fun _ _ _ => rfl, fun _ _ _ _ _ => rfl, fun _ _ _ _ _ => rfl, fun b _ _ _ _ => by cases b <;> simp [q3e, ifP], fun _ _ _ _ _ => rfl⟩
structure HQ (C : LC) (Q : Exit → St → Prop) : Type where
def wpcH (P : Program) (D : TypeId → TInfo) (T : Know) {C : LC} {Q : Exit → St → Prop} (_h : HQ C Q) (S : St) : Prop := wpc P D T C Q S
theorem hoR (P : Program) (D : TypeId → TInfo) (T : Know) :
    (∀ ks fz c (Q : Exit → St → Prop) S, wpc P D T (.loop ks fz c) Q S = wpcH P D T (HQ.mk : HQ (.loop ks fz c) Q) S) ∧
    (∀ c (Q : Exit → St → Prop) S, wpc P D T (.weak c) Q S = wpcH P D T (HQ.mk : HQ (.weak c) Q) S) ∧
    (∀ f ps fz x y (Q : Exit → St → Prop) S, wpc P D T (.rf f ps fz x y) Q S = wpcH P D T (HQ.mk : HQ (.rf f ps fz x y) Q) S) :=
  ⟨fun _ _ _ _ _ => rfl, fun _ _ _ => rfl, fun _ _ _ _ _ _ _ => rfl⟩
def lkA : List (Nat × PV) → Nat → PV
  | [], _ => .dead
  | (j, p) :: l, i => if i = j then p else lkA l i
def tmA (n : Nat) (l : List (Nat × PV)) : List PV := (List.range n).map (lkA l)
theorem q4k (n : Nat) (l : List (Nat × PV)) : (tmA n l).length = n := by simp [tmA]
theorem q80 (n : Nat) (l : List (Nat × PV)) (i : Nat) : (tmA n l)[i]? = if i < n then some (lkA l i) else none := by
  simp only [tmA, List.getElem?_map]
  split
  · rename_i h; rw [List.getElem?_range h]; rfl
  · rename_i h; rw [List.getElem?_eq_none (by simpa using h)]; rfl
theorem qah {n : Nat} {l : List (Nat × PV)} {m : List PV} (hm : m.length = n) (h : ∀ i, i < n → m[i]? = some (lkA l i)) : m = tmA n l := by
  refine List.ext_getElem? fun i => ?_
  rw [q80]
  split
  · rename_i hi; exact h i hi
  · rename_i hi; exact List.getElem?_eq_none (by omega)
def frzA (d n : Nat) (objs : List Obj) : List (Nat × PV) → List (Nat × PV)
  | [] => []
  | (j, p) :: l => (j, frzT d n objs p) :: frzA d n objs l
def fgA (ks : List Bool) : List (Nat × PV) → List (Nat × PV)
  | [] => []
  | (j, p) :: l => if ks[j]? = some true then (j, p) :: fgA ks l else fgA ks l
theorem qlt (d n : Nat) (objs : List Obj) : ∀ (l : List (Nat × PV)) i, lkA (frzA d n objs l) i = frzT d n objs (lkA l i)
  | [], i => by simp [lkA, frzA, frzT, frz]
  | (j, p) :: l, i => by
    simp only [lkA, frzA]
    split
    · rfl
    · exact qlt d n objs l i
theorem qoc (ks : List Bool) : ∀ (l : List (Nat × PV)) i, lkA (fgA ks l) i = if ks[i]? = some true then lkA l i else .dead
  | [], i => by simp [lkA, fgA]
  | (j, p) :: l, i => by
    have ih := qoc ks l i
    simp only [fgA]
    split
    · rename_i h
      simp only [lkA]
      by_cases hij : i = j
      · subst hij; simp [h]
      · simp only [hij, if_false, ih]
    · rename_i h
      rw [ih]
      by_cases hij : i = j
      · subst hij; simp [h]
      · simp [lkA, hij]
theorem fgt_get? : ∀ (ks : List Bool) (l : List PV) (i : Nat), (fgt ks l)[i]? = l[i]?.map fun p => if ks[i]? = some true then p else .dead
  | ks, [], i => by cases ks <;> simp [fgt]
  | [], p :: ps, 0 => by simp [fgt]
  | [], p :: ps, i + 1 => by simpa [fgt] using fgt_get? [] ps i
  | true :: ks, p :: ps, 0 => by simp [fgt]
  | false :: ks, p :: ps, 0 => by simp [fgt]
  | true :: ks, p :: ps, i + 1 => by simpa [fgt] using fgt_get? ks ps i
  | false :: ks, p :: ps, i + 1 => by simpa [fgt] using fgt_get? ks ps i
theorem lkR :
    (∀ i p l, lkA ((i, p) :: l) i = p) ∧ (∀ i j p l, (i == j) = false → lkA ((j, p) :: l) i = lkA l i) ∧ (∀ i, lkA [] i = .dead) := by
  refine ⟨fun i p l => by simp [lkA], fun i j p l h => ?_, fun _ => rfl⟩
  simp only [lkA]
  rw [if_neg (by simpa using h)]
theorem taR2 :
    (∀ n l i p, (tmA n l).set i p = tmA n ((i, p) :: l)) ∧
    (∀ n l i, i < n → (tmA n l).getD i .dead = lkA l i) ∧
    (∀ n l d k objs, (tmA n l).map (frzT d k objs) = tmA n (frzA d k objs l)) ∧
    (∀ ks n l, fgt ks (tmA n l) = tmA n (fgA ks l)) ∧
    (∀ d n objs, frzA d n objs [] = []) ∧ (∀ d n objs j p l, frzA d n objs ((j, p) :: l) = (j, frzT d n objs p) :: frzA d n objs l) := by
  refine ⟨fun n l i p => ?_, fun n l i h => ?_, fun n l d k objs => ?_, fun ks n l => ?_, fun _ _ _ => rfl, fun _ _ _ _ _ _ => rfl⟩
  · refine qah (by simp [q4k]) fun k hk => ?_
    rw [List.getElem?_set]
    simp only [lkA]
    split
    · rename_i h; subst h; simp [q4k, hk]
    · rename_i h; rw [q80, if_pos hk, if_neg (fun h' => h h'.symm)]
  · rw [List.getD_eq_getElem?_getD, q80, if_pos h]; rfl
  · refine qah (by simp [q4k]) fun i hi => ?_
    rw [List.getElem?_map, q80, if_pos hi, qlt]; rfl
  · refine qah (by simp [q37, q4k]) fun i hi => ?_
    rw [fgt_get?, q80, if_pos hi, qoc]; rfl
theorem qod :
    (∀ n, q13 [] n = ⟨tmA n [], []⟩) ∧
    (∀ a n, 1 ≤ n → q13 [a] n = ⟨tmA n [(0, a)], []⟩) ∧
    (∀ a b n, 2 ≤ n → q13 [a, b] n = ⟨tmA n [(0, a), (1, b)], []⟩) ∧
    (∀ a b c n, 3 ≤ n → q13 [a, b, c] n = ⟨tmA n [(0, a), (1, b), (2, c)], []⟩) ∧
    (∀ a b c d n, 4 ≤ n → q13 [a, b, c, d] n = ⟨tmA n [(0, a), (1, b), (2, c), (3, d)], []⟩) ∧
    (∀ a b c d e n, 5 ≤ n → q13 [a, b, c, d, e] n = ⟨tmA n [(0, a), (1, b), (2, c), (3, d), (4, e)], []⟩) := by
  have key : ∀ (args : List PV) (n : Nat) (l : List (Nat × PV)), args.length ≤ n → (∀ i, i < n → args.getD i .dead = lkA l i) → q13 args n = ⟨tmA n l, []⟩ := by
    intro args n l h1 h2
    have : args ++ List.replicate (n - args.length) PV.dead = tmA n l := by
      refine qah (by simp; omega) fun i hi => ?_
      rw [← h2 i hi, List.getElem?_append, List.getD_eq_getElem?_getD]
      split
      · rename_i h; rw [List.getElem?_eq_getElem h]; rfl
      · rename_i h; rw [List.getElem?_replicate, if_pos (by omega), List.getElem?_eq_none (by omega)]; rfl
    rw [q13, this]
  refine ⟨fun n => key _ _ _ (by simp) ?_, fun a n h => key _ _ _ h ?_, fun a b n h => key _ _ _ h ?_, fun a b c n h => key _ _ _ h ?_, fun a b c d n h => key _ _ _ h ?_, fun a b c d e n h => key _ _ _ h ?_⟩
  all_goals
    intro i _
    match i with
    | 0 => rfl
    | 1 => rfl
    | 2 => rfl
    | 3 => rfl
    | 4 => rfl
    | i + 5 => simp [lkA]
theorem stR2 :
    (∀ tm ob d p, St.put ⟨tm, ob⟩ (some d) p = ⟨tm.set d p, ob⟩) ∧
    (∀ tm ob p, St.put ⟨tm, ob⟩ none p = ⟨tm, ob⟩) ∧
    (∀ tm ob t, St.ev ⟨tm, ob⟩ (.tmp t) = tm.getD t .dead) ∧
    (∀ (S : St) v, S.ev (.const v) = .ofV v) ∧
    (∀ (S : St) f, S.ev (.func f) = .fn f [] []) ∧
    (∀ k n, PV.ofV (.int k n) = .int k n) ∧ (∀ b, PV.ofV (.bool b) = .bool b) ∧ (∀ l, PV.ofV (.string ⟨⟨l⟩⟩) = .str l) ∧
    (PV.ofV (.slice none 0 0) = .sl 0 [] (some true)) ∧ (PV.ofV (.pointer none) = .nilp) ∧ (PV.ofV .nilFunc = .nilf) :=
  ⟨fun _ _ _ _ => rfl, fun _ _ _ => rfl, fun _ _ _ => rfl, fun _ _ => rfl, fun _ _ => rfl,
   fun _ _ => rfl, fun _ => rfl, fun _ => rfl, rfl, rfl, rfl⟩
end Lp

/-! LpU -/

namespace Lp
open Go
def encN (n : Nd) : PV := .agg [.int .i64 n.kind, .int .i64 n.many, .str n.name, .str n.s, .bool n.neg, .int .i64 n.e]
def encV (v : Vl) : PV := .sl 6 (v.map encN) none
end Lp

/-! LpZ -/

namespace Lp
open Go
structure HK {α : Type} (K : α → Prop) : Type where
def atO {α : Type} {K : α → Prop} (o : Option α) (_h : HK K) : Prop := ∃ x, o = some x ∧ K x
theorem atR {α : Type} (K : α → Prop) : (∀ x, atO (some x) (HK.mk : HK K) = K x) ∧ (∀ (a : α) l, (a :: l)[0]? = some a) ∧ (∀ (a : α) l (n : Nat), (a :: l)[n + 1]? = l[n]?) :=
  ⟨fun x => by simp [atO], fun _ _ => rfl, fun _ _ _ => by simp⟩
def slK (k : TK) (K : TypeId → Prop) : Prop := match k with
  | .slice e => K e
  | _ => False
def arK (k : TK) (K : Nat → TypeId → Prop) : Prop := match k with
  | .array n e => K n e
  | _ => False
def strK (k : TK) (X : Prop) : Prop := match k with
  | .str => X
  | _ => False
@[congr] theorem qyp {k k' : TK} {K : TypeId → Prop} (h : k = k') : slK k K = slK k' K := by rw [h]
@[congr] theorem qyq {k k' : TK} {K : Nat → TypeId → Prop} (h : k = k') : arK k K = arK k' K := by rw [h]
@[congr] theorem qvz {k k' : TK} {X : Prop} (h : k = k') : strK k X = strK k' X := by rw [h]
theorem skR : (∀ e K, slK (.slice e) K = K e) ∧ (∀ n e K, arK (.array n e) K = K n e) ∧ (∀ X, strK .str X = X) := ⟨fun _ _ => rfl, fun _ _ _ => rfl, fun _ => rfl⟩
theorem genR (D : TypeId → TInfo) (objs : List Obj) (K : KT) :
    (∀ t sz xs q k n, q0h D t (.sl sz xs q) (.int k n) objs K = slK (D t).kind fun e => (D e).kind ≠ .none ∧ 0 ≤ n ∧ (D e).size = sz ∧ atO xs[n.toNat]? (HK.mk : HK fun y => K (.addr y) objs 0)) ∧
    (∀ t k ver k' n, q0h D t (.osl k ver) (.int k' n) objs K = slK (D t).kind fun e => (D e).kind ≠ .none ∧ 0 ≤ n ∧ ∃ o, objs[k]? = some o ∧ o.live = true ∧ o.ver = ver ∧ n < o.xs.length ∧ (D e).size = o.sz ∧ K (.optr k ver n.toNat 0) objs (4 + 2 * k)) ∧
    (∀ t cs k n, q0h D t (.addr (.agg cs)) (.int k n) objs K = arK (D t).kind fun m e => (D e).kind ≠ .none ∧ 0 ≤ n ∧ n < m ∧ (n.toNat + 1) * (D e).size ≤ cs.length ∧ ((D e).agg = false → (D e).size = 1) ∧ cs.all (fun c => !c.isAgg) = true ∧
      K (.addr (sub cs (n.toNat * (D e).size) (D e).size (D e).agg)) objs 0) ∧
    (∀ t k ver i f k' n, q0h D t (.optr k ver i f) (.int k' n) objs K = arK (D t).kind fun m e => (D e).kind ≠ .none ∧ 0 ≤ n ∧ n < m ∧ ∃ o, objs[k]? = some o ∧ o.live = true ∧ o.ver = ver ∧ K (.optr k ver i (f + n.toNat * (D e).size)) objs (4 + 2 * k)) ∧
    (∀ t s k n, q3a D t (.str s) (.int k n) objs K = strK (D t).kind (0 ≤ n ∧ atO s[n.toNat]? (HK.mk : HK fun b => K (.int .u8 b.toNat) objs 0))) ∧
    (∀ t cs k n, q3a D t (.agg cs) (.int k n) objs K = arK (D t).kind fun m e => (D e).kind ≠ .none ∧ 0 ≤ n ∧ n < m ∧ (n.toNat + 1) * (D e).size ≤ cs.length ∧ (D e).size ≠ 0 ∧ K (sub cs (n.toNat * (D e).size) (D e).size (D e).agg) objs 0) ∧
    (∀ t cs f, q0i D t (.addr (.agg cs)) f objs K = q01 D t f fun off ti => off + ti.size ≤ cs.length ∧ (ti.agg = false → ti.size = 1) ∧ cs.all (fun c => !c.isAgg) = true ∧ K (.addr (sub cs off ti.size ti.agg)) objs 0) ∧
    (∀ t k ver i f' f, q0i D t (.optr k ver i f') f objs K = ∃ o, objs[k]? = some o ∧ o.live = true ∧ o.ver = ver ∧ q01 D t f fun off _ => K (.optr k ver i (f' + off)) objs (4 + 2 * k)) ∧
    (∀ t cs f, q4z D t (.agg cs) f objs K = q01 D t f fun off ti => off + ti.size ≤ cs.length ∧ K (sub cs off ti.size ti.agg) objs 0) ∧
    (∀ t s, lenR D t (.str s) objs K = strK (D t).kind (K (.int .i64 s.length) objs 0)) ∧
    (∀ t sz xs q, lenR D t (.sl sz xs q) objs K = slK (D t).kind fun _ => K (.int .i64 xs.length) objs 0) ∧
    (∀ t k ver, lenR D t (.osl k ver) objs K = slK (D t).kind fun _ => ∃ o, objs[k]? = some o ∧ o.live = true ∧ o.ver = ver ∧ K (.int .i64 o.xs.length) objs (4 + 2 * k)) ∧
    (∀ t s lo hi, q21 D t (.str s) lo hi objs K = strK (D t).kind (q03 lo 0 fun l => q03 hi s.length fun h => 0 ≤ l ∧ l ≤ h ∧ h ≤ s.length ∧ K (.str ((s.take h.toNat).drop l.toNat)) objs 0)) ∧
    (∀ t sz xs q lo hi, q21 D t (.sl sz xs q) lo hi objs K = slK (D t).kind fun e => (D e).kind ≠ .none ∧ (xs = [] ∨ (D e).size = sz) ∧ q03 lo 0 fun l => q03 hi xs.length fun h => 0 ≤ l ∧ l ≤ h ∧ h ≤ xs.length ∧
      K (.sl sz ((xs.take h.toNat).drop l.toNat) q) objs 0) ∧
    (∀ t k ver lo hi, q21 D t (.osl k ver) lo hi objs K = slK (D t).kind fun e => (D e).kind ≠ .none ∧ ∃ o, objs[k]? = some o ∧ o.live = true ∧ o.ver = ver ∧ (D e).size = o.sz ∧ lo = none ∧ q03 hi o.xs.length fun h => 0 ≤ h ∧ h ≤ o.xs.length ∧
      K (.osl k (ver + 1)) (objs.set k { o with xs := o.xs.take h.toNat, ver := ver + 1 }) (5 + 2 * k)) := by
  refine ⟨fun t sz xs q k n => ?_, fun t k ver k' n => ?_, fun t cs k n => ?_, fun t k ver i f k' n => ?_, fun t s k n => ?_, fun t cs k n => ?_, fun _ _ _ => rfl, fun _ _ _ _ _ _ => rfl, fun _ _ _ => rfl, fun t s => ?_, fun t sz xs q => ?_, fun t k ver => ?_, fun t s lo hi => ?_, fun t sz xs q lo hi => ?_, fun t k ver lo hi => ?_⟩
  all_goals try simp only [q0h, q3a, lenR, q21]
  all_goals cases (D t).kind <;> simp only [slK, arK, strK, atO]
  apply propext
  constructor
  · rintro ⟨h1, h2, y, h3, h4, h5⟩; exact ⟨h1, h2, h4, y, h3, h5⟩
  · rintro ⟨h1, h2, h4, y, h3, h5⟩; exact ⟨h1, h2, y, h3, h4, h5⟩
theorem ldR (objs : List Obj) (K : KT) :
    (∀ ti x, loadR ti (.addr x) objs K = (ti.kind ≠ .none ∧ x.cells.length = ti.size ∧ x.isAgg = ti.agg ∧ K x objs 0)) ∧
    (∀ ti k ver i f, loadR ti (.optr k ver i f) objs K = ∃ o e, objs[k]? = some o ∧ o.live = true ∧ o.ver = ver ∧ o.xs[i]? = some e ∧ ti.kind ≠ .none ∧ f + ti.size ≤ e.cells.length ∧
      (ti.agg = false → ti.size = 1) ∧ e.cells.all (fun c => !c.isAgg) = true ∧ K (sub e.cells f ti.size ti.agg) objs (4 + 2 * k)) := ⟨fun _ _ => rfl, fun _ _ _ _ _ => rfl⟩
theorem srcK (D : TypeId → TInfo) (objs : List Obj) (K : List PV → Bool → Prop) :
    (∀ t sz xs q, srcR D t (.sl sz xs q) objs K = slK (D t).kind fun _ => K xs false) ∧
    (∀ t k ver, srcR D t (.osl k ver) objs K = slK (D t).kind fun _ => ∃ o, objs[k]? = some o ∧ o.live = true ∧ o.ver = ver ∧ K o.xs true) ∧
    (∀ t s, srcR D t (.str s) objs K = strK (D t).kind (K (s.map fun b => .int .u8 b.toNat) false)) := by
  refine ⟨fun t sz xs q => ?_, fun t k ver => ?_, fun t s => ?_⟩
  all_goals simp only [srcR]
  all_goals cases (D t).kind <;> simp only [slK, strK]
@[congr] theorem qw0 {D : TypeId → TInfo} {t : TypeId} {x x' : PV} {objs objs' : List Obj} {K : List PV → Bool → Prop} (h : x = x') (ho : objs = objs') : srcR D t x objs K = srcR D t x' objs' K := by rw [h, ho]
theorem ntR : noTwo [] = true ∧ (∀ l, noTwo (0 :: l) = noTwo l) ∧ (∀ l, noTwo (1 :: l) = noTwo l) ∧ (∀ l, noTwo (4 :: l) = noTwo l) ∧ (∀ l, noTwo (6 :: l) = noTwo l) ∧ (∀ l, noTwo (8 :: l) = noTwo l) ∧ (∀ l, noTwo (10 :: l) = noTwo l) :=
  ⟨rfl, fun _ => rfl, fun _ => rfl, fun _ => rfl, fun _ => rfl, fun _ => rfl, fun _ => rfl⟩
theorem rowR {α : Type} {E : List α → PV} {sz : Nat} {enc : α → PV} (hE : ∀ l, E l = .sl sz (l.map enc) none) (D : TypeId → TInfo) (objs : List Obj) (K : KT) :
    (∀ t l k n, q0h D t (E l) (.int k n) objs K = slK (D t).kind fun e => (D e).kind ≠ .none ∧ 0 ≤ n ∧ (D e).size = sz ∧ atO l[n.toNat]? (HK.mk : HK fun y => K (.addr (enc y)) objs 0)) ∧
    (∀ t l, lenR D t (E l) objs K = slK (D t).kind fun _ => K (.int .i64 l.length) objs 0) ∧
    (∀ t l lo hi, q21 D t (E l) lo hi objs K = slK (D t).kind fun e => (D e).kind ≠ .none ∧ (l = [] ∨ (D e).size = sz) ∧ q03 lo 0 fun a => q03 hi l.length fun h => 0 ≤ a ∧ a ≤ h ∧ h ≤ l.length ∧
      K (E ((l.take h.toNat).drop a.toNat)) objs 0) := by
  refine ⟨fun t l k n => ?_, fun t l => ?_, fun t l lo hi => ?_⟩
  all_goals simp only [hE, (genR D objs K).1, (genR D objs K).2.2.2.2.2.2.2.2.2.2.1, (genR D objs K).2.2.2.2.2.2.2.2.2.2.2.2.2.1]
  all_goals cases (D t).kind <;> simp only [slK, atO, List.length_map, List.map_eq_nil_iff, List.map_drop, List.map_take]
  apply propext
  constructor
  · rintro ⟨h1, h2, h4, y, h3, h5⟩
    rw [List.getElem?_map] at h3
    cases hx : l[n.toNat]? with
    | none => rw [hx] at h3; simp at h3
    | some x => rw [hx] at h3; simp only [Option.map_some, Option.some.injEq] at h3; exact ⟨h1, h2, h4, x, rfl, h3 ▸ h5⟩
  · rintro ⟨h1, h2, h4, y, h3, h5⟩
    exact ⟨h1, h2, h4, enc y, by rw [List.getElem?_map, h3]; rfl, h5⟩
theorem rowS {α : Type} {E : List α → PV} {sz : Nat} {enc : α → PV} (hE : ∀ l, E l = .sl sz (l.map enc) none) (D : TypeId → TInfo) (objs : List Obj) (K : List PV → Bool → Prop) :
    (∀ t l, srcR D t (E l) objs K = slK (D t).kind fun _ => K (l.map enc) false) := by
  intro t l
  rw [hE]
  exact (srcK D objs K).1 ..
theorem rowC {α : Type} {E : List α → PV} {sz : Nat} {enc : α → PV} (hE : ∀ l, E l = .sl sz (l.map enc) none) :
    (∀ l, (E l).cells = [E l]) ∧ (∀ l, (E l).isAgg = false) ∧ (∀ l, (E l).pure = true) ∧ (∀ l, (E l).ref = false) ∧ (∀ l, (E l).solid = true) ∧ (∀ l, (E l).storable = true) ∧
    (∀ d n O l, frz d n O (E l) = E l) ∧ (∀ d n O l, frzT d n O (E l) = E l) := by
  refine ⟨fun l => ?_, fun l => ?_, fun l => ?_, fun l => ?_, fun l => ?_, fun l => ?_, fun _ _ _ l => ?_, fun _ _ _ l => ?_⟩
  all_goals rw [hE]; rfl
def ofE {α : Type} (E : α → PV) {K : α → Prop} (x : PV) (_h : HK K) : Prop := ∃ v, x = E v ∧ K v
theorem q0p {α : Type} {E : α → PV} (hE : ∀ a b, E a = E b → a = b) (K : α → Prop) (v : α) : ofE E (E v) (HK.mk : HK K) = K v :=
  propext ⟨fun ⟨w, h, hk⟩ => hE v w h ▸ hk, fun hk => ⟨v, rfl, hk⟩⟩
theorem q6q {α : Type} {E : List α → PV} {sz : Nat} {enc : α → PV} (hE : ∀ l, E l = .sl sz (l.map enc) none) (he : ∀ a b, enc a = enc b → a = b) : ∀ a b, E a = E b → a = b := by
  intro a b h
  rw [hE, hE] at h
  injection h with _ h _
  induction a generalizing b with
  | nil => cases b with
    | nil => rfl
    | cons y ys => simp at h
  | cons x xs ih => cases b with
    | nil => simp at h
    | cons y ys =>
      simp only [List.map_cons, List.cons.injEq] at h
      rw [he x y h.1, ih ys h.2]
theorem exS {α : Type} (a : α) (q : α → Prop) : (∃ o, some a = some o ∧ q o) = q a := by simp
theorem stoR : (∀ k n, PV.storable (.int k n) = true) ∧ (∀ b, PV.storable (.bool b) = true) ∧ (∀ s, PV.storable (.str s) = true) ∧ (∀ z xs q, PV.storable (.sl z xs q) = true) ∧
    (∀ k v, PV.storable (.osl k v) = true) ∧ (∀ k v i f, PV.storable (.optr k v i f) = true) ∧ (∀ x, PV.storable (.addr x) = true) :=
  ⟨fun _ _ => rfl, fun _ => rfl, fun _ => rfl, fun _ _ _ => rfl, fun _ _ => rfl, fun _ _ _ _ => rfl, fun _ => rfl⟩
theorem qoe {α β : Type} (f : α → β) (l m : List α) : l.map f ++ m.map f = (l ++ m).map f := by simp
def Inert {α : Type} (enc : α → PV) : Prop := ∀ d n objs x, PV.mapCells (frzI d n objs) (enc x) = enc x
theorem q3j {α : Type} {E : List α → PV} {sz : Nat} {enc : α → PV} (hE : ∀ l, E l = .sl sz (l.map enc) none) (h : Inert enc) :
    (∀ d ty l v rest, frz (d + 1) 0 (⟨ty, sz, l.map enc, true, v⟩ :: rest) (.osl 0 v) = E l) ∧
    (∀ d ty l v o rest, frz (d + 1) 0 (o :: ⟨ty, sz, l.map enc, true, v⟩ :: rest) (.osl 1 v) = E l) ∧
    (∀ d ty l v o o' rest, frz (d + 1) 0 (o :: o' :: ⟨ty, sz, l.map enc, true, v⟩ :: rest) (.osl 2 v) = E l) := by
  have key : ∀ d ty l v objs k, objs[k]? = some ⟨ty, sz, l.map enc, true, v⟩ → frz (d + 1) 0 objs (.osl k v) = E l := by
    intro d ty l v objs k hk
    simp only [frz, Nat.not_lt_zero, if_false, frzI, hk, Nat.zero_le, decide_true, Bool.and_self, BEq.rfl, if_true]
    rw [hE]
    congr 1
    rw [List.map_map]
    exact List.map_congr_left fun x _ => h d 0 objs x
  exact ⟨fun d ty l v rest => key d ty l v _ 0 rfl, fun d ty l v o rest => key d ty l v _ 1 rfl, fun d ty l v o o' rest => key d ty l v _ 2 rfl⟩
theorem rowA {α : Type} {enc : α → PV} {sz : Nat} (h1 : ∀ x, (enc x).cells.length = sz) (h2 : ∀ x, (enc x).cells.all PV.storable = true) (l : List α) :
    (∀ y, y ∈ l.map enc → y.cells.length = sz ∧ y.cells.all PV.storable = true) = True := by
  refine eq_true fun y hy => ?_
  obtain ⟨x, _, rfl⟩ := List.mem_map.1 hy
  exact ⟨h1 x, h2 x⟩
theorem rowA1 (y0 : PV) (sz : Nat) : (∀ y, y ∈ [y0] → y.cells.length = sz ∧ y.cells.all PV.storable = true) = (y0.cells.length = sz ∧ y0.cells.all PV.storable = true) := by simp
theorem neO (E : PV) (h : E.ref = false) (k : Nat) : (∀ k' v' : Nat, E = .osl k' v' → ¬ k' = k) = True := by
  refine eq_true fun k' v' he => ?_
  rw [he] at h; cases h
def keepA : List Bool → Nat → List (Nat × PV) → List (Nat × PV)
  | [], _, _ => []
  | true :: ks, i, l => (i, lkA l i) :: keepA ks (i + 1) l
  | false :: ks, i, l => keepA ks (i + 1) l
theorem qcy : ∀ (ks : List Bool) (j : Nat) (l : List (Nat × PV)) (i : Nat), lkA (keepA ks j l) i = if j ≤ i ∧ ks[i - j]? = some true then lkA l i else .dead
  | [], j, l, i => by simp [keepA, lkA]
  | true :: ks, j, l, i => by
    simp only [keepA, lkA]
    by_cases h : i = j
    · subst h; simp
    · rw [if_neg h, qcy ks (j + 1) l i]
      by_cases hj : j + 1 ≤ i
      · have e : i - j = (i - (j + 1)) + 1 := by omega
        simp only [e, List.getElem?_cons_succ, hj, true_and, show j ≤ i by omega]
      · rw [if_neg (by omega), if_neg (by omega)]
  | false :: ks, j, l, i => by
    simp only [keepA]
    rw [qcy ks (j + 1) l i]
    by_cases h : i = j
    · subst h; rw [if_neg (by omega), if_neg (by simp)]
    · by_cases hj : j + 1 ≤ i
      · have e : i - j = (i - (j + 1)) + 1 := by omega
        simp only [e, List.getElem?_cons_succ, hj, true_and, show j ≤ i by omega]
      · rw [if_neg (by omega), if_neg (by omega)]
theorem qhr (ks : List Bool) (n : Nat) (l : List (Nat × PV)) : fgt ks (tmA n l) = tmA n (keepA ks 0 l) := by
  refine qah (by simp [q37, q4k]) fun i hi => ?_
  rw [fgt_get?, q80, if_pos hi, qcy]
  simp
theorem normR :
    (∀ ks n l ob, St.norm ks none ⟨tmA n l, ob⟩ = ⟨tmA n (keepA ks 0 l), ob⟩) ∧
    (∀ ks d k n l ob, St.norm ks (some (d, k)) ⟨tmA n l, ob⟩ = St.freeze d k ⟨tmA n (keepA ks 0 l), ob⟩) := by
  refine ⟨fun ks n l ob => ?_, fun ks d k n l ob => ?_⟩
  · simp only [St.norm, St.forget, qhr]
  · simp only [St.norm, St.forget, qhr]
theorem keepR : (∀ i l, keepA [] i l = []) ∧ (∀ ks i l, keepA (true :: ks) i l = (i, lkA l i) :: keepA ks (i + 1) l) ∧ (∀ ks i l, keepA (false :: ks) i l = keepA ks (i + 1) l) :=
  ⟨fun _ _ => rfl, fun _ _ _ => rfl, fun _ _ _ => rfl⟩
theorem caR2 (T : Know) (K : KT) (objs : List Obj) (pt : Bool) :
    (∀ g args, callT T pt (.fn g [] []) args objs K = T.fn g args objs K) ∧
    (∀ g c, callT T pt (.fn g [] [c]) [] objs K = T.fn g [c] objs K) ∧
    (∀ g c a, callT T pt (.fn g [] [c]) [a] objs K = T.fn g [a, c] objs K) ∧
    (∀ g c a b, callT T pt (.fn g [] [c]) [a, b] objs K = T.fn g [a, b, c] objs K) ∧
    (∀ g c d a, callT T pt (.fn g [] [c, d]) [a] objs K = T.fn g [a, c, d] objs K) ∧
    (∀ g c d a b, callT T pt (.fn g [] [c, d]) [a, b] objs K = T.fn g [a, b, c, d] objs K) ∧
    (∀ l args, callT T pt (.yld l) args objs K = (l = T.y ∧ pt = true ∧ args.all PV.pure = true ∧ T.Y args objs fun b o => K (.bool b) o 2)) := by
  refine ⟨fun g args => ?_, fun _ _ => rfl, fun _ _ _ => rfl, fun _ _ _ _ => rfl, fun _ _ _ _ => rfl, fun _ _ _ _ _ => rfl, fun _ _ => rfl⟩
  simp [callT]
theorem taR3 (K : KT) (objs : List Obj) (args : List PV) (c : Ctr) (l : List (FuncId × Ctr)) (f : FuncId) :
    (tabF ((f, c) :: l) f args objs K = c args objs K) ∧ (∀ g, (f == g) = false → tabF ((g, c) :: l) f args objs K = tabF l f args objs K) := by
  refine ⟨by simp [tabF], fun g h => ?_⟩
  rw [taR, h]; rfl
@[congr] theorem qmw {D : TypeId → TInfo} {b : Builtin} {ats ats' : List TypeId} {args args' : List Operand} {ev : Operand → PV} {objs : List Obj} {K : KT} (h : ats = ats') (h1 : args = args') : q19 D b ats args ev objs K = q19 D b ats' args' ev objs K := by rw [h, h1]
theorem opsR2 (P : Program) (D : TypeId → TInfo) (T : Know) (w pt : Bool) (ev : Operand → PV) (objs : List Obj) (K : KT) :
    (∀ x, opT P D T w pt ev objs (.move x) K = K (ev x) objs 0) ∧ (∀ x, opT P D T w pt ev objs (.assign x) K = K (ev x) objs 0) ∧
    (∀ c x y, opT P D T w pt ev objs (.pick c x y) K = pickR (ev c) (ev x) (ev y) objs K) ∧
    (∀ t, opT P D T w pt ev objs (.alloc t) K = q0b t (D t) objs K) ∧
    (∀ t x, opT P D T w pt ev objs (.box t x) K = boxR t (D t) (ev x) objs K) ∧
    (∀ t ps, opT P D T w pt ev objs (.build t ps) K = q1m D t (ps.toList.map fun x => (x.1, ev x.2)) objs K) ∧
    (∀ t n ps, opT P D T w pt ev objs (.buildSlice t n ps) K = q00 D w t n (ps.toList.map fun x => (x.1, ev x.2)) objs K) ∧
    (∀ t x, opT P D T w pt ev objs (.load t x) K = loadR (D t) (ev x) objs K) ∧
    (∀ t x y, opT P D T w pt ev objs (.store t x y) K = q0a (D t) (ev x) (ev y) objs K) ∧
    (∀ x, opT P D T w pt ev objs (.nilCheck x) K = q0s (ev x) objs K) ∧
    (∀ b t x y t', opT P D T w pt ev objs (.binOp b t x y t') K = binR P (D t) t b (ev x) (ev y) fun r => K r objs 0) ∧
    (∀ u t x, opT P D T w pt ev objs (.unOp u t x) K = unR u (ev x) fun r => K r objs 0) ∧
    (∀ s t x, opT P D T w pt ev objs (.convert s t x) K = convO D s t (ev x) objs K) ∧
    (∀ f first cap, opT P D T w pt ev objs (.makeFunc (.func f) first cap) K = q04 f (first.toList.map ev) (cap.toList.map ev) objs K) ∧
    (∀ t l c, opT P D T w pt ev objs (.makeSlice t l c) K = q02 D t (ev l) (ev c) objs K) ∧
    (∀ t x lo hi, opT P D T w pt ev objs (.slice t x lo hi none) K = q21 D t (ev x) (lo.map ev) (hi.map ev) objs K) ∧
    (∀ t x f, opT P D T w pt ev objs (.fieldAddr t x f) K = q0i D t (ev x) f objs K) ∧
    (∀ t x f, opT P D T w pt ev objs (.field t x f) K = q4z D t (ev x) f objs K) ∧
    (∀ t x i, opT P D T w pt ev objs (.indexAddr t x i) K = q0h D t (ev x) (ev i) objs K) ∧
    (∀ t x i, opT P D T w pt ev objs (.index t x i) K = q3a D t (ev x) (ev i) objs K) ∧
    (∀ x i, opT P D T w pt ev objs (.extract x i) K = q16 (ev x) i objs K) ∧
    (∀ t x, opT P D T w pt ev objs (.call { callee := .builtin .len, args := ⟨[x]⟩, argTypes := ⟨[t]⟩ }) K = lenR D t (ev x) objs K) ∧
    (∀ t u s x, opT P D T w pt ev objs (.call { callee := .builtin .append, args := ⟨[s, x]⟩, argTypes := ⟨[t, u]⟩ }) K = q06 D t u (ev s) (ev x) objs K) ∧
    (∀ x y ats, opT P D T w pt ev objs (.call { callee := .builtin .max, args := ⟨[x, y]⟩, argTypes := ats }) K = q07 true [ev x, ev y] fun r => K r objs 0) ∧
    (∀ x y ats, opT P D T w pt ev objs (.call { callee := .builtin .min, args := ⟨[x, y]⟩, argTypes := ats }) K = q07 false [ev x, ev y] fun r => K r objs 0) ∧
    (∀ f args ats, opT P D T w pt ev objs (.call { callee := .value f, args := args, argTypes := ats }) K = callT T pt (ev f) (args.toList.map ev) objs K) :=
  ⟨fun _ => rfl, fun _ => rfl, fun _ _ _ => rfl, fun _ => rfl, fun _ _ => rfl, fun _ _ => rfl, fun _ _ _ => rfl, fun _ _ => rfl, fun _ _ _ => rfl, fun _ => rfl, fun _ _ _ _ _ => rfl, fun _ _ _ => rfl, fun _ _ _ => rfl,
   fun _ _ _ => rfl, fun _ _ _ => rfl, fun _ _ _ _ => rfl, fun _ _ _ => rfl, fun _ _ _ => rfl, fun _ _ _ => rfl, fun _ _ _ => rfl, fun _ _ => rfl, fun _ _ => rfl, fun _ _ _ _ => rfl, fun _ _ _ => rfl, fun _ _ _ => rfl, fun _ _ _ => rfl⟩
theorem exS2 {α β : Type} (a : α) (q : α → β → Prop) : (∃ o e, some a = some o ∧ q o e) = ∃ e, q a e := by simp
theorem setRow {α : Type} {enc : α → PV} (h : ∀ x y : α, (enc x).putCells 0 (enc y).cells = enc y) (l : List α) (i : Nat) (x y : α) : (l.map enc).set i ((enc x).putCells 0 (enc y).cells) = (l.set i y).map enc := by
  rw [h, List.map_set]
theorem lrR3 (P : Program) (D : TypeId → TInfo) (T : Know) :
    (∀ S ts (K : St → List Nat → Prop), LR P D T [] S ts K = K S ts) ∧
    (∀ d o w rest n l ob ts (K : St → List Nat → Prop), LR P D T (⟨some d, o, none, w⟩ :: rest) ⟨tmA n l, ob⟩ ts K =
      opT P D T w ((tmA n l).all PV.pure) (St.ev ⟨tmA n l, ob⟩) ob o fun r objs' t => LR P D T rest ⟨tmA n ((d, r) :: l), objs'⟩ (ts ++ [t]) K) ∧
    (∀ o w rest n l ob ts (K : St → List Nat → Prop), LR P D T (⟨none, o, none, w⟩ :: rest) ⟨tmA n l, ob⟩ ts K =
      opT P D T w ((tmA n l).all PV.pure) (St.ev ⟨tmA n l, ob⟩) ob o fun r objs' t => LR P D T rest ⟨tmA n l, objs'⟩ (ts ++ [t]) K) ∧
    (∀ d o g v w rest n l ob ts (K : St → List Nat → Prop), LR P D T (⟨some d, o, some (some g, v), w⟩ :: rest) ⟨tmA n l, ob⟩ ts K =
      q3e ((tmA n l).getD g .dead) g v ⟨tmA n l, ob⟩ (fun S => LR P D T (⟨some d, o, none, w⟩ :: rest) S ts K) (fun S => LR P D T rest (S.put (some d) (.tup [])) (ts ++ [0]) K)) ∧
    (∀ o g v w rest n l ob ts (K : St → List Nat → Prop), LR P D T (⟨none, o, some (some g, v), w⟩ :: rest) ⟨tmA n l, ob⟩ ts K =
      q3e ((tmA n l).getD g .dead) g v ⟨tmA n l, ob⟩ (fun S => LR P D T (⟨none, o, none, w⟩ :: rest) S ts K) (fun S => LR P D T rest S (ts ++ [0]) K)) := by
  refine ⟨fun _ _ _ => rfl, fun d o w rest n l ob ts K => ?_, fun o w rest n l ob ts K => rfl, fun d o g v w rest n l ob ts K => rfl, fun o g v w rest n l ob ts K => rfl⟩
  simp only [← taR2.1]
  rfl
theorem guR3 :
    (∀ b d n l ob (X Y : St → Prop), q3e (.bool b) d true ⟨tmA n l, ob⟩ X Y = ifP b (X ⟨tmA n ((d, .bool true) :: l), ob⟩) (Y ⟨tmA n ((d, .bool false) :: l), ob⟩)) ∧
    (∀ b d n l ob (X Y : St → Prop), q3e (.bool b) d false ⟨tmA n l, ob⟩ X Y = ifP b (Y ⟨tmA n ((d, .bool true) :: l), ob⟩) (X ⟨tmA n ((d, .bool false) :: l), ob⟩)) ∧
    (∀ d w (S : St) (X Y : St → Prop), q3e (.tup []) d w S X Y = Y S) := by
  refine ⟨fun b d n l ob X Y => ?_, fun b d n l ob X Y => ?_, fun _ _ _ _ _ => rfl⟩
  · simp only [guR2, taR2.1]
  · simp only [guR2, taR2.1]
theorem putR3 : (∀ n l ob d p, St.put ⟨tmA n l, ob⟩ (some d) p = ⟨tmA n ((d, p) :: l), ob⟩) := fun n l ob d p => by
  rw [← taR2.1]; rfl
theorem FnOk.pureG {P : Program} {D : TypeId → TInfo} {T : Know} {f : FuncId} {n t : Nat} {C : LC} {args : List PV} {r : PV} (h : FnOk P f n [.tmp t] C) (d : Nat) (hD : ∀ t, TOk P t (D t)) (hT : KOk P none Etop T) (hm : P.follows .mixedOrders = true) (ht : t < n)
    (hw : ∀ Q : Exit → St → Prop, (∀ l ob, Q .ret ⟨tmA n l, ob⟩ = (r = frzT d 0 ob (lkA l t))) → wpc P D T C Q (q13 args n)) : FnSpec P f args [] r [] := by
  refine h.pure d hD hT hm (by simp) (hw _ fun l ob => ?_)
  simp only [retR, outL, taR2.2.1 n l t ht, List.map_cons, List.map_nil, onePV]
theorem pkR (x y : PV) (objs : List Obj) (K : KT) : (pickR (.bool true) x y objs K = K x objs 0) ∧ (pickR (.bool false) x y objs K = K y objs 0) := ⟨rfl, rfl⟩
theorem preZ :
    type_of% @wpR ∧
    type_of% @knR ∧
    type_of% @kiR ∧
    type_of% @lrR3 ∧
    type_of% @exR2 ∧
    type_of% @guR3 ∧
    type_of% @putR3 ∧
    type_of% @hoR ∧
    type_of% @ifR ∧
    type_of% @opsR2 ∧
    type_of% @taR3 ∧
    type_of% @q1e ∧
    type_of% @biI ∧
    type_of% @exmap ∧
    type_of% @exi ∧
    type_of% @exi2 ∧
    type_of% @srcK ∧
    type_of% @skR ∧
    type_of% @atR ∧
    type_of% @exS ∧
    type_of% @exS2 :=
  ⟨@wpR, @knR, @kiR, @lrR3, @exR2, @guR3, @putR3, @hoR, @ifR, @opsR2, @taR3, @q1e, @biI, @exmap, @exi, @exi2, @srcK, @skR, @atR, @exS, @exS2⟩
theorem postZ :
    type_of% @knR ∧
    type_of% @kiR ∧
    type_of% @lkR ∧
    type_of% @taR2 ∧
    type_of% @qod ∧
    type_of% @guR3 ∧
    type_of% @ifR ∧
    type_of% @stR2 ∧
    type_of% @retR ∧
    type_of% @retMR ∧
    type_of% @frR ∧
    type_of% @fzR ∧
    type_of% @tmR ∧
    type_of% @normR ∧
    type_of% @keepR ∧
    type_of% @caR2 ∧
    type_of% @taR3 ∧
    type_of% @q1e ∧
    type_of% @pkR ∧
    type_of% @biR ∧
    type_of% @biI ∧
    type_of% @inRR ∧
    type_of% @obR ∧
    type_of% @agR ∧
    type_of% @subR ∧
    type_of% @isR ∧
    type_of% @alR ∧
    type_of% @genR ∧
    type_of% @ldR ∧
    type_of% @srcK ∧
    type_of% @skR ∧
    type_of% @ntR ∧
    type_of% @atR ∧
    type_of% @stoR ∧
    type_of% @puR ∧
    type_of% @qoe ∧
    type_of% @rowA1 :=
  ⟨@knR, @kiR, @lkR, @taR2, @qod, @guR3, @ifR, @stR2, @retR, @retMR, @frR, @fzR, @tmR, @normR, @keepR, @caR2, @taR3, @q1e, @pkR, @biR, @biI, @inRR, @obR, @agR, @subR, @isR, @alR, @genR, @ldR, @srcK, @skR, @ntR, @atR, @stoR, @puR, @qoe, @rowA1⟩
theorem coreZ :
    type_of% @decide_true ∧
    type_of% @decide_false ∧
    type_of% @not_true_eq_false ∧
    type_of% @not_false_eq_true ∧
    type_of% @false_and ∧
    type_of% @and_false ∧
    type_of% @cond_true.{1} ∧
    type_of% @cond_false.{1} ∧
    type_of% @List.take_zero.{0} ∧
    type_of% @ne_eq.{1} ∧
    type_of% @true_and ∧
    type_of% @PV.bool.injEq ∧
    type_of% @Int.toNat_natCast ∧
    type_of% @Int.toNat_zero ∧
    type_of% @Bool.not_false ∧
    type_of% @Bool.not_true ∧
    type_of% @Bool.and_self ∧
    type_of% @Bool.false_eq_true ∧
    type_of% @Bool.true_eq_false ∧
    type_of% @forall_const.{1} ∧
    type_of% @false_implies ∧
    type_of% @true_implies ∧
    type_of% @and_true ∧
    type_of% @implies_true.{1} ∧
    type_of% @implies_true.{0} ∧
    type_of% @forall_const.{0} ∧
    type_of% @Nat.zero_add ∧
    type_of% @List.length_map.{0,0} ∧
    type_of% @List.length_cons.{0} ∧
    type_of% @List.length_nil.{0} ∧
    type_of% @List.nil_append.{0} ∧
    type_of% @List.map_cons.{0,0} ∧
    type_of% @List.map_nil.{0,0} ∧
    type_of% @Bool.true_or ∧
    type_of% @List.getElem?_cons_zero.{0} ∧
    type_of% @List.getElem?_cons_succ.{0} ∧
    type_of% @Option.map_some.{0,0} ∧
    type_of% @or_true ∧
    type_of% @List.getElem?_map.{0,0} ∧
    type_of% @List.length_replicate.{0} ∧
    type_of% @List.all_cons.{0} ∧
    type_of% @List.all_nil.{0} ∧
    type_of% @Bool.and_true ∧
    type_of% @Bool.true_and ∧
    type_of% @Bool.false_or ∧
    type_of% @Bool.or_false ∧
    type_of% @Nat.le_refl ∧
    type_of% @Nat.lt_add_one ∧
    type_of% @List.length_append.{0} :=
  ⟨@decide_true, @decide_false, @not_true_eq_false, @not_false_eq_true, @false_and, @and_false, @cond_true.{1}, @cond_false.{1}, @List.take_zero.{0}, @ne_eq.{1}, @true_and, @PV.bool.injEq, @Int.toNat_natCast, @Int.toNat_zero, @Bool.not_false, @Bool.not_true, @Bool.and_self, @Bool.false_eq_true, @Bool.true_eq_false, @forall_const.{1}, @false_implies, @true_implies, @and_true, @implies_true.{1}, @implies_true.{0}, @forall_const.{0}, @Nat.zero_add, @List.length_map.{0,0}, @List.length_cons.{0}, @List.length_nil.{0}, @List.nil_append.{0}, @List.map_cons.{0,0}, @List.map_nil.{0,0}, @Bool.true_or, @List.getElem?_cons_zero.{0}, @List.getElem?_cons_succ.{0}, @Option.map_some.{0,0}, @or_true, @List.getElem?_map.{0,0}, @List.length_replicate.{0}, @List.all_cons.{0}, @List.all_nil.{0}, @Bool.and_true, @Bool.true_and, @Bool.false_or, @Bool.or_false, @Nat.le_refl, @Nat.lt_add_one, @List.length_append.{0}⟩
end Lp

/-! LpEq -/

namespace Lp
open Go
variable {P : Program}
def fitT : Option TypeDesc → PV → PV → Bool
  | some (.int k), .int k1 _, .int k2 _ => decide (k1 = k2)
  | some .bool, .bool _, .bool _ => true
  | some .string, .str _, .str _ => true
  | _, _, _ => false
def fitF (P : Program) : Nat → List Field → List PV → List PV → Bool
  | _, [], [], [] => true
  | k, f :: fs, p :: aa, q :: bs => (f.name != "_") && f.offset == k && fitT (P.underlying f.type) p q && fitF P (k + 1) fs aa bs
  | _, _, _, _ => false
theorem qhs {w : World} {t : TypeId} {xs : Array Value} {o : Nat} {v : Value} {d : TypeDesc} (hu : P.underlying t = some d) (hd : (∃ k, d = .int k) ∨ d = .bool ∨ d = .string) (hv : xs[o]? = some v) : (part t xs o).run P w = .ok v w := by
  rcases hd with ⟨k, rfl⟩ | rfl | rfl
  all_goals simp [part, isAgg, run_underlying hu, hv]
theorem qyr {w : World} {d : Nat} {t : TypeId} {p q : PV} {v u : Value} {ok : Nat → Prop} (hf : fitT (P.underlying t) p q = true) (hv : Rep w ok p v) (hu : Rep w ok q u) :
    ∃ b, eqS p q = some b ∧ (Op.equalIn (d + 1) t v u).run P w = .ok b w ∧ ∃ e, P.underlying t = some e ∧ ((∃ k, e = .int k) ∨ e = .bool ∨ e = .string) := by
  unfold fitT at hf
  split at hf
  · rename_i k k1 a k2 b hk
    have : k1 = k2 := by simpa using hf
    subst this
    cases hv; cases hu
    exact ⟨decide (a = b), by simp [eqS], by rw [run_equalIn_int w d t k1 k a b hk]; rfl, _, hk, .inl ⟨_, rfl⟩⟩
  · rename_i a b hk
    cases hv; cases hu
    exact ⟨a == b, rfl, run_equalIn_bool' w d t a b hk, _, hk, .inr (.inl rfl)⟩
  · rename_i a b hk
    cases hv; cases hu
    refine ⟨decide (a = b), rfl, ?_, _, hk, .inr (.inr rfl)⟩
    rw [run_equalIn_string w d t _ _ hk]
    congr 1
    simp only [ByteArray.toList_eq]
    by_cases h : a = b
    · simp [h]
    · simp [h]
  · cases hf
theorem qlu {w : World} {d : Nat} {ok : Nat → Prop} {xs ys : Array Value} : ∀ (fs : List Field) (k : Nat) (aa bs : List PV) (r : Bool), fitF P k fs aa bs = true → eqL aa bs = some r →
    (∀ i p, aa[i]? = some p → ∃ v, xs[k + i]? = some v ∧ Rep w ok p v) → (∀ i p, bs[i]? = some p → ∃ v, ys[k + i]? = some v ∧ Rep w ok p v) →
    (Op.eqFields (d + 1) xs ys fs).run P w = .ok r w
  | [], k, aa, bs, r, hf, he, _, _ => by
    cases aa <;> cases bs <;> simp [fitF] at hf
    simp only [eqL, Option.some.injEq] at he
    subst he
    rfl
  | f :: fs, k, aa, bs, r, hf, he, ha, hb => by
    cases aa with
    | nil => cases bs <;> simp [fitF] at hf
    | cons p aa =>
      cases bs with
      | nil => simp [fitF] at hf
      | cons q bs =>
        simp only [fitF, Bool.and_eq_true, beq_iff_eq, bne_iff_ne] at hf
        obtain ⟨⟨⟨hn, ho⟩, ht⟩, hr⟩ := hf
        obtain ⟨v, hv, rv⟩ := ha 0 p rfl
        obtain ⟨u, hu, ru⟩ := hb 0 q rfl
        obtain ⟨b, hb1, hb2, e, he1, he2⟩ := qyr (d := d) ht rv ru
        simp only [eqL, hb1] at he
        cases hq : eqL aa bs with
        | none => rw [hq] at he; simp at he
        | some r' =>
          rw [hq] at he
          simp only [Option.some.injEq] at he
          subst he
          have ih := qlu (w := w) (d := d) (ok := ok) (xs := xs) (ys := ys) fs (k + 1) aa bs r' hr hq (fun i p h => by have := ha (i + 1) p (by simpa using h); rwa [show k + (i + 1) = k + 1 + i by omega] at this) (fun i p h => by have := hb (i + 1) p (by simpa using h); rwa [show k + (i + 1) = k + 1 + i by omega] at this)
          have p1 := qhs (w := w) (xs := xs) (o := f.offset) he1 he2 (by rw [ho]; simpa using hv)
          have p2 := qhs (w := w) (xs := ys) (o := f.offset) he1 he2 (by rw [ho]; simpa using hu)
          simp only [Op.eqFields, ne_eq, hn, not_false_eq_true, if_true, Sem.run_bind, p1, Result.andThen_ok, p2, hb2]
          cases b
          · simp
          · simpa using ih
theorem qvl {t : TypeId} {aa bs : List PV} (hg : P.eqGuardType P.depth t = false) (ht : P.underlying t = some (.struct (P.fieldsOf t))) (hp : P.stoodInHeld t = false) (hf : fitF P 0 (P.fieldsOf t).toList aa bs = true) : EqOk P t aa bs := by
  refine ⟨hg, fun w ok vs us r hr h1 h2 => ?_⟩
  have e : Op.equal t (.agg ⟨vs⟩) (.agg ⟨us⟩) = Op.equalIn (9999 + 1) t (.agg ⟨vs⟩) (.agg ⟨us⟩) := rfl
  rw [e, run_equalIn_struct w 9999 t _ _ ht hp]
  refine qlu (d := 9998) (ok := ok) _ 0 aa bs r hf hr ?_ ?_
  · intro i p hi
    have hlt := (List.getElem?_eq_some_iff.1 hi).1
    have hv : vs[i]? = some (vs[i]'(by rw [← h1.1]; exact hlt)) := List.getElem?_eq_getElem _
    exact ⟨_, by simpa using hv, h1.2 i p _ hi hv⟩
  · intro i p hi
    have hlt := (List.getElem?_eq_some_iff.1 hi).1
    have hv : us[i]? = some (us[i]'(by rw [← h2.1]; exact hlt)) := List.getElem?_eq_getElem _
    exact ⟨_, by simpa using hv, h2.2 i p _ hi hv⟩
end Lp

/-! LpU2 -/

namespace Lp
open Go Go.Proofs
def encT (l : List (List UInt8)) : PV := .sl 1 (l.map .str) none
def encL (l : List Vl) : PV := .sl 1 (l.map encV) none
def encI (l : List Int) : PV := .sl 1 (l.map (.int .i64)) none
def encG (l : List (List Int)) : PV := .sl 1 (l.map encI) none
theorem hV : ∀ l, encV l = .sl 6 (l.map encN) none := fun _ => rfl
theorem hT : ∀ l, encT l = .sl 1 (l.map .str) none := fun _ => rfl
theorem hL : ∀ l, encL l = .sl 1 (l.map encV) none := fun _ => rfl
theorem hI : ∀ l, encI l = .sl 1 (l.map (.int .i64)) none := fun _ => rfl
theorem hG : ∀ l, encG l = .sl 1 (l.map encI) none := fun _ => rfl
theorem q5w : ∀ a b, encN a = encN b → a = b := by
  intro a b h
  cases a; cases b
  simp only [encN, PV.agg.injEq, List.cons.injEq, PV.int.injEq, PV.str.injEq, PV.bool.injEq, true_and, and_true] at h
  obtain ⟨rfl, rfl, rfl, rfl, rfl, rfl⟩ := h
  rfl
theorem q7d : ∀ a b, encV a = encV b → a = b := q6q hV q5w
theorem q99 : ∀ a b, encT a = encT b → a = b := q6q hT fun _ _ h => by injection h
theorem q7e : ∀ a b, encI a = encI b → a = b := q6q hI fun _ _ h => by injection h
theorem q9a : ∀ a b, encL a = encL b → a = b := q6q hL q7d
theorem q9b : ∀ a b, encG a = encG b → a = b := q6q hG q7e
theorem nodeR (objs : List Obj) (K : KT) :
    (∀ n, q0i D t_api_Node (.addr (encN n)) 0 objs K = K (.addr (.int .i64 n.kind)) objs 0) ∧
    (∀ n, q0i D t_api_Node (.addr (encN n)) 1 objs K = K (.addr (.int .i64 n.many)) objs 0) ∧
    (∀ n, q0i D t_api_Node (.addr (encN n)) 2 objs K = K (.addr (.str n.name)) objs 0) ∧
    (∀ n, q0i D t_api_Node (.addr (encN n)) 3 objs K = K (.addr (.str n.s)) objs 0) ∧
    (∀ n, q0i D t_api_Node (.addr (encN n)) 4 objs K = K (.addr (.bool n.neg)) objs 0) ∧
    (∀ n, q0i D t_api_Node (.addr (encN n)) 5 objs K = K (.addr (.int .i64 n.e)) objs 0) := by
  refine ⟨fun n => ?_, fun n => ?_, fun n => ?_, fun n => ?_, fun n => ?_, fun n => ?_⟩
  all_goals
    simp only [encN, q0i, q01, D_all, ↓exi, agR, subR, tmR, isR, alR, ne_eq, reduceCtorEq, not_false_eq_true, true_and, Bool.not_false, Bool.and_self, Nat.reduceAdd, Nat.reduceLeDiff, forall_const]
theorem nodeC :
    (∀ n, (encN n).cells = [.int .i64 n.kind, .int .i64 n.many, .str n.name, .str n.s, .bool n.neg, .int .i64 n.e]) ∧
    (∀ n, (encN n).isAgg = true) ∧ (∀ n, (encN n).pure = true) ∧ (∀ d m O n, frz d m O (encN n) = encN n) ∧ (∀ d m O n, frzT d m O (encN n) = encN n) :=
  ⟨fun _ => rfl, fun _ => rfl, fun _ => rfl, fun _ _ _ _ => rfl, fun _ _ _ _ => rfl⟩
theorem eqOkN (a b : Nd) : EqOk Tryz.prog t_api_Node (encN a).cells (encN b).cells :=
  qvl (by kernel_rfl) (by kernel_rfl) (by kernel_rfl) (by
    have h : (Tryz.prog.fieldsOf t_api_Node).toList.map (fun f => (f.name != "_", f.offset, Tryz.prog.underlying f.type)) = [(true, 0, some (.int .i64)), (true, 1, some (.int .i64)), (true, 2, some .string), (true, 3, some .string), (true, 4, some .bool), (true, 5, some (.int .i64))] := by kernel_rfl
    generalize (Tryz.prog.fieldsOf t_api_Node).toList = fs at h
    obtain _ | ⟨f0, _ | ⟨f1, _ | ⟨f2, _ | ⟨f3, _ | ⟨f4, _ | ⟨f5, _ | ⟨f6, fr⟩⟩⟩⟩⟩⟩⟩ := fs
    all_goals simp only [List.map_cons, List.map_nil, List.cons.injEq, Prod.mk.injEq, and_true, reduceCtorEq, and_false] at h
    obtain ⟨⟨a0, b0, c0⟩, ⟨a1, b1, c1⟩, ⟨a2, b2, c2⟩, ⟨a3, b3, c3⟩, ⟨a4, b4, c4⟩, ⟨a5, b5, c5⟩⟩ := h
    simp only [fitF, fitT, encN, PV.cells, a0, b0, c0, a1, b1, c1, a2, b2, c2, a3, b3, c3, a4, b4, c4, a5, b5, c5, Bool.and_true, BEq.rfl, decide_true, Nat.zero_add, Nat.reduceAdd])
theorem eqLN (a b : Nd) : eqL (encN a).cells (encN b).cells = some (decide (a = b)) := by
  cases a; cases b
  simp only [encN, PV.cells, eqL, eqS, if_true, Bool.and_true, Nd.mk.injEq, Option.some.injEq]
  rw [Bool.eq_iff_iff]
  simp
theorem qof (ti : TInfo) (K : PV → Prop) :
    (∀ a b, binR Tryz.prog ti t_api_Node .eql (encN a) (encN b) K = K (.bool (decide (a = b)))) ∧
    (∀ a b, binR Tryz.prog ti t_api_Node .neq (encN a) (encN b) K = K (.bool (!decide (a = b)))) ∧
    (∀ a k m x y g e, binR Tryz.prog ti t_api_Node .eql (encN a) (.agg [.int .i64 k, .int .i64 m, .str x, .str y, .bool g, .int .i64 e]) K = K (.bool (decide (a = ⟨k, m, x, y, g, e⟩)))) := by
  have h : ∀ a b, binR Tryz.prog ti t_api_Node .eql (encN a) (encN b) K = K (.bool (decide (a = b))) := fun a b => by
    show (EqOk Tryz.prog t_api_Node (encN a).cells (encN b).cells ∧ ∃ r, eqL (encN a).cells (encN b).cells = some r ∧ K (.bool r)) = _
    rw [eqLN]
    simp [eqOkN]
  refine ⟨h, fun a b => ?_, fun a k m x y g e => h a ⟨k, m, x, y, g, e⟩⟩
  show (EqOk Tryz.prog t_api_Node (encN a).cells (encN b).cells ∧ ∃ r, eqL (encN a).cells (encN b).cells = some r ∧ K (.bool (!r))) = _
  rw [eqLN]
  simp [eqOkN]
theorem nodeP (n : Nd) :
    (∀ x, (encN n).putCells 0 [.int .i64 x] = encN { n with kind := x }) ∧ (∀ x, (encN n).putCells 1 [.int .i64 x] = encN { n with many := x }) ∧
    (∀ x, (encN n).putCells 2 [.str x] = encN { n with name := x }) ∧ (∀ x, (encN n).putCells 3 [.str x] = encN { n with s := x }) ∧
    (∀ x, (encN n).putCells 4 [.bool x] = encN { n with neg := x }) ∧ (∀ x, (encN n).putCells 5 [.int .i64 x] = encN { n with e := x }) :=
  ⟨fun _ => rfl, fun _ => rfl, fun _ => rfl, fun _ => rfl, fun _ => rfl, fun _ => rfl⟩
theorem nodeF (k m : Int) (x y : List UInt8) (g : Bool) (e : Int) : PV.agg [.int .i64 k, .int .i64 m, .str x, .str y, .bool g, .int .i64 e] = encN ⟨k, m, x, y, g, e⟩ := rfl
theorem nodeB (objs : List Obj) (K : KT) :
    (∀ k, q1m D t_api_Node [(0, .int .i64 k)] objs K = K (encN ⟨k, 0, [], [], false, 0⟩) objs 0) ∧
    (∀ k m, q1m D t_api_Node [(0, .int .i64 k), (1, .int .i64 m)] objs K = K (encN ⟨k, m, [], [], false, 0⟩) objs 0) ∧
    (∀ k s, q1m D t_api_Node [(0, .int .i64 k), (3, .str s)] objs K = K (encN ⟨k, 0, [], s, false, 0⟩) objs 0) ∧
    (∀ k s g e, q1m D t_api_Node [(0, .int .i64 k), (3, .str s), (4, .bool g), (5, .int .i64 e)] objs K = K (encN ⟨k, 0, [], s, g, e⟩) objs 0) := by
  have z : q05 (D t_api_Node) = encN ⟨0, 0, [], [], false, 0⟩ := by kernel_rfl
  have a : (D t_api_Node).agg = true := by kernel_rfl
  simp only [D_all] at z a
  refine ⟨fun k => ?_, fun k m => ?_, fun k s => ?_, fun k s g e => ?_⟩
  all_goals
    simp [q1m, q8c, a, z, D_all, fillR, encN, PV.isAgg, qhh, PV.cells, PV.storable, PV.solid, PV.pure]
theorem foldS :
    (∀ n0, PV.sl 6 [encN n0] none = encV [n0]) ∧
    (∀ n0 n1, PV.sl 6 [encN n0, encN n1] none = encV [n0, n1]) ∧
    (∀ n0 n1 n2, PV.sl 6 [encN n0, encN n1, encN n2] none = encV [n0, n1, n2]) ∧
    (∀ s0, PV.sl 1 [PV.str s0] none = encT [s0]) ∧
    (∀ s0 s1, PV.sl 1 [PV.str s0, PV.str s1] none = encT [s0, s1]) ∧
    (∀ s0 s1 s2, PV.sl 1 [PV.str s0, PV.str s1, PV.str s2] none = encT [s0, s1, s2]) ∧
    (∀ i0, PV.sl 1 [PV.int .i64 i0] none = encI [i0]) ∧
    (∀ i0 i1, PV.sl 1 [PV.int .i64 i0, PV.int .i64 i1] none = encI [i0, i1]) ∧
    (∀ i0 i1 i2, PV.sl 1 [PV.int .i64 i0, PV.int .i64 i1, PV.int .i64 i2] none = encI [i0, i1, i2]) ∧
    (∀ v0, PV.sl 1 [encV v0] none = encL [v0]) ∧
    (∀ v0 v1, PV.sl 1 [encV v0, encV v1] none = encL [v0, v1]) ∧
    (∀ v0 v1 v2, PV.sl 1 [encV v0, encV v1, encV v2] none = encL [v0, v1, v2]) ∧
    (∀ g0, PV.sl 1 [encI g0] none = encG [g0]) ∧
    (∀ g0 g1, PV.sl 1 [encI g0, encI g1] none = encG [g0, g1]) ∧
    (∀ g0 g1 g2, PV.sl 1 [encI g0, encI g1, encI g2] none = encG [g0, g1, g2]) :=
  ⟨fun _ => rfl, fun _ _ => rfl, fun _ _ _ => rfl, fun _ => rfl, fun _ _ => rfl, fun _ _ _ => rfl, fun _ => rfl, fun _ _ => rfl, fun _ _ _ => rfl, fun _ => rfl, fun _ _ => rfl, fun _ _ _ => rfl, fun _ => rfl, fun _ _ => rfl, fun _ _ _ => rfl⟩
theorem inN : Inert encN := by intro d n o x; cases d <;> rfl
theorem inV : Inert encV := by intro d n o x; cases d <;> rfl
theorem inS : Inert PV.str := by intro d n o x; cases d <;> rfl
theorem inI : Inert (PV.int .i64) := by intro d n o x; cases d <;> rfl
theorem inG : Inert encI := by intro d n o x; cases d <;> rfl
theorem preU :
    type_of% (rowS hV) ∧
    type_of% (rowS hT) ∧
    type_of% (rowS hL) ∧
    type_of% (rowS hI) ∧
    type_of% (rowS hG) ∧
    type_of% (q0p q5w) ∧
    type_of% (q0p q7d) ∧
    type_of% (q0p q99) ∧
    type_of% (q0p q9a) ∧
    type_of% (q0p q7e) ∧
    type_of% (q0p q9b) :=
  ⟨rowS hV, rowS hT, rowS hL, rowS hI, rowS hG, q0p q5w, q0p q7d, q0p q99, q0p q9a, q0p q7e, q0p q9b⟩
theorem postU :
    type_of% (nodeR) ∧
    type_of% (nodeC) ∧
    type_of% (qof) ∧
    type_of% (nodeP) ∧
    type_of% (nodeF) ∧
    type_of% (nodeB) ∧
    type_of% (foldS) ∧
    type_of% (rowR hV) ∧
    type_of% (rowR hT) ∧
    type_of% (rowR hL) ∧
    type_of% (rowR hI) ∧
    type_of% (rowR hG) ∧
    type_of% (rowS hV) ∧
    type_of% (rowS hT) ∧
    type_of% (rowS hL) ∧
    type_of% (rowS hI) ∧
    type_of% (rowS hG) ∧
    type_of% (rowC hV) ∧
    type_of% (rowC hT) ∧
    type_of% (rowC hL) ∧
    type_of% (rowC hI) ∧
    type_of% (rowC hG) ∧
    type_of% (q0p q5w) ∧
    type_of% (q0p q7d) ∧
    type_of% (q0p q99) ∧
    type_of% (q0p q9a) ∧
    type_of% (q0p q7e) ∧
    type_of% (q0p q9b) ∧
    type_of% (q3j hV inN) ∧
    type_of% (q3j hT inS) ∧
    type_of% (q3j hL inV) ∧
    type_of% (q3j hI inI) ∧
    type_of% (q3j hG inG) ∧
    type_of% (rowA (enc := encN) (sz := 6) (fun _ => rfl) (fun _ => rfl)) ∧
    type_of% (rowA (enc := encV) (sz := 1) (fun _ => rfl) (fun _ => rfl)) ∧
    type_of% (rowA (enc := PV.str) (sz := 1) (fun _ => rfl) (fun _ => rfl)) ∧
    type_of% (rowA (enc := (PV.int .i64)) (sz := 1) (fun _ => rfl) (fun _ => rfl)) ∧
    type_of% (rowA (enc := encI) (sz := 1) (fun _ => rfl) (fun _ => rfl)) ∧
    type_of% (rowA (enc := PV.bool) (sz := 1) (fun _ => rfl) (fun _ => rfl)) ∧
    type_of% (fun (l : Vl) (k : Nat) => neO (encV l) rfl k) ∧
    type_of% (fun (l : List (List UInt8)) (k : Nat) => neO (encT l) rfl k) ∧
    type_of% (fun (l : List Vl) (k : Nat) => neO (encL l) rfl k) ∧
    type_of% (fun (l : List Int) (k : Nat) => neO (encI l) rfl k) ∧
    type_of% (fun (l : List (List Int)) (k : Nat) => neO (encG l) rfl k) ∧
    type_of% (fun (z : Nat) (xs : List PV) (q : Option Bool) (k : Nat) => neO (.sl z xs q) rfl k) :=
  ⟨nodeR, nodeC, qof, nodeP, nodeF, nodeB, foldS, rowR hV, rowR hT, rowR hL, rowR hI, rowR hG, rowS hV, rowS hT, rowS hL, rowS hI, rowS hG, rowC hV, rowC hT, rowC hL, rowC hI, rowC hG, q0p q5w, q0p q7d, q0p q99, q0p q9a, q0p q7e, q0p q9b, q3j hV inN, q3j hT inS, q3j hL inV, q3j hI inI, q3j hG inG, rowA (enc := encN) (sz := 6) (fun _ => rfl) (fun _ => rfl), rowA (enc := encV) (sz := 1) (fun _ => rfl) (fun _ => rfl), rowA (enc := PV.str) (sz := 1) (fun _ => rfl) (fun _ => rfl), rowA (enc := (PV.int .i64)) (sz := 1) (fun _ => rfl) (fun _ => rfl), rowA (enc := encI) (sz := 1) (fun _ => rfl) (fun _ => rfl), rowA (enc := PV.bool) (sz := 1) (fun _ => rfl) (fun _ => rfl), fun (l : Vl) (k : Nat) => neO (encV l) rfl k, fun (l : List (List UInt8)) (k : Nat) => neO (encT l) rfl k, fun (l : List Vl) (k : Nat) => neO (encL l) rfl k, fun (l : List Int) (k : Nat) => neO (encI l) rfl k, fun (l : List (List Int)) (k : Nat) => neO (encG l) rfl k, fun (z : Nat) (xs : List PV) (q : Option Bool) (k : Nat) => neO (.sl z xs q) rfl k⟩
end Lp

/-! LpX -/

namespace Lp
open Go
def Rd (P : Program) (t : TypeId) {α : Type} (enc : α → PV) (good : α → Prop) : Prop :=
  ∀ {H : Type} (eh : TypeId × Value → H) (w : World) (fuel : Nat) (cs : List Value) (x : DataW H × List MemPlace), DataW.trod eh P w 0 (fun _ => true) true fuel t cs = some x →
    (∀ n ∈ DataW.weights P t x.1, n ≤ reachBytes) → ∃ a : α, good a ∧ RepL (Rep w (fun _ => True)) (enc a).cells cs
variable {P : Program}
theorem q5x {R : PV → Value → Prop} {p : PV} {v : Value} (h : R p v) : RepL R [p] [v] :=
  ⟨rfl, fun i q u h1 h2 => by
    cases i with
    | zero => simp at h1 h2; subst h1; subst h2; exact h
    | succ i => simp at h1⟩
theorem Rd.int {t : TypeId} {k : IntKind} (ht : P.underlying t = some (.int k)) : Rd P t (.int k) (inR k) := by
  intro H eh w fuel cs x h _
  obtain ⟨n, rfl, rfl, hw⟩ := DataW.trod_int ht h
  refine ⟨n, ?_, q5x (.int k n)⟩
  simp only [Lit.wf, Bool.and_eq_true, decide_eq_true_eq] at hw
  cases k <;> simp only [IntKind.min, IntKind.max, IntKind.signed, IntKind.bits, inR] at hw ⊢ <;> first | exact ⟨by simpa using hw.1, by simpa using hw.2⟩ | (simp at hw; omega)
theorem Rd.bool {t : TypeId} (ht : P.underlying t = some .bool) : Rd P t PV.bool (fun _ => True) := by
  intro H eh w fuel cs x h _
  obtain ⟨b, rfl, rfl⟩ := DataW.trod_bool ht h
  exact ⟨b, trivial, q5x (.bool b)⟩
theorem Rd.str {t : TypeId} (ht : P.underlying t = some .string) : Rd P t PV.str (fun s => s.length ≤ reachBytes) := by
  intro H eh w fuel cs x h hw
  obtain ⟨s, rfl, rfl, _⟩ := DataW.trod_string ht h
  refine ⟨s.data.toList, hw _ ?_, q5x (qfo w _ s)⟩
  rw [DataW.weights]; simp
theorem Rd.slice {t e : TypeId} {α : Type} [Inhabited α] {enc : α → PV} {good : α → Prop} {sz : Nat} (ht : P.underlying t = some (.slice e)) (he : Rd P e enc good) (hsz : P.cellsOf e = sz) (hpos : sz ≠ 0) (hc : ∀ a, (enc a).cells.length = sz) :
    Rd P t (fun l : List α => .sl sz (l.map enc) none) (fun l => l.length * P.bytesOf e ≤ reachBytes ∧ ∀ a ∈ l, good a) := by
  intro H eh w fuel cs x h hw
  rcases Go.Deep.open_slice ht h with ⟨rfl, rfl⟩ | ⟨a, len, cap, m, n, D, Pl, rfl, hb, hl, hm, hmm, rfl, hx⟩
  · exact ⟨[], by simp, q5x (.slnil _ _ (by simp))⟩
  · simp only [if_true] at hmm
    subst hmm
    have hwt : ∀ i, i < len → ∀ n ∈ DataW.weights P e (D i), n ≤ reachBytes := by
      intro i hi n hn
      refine hw n ?_
      rw [DataW.weights, ht]
      simp only [List.mem_cons, List.mem_append]
      right; left
      have key : ∀ (l : List (DataW H)) d, d ∈ l → n ∈ DataW.weights P e d → n ∈ DataW.weightsAll P e l := by
        intro l
        induction l with
        | nil => intro d hd; cases hd
        | cons y ys ih =>
          intro d hd hn
          rw [DataW.weightsAll, List.mem_append]
          rcases List.mem_cons.1 hd with rfl | hd
          · exact .inl hn
          · exact .inr (ih d hd hn)
      exact key _ (D i) (List.mem_map.2 ⟨i, List.mem_range.2 hi, rfl⟩) hn
    have hlen : (len : Nat) * P.bytesOf e ≤ reachBytes := by
      have := hw ((((List.range len).map D).length + ((List.range (m - len)).map fun j => D (len + j)).length) * P.bytesOf e) (by rw [DataW.weights, ht]; exact List.mem_cons_self)
      simp only [List.length_map, List.length_range] at this
      exact Nat.le_trans (Nat.mul_le_mul_right _ (by omega)) this
    obtain ⟨f, hf⟩ : ∃ f : Nat → α × List Value, ∀ i, i < len → good (f i).1 ∧ w.cells? 0 (a.add (i * P.cellsOf e)) (P.cellsOf e) = some (f i).2 ∧ RepL (Rep w (fun _ => True)) (enc (f i).1).cells (f i).2 := by
      have hex : ∀ i, i < len → ∃ y : α × List Value, good y.1 ∧ w.cells? 0 (a.add (i * P.cellsOf e)) (P.cellsOf e) = some y.2 ∧ RepL (Rep w (fun _ => True)) (enc y.1).cells y.2 := by
        intro i hi
        obtain ⟨cs', h1, h2⟩ := hx i (by omega)
        obtain ⟨y, g1, g2⟩ := he eh w n cs' _ h2 (hwt i hi)
        exact ⟨(y, cs'), g1, h1, g2⟩
      exact Go.Deep.choose_lt hex
    rcases Nat.eq_zero_or_pos len with h0 | h0
    · subst h0
      exact ⟨[], by simp, q5x (.slz _ _ (by simp) a m hm)⟩
    have hspot : a.spot = none := by
      obtain ⟨_, h2, h3⟩ := hf 0 h0
      obtain ⟨_, g1, g2⟩ := World.cells?_some h2
      have := g2 0 (by omega)
      rw [List.getElem?_eq_getElem (by omega)] at this
      have := World.cell?_spot this
      simpa [Addr.add] using this
    obtain ⟨b, off, spot⟩ := a
    simp only at hspot
    subst hspot
    have hcells : ∀ i, i < len → ∀ j, j < sz → w.cell? ⟨b, off + i * sz + j, none⟩ = (f i).2[j]? := by
      intro i hi j hj
      obtain ⟨_, h2, _⟩ := hf i hi
      obtain ⟨_, _, g2⟩ := World.cells?_some h2
      have := g2 j (by omega)
      rw [hsz, add_lit, add_lit] at this
      exact this
    have hget : ∀ (i : Nat) (x : PV), (((List.range len).map fun i => (f i).1).map enc)[i]? = some x → i < len ∧ x = enc (f i).1 := by
      intro i x hx
      have hi : i < len := by
        have := (List.getElem?_eq_some_iff.1 hx).1
        simpa using this
      rw [List.getElem?_map, List.getElem?_map, List.getElem?_range hi] at hx
      simp only [Option.map_some, Option.some.injEq] at hx
      exact ⟨hi, hx.symm⟩
    have hL : (((List.range len).map fun i => (f i).1).map enc).length = len := by simp
    refine ⟨(List.range len).map fun i => (f i).1, ⟨by simpa using hlen, fun y hy => ?_⟩, q5x ?_⟩
    · obtain ⟨i, hi, rfl⟩ := List.mem_map.1 hy
      exact (hf i (List.mem_range.1 hi)).1
    · have : Rep w (fun _ => True) (.sl sz (((List.range len).map fun i => (f i).1).map enc) none) (.slice (some ⟨b, off, none⟩) (((List.range len).map fun i => (f i).1).map enc).length m) := by
        refine .sl sz _ none (by simp) b off m (fun i j => (f i).2.getD j undef) (fun _ => ⟨trivial, ?_⟩) (by rw [hL]; exact hl) hm (fun i x hx => ?_) (fun i x j p hx hp => ?_) (fun i x j p hx hp => ?_)
        · have := hcells 0 h0 0 (by omega)
          obtain ⟨_, h2, _⟩ := hf 0 h0
          obtain ⟨_, g1, _⟩ := World.cells?_some h2
          rw [List.getElem?_eq_getElem (by omega)] at this
          unfold World.cell? at this
          simp only at this
          cases hb' : w.heap[b]? with
          | none => rw [hb'] at this; simp at this
          | some o => exact (Array.getElem?_eq_some_iff.1 hb').1
        · obtain ⟨_, rfl⟩ := hget i x hx
          exact hc _
        · obtain ⟨hi, rfl⟩ := hget i x hx
          have hj : j < sz := by rw [← hc (f i).1]; exact (List.getElem?_eq_some_iff.1 hp).1
          rw [hcells i hi j hj]
          obtain ⟨_, h2, _⟩ := hf i hi
          obtain ⟨_, g1, _⟩ := World.cells?_some h2
          rw [List.getD_eq_getElem?_getD, List.getElem?_eq_getElem (by omega)]
          rfl
        · obtain ⟨hi, rfl⟩ := hget i x hx
          have hj : j < sz := by rw [← hc (f i).1]; exact (List.getElem?_eq_some_iff.1 hp).1
          obtain ⟨_, h2, h3⟩ := hf i hi
          obtain ⟨_, g1, _⟩ := World.cells?_some h2
          exact h3.2 j p _ hp (by rw [List.getD_eq_getElem?_getD, List.getElem?_eq_getElem (by omega)]; rfl)
      rw [hL] at this
      exact this
theorem weightsEach_mem {H : Type} {n : Nat} : ∀ (ts : List TypeId) (ds : List (DataW H)) (i : Nat) (t : TypeId) (d : DataW H), ts[i]? = some t → ds[i]? = some d → n ∈ DataW.weights P t d → n ∈ DataW.weightsEach P ts ds
  | [], _, i, t, d, h, _, _ => by simp at h
  | _ :: _, [], i, t, d, _, h, _ => by simp at h
  | t' :: ts, d' :: ds, i, t, d, h1, h2, hn => by
    rw [DataW.weightsEach, List.mem_append]
    cases i with
    | zero => simp at h1 h2; subst h1; subst h2; exact .inl hn
    | succ i => exact .inr (weightsEach_mem ts ds i t d (by simpa using h1) (by simpa using h2) hn)
theorem q8q {H : Type} {eh : TypeId × Value → H} {w : World} {fuel : Nat} {t : TypeId} {fs : Array Field} {cs : List Value} {x : DataW H × List MemPlace} (ht : P.underlying t = some (.struct fs))
    (h : DataW.trod eh P w 0 (fun _ => true) true fuel t cs = some x) (hw : ∀ n ∈ DataW.weights P t x.1, n ≤ reachBytes) :
    cs.length = P.cellsOf t ∧ ∀ (i off : Nat) (e : TypeId), (fs.toList.map fun f => (f.offset, f.type))[i]? = some (off, e) → ∃ n y, DataW.trod eh P w 0 (fun _ => true) true n e ((cs.drop off).take (P.cellsOf e)) = some y ∧ (∀ m ∈ DataW.weights P e y.1, m ≤ reachBytes) := by
  obtain ⟨xs, n, _, rfl, hl, hlen, hf⟩ := DataW.trod_struct ht h
  refine ⟨hl, fun i off e he => ?_⟩
  rw [List.getElem?_map] at he
  cases hfi : fs.toList[i]? with
  | none => rw [hfi] at he; simp at he
  | some f =>
    rw [hfi] at he
    simp only [Option.map_some, Option.some.injEq, Prod.mk.injEq] at he
    obtain ⟨rfl, rfl⟩ := he
    have hfi' : fs[i]? = some f := by simpa using hfi
    have hi : i < xs.length := by rw [hlen]; exact (Array.getElem?_eq_some_iff.1 hfi').1
    have h1 := hf i f hfi'
    rw [List.getElem?_eq_getElem hi] at h1
    refine ⟨n, xs[i], h1, fun m hm => hw m ?_⟩
    rw [DataW.weights, ht]
    exact weightsEach_mem _ _ i f.type xs[i].1 (by rw [List.getElem?_map, hfi]; rfl) (by rw [List.getElem?_map, List.getElem?_eq_getElem hi]; rfl) hm
theorem q7f {H : Type} {eh : TypeId × Value → H} (hl : laidOutB P = true) {W W' : World} (hb : ∀ b, b < W.heap.size → W'.heap[b]? = W.heap[b]?) :
    ∀ (ts : List TypeId) (vs : List Value) (ds : List (DataW H)) (ps : List MemPlace), (∀ t ∈ ts, P.readableRec t = true ∧ t < P.types.size) → DataW.TrodAll eh P W 0 (fun _ => true) true ts vs ds ps →
      DataW.TrodAll eh P W' 0 (fun b => decide (b < W.heap.size)) true ts vs ds ps
  | [], [], [], ps, _, h => h
  | t :: ts, v :: vs, d :: ds, ps, hr, ⟨p, q, h1, h2, h3⟩ => by
    have hlt : ∀ x ∈ p, x.block < W.heap.size := by obtain ⟨m, hm⟩ := h1; exact DataW.trod_lt m _ _ _ hm
    refine ⟨p, q, Go.WideElems.Trod_stays hl (hr t (by simp)).1 (hr t (by simp)).2 h1 (fun x hx => ?_) (fun x hx => by simpa using hlt x hx), q7f hl hb ts vs ds q (fun t ht => hr t (by simp [ht])) h2, h3⟩
    cases x with
    | cell b o => exact World.cell?_of_block (w := W) (hb b (hlt _ hx))
    | map b => exact hb b (hlt _ hx)
  | [], _ :: _, _, _, _, h => h.elim
  | [], [], _ :: _, _, _, h => h.elim
  | _ :: _, [], _, _, _, h => h.elim
  | _ :: _, _ :: _, [], _, _, h => h.elim
theorem qnk {C : Checked} {H : Type} {enc : TypeId × Value → H} {f : FuncId} {fn : Func} {s : ChangeSpec} {tb : TypeId}
    (hlaid : laidOutB C.prog = true) (hr : ∀ t ∈ fn.params.toList, C.prog.readableRec t = true ∧ t < C.prog.types.size)
    (hres : fn.resultTypes.toList = [tb]) (hsz : fn.resultTypes.size = 1) (hb : C.prog.underlying tb = some .bool)
    (hvars : s.vars = []) (hpl : s.plain.varTypes C.prog = []) (hs : ∀ ds : List (DataW H), ds.length = fn.params.toList.length → s.fn H ds = { results := [.lit (.bool true)], args := ds })
    (hread : ∀ (W : World) (base : Nat) (args : List Value) (ds : List (DataW H)) (ps : List MemPlace), (∀ (j : Nat) t v, fn.params[j]? = some t → args[j]? = some v → Value.okWide C.prog W .any base t v) → DataW.TrodAll enc C.prog W 0 (fun _ => true) true fn.params.toList args ds ps → (∀ n ∈ DataW.weightsEach C.prog fn.params.toList ds, n ≤ reachBytes) →
      ∃ pvs, RepL (Rep W (fun _ => True)) pvs args ∧ FnSpec C.prog f pvs [] (.bool true) [])
    {W : World} {base : Nat} {args : Array Value} {ds gs : List (DataW H)} {before : List MemPlace} (hg : glob.holds W.heap)
    (hval : ∀ (j : Nat) t v, fn.params[j]? = some t → args[j]? = some v → Value.okWide C.prog W .any base t v) (hW : DataW.Whole enc C.prog fn.params.toList s.vars false W args.toList ds gs before)
    (hsize : (DataW.weightsEach C.prog (fn.params.toList ++ s.plain.varTypes C.prog) (ds ++ gs)).all (· ≤ reachBytes) = true) :
    Calls C.prog f args W fun e W' => ∃ v, e = .returned v ∧ s.post enc C.prog fn false true false false W args v W' := by
  have hW' := hW
  obtain ⟨p, q, hA, hV, rfl, hfz, hnd⟩ := hW
  rw [hvars] at hV
  obtain ⟨rfl, rfl⟩ := Go.ChangeShapes.trodVars_none hV
  have hlen : ds.length = fn.params.toList.length := by
    have : ∀ (ts : List TypeId) (vs : List Value) (ds : List (DataW H)) (ps : List MemPlace), DataW.TrodAll enc C.prog W 0 (fun _ => true) true ts vs ds ps → ds.length = ts.length := by
      intro ts
      induction ts with
      | nil => intro vs ds ps h; cases vs <;> cases ds <;> simp [DataW.TrodAll] at h ⊢
      | cons t ts ih =>
        intro vs ds ps h
        cases vs <;> cases ds <;> simp [DataW.TrodAll] at h ⊢
        obtain ⟨_, _, _, h2, _⟩ := h
        exact ih _ _ _ h2
    exact this _ _ _ _ hA
  rw [hpl, List.append_nil, List.append_nil, List.all_eq_true] at hsize
  obtain ⟨pvs, hrep, hspec⟩ := hread W base args.toList ds p (fun j t v h1 h2 => hval j t v h1 (by simpa using h2)) hA (fun n hn => by simpa using hsize n hn)
  have hargs : RepL (RepT W (okL (fun _ => True) [] (fun _ => none)) [] (fun _ => none)) pvs args.toList :=
    ⟨hrep.1, fun i p v a b => .of_rep ((hrep.2 i p v a b).anyOk fun _ _ _ => ⟨trivial, q0t _ _⟩)⟩
  have hc := hspec.2 W (fun _ => none) args.toList (fun _ => True) ⟨hg, fun _ _ => trivial⟩ (q6j _ _ _ _) hargs
  refine Calls.mono hc fun e W' ⟨v, blk', he, _, hv, hheap, hsize', hsm⟩ => ?_
  subst he
  have hv' := hv.bool
  subst hv'
  have hkeep : ∀ b, b < W.heap.size → W'.heap[b]? = W.heap[b]? := fun b hb => hheap b hb (q0t _ _)
  refine ⟨_, rfl, ds, [], p ++ [], [], p, [], hW', ?_, ?_, ?_, ?_, fun h => by cases h⟩
  · rw [List.append_nil, hs ds hlen, hres, hsz]
    exact Go.ChangeShapes.trodAll_mk1 (Go.RowKit.shut_bool hb true)
  · rw [List.append_nil, hs ds hlen]
    exact q7f hlaid hkeep _ _ _ _ hr hA
  · rw [hvars, List.append_nil, hs ds hlen]; rfl
  · refine ⟨hsm.1, hsm.2, fun i hi => ?_⟩
    rw [hkeep i hi]
    split <;> simp_all
theorem law_lifted2 {C : Checked} {os : Os} {H : Type} {enc : TypeId × Value → H} {f : FuncId} {fn : Func} {s : ChangeSpec} {tb : TypeId} {dom : List PathCond} {laid : List (String × DataW Unit)}
    (own : ownKnob C.prog.godebug = none) (started : os.Started) (noInit : C.prog.inits.idxOf? f = none) (hfn : C.prog.funcs[f]? = some fn)
    (witness : ∃ (w : World) (tape : Tape) (i : Input), w.os = os ∧ (w.forCall tape i).Shaped C.prog ∧ i.vars = [] ∧ Input.okWide C.prog (w.forCall tape i) .any w.heap.size f i ∧
      (OpenSpec.ofChange s).preRow enc C.prog fn dom false laid (w.forCall tape i).memory i.args ∧ ({} : Assume).holds C.prog (lone (Frame.enter C.prog f i.args .normal) [] (w.forCall tape i)))
    (hlaid : laidOutB C.prog = true) (hr : ∀ t ∈ fn.params.toList, C.prog.readableRec t = true ∧ t < C.prog.types.size)
    (hres : fn.resultTypes.toList = [tb]) (hsz : fn.resultTypes.size = 1) (hb : C.prog.underlying tb = some .bool)
    (hvars : s.vars = []) (hpl : s.plain.varTypes C.prog = []) (hs : ∀ ds : List (DataW H), ds.length = fn.params.toList.length → s.fn H ds = { results := [.lit (.bool true)], args := ds })
    (hread : ∀ (W : World) (base : Nat) (args : List Value) (ds : List (DataW H)) (ps : List MemPlace), (∀ (j : Nat) t v, fn.params[j]? = some t → args[j]? = some v → Value.okWide C.prog W .any base t v) → DataW.TrodAll enc C.prog W 0 (fun _ => true) true fn.params.toList args ds ps → (∀ n ∈ DataW.weightsEach C.prog fn.params.toList ds, n ≤ reachBytes) →
      ∃ pvs, RepL (Rep W (fun _ => True)) pvs args ∧ FnSpec C.prog f pvs [] (.bool true) [])
    (hg : ∀ W : World, laidMetH C.prog laid W → glob.holds W.heap) :
    ReturnsInHanded {} C os f .any ((OpenSpec.ofChange s).preRow enc C.prog fn dom false laid) (s.post enc C.prog fn false true false false) := by
  refine returnsInHanded_of_row (C := C) (s := OpenSpec.ofChange s) (F := fun _ _ => default) own started noInit hfn witness ?_
  intro W base args ds gs before hval hW _ _ hsize hL _ _
  exact qnk hlaid hr hres hsz hb hvars hpl hs hread (hg W hL) hval hW hsize
end Lp

/-! LpUse -/

namespace Lp
open Go
variable {P : Program} {D : TypeId → TInfo} {T : Know}
def Euse (n : Nat) : Env := fun _ _ V => ∀ w0, V w0 → w0.nx ≤ n
def retU (t : Nat) (r : PV) (objs' : List Obj) (e : Exit) (S : St) : Prop :=
  (e = .normal ∨ e = .ret) ∧ S.tmps.getD t .dead = r ∧ S.objs = objs'
theorem FnUse.of_body {f : FuncId} {fn : Func} {c : Code} {C : LC} {args : List PV} {r : PV} {objs objs' : List Obj} {t n : Nat} (hD : ∀ t, TOk P t (D t)) (hT : KOk P none (Euse objs.length) T) (hm : P.follows .mixedOrders = true)
    (hf : P.funcs[f]? = some fn) (hname : (fn.name == "runtime.NumGoroutine") = false) (hb : fn.body = some c) (hn : fn.ntmps = n) (hr : fn.results = #[.tmp t]) (hC : strip C = comp c) (hlen : objs'.length = objs.length)
    (h : wpc P D T C (retU t r objs') ⟨(q13 args n).tmps, objs⟩) : FnUse P f args objs r objs' := by
  refine ⟨⟨fn, hf, hname, by rw [hb]; rfl⟩, hlen, fun base prot w0 tmps blk a w vs R hargs => ?_⟩
  have hpw : PW P none (Euse objs.length) c (retU t r objs') ⟨(q13 args n).tmps, objs⟩ := q77 hD hm C _ _ _ c _ _ hT hC h
  have hpp : ∀ b, prot b → b < w.heap.size ∧ q0k objs blk b := fun b hb => ⟨Nat.lt_of_lt_of_le (R.pr b hb) R.gr, fun k o h1 h2 h3 => R.objs.np k o b h1 h2 h3 hb⟩
  have hz : ∀ x ∈ tmps.zip a.tmps.toList, RepT w (okL base objs blk) objs blk x.1 x.2 := by
    intro x hx
    obtain ⟨i, hi, rfl⟩ := List.mem_iff_getElem.1 hx
    have hi' : i < tmps.length ∧ i < a.tmps.toList.length := by
      rw [List.length_zip] at hi
      omega
    rw [List.getElem_zip]
    have := R.tm i tmps[i] (List.getElem?_eq_getElem hi'.1)
    have e : a.tmps.getD i undef = a.tmps.toList[i] := by
      rw [Array.getD_eq_getD_getElem?, Array.getElem?_eq_getElem (by simpa using hi'.2)]; simp
    rw [e] at this
    exact this
  have R2 : Rel base (fun b => b < w.heap.size ∧ q0k objs blk b) ⟨w.heap, tmps.zip a.tmps.toList ++ w0.xs, objs.length, w⟩ ⟨(q13 args n).tmps, objs⟩ blk { tmps := (⟨vs⟩ : Array Value) ++ Array.replicate (n - (⟨vs⟩ : Array Value).size) undef, defers := [] } w := by
    have hl := hargs.1
    have hext : ∀ x ∈ tmps.zip a.tmps.toList ++ w0.xs, RepT w (okL base objs blk) objs blk x.1 x.2 := fun x hx => by
      rcases List.mem_append.1 hx with hx | hx
      · exact hz x hx
      · exact R.ext x hx
    refine ⟨.nil _ _, ?_, fun t p hp => ?_, ⟨R.objs.ob, R.objs.dis, fun k o g h1 h2 h3 hp => hp.2 k o h1 h2 h3⟩, fun b hb => hb.1, fun _ _ => rfl, Nat.le_refl _, fun b hn => ?_, hext, fun x hx => qcu (hext x hx), .refl w, ⟨R.globOk, fun b hb => hpp b (R.gl.2 b hb)⟩⟩
    · simp [q13, hl]
    · simp only [q13] at hp
      rw [List.getElem?_append] at hp
      split at hp
      · rename_i ht
        obtain ⟨v, hv⟩ : ∃ v, vs[t]? = some v := ⟨vs[t]'(by omega), List.getElem?_eq_getElem (by omega)⟩
        have hg : ((⟨vs⟩ : Array Value) ++ Array.replicate (n - (⟨vs⟩ : Array Value).size) undef).getD t undef = v := by
          rw [Array.getD_eq_getD_getElem?, Array.getElem?_append, if_pos (by simpa using (by omega : t < vs.length))]
          simp [hv]
        rw [hg]
        exact hargs.2 t p v hp hv
      · rw [List.getElem?_replicate] at hp
        split at hp
        · cases hp; exact .dead _
        · cases hp
    · rcases Nat.lt_or_ge b w.heap.size with h1 | h1
      · refine R.pb b fun hp => hn (hpp b hp)
      · exact R.bs b (Nat.le_trans R.gr h1)
  have hw := hpw base _ (fun x => (⟨w.heap, tmps.zip a.tmps.toList ++ w0.xs, objs.length, w⟩ : Wz) = x) (by rintro z rfl; exact Nat.le_refl _) _ _ _ ⟨_, rfl, R2⟩
  rw [← callsIn_wide (n := 0)]
  refine callsIn_of_wp_marks hf hb trivial ?_
  rw [hn]
  refine wpIn_mono hw ?_
  rintro e a' w' ⟨S', blk', ⟨he, ho, hobj⟩, _, rfl, R'⟩
  have key : ∀ w', Rel base (fun b => b < w.heap.size ∧ q0k objs blk b) ⟨w.heap, tmps.zip a.tmps.toList ++ w0.xs, objs.length, w⟩ S' blk' { a' with defers := [] } w' →
      ∃ v, (results fn a'.tmps).run P w' = .ok v w' ∧ (∃ v' blk', Ending.returned v = .returned v' ∧ Rel base prot w0 ⟨tmps, objs'⟩ blk' a w' ∧ RepT w' (okL base objs' blk') objs' blk' r v') := by
    intro w' R'
    have hx := R'.ev (.tmp t)
    change RepT w' _ _ blk' (S'.tmps.getD t .dead) (a'.tmps.getD t undef) at hx
    rw [ho, hobj] at hx
    refine ⟨_, results_tmp hr _ _ _, _, blk', rfl, ?_, hx⟩
    have hpr : ∀ b, b < w.heap.size ∧ q0k objs blk b → w'.heap[b]? = w.heap[b]? := fun b hb => R'.fr b hb
    obtain ⟨Ds, e1, e2, e3⟩ := R.nodef
    have ob := R'.objs
    have ex := R'.ext
    rw [hobj] at ob ex
    refine ⟨⟨Ds, e1, e2, fun b hb => ?_⟩, R.tsz, fun t p hp => ?_, ⟨ob.ob, ob.dis, fun k o g h1 h2 h3 hp => ob.np k o g h1 h2 h3 (hpp g hp)⟩, R.pr, fun b hb => ?_, Nat.le_trans R.gr R'.gr, R.pb, fun x hx => ex x (List.mem_append_right _ hx), R.exn, R.sm.trans R'.sm, R.gl⟩
    · obtain ⟨h1, h2, h3⟩ := e3 b hb
      have hpb : b < w.heap.size ∧ q0k objs blk b := ⟨(Array.getElem?_eq_some_iff.1 h1).1, h2.2⟩
      exact ⟨by rw [hpr b hpb]; exact h1, ⟨h2.1, fun k o g1 g2 g3 => ob.np k o b g1 g2 g3 hpb⟩, h3⟩
    · refine ex (p, a.tmps.getD t undef) (List.mem_append_left _ ?_)
      have hlt : t < tmps.length := (List.getElem?_eq_some_iff.1 hp).1
      have htz : t < a.tmps.size := by rw [R.tsz]; exact hlt
      refine List.mem_iff_getElem.2 ⟨t, by rw [List.length_zip, Array.length_toList]; exact Nat.lt_min.2 ⟨hlt, htz⟩, ?_⟩
      rw [List.getElem_zip]
      have e : a.tmps.getD t undef = a.tmps.toList[t]'(by simpa using htz) := by
        rw [Array.getD_eq_getD_getElem?, Array.getElem?_eq_getElem htz]; simp
      rw [e, (List.getElem?_eq_some_iff.1 hp).2]
    · rw [hpr b (hpp b hb)]; exact R.fr b hb
  rcases he with rfl | rfl <;> exact q5g _ _ R' key
end Lp

/-! LpRes -/

namespace Lp
open Go
variable {P : Program} {D : TypeId → TInfo} {T : Know}
def Tells (p q : PV) : Prop := ∀ (w : World) (ok : Nat → Prop) (v : Value), Rep w ok p v → Rep w ok q v
theorem Tells.refl (p : PV) : Tells p p := fun _ _ _ h => h
theorem qen (sz sz' : Nat) : Tells (.sl sz [] (some true)) (.sl sz' [] none) := by
  intro w ok v h
  cases h with
  | slnil _ _ _ => exact .slnil sz' none (by decide)
  | slz _ _ hq => exact absurd rfl hq
  | sl _ _ _ hq => exact absurd rfl hq
theorem Tells.agg {ps qs : List PV} (hl : ps.length = qs.length) (h : ∀ (i : Nat) (p q : PV), ps[i]? = some p → qs[i]? = some q → Tells p q) : Tells (.agg ps) (.agg qs) := by
  intro w ok v hr
  cases hr with
  | agg _ vs hl' hh =>
    refine .agg _ _ (by omega) fun i q u hq hu => ?_
    have hi : i < ps.length := by rw [hl]; exact (List.getElem?_eq_some_iff.1 hq).1
    exact h i _ q (List.getElem?_eq_getElem hi) hq w ok u (hh i _ u (List.getElem?_eq_getElem hi) hu)
theorem Tells.tup {ps qs : List PV} (hl : ps.length = qs.length) (h : ∀ (i : Nat) (p q : PV), ps[i]? = some p → qs[i]? = some q → Tells p q) : Tells (.tup ps) (.tup qs) := by
  intro w ok v hr
  cases hr with
  | tup _ vs hl' hh =>
    refine .tup _ _ (by omega) fun i q u hq hu => ?_
    have hi : i < ps.length := by rw [hl]; exact (List.getElem?_eq_some_iff.1 hq).1
    exact h i _ q (List.getElem?_eq_getElem hi) hq w ok u (hh i _ u (List.getElem?_eq_getElem hi) hu)
theorem FnSpec.res {f : FuncId} {args : List PV} {objs : List Obj} {r r' : PV} (h : FnSpec P f args objs r []) (ht : Tells r r') : FnSpec P f args objs r' [] := by
  refine ⟨h.1, fun w blk vs base hb R ha => (h.2 w blk vs base hb R ha).mono ?_⟩
  rintro e w' ⟨v, blk', h1, h2, h3, h4⟩
  exact ⟨v, blk', h1, h2, .of_rep (ht _ _ _ (q78 h3)), h4⟩
theorem FnSpec.arg {f : FuncId} {args args' : List PV} {r : PV} {objs' : List Obj} (h : FnSpec P f args [] r objs') (hl : args'.length = args.length) (ht : ∀ (i : Nat) (p q : PV), args'[i]? = some p → args[i]? = some q → Tells p q) : FnSpec P f args' [] r objs' := by
  refine ⟨h.1, fun w blk vs base hb R ha => h.2 w blk vs base hb R ⟨by rw [← hl]; exact ha.1, fun i q v hq hv => ?_⟩⟩
  have hi : i < args'.length := by rw [hl]; exact (List.getElem?_eq_some_iff.1 hq).1
  exact .of_rep (ht i _ q (List.getElem?_eq_getElem hi) hq _ _ _ (q78 (ha.2 i _ v (List.getElem?_eq_getElem hi) hv)))
structure EndM (d t : Nat) (o' : Obj) (S : St) : Prop where
  h : retM d t o' .ret S
theorem endM {d t n : Nat} {o' : Obj} {l : List (Nat × PV)} {ob : List Obj} {k ver : Nat} {o : Obj} (h1 : (tmA n l).getD t .dead = .osl k ver) (h2 : ob[k]? = some o) (h3 : o.live = true) (h4 : o.ver = ver) (h5 : { frzO d (k + 1) ob o with ver := 0 } = o') (h6 : NoRefs [o']) : EndM d t o' ⟨tmA n l, ob⟩ :=
  ⟨.inr rfl, _, k, ver, o, Weak.refl _ _, h1, h2, h3, h4, h5, h6⟩
theorem FnOk.madeG {f : FuncId} {n t : Nat} {C : LC} {args : List PV} {o' : Obj} (h : FnOk P f n [.tmp t] C) (d : Nat) (hD : ∀ t, TOk P t (D t)) (hT : KOk P none Etop T) (hm : P.follows .mixedOrders = true)
    (hw : ∀ Q : Exit → St → Prop, (∀ l ob, Q .ret ⟨tmA n l, ob⟩ = EndM d t o' ⟨tmA n l, ob⟩) → wpc P D T C Q (q13 args n)) : FnSpec P f args [] (.osl 0 0) [o'] :=
  h.made d hD hT hm (hw _ fun l ob => propext ⟨fun h => ⟨h⟩, fun h => h.h⟩)
structure EndN (D : TypeId → TInfo) (d : Nat) (rs : List ResultVar) (qs : List PV) (o' : Obj) (S : St) : Prop where
  h : retN D d rs qs o' .ret S
theorem qlv {base prot : Nat → Prop} {w' : World} {blk' : Nat → Option Nat} {o : Obj} {v : Value} (h2 : ObjsRel base prot [o] blk' w') (h3 : RepS w' (okL base [o] blk') [o] blk' (.osl 0 0) v) (hb : ∀ b, ¬ prot b → base b) (hl : o.live = true) (hv : o.ver = 0) (hn : NoRefs [o]) :
    Rep w' (okL base [] blk') (.sl o.sz o.xs none) v := by
  obtain ⟨_, o1, g1, _, g3⟩ := h3
  cases g1
  obtain ⟨hM, hh⟩ := g3 hl hv
  have ho := h2.ob 0 o rfl hl
  unfold Hdr at hh
  unfold ObjRep at ho
  cases hg : blk' 0 with
  | none => rw [hg] at hh; rw [hh.1, hh.2]; exact .slnil _ _ (by decide)
  | some g =>
    rw [hg] at hh ho
    obtain ⟨cap, c, rfl, x1, x2, x3, x4⟩ := hh
    obtain ⟨c', y1, y2, y3⟩ := ho
    rw [q39 hM] at y1
    rw [x1] at y1; cases y1
    have hgb : base g := hb g (h2.np 0 o g rfl hl hg)
    refine .sl o.sz o.xs none (by decide) g 0 cap (fun i j => (c[i * o.sz + j]?).getD undef) (fun _ => ⟨⟨hgb, q0t _ _⟩, (Array.getElem?_eq_some_iff.1 x1).1⟩) x2 x3 (fun i x hx => (y3 i x hx).1) ?_ ?_
    · intro i x j p hx hp
      obtain ⟨u, u1, _⟩ := (y3 i x hx).2 j p hp
      simp [World.cell?, x1, u1]
    · intro i x j p hx hp
      obtain ⟨u, u1, u2⟩ := (y3 i x hx).2 j p hp
      rw [u1, Option.getD_some]
      exact (u2.rep (hn o (by simp) x (List.mem_of_getElem? hx) p (List.mem_of_getElem? hp))).anyOk fun b _ hb => ⟨hb.1, q0t _ _⟩
theorem qnl {base : Nat → Prop} {w : World} {blk : Nat → Option Nat} (hb : glob.holds w.heap ∧ ∀ b, w.heap.size ≤ b → base b) (b : Nat) (h : ¬ (b < w.heap.size ∧ q0k [] blk b)) : base b :=
  hb.2 b (Nat.not_lt.1 fun q => h ⟨q, q0t _ _⟩)
theorem FnSpec.froze {f : FuncId} {args : List PV} {o : Obj} (h : FnSpec P f args [] (.osl 0 0) [o]) (hl : o.live = true) (hv : o.ver = 0) (hn : NoRefs [o]) : FnSpec P f args [] (.sl o.sz o.xs none) [] := by
  refine ⟨h.1, fun w blk vs base hb R ha => (h.2 w blk vs base hb R ha).mono ?_⟩
  rintro e w' ⟨v, blk', h1, h2, h3, h4⟩
  exact ⟨v, blk', h1, q6j _ _ _ _, .of_rep (qlv h2 h3 (qnl hb) hl hv hn), h4⟩
@[congr] theorem qvm {s t : TypeId} {x x' : PV} {objs objs' : List Obj} {K : KT} (h : x = x') (ho : objs = objs') : convO D s t x objs K = convO D s t x' objs' K := by rw [h, ho]
@[congr] theorem qk6 {x x' : PV} {objs objs' : List Obj} {K : KT} (h : x = x') (ho : objs = objs') : q0s x objs K = q0s x' objs' K := by rw [h, ho]
end Lp

/-! LpE0 -/

namespace Lp
open Go Go.Proofs
def encA (a : Atm) : PV := .agg [.int .i64 a.n, .int .i64 a.c.kind, .int .i64 a.c.many, .str a.c.name, .str a.c.s, .bool a.c.neg, .int .i64 a.c.e]
def encAs (l : List Atm) : PV := .sl 7 (l.map encA) none
theorem hA : ∀ l, encAs l = .sl 7 (l.map encA) none := fun _ => rfl
theorem q7g : ∀ a b, encA a = encA b → a = b := by
  intro a b h
  obtain ⟨an, ⟨a1, a2, a3, a4, a5, a6⟩⟩ := a
  obtain ⟨bn, ⟨b1, b2, b3, b4, b5, b6⟩⟩ := b
  simp only [encA, PV.agg.injEq, List.cons.injEq, PV.int.injEq, PV.str.injEq, PV.bool.injEq, true_and, and_true] at h
  obtain ⟨rfl, rfl, rfl, rfl, rfl, rfl, rfl⟩ := h
  rfl
theorem q5k : ∀ a b, encAs a = encAs b → a = b := q6q hA q7g
theorem atomR (objs : List Obj) (K : KT) :
    (∀ a, q0i D t_api_Atom (.addr (encA a)) 0 objs K = K (.addr (.int .i64 a.n)) objs 0) ∧
    (∀ a, q0i D t_api_Atom (.addr (encA a)) 1 objs K = K (.addr (encN a.c)) objs 0) := by
  refine ⟨fun n => ?_, fun n => ?_⟩
  all_goals
    simp only [encA, encN, q0i, q01, D_all, ↓exi, agR, subR, tmR, isR, alR, ne_eq, reduceCtorEq, not_false_eq_true, true_and, Bool.not_false, Bool.and_self, Nat.reduceAdd, Nat.reduceLeDiff, forall_const, false_implies]
theorem atomC :
    (∀ a, (encA a).cells = [.int .i64 a.n, .int .i64 a.c.kind, .int .i64 a.c.many, .str a.c.name, .str a.c.s, .bool a.c.neg, .int .i64 a.c.e]) ∧
    (∀ n, (encA n).isAgg = true) ∧ (∀ n, (encA n).pure = true) ∧ (∀ d m O n, frz d m O (encA n) = encA n) ∧ (∀ d m O n, frzT d m O (encA n) = encA n) :=
  ⟨fun _ => rfl, fun _ => rfl, fun _ => rfl, fun _ _ _ _ => rfl, fun _ _ _ _ => rfl⟩
theorem atomP (a : Atm) : (∀ x, (encA a).putCells 0 [.int .i64 x] = encA { a with n := x }) ∧ (∀ b : Atm, (encA a).putCells 0 [.int .i64 b.n, .int .i64 b.c.kind, .int .i64 b.c.many, .str b.c.name, .str b.c.s, .bool b.c.neg, .int .i64 b.c.e] = encA b) :=
  ⟨fun _ => rfl, fun _ => rfl⟩
theorem atomB (objs : List Obj) (K : KT) :
    (∀ k n, q1m D t_api_Atom [(0, .int .i64 k), (1, encN n)] objs K = K (encA ⟨k, n⟩) objs 0) ∧
    (∀ n, q1m D t_api_Atom [(1, encN n)] objs K = K (encA ⟨0, n⟩) objs 0) ∧
    (q1m D t_api_Node [] objs K = K (encN ⟨0, 0, [], [], false, 0⟩) objs 0) := by
  have z : q05 (D t_api_Atom) = encA ⟨0, ⟨0, 0, [], [], false, 0⟩⟩ := by kernel_rfl
  have a : (D t_api_Atom).agg = true := by kernel_rfl
  have z2 : q05 (D t_api_Node) = encN ⟨0, 0, [], [], false, 0⟩ := by kernel_rfl
  have a2 : (D t_api_Node).agg = true := by kernel_rfl
  simp only [D_all] at z a z2 a2
  refine ⟨fun k n => ?_, fun n => ?_, ?_⟩
  all_goals
    simp [q1m, q8c, a, z, a2, z2, D_all, fillR, encN, encA, PV.isAgg, qhh, PV.cells, PV.storable, PV.solid, PV.pure]
theorem inA : Inert encA := by intro d n o x; cases d <;> rfl
theorem foldA :
    (∀ a0, PV.sl 7 [encA a0] none = encAs [a0]) ∧ (∀ a0 a1, PV.sl 7 [encA a0, encA a1] none = encAs [a0, a1]) :=
  ⟨fun _ => rfl, fun _ _ => rfl⟩
theorem preA : type_of% (rowS hA) ∧ type_of% (q0p q7g) ∧ type_of% (q0p q5k) := ⟨rowS hA, q0p q7g, q0p q5k⟩
theorem postA :
    type_of% (atomR) ∧ type_of% (atomC) ∧ type_of% (atomP) ∧ type_of% (atomB) ∧ type_of% (foldA) ∧
    type_of% (rowR hA) ∧ type_of% (rowS hA) ∧ type_of% (rowC hA) ∧ type_of% (q0p q7g) ∧ type_of% (q0p q5k) ∧ type_of% (q3j hA inA) ∧
    type_of% (rowA (enc := encA) (sz := 7) (fun _ => rfl) (fun _ => rfl)) ∧
    type_of% (fun (l : List Atm) (k : Nat) => neO (encAs l) rfl k) :=
  ⟨atomR, atomC, atomP, atomB, foldA, rowR hA, rowS hA, rowC hA, q0p q7g, q0p q5k, q3j hA inA, rowA (enc := encA) (sz := 7) (fun _ => rfl) (fun _ => rfl), fun (l : List Atm) (k : Nat) => neO (encAs l) rfl k⟩
theorem frzA0 (x : Atm) : frz 1 0 [⟨t_api_Atom, 7, [encA x], true, 1⟩] (.optr 0 1 0 0) = .addr (encA x) := rfl
theorem qog (x : Atm) (y : Nd) : frz 1 0 [⟨t_api_Atom, 7, [encA x], true, 1⟩, ⟨t_api_Node, 6, [encN y], true, 1⟩] (.optr 0 1 0 0) = .addr (encA x) := rfl
theorem qoh (x : Atm) (y : Nd) : frz 1 0 [⟨t_api_Atom, 7, [encA x], true, 1⟩, ⟨t_api_Node, 6, [encN y], true, 1⟩] (.optr 1 1 0 0) = .addr (encN y) := rfl
end Lp

/-! LpW1 -/

namespace Lp
open Go Go.Proofs
set_option maxHeartbeats 1000000
set_option linter.unusedSimpArgs false
theorem qg9 (v : Vl) (i c : Nat) (hv : v.length ≤ 4611686018427387904) (h : skip (v.drop i) 1 = some c) : FnSpec Tryz.prog f_val_behind [encV v, .int .i64 i] [] (.int .i64 (i + c : Nat)) [] := by
  refine k_val_behind.pure (T := tabL Tryz.prog []) 0 hD (q0e q0d) hmix (by decide) ?_
  simp only [q8m, ↓wpR, knR, ↓lrR, ↓exR, ↓guR, stR, ↓opsR, retR, outL, onePV, frR, Nat.reduceAdd, Nat.reduceSub, tmR, D_all, biR, biI, inRR]
  refine q0q (fun m S => ∃ (j k c' : Nat), m = c' ∧ skip (v.drop j) k = some c' ∧ j + c' = i + c ∧ S = ⟨mkT 19 [(0, encV v), (1, .int .i64 j), (5, .int .i64 k)], []⟩) c ⟨i, 1, c, rfl, h, rfl, ?_⟩ ?_
  · simp only [fgR, encV, tmR]; rfl
  rintro m S ⟨j, k, c', rfl, hs, hj, rfl⟩
  simp only [↓wpR, knR, ↓lrR, ↓exR, ↓guR, stR, ↓opsR, retR, outL, onePV, frR, Nat.reduceAdd, Nat.reduceSub, tmR, fgR, D_all, encV, encN, biR, biI, inRR, q0h, loadR, q0i, q01, ↓exmap, ↓exi, agR, subR, isR, alR, Bool.not_false, Bool.and_self, Nat.reduceLeDiff, forall_const, ne_eq, reduceCtorEq, not_false_eq_true, true_and, PV.bool.injEq, Int.toNat_natCast, Nat.zero_add, decide_eq_true_eq, List.length_cons, List.length_nil]
  refine ⟨fun hk => ?_, fun hk => ?_⟩
  · obtain ⟨k, rfl⟩ : ∃ k', k = k' + 1 := ⟨k - 1, by omega⟩
    have hjl : j < v.length := by
      rcases Nat.lt_or_ge j v.length with h' | h'
      · exact h'
      · rw [List.drop_eq_nil_of_le h'] at hs; simp [skip] at hs
    rw [List.drop_eq_getElem_cons hjl] at hs
    obtain ⟨hm, c'', rfl, hs'⟩ := q20 hs
    have hle := q2x _ _ _ hs'
    simp only [List.length_drop] at hle
    have hk2 : ((k + 1 : Nat) : Int) + (v[j].many - 1) = ((k + v[j].many.toNat : Nat) : Int) := by omega
    exact ⟨by omega, v[j], List.getElem?_eq_getElem hjl, by omega, by omega, by omega, c'', by omega, j + 1, k + v[j].many.toNat, c'', rfl, hs', by omega, by rw [hk2]; rfl⟩
  · rw [if_pos trivial]
    have hk0 : k = 0 := by have := of_decide_eq_false hk; omega
    subst hk0
    have : m = 0 := by cases hd : v.drop j <;> rw [hd] at hs <;> simp [skip] at hs <;> exact hs.symm
    subst this
    congr 1; omega
def objV (v : Vl) : Obj := ⟨t_api_Node, 6, v.map encN, true, 0⟩
theorem q6r (v : Vl) : NoRefs [objV v] := by
  intro o ho x hx p hp
  simp only [List.mem_singleton] at ho
  subst ho
  simp only [objV, List.mem_map] at hx
  obtain ⟨n, _, rfl⟩ := hx
  simp only [encN, PV.cells, List.mem_cons, List.not_mem_nil, or_false] at hp
  rcases hp with rfl | rfl | rfl | rfl | rfl | rfl <;> rfl
theorem qil (n : Nd) : (encN n).cells.length = 6 ∧ (encN n).cells.all PV.storable = true := ⟨rfl, rfl⟩
theorem qnm (d n : Nat) (objs : List Obj) (v : Vl) : (v.map encN).map (PV.mapCells (frz d n objs)) = v.map encN := by
  rw [List.map_map]
  exact List.map_congr_left fun x _ => rfl
theorem qlw : FnSpec Tryz.prog f_slices_Clone_api_Val_api_Node_ [.sl 6 [] (some true)] [] (.osl 0 0) [objV []] := by
  refine k_slices_Clone_api_Val_api_Node_.made (T := tabL Tryz.prog []) 0 hD (q0e q0d) hmix ?_
  simp only [q0w, ↓wpR, knR, ↓lrR, ↓exR, ↓guR, stR, ↓opsR, retMR, frR, Nat.reduceAdd, Nat.reduceSub, tmR, fgR, D_all, biR, biI, inRR, q1e, forall_const, reduceCtorEq, false_imp_iff, and_true, TK.slice.injEq, exists_eq', true_and]
  exact ⟨_, 0, 0, _, Weak.adopt 2 t_api_Node 6 rfl, rfl, rfl, rfl, rfl, rfl, q6r []⟩
theorem qim (v : Vl) (hv : v.length ≤ 1099511627776) : FnSpec Tryz.prog f_slices_Clone_api_Val_api_Node_ [.sl 6 (v.map encN) (some false)] [] (.osl 0 0) [objV v] := by
  refine k_slices_Clone_api_Val_api_Node_.made (T := tabL Tryz.prog []) 0 hD (q0e q0d) hmix ?_
  simp only [q0w, ↓wpR, knR, ↓lrR, ↓exR, ↓guR, stR, ↓opsR, retMR, frR, Nat.reduceAdd, Nat.reduceSub, tmR, fgR, D_all, biR, biI, inRR, q1e, forall_const, reduceCtorEq, false_imp_iff, and_true, TK.slice.injEq, exists_eq', true_and]
  simp only [q00, q06, srcR, newObj, q09, D_all, ne_eq, reduceCtorEq, not_false_eq_true, true_and, if_true, List.all_nil, Nat.zero_mul, Nat.zero_le, List.nil_append, List.length_nil, List.getElem?_cons_zero, Option.some.injEq]
  refine ⟨rfl, rfl, rfl, rfl, ?_, _, rfl, rfl, rfl, rfl, rfl, ?_, ?_, fun _ _ h => h.elim, _, 0, 2, _, Weak.refl _ _, rfl, rfl, rfl, rfl, ?_, q6r v⟩
  · intro y hy
    obtain ⟨n, _, rfl⟩ := List.mem_map.1 hy
    exact qil n
  · simp; omega
  · simp; omega
  · simp only [frzO, objV, List.replicate_zero, List.nil_append, qnm]
theorem qin (v : Vl) (hv : v.length ≤ 1099511627776) : FnSpec Tryz.prog f_slices_Clone_api_Val_api_Node_ [encV v] [] (.osl 0 0) [objV v] :=
  FnSpec.split (pre := []) (post := []) (fun h => by
    have : v = [] := by simpa using h
    subst this
    exact qlw) (qim v hv)
end Lp

/-! LpW2 -/

namespace Lp
open Go Go.Proofs
set_option maxHeartbeats 2000000
set_option linter.unusedSimpArgs false
def rowOf (p : Vl) : List PV := [.str (nameOf p), encV (clr p)]
def qai : Ctr := fun args objs K => ∃ (v : Vl) (i c : Nat), args = [encV v, .int .i64 i] ∧ v.length ≤ 4611686018427387904 ∧ skip (v.drop i) 1 = some c ∧ K (.int .i64 (i + c : Nat)) objs 0
def qcz : Ctr := fun args objs K => ∃ v : Vl, args = [encV v] ∧ v.length ≤ 1099511627776 ∧ K (.osl objs.length 0) (objs ++ [objV v]) 2
theorem qeo : CtrOk Tryz.prog f_val_behind qai := by
  rintro args objs K ⟨v, i, c, rfl, hv, hs, hk⟩
  exact ⟨_, _, _, .pure _ rfl (qg9 v i c hv hs), hk⟩
theorem qga : CtrOk Tryz.prog f_slices_Clone_api_Val_api_Node_ qcz := by
  rintro args objs K ⟨v, rfl, hv, hk⟩
  have h := CallR.made (objs := objs) _ _ rfl (q6r v) (qin v hv)
  exact ⟨_, _, _, h, by simpa [PV.shift, PV.shiftS] using hk⟩
theorem qlx (v : Vl) : FnSpec Tryz.prog f_val_each [encV v] [] (.fn f_val_each_1 [] [.addr (encV v)]) [] := by
  refine k_val_each.pure (T := tabL Tryz.prog []) 1 hD (q0e q0d) hmix (by decide) ?_
  simp only [qbz, ↓wpR, knR, ↓lrR, ↓exR, ↓guR, stR, ↓opsR, retR, outL, onePV, Nat.reduceAdd, Nat.reduceSub, tmR, D_all, boxR, q04, newObj, encV, isR, alR, ne_eq, reduceCtorEq, not_false_eq_true, true_and, List.length_cons, List.length_nil, List.nil_append]
  exact ⟨rfl, rfl, rfl⟩
theorem qaj (v : Vl) (n : Nd) (r : Vl) (ps : List Vl) (hv : v = n :: r) (hl : v.length ≤ 1099511627776) (hm : 0 ≤ n.many) (hp : parts n.many.toNat r = some ps) :
    Gives Tryz.prog f_val_each_1 [.addr (encV v)] (ps.map rowOf) := by
  refine k_val_each_1.gives (fnT := tabF [(f_val_behind, qai), (f_slices_Clone_api_Val_api_Node_, qcz)]) hD (q0c qeo (q0c qga q0d)) hmix ?_
  intro I J objs y hI hIl hJl
  subst hv
  simp only [q8l, ↓wpR, kiR, ↓lrR, ↓exR, ↓guR, stR, ↓opsR, Nat.reduceAdd, Nat.reduceSub, tmR, D_all, biR, biI, inRR, q0h, loadR, q0i, q01, ↓exmap, ↓exi, agR, subR, isR, alR, encV, encN, List.map_cons, Int.reduceToNat, Int.toNat_zero, Int.reduceLE, Bool.not_false, Bool.and_self, Nat.reduceLeDiff, forall_const, ne_eq, reduceCtorEq, not_false_eq_true, true_and, PV.bool.injEq, Int.toNat_natCast, Nat.zero_add, List.length_cons, List.length_nil]
  refine q0q (fun m S => ∃ (k i : Nat) (O : List Obj) (rest : List Vl), k + rest.length = ps.length ∧ m = rest.length ∧ parts rest.length ((n :: r).drop i) = some rest ∧ ps.drop k = rest ∧ I k O ∧
    S = ⟨mkT 34 [(0, .yld y), (1, .addr (encV (n :: r))), (3, .int .i64 i), (9, .int .i64 n.many), (10, .int .i64 k)], O⟩) ps.length ?_ ?_
  · have hpl := q1t _ _ _ hp
    refine ⟨0, 1, objs, ps, by omega, rfl, by rw [hpl]; simpa using hp, by simp, hI, ?_⟩
    simp only [fgR, encV, tmR]; rfl
  have hpl := q1t _ _ _ hp
  have hple : n.many.toNat ≤ 1099511627776 := by have := q2n _ _ _ hp; simp at hl; omega
  generalize hv : n :: r = v at *
  rintro m S ⟨k, i, O, rest, hk, rfl, hps, hd, hIk, rfl⟩
  simp only [↓wpR, kiR, ↓lrR, ↓exR, ↓guR, stR, ↓opsR, Nat.reduceAdd, Nat.reduceSub, tmR, D_all, F_all, biR, biI, inRR, caR, taR, qai, qcz, Nat.reduceBEq, BEq.rfl, cond_true, cond_false, q21, q03, q0h, loadR, q0i, q01, ↓exmap, ↓exi, agR, subR, isR, alR, encV, List.map_cons, Int.reduceToNat, Int.toNat_zero, Int.reduceLE, Bool.not_false, Bool.and_self, Nat.reduceLeDiff, forall_const, ne_eq, reduceCtorEq, not_false_eq_true, true_and, PV.bool.injEq, Int.toNat_natCast, Nat.zero_add, List.length_cons, List.length_nil]
  refine ⟨fun hkm => ?_, fun hkm => ?_⟩
  · have hkm' : (k : Int) < n.many := of_decide_eq_true hkm
    obtain ⟨q, hq⟩ : ∃ q, rest.length = q + 1 := ⟨rest.length - 1, by omega⟩
    rw [hq] at hps
    obtain ⟨c, qs, hsk, hr', hqs⟩ := q2k hps
    have hc := q2x _ _ _ hsk
    simp only [List.length_drop] at hc
    have hlv : v.length ≤ 1099511627776 := hl
    refine ⟨v, i, c, rfl, by omega, hsk, .inr trivial, by omega, by omega, by simp; omega, (v.drop i).take c, ?_, by simp; omega, objV ((v.drop i).take c), by simp, rfl, rfl, by simp [objV]; omega, rfl, objV ((v.drop i).take c), by simp, rfl, rfl, ?_⟩
    · rw [← List.map_take, ← List.map_drop, ← List.take_drop]
    · obtain ⟨hdn, tl, hpe⟩ : ∃ a b, (v.drop i).take c = a :: b := by
        cases hx : (v.drop i).take c with
        | nil => have := congrArg List.length hx; simp at this; omega
        | cons a b => exact ⟨a, b, rfl⟩
      rw [hpe] at hr' ⊢
      refine ⟨objV (hdn :: tl), encN hdn, by simp, rfl, rfl, rfl, by simp, rfl, by simp [encN, PV.cells], (fun h => by cases h), rfl, ?_⟩
      have hset : (O ++ [objV (hdn :: tl)]).set O.length { objV (hdn :: tl) with xs := (objV (hdn :: tl)).xs.set 0 ((encN hdn).putCells 2 (PV.str []).cells) } = O ++ [objV (clr (hdn :: tl))] := by
        rw [List.set_append_right _ _ (Nat.le_refl _), Nat.sub_self]
        rfl
      rw [hset]
      refine q0m _ (Weak.freeze 1 O.length (hIl k O hIk).1 _) ?_
      have hgo : (O ++ [objV (clr (hdn :: tl))])[O.length]? = some (objV (clr (hdn :: tl))) := by simp
      have hfr : frz 1 O.length (O ++ [objV (clr (hdn :: tl))]) (.osl O.length 0) = encV (clr (hdn :: tl)) := by
        simp only [frz, Nat.lt_irrefl, if_false, frzI, hgo]
        simp only [objV, Nat.le_refl, decide_true, Bool.and_self, BEq.rfl, if_true, encV, List.map_map]
        congr 1
      have hro : (O ++ [objV (clr (hdn :: tl))]).take O.length = O := by simp
      have hpost : ∃ w, w = clr (hdn :: tl) := ⟨_, rfl⟩
      obtain ⟨pc, hpc⟩ := hpost
      rw [← hpc] at hfr hro hgo ⊢
      have hq1 : (frz 1 O.length (O ++ [objV pc]) (.optr O.length 0 0 0)).pure = true := q79 (Nat.le_refl _)
      have hq2 : (frz 1 O.length (O ++ [objV pc]) (.optr O.length 0 0 2)).pure = true := q79 (Nat.le_refl _)
      have hq3 : (encV pc).pure = true := rfl
      simp only [St.freeze, tmR, fzR, frR, hfr, hro, hq1, hq2, hq3, puR, unR, Bool.not_true, encN, qcr (hIl k O hIk).2, ↓wpR, kiR, ↓lrR, ↓exR, ↓guR, stR, ↓opsR, Nat.reduceAdd, Nat.reduceSub, D_all, biR, biI, inRR, caR, Yof, q0h, loadR, q0i, q01, ↓exmap, ↓exi, agR, subR, isR, alR, Int.reduceToNat, Int.toNat_zero, Int.reduceLE, Bool.not_false, Bool.and_self, Nat.reduceLeDiff, forall_const, ne_eq, reduceCtorEq, not_false_eq_true, true_and, PV.bool.injEq, Int.toNat_natCast, Nat.zero_add, List.length_cons, List.length_nil]
      have hvi : v[i]? = some hdn := by
        have := congrArg (fun l => l[0]?) hpe
        simp only [List.getElem?_cons_zero, List.getElem?_take, List.getElem?_drop, Nat.add_zero] at this
        rw [if_pos (by omega)] at this
        exact this
      have hpk : ps[k]? = some (hdn :: tl) := by
        have := congrArg (fun l => l[0]?) (hd.trans hr')
        simpa using this
      have hdq : ps.drop (k + 1) = qs := by
        have := congrArg List.tail (hd.trans hr')
        simpa [List.tail_drop] using this
      have hlq : qs.length = q := by rw [hr'] at hq; simpa using hq
      refine ⟨by omega, hdn, hvi, k, hIk, ?_, fun objs' hI' => ⟨fun h => h.elim, ⟨by omega, by omega⟩, qs.length, by omega, k + 1, i + c, objs', qs, by omega, rfl, ?_, hdq, hI', ?_⟩, fun objs' hJ' => ?_⟩
      · rw [List.getElem?_map, hpk, hpc]; rfl
      · rw [hlq]; rw [List.drop_drop] at hqs; exact hqs
      · simp only [fgR, encV, tmR]; rfl
      · exact ⟨⟨.inr rfl, .inr ⟨k, by rw [List.length_map]; omega, hJ'⟩⟩, fun h => h.elim⟩
  · rw [if_pos trivial]
    have hge : ¬ (k : Int) < n.many := of_decide_eq_false hkm
    refine ⟨.inl rfl, ?_⟩
    have : k = ps.length := by omega
    rw [List.length_map, ← this]
    exact .inl hIk
end Lp

/-! LpW3 -/

namespace Lp
open Go Go.Proofs
set_option maxHeartbeats 2000000
set_option linter.unusedSimpArgs false
def qak : Ctr := fun args objs K => ∃ v : Vl, args = [encV v] ∧ K (.fn f_val_each_1 [] [.addr (encV v)]) objs 0
theorem qc0 : CtrOk Tryz.prog f_val_each qak := by
  rintro args objs K ⟨v, rfl, hk⟩
  exact ⟨_, _, _, .pure _ rfl (qlx v), hk⟩
def qly (done : List Vl) (O : List Obj) : Prop :=
  (done = [] ∧ O = [⟨t_L_api_Val, 1, [.sl 0 [] (some true)], true, 1⟩]) ∨
  (done ≠ [] ∧ ∃ ver, O = [⟨t_L_api_Val, 1, [.osl 1 ver], true, 1⟩, ⟨t_api_Val, 1, done.map fun p => encV (clr p), true, ver⟩])
theorem qgb (v : Vl) (n : Nd) (r : Vl) (ps : List Vl) (hv : v = n :: r) (hl : v.length ≤ 1099511627776) (hm : 0 ≤ n.many) (hp : parts n.many.toNat r = some ps) :
    FnSpec Tryz.prog f_val_Parts [encV v] [] (if ps = [] then .sl 0 [] (some true) else .sl 1 (ps.map fun p => encV (clr p)) none) [] := by
  refine k_val_Parts.pure (T := tabL Tryz.prog [(f_val_each, qak)]) 2 hD (q0e (q0c qc0 q0d)) hmix (by decide) ?_
  simp only [qab, ↓wpR, knR, ↓lrR, ↓exR, ↓guR, stR, ↓opsR, Nat.reduceAdd, Nat.reduceSub, tmR, D_all, F_all, caR, taR, qak, Nat.reduceBEq, BEq.rfl, cond_true, cond_false, q0b, newObj, q05, isR, alR, ne_eq, reduceCtorEq, not_false_eq_true, true_and, List.length_cons, List.length_nil, List.nil_append]
  refine ⟨rfl, v, rfl, ?_⟩
  refine qob f_val_each_1 [.addr (encV v)] (ps.map rowOf) (fun i O => qly (ps.take i) O ∧ i ≤ ps.length) rfl rfl rfl trivial (qaj v n r ps hv hl hm hp) ?_ ⟨.inl ⟨by simp, rfl⟩, Nat.zero_le _⟩ ?_ ?_ ?_
  · intro y hy
    obtain ⟨p, _, rfl⟩ := List.mem_map.1 hy
    rfl
  · rintro i O ⟨h | ⟨_, ver, rfl⟩, _⟩
    · rw [h.2]
      refine ⟨by simp, ?_⟩
      intro o ho x hx c hc
      simp only [List.mem_singleton] at ho
      subst ho
      simp only [List.mem_singleton] at hx
      subst hx
      simp only [PV.cells, List.mem_singleton] at hc
      subst hc
      rfl
    · refine ⟨by simp, ?_⟩
      intro o ho x hx c hc
      simp only [List.mem_cons, List.not_mem_nil, or_false] at ho
      rcases ho with rfl | rfl
      · simp only [List.mem_singleton] at hx
        subst hx
        simp only [PV.cells, List.mem_singleton] at hc
        subst hc
        rfl
      · simp only [List.mem_map] at hx
        obtain ⟨p, _, rfl⟩ := hx
        simp only [encV, PV.cells, List.mem_singleton] at hc
        subst hc
        rfl
  · rintro i args O ⟨hO, hi⟩ ha
    rw [List.getElem?_map] at ha
    obtain ⟨p, hpi, rfl⟩ : ∃ p, ps[i]? = some p ∧ rowOf p = args := by
      cases hx : ps[i]? with
      | none => rw [hx] at ha; simp at ha
      | some p => rw [hx] at ha; exact ⟨p, rfl, by simpa using ha⟩
    have hil : i < ps.length := (List.getElem?_eq_some_iff.1 hpi).1
    have htk : ps.take (i + 1) = ps.take i ++ [p] := by rw [List.take_add_one, hpi]; rfl
    rcases hO with ⟨h0, rfl⟩ | ⟨h0, ver, rfl⟩
    · simp only [rowOf, setL, obR, ↓exi, ↓exi2, reduceIte, Bool.false_eq_true, if_false, ↓wpR, ↓lrR, ↓exR, ↓guR, stR, ↓opsR, Nat.reduceAdd, Nat.reduceSub, tmR, D_all, q1e, loadR, q00, q06, srcR, newObj, q09, q0a, q05, agR, subR, isR, alR, ne_eq, reduceCtorEq, not_false_eq_true, true_and, List.length_cons, List.length_nil, List.nil_append]
      refine ⟨by decide, fun _ => trivial, rfl, by decide, rfl, rfl, rfl, ?_, by decide, by decide, by decide, fun _ => trivial, rfl, .inr ⟨by rw [htk]; simp, 1, ?_⟩, by omega⟩
      · intro y hy
        simp only [List.mem_singleton] at hy
        subst hy
        exact ⟨rfl, rfl⟩
      · rw [htk, h0]; rfl
    · have hlen : ps.length ≤ 1099511627776 := by
        have h1 := q1t _ _ _ hp
        have h2 := q2n _ _ _ hp
        rw [hv] at hl
        simp at hl
        omega
      simp only [rowOf, setL, obR, ↓exi, ↓exi2, reduceIte, Bool.false_eq_true, if_false, ↓wpR, ↓lrR, ↓exR, ↓guR, stR, ↓opsR, Nat.reduceAdd, Nat.reduceSub, tmR, D_all, q1e, loadR, q00, q06, srcR, newObj, q09, q0a, q05, agR, subR, isR, alR, ne_eq, reduceCtorEq, not_false_eq_true, true_and, List.length_cons, List.length_nil, List.nil_append]
      refine ⟨by decide, fun _ => trivial, rfl, by decide, rfl, rfl, rfl, ?_, by simp; omega, by simp; omega, fun _ _ h => h.elim, by decide, fun _ => trivial, rfl, .inr ⟨by rw [htk]; simp, ver + 1, ?_⟩, by omega⟩
      · intro y hy
        simp only [List.mem_singleton] at hy
        subst hy
        exact ⟨rfl, rfl⟩
      · rw [htk, List.map_append]; rfl
  · rintro O ⟨hO, _⟩
    rw [List.length_map, List.take_length] at hO
    rcases hO with ⟨h0, rfl⟩ | ⟨h0, ver, rfl⟩
    · rw [if_pos h0]
      simp only [obR, ↓exi, ↓exi2, reduceIte, ↓exR, stR, tmR, loadR, agR, subR, isR, alR, retR, outL, onePV, frR, fzR, ne_eq, reduceCtorEq, not_false_eq_true, true_and, List.length_cons, List.length_nil, List.nil_append]
      exact ⟨by decide, fun _ => trivial, rfl, trivial⟩
    · rw [if_neg h0]
      simp only [obR, ↓exi, ↓exi2, reduceIte, ↓exR, stR, tmR, loadR, agR, subR, isR, alR, retR, outL, onePV, frR, fzR, ne_eq, reduceCtorEq, not_false_eq_true, true_and, List.length_cons, List.length_nil, List.nil_append]
      refine ⟨by decide, fun _ => trivial, rfl, ?_⟩
      simp only [frz, Nat.not_lt_zero, if_false, frzI, List.getElem?_cons_succ, List.getElem?_cons_zero, Nat.le_refl, Nat.zero_le, decide_true, Bool.and_self, BEq.rfl, if_true, List.map_map]
      congr 1
theorem qio (v : Vl) (n : Nd) (r : Vl) (ps : List Vl) (hv : v = n :: r) (hl : v.length ≤ 1099511627776) (hm : 0 ≤ n.many) (hp : parts n.many.toNat r = some ps) :
    FnSpec Tryz.prog f_val_Parts [encV v] [] (.sl 1 (ps.map fun p => encV (clr p)) none) [] := by
  refine (qgb v n r ps hv hl hm hp).le_res fun w ok u h => ?_
  split at h
  · rename_i h0
    subst h0
    exact qg8 h (by simp)
  · exact h
end Lp

/-! LpW4 -/

namespace Lp
open Go Go.Proofs
set_option maxHeartbeats 2000000
set_option linter.unusedSimpArgs false
def qlz (done : List Vl) (O : List Obj) : Prop :=
  (done = [] ∧ O = [⟨t_L_string, 1, [.sl 0 [] (some true)], true, 1⟩]) ∨
  (done ≠ [] ∧ ∃ ver, O = [⟨t_L_string, 1, [.osl 1 ver], true, 1⟩, ⟨t_string, 1, done.map fun p => .str (nameOf p), true, ver⟩])
theorem qgc (v : Vl) (n : Nd) (r : Vl) (ps : List Vl) (hv : v = n :: r) (hl : v.length ≤ 1099511627776) (hm : 0 ≤ n.many) (hp : parts n.many.toNat r = some ps) :
    FnSpec Tryz.prog f_val_Names [encV v] [] (if n.kind = 6 ∧ ps ≠ [] then .sl 1 (ps.map fun p => .str (nameOf p)) none else .sl 0 [] (some true)) [] := by
  subst hv
  refine k_val_Names.pure (T := tabL Tryz.prog [(f_val_each, qak)]) 2 hD (q0e (q0c qc0 q0d)) hmix (by decide) ?_
  simp only [qaa, ↓wpR, knR, ↓lrR, ↓exR, ↓guR, stR, ↓opsR, Nat.reduceAdd, Nat.reduceSub, tmR, D_all, F_all, caR, taR, qak, Nat.reduceBEq, BEq.rfl, cond_true, cond_false, q0b, newObj, q05, ↓exmap, ↓exi, q0h, loadR, q0i, q01, encV, encN, biR, biI, agR, subR, List.map_cons, Int.reduceToNat, Int.toNat_zero, Int.reduceLE, Nat.reduceLeDiff, forall_const, Bool.not_false, Bool.and_self, ↓exi2, obR, retR, outL, onePV, frR, isR, alR, ne_eq, reduceCtorEq, not_false_eq_true, true_and, List.length_cons, List.length_nil, List.nil_append]
  refine ⟨rfl, fun hk => ⟨n :: r, rfl, ?_⟩, fun hk => ?_⟩
  · have hk6 : n.kind = 6 := of_decide_eq_true hk
    refine qob f_val_each_1 [.addr (encV (n :: r))] (ps.map rowOf) (fun i O => qlz (ps.take i) O ∧ i ≤ ps.length) rfl rfl rfl trivial (qaj (n :: r) n r ps rfl hl hm hp) ?_ ⟨.inl ⟨by simp, rfl⟩, Nat.zero_le _⟩ ?_ ?_ ?_
    · intro y hy
      obtain ⟨p, _, rfl⟩ := List.mem_map.1 hy
      rfl
    · rintro i O ⟨h | ⟨_, ver, rfl⟩, _⟩
      · rw [h.2]
        refine ⟨by simp, ?_⟩
        intro o ho x hx c hc
        simp only [List.mem_singleton] at ho
        subst ho
        simp only [List.mem_singleton] at hx
        subst hx
        simp only [PV.cells, List.mem_singleton] at hc
        subst hc
        rfl
      · refine ⟨by simp, ?_⟩
        intro o ho x hx c hc
        simp only [List.mem_cons, List.not_mem_nil, or_false] at ho
        rcases ho with rfl | rfl
        · simp only [List.mem_singleton] at hx
          subst hx
          simp only [PV.cells, List.mem_singleton] at hc
          subst hc
          rfl
        · simp only [List.mem_map] at hx
          obtain ⟨p, _, rfl⟩ := hx
          simp only [PV.cells, List.mem_singleton] at hc
          subst hc
          rfl
    · rintro i args O ⟨hO, hi⟩ ha
      rw [List.getElem?_map] at ha
      obtain ⟨p, hpi, rfl⟩ : ∃ p, ps[i]? = some p ∧ rowOf p = args := by
        cases hx : ps[i]? with
        | none => rw [hx] at ha; simp at ha
        | some p => rw [hx] at ha; exact ⟨p, rfl, by simpa using ha⟩
      have hil : i < ps.length := (List.getElem?_eq_some_iff.1 hpi).1
      have htk : ps.take (i + 1) = ps.take i ++ [p] := by rw [List.take_add_one, hpi]; rfl
      rcases hO with ⟨h0, rfl⟩ | ⟨h0, ver, rfl⟩
      · simp only [rowOf, setL, obR, ↓exi, ↓exi2, reduceIte, Bool.false_eq_true, if_false, ↓wpR, ↓lrR, ↓exR, ↓guR, stR, ↓opsR, Nat.reduceAdd, Nat.reduceSub, tmR, D_all, q1e, loadR, q00, q06, srcR, newObj, q09, q0a, q05, agR, subR, isR, alR, ne_eq, reduceCtorEq, not_false_eq_true, true_and, List.length_cons, List.length_nil, List.nil_append]
        refine ⟨by decide, fun _ => trivial, rfl, by decide, rfl, rfl, rfl, ?_, by decide, by decide, by decide, fun _ => trivial, rfl, .inr ⟨by rw [htk]; simp, 1, ?_⟩, by omega⟩
        · intro y hy
          simp only [List.mem_singleton] at hy
          subst hy
          exact ⟨rfl, rfl⟩
        · rw [htk, h0]; rfl
      · have hlen : ps.length ≤ 1099511627776 := by
          have h1 := q1t _ _ _ hp
          have h2 := q2n _ _ _ hp
          simp at hl
          omega
        simp only [rowOf, setL, obR, ↓exi, ↓exi2, reduceIte, Bool.false_eq_true, if_false, ↓wpR, ↓lrR, ↓exR, ↓guR, stR, ↓opsR, Nat.reduceAdd, Nat.reduceSub, tmR, D_all, q1e, loadR, q00, q06, srcR, newObj, q09, q0a, q05, agR, subR, isR, alR, ne_eq, reduceCtorEq, not_false_eq_true, true_and, List.length_cons, List.length_nil, List.nil_append]
        refine ⟨by decide, fun _ => trivial, rfl, by decide, rfl, rfl, rfl, ?_, by simp; omega, by simp; omega, fun _ _ h => h.elim, by decide, fun _ => trivial, rfl, .inr ⟨by rw [htk]; simp, ver + 1, ?_⟩, by omega⟩
        · intro y hy
          simp only [List.mem_singleton] at hy
          subst hy
          exact ⟨rfl, rfl⟩
        · rw [htk, List.map_append]; rfl
    · rintro O ⟨hO, _⟩
      rw [List.length_map, List.take_length] at hO
      rcases hO with ⟨h0, rfl⟩ | ⟨h0, ver, rfl⟩
      · rw [if_neg (fun h => h.2 h0)]
        simp only [obR, ↓exi, ↓exi2, reduceIte, ↓exR, stR, tmR, loadR, agR, subR, isR, alR, retR, outL, onePV, frR, fzR, ne_eq, reduceCtorEq, not_false_eq_true, true_and, List.length_cons, List.length_nil, List.nil_append]
        simp
      · rw [if_pos ⟨hk6, h0⟩]
        simp only [obR, ↓exi, ↓exi2, reduceIte, ↓exR, stR, tmR, loadR, agR, subR, isR, alR, retR, outL, onePV, frR, fzR, ne_eq, reduceCtorEq, not_false_eq_true, true_and, List.length_cons, List.length_nil, List.nil_append]
        refine ⟨by decide, rfl, ?_⟩
        simp only [frz, Nat.not_lt_zero, if_false, frzI, List.getElem?_cons_succ, List.getElem?_cons_zero, Nat.le_refl, Nat.zero_le, decide_true, Bool.and_self, BEq.rfl, if_true, List.map_map]
        congr 1
  · have hk6 : n.kind ≠ 6 := of_decide_eq_false hk
    rw [if_neg (fun h => hk6 h.1)]
theorem qip (v : Vl) (n : Nd) (r : Vl) (ps : List Vl) (hv : v = n :: r) (hl : v.length ≤ 1099511627776) (hm : 0 ≤ n.many) (hp : parts n.many.toNat r = some ps) :
    FnSpec Tryz.prog f_val_Names [encV v] [] (.sl 1 ((qfm n ps).map .str) none) [] := by
  refine (qgc v n r ps hv hl hm hp).le_res fun w ok u h => ?_
  unfold qfm
  by_cases hk : n.kind = 6
  · rw [if_pos hk]
    by_cases h0 : ps = []
    · subst h0
      rw [if_neg (fun h => h.2 rfl)] at h
      exact qg8 h (by simp)
    · rw [if_pos ⟨hk, h0⟩] at h
      rw [List.map_map]
      exact h
  · rw [if_neg hk]
    rw [if_neg (fun h => hk h.1)] at h
    exact qg8 h (by simp)
end Lp

/-! LpW8 -/

namespace Lp
open Go Go.Proofs
theorem frzB0 (x y : Nd) : frz 1 0 [⟨t_api_Node, 6, [encN x], true, 1⟩, ⟨t_api_Node, 6, [encN y], true, 1⟩] (.optr 0 1 0 0) = .addr (encN x) := rfl
theorem frzB1 (x y : Nd) : frz 1 0 [⟨t_api_Node, 6, [encN x], true, 1⟩, ⟨t_api_Node, 6, [encN y], true, 1⟩] (.optr 1 1 0 0) = .addr (encN y) := rfl
theorem frzC0 (x : Nd) : frz 1 0 [⟨t_api_Node, 6, [encN x], true, 1⟩] (.optr 0 1 0 0) = .addr (encN x) := rfl
theorem tf (p : Prop) : p = True ∨ p = False := by
  by_cases h : p
  · exact .inl (eq_true h)
  · exact .inr (eq_false h)
end Lp

/-! LpW14 -/

namespace Lp
open Go Go.Proofs
set_option maxHeartbeats 4000000
set_option maxRecDepth 20000
set_option linter.unusedSimpArgs false
theorem u8c (c : UInt8) (n : Nat) (h : n < 256) : (c < UInt8.ofNat n ↔ c.toNat < n) ∧ (UInt8.ofNat n ≤ c ↔ n ≤ c.toNat) := by
  have e : (UInt8.ofNat n).toNat = n := by simp [UInt8.toNat_ofNat']; omega
  constructor
  · rw [UInt8.lt_iff_toNat_lt, e]
  · rw [UInt8.le_iff_toNat_le, e]
theorem qiq {s : List UInt8} {i : Nat} {c : UInt8} (h : s[i]? = some c) : contB s i = (decide (128 ≤ c.toNat) && decide (c.toNat < 192)) := by
  have h1 : 128 ≤ c ↔ 128 ≤ c.toNat := (u8c c 128 (by omega)).2
  have h2 : c < 192 ↔ c.toNat < 192 := (u8c c 192 (by omega)).1
  simp only [contB, h]
  rw [decide_eq_decide.2 h1, decide_eq_decide.2 h2]
theorem qm0 (s : List UInt8) (i : Int) (hi : 0 ≤ i) : FnSpec Tryz.prog f_louperef02_cont [.str s, .int .i64 i] [] (.bool (contB s i.toNat)) [] := by
  refine k_louperef02_cont.pure (T := tabL Tryz.prog []) 0 hD (q0e q0d) hmix (by decide) ?_
  try simp only [F_all]
  rcases Nat.lt_or_ge i.toNat s.length with h | h
  · have hg := List.getElem?_eq_getElem h
    generalize s[i.toNat] = c at hg
    simp (maxSteps := 400000) only [↓preZ, postZ, coreZ, ↓preU, postU, D_all, F_all, unR, outL, onePV, binS, ↓binS, q03, ↓q03, q01, ↓q01, boxR, q0b, newObj, q05, q00, q06, q09, q0a, St.freeze, q02, q07, q04, BEq.rfl, reduceIte, reduceCtorEq, Nat.reduceLT, Nat.reduceAdd, Nat.reduceSub, Nat.reduceMul, Nat.reduceBEq, Nat.reduceLeDiff, Int.reduceToNat, Int.reduceLE, q2m, hg, qiq hg]
    refine ⟨fun _ => ⟨hi, fun h1 => ⟨hi, ?_⟩, fun h1 => ?_⟩, fun h2 => absurd (by omega) h2⟩
    · have : 128 ≤ c.toNat := by omega
      simp only [this, decide_true, Bool.true_and]
      exact decide_eq_decide.2 (by omega)
    · have : ¬ 128 ≤ c.toNat := by omega
      simp only [this, decide_false, Bool.false_and]
  · have hn : s[i.toNat]? = none := List.getElem?_eq_none h
    simp (maxSteps := 400000) only [↓preZ, postZ, coreZ, ↓preU, postU, D_all, F_all, unR, outL, onePV, binS, ↓binS, q03, ↓q03, q01, ↓q01, boxR, q0b, newObj, q05, q00, q06, q09, q0a, St.freeze, q02, q07, q04, BEq.rfl, reduceIte, reduceCtorEq, Nat.reduceLT, Nat.reduceAdd, Nat.reduceSub, Nat.reduceMul, Nat.reduceBEq, Nat.reduceLeDiff, Int.reduceToNat, Int.reduceLE, q2m]
    simp only [contB, hn]
    exact ⟨fun hh => absurd hh (by omega), fun _ => trivial⟩
def q17 : Ctr := fun args objs K => match args with
  | [.str s, .int .i64 i] => (0 ≤ i) ∧ K (.bool (contB s i.toNat)) objs 0
  | _ => False
theorem qir : CtrOk Tryz.prog f_louperef02_cont (q17) := by
  intro args objs K h
  unfold q17 at h
  split at h
  · rename_i s i
    obtain ⟨h1, hk⟩ := h
    exact ⟨_, _, _, .pure _ rfl (qm0 s i h1), hk⟩
  · exact h.elim
theorem q81 (s : List UInt8) (i k : Nat) : contB (s.drop i) k = contB s (i + k) := by
  simp only [contB, List.getElem?_drop]
theorem qal {s : List UInt8} {i : Nat} (h : contB s i = true) : ∃ d, s[i]? = some d := by
  unfold contB at h
  split at h
  · rename_i b hb; exact ⟨b, hb⟩
  · cases h
theorem qm1 (s : List UInt8) (i : Nat) (hi : i < s.length) (hl : s.length ≤ 4611686018427387904) : FnSpec Tryz.prog f_louperef02_Rune [.str s, .int .i64 i] [] (.int .i64 (runeN (s.drop i) : Nat)) [] := by
  have hg := List.getElem?_eq_getElem hi
  have hd := List.drop_eq_getElem_cons hi
  generalize s[i] = c at hg hd
  have c0 : contB (s.drop (i + 1)) 0 = contB s (i + 1) := q81 s (i + 1) 0
  have c1 : contB (s.drop (i + 1)) 1 = contB s (i + 2) := q81 s (i + 1) 1
  have c2 : contB (s.drop (i + 1)) 2 = contB s (i + 3) := q81 s (i + 1) 2
  have n1 : ((i : Int) + 1).toNat = i + 1 := by omega
  have n2 : ((i : Int) + 2).toNat = i + 2 := by omega
  have n3 : ((i : Int) + 3).toNat = i + 3 := by omega
  have z0 : (0 ≤ (i : Int)) = True := eq_true (by omega)
  have z1 : (0 ≤ (i : Int) + 1) = True := eq_true (by omega)
  have z2 : (0 ≤ (i : Int) + 2) = True := eq_true (by omega)
  have z3 : (0 ≤ (i : Int) + 3) = True := eq_true (by omega)
  have i1 : (-9223372036854775808 ≤ (i : Int) + 1 ∧ (i : Int) + 1 ≤ 9223372036854775807) = True := eq_true ⟨by omega, by omega⟩
  have i2 : (-9223372036854775808 ≤ (i : Int) + 2 ∧ (i : Int) + 2 ≤ 9223372036854775807) = True := eq_true ⟨by omega, by omega⟩
  have i3 : (-9223372036854775808 ≤ (i : Int) + 3 ∧ (i : Int) + 3 ≤ 9223372036854775807) = True := eq_true ⟨by omega, by omega⟩
  suffices gen : ∀ Q : Exit → St → Prop, (∀ (l : List (Nat × PV)) (v : Nat), lkA l 4 = .int .i64 v → v = runeN (c :: s.drop (i + 1)) → Q .ret ⟨tmA 109 l, []⟩) →
      wpc Tryz.prog D (tabL Tryz.prog [(f_louperef02_cont, q17)]) q0f Q (q13 [.str s, .int .i64 i] 109) by
    rw [hd]
    refine k_louperef02_Rune.pure (T := tabL Tryz.prog [(f_louperef02_cont, q17)]) 0 hD (q0e (q0c qir q0d)) hmix (by decide) ?_
    try simp only [F_all]
    refine gen _ fun l v h1 h2 => ?_
    subst h2
    simp only [retR, outL, onePV, stR2, taR2, Nat.reduceLT, h1, List.map_cons, List.map_nil, frR]
  intro Q hQ
  have hc : c.toNat < 256 := c.toNat_lt
  have h6 : c.toNat < 128 ∨ (128 ≤ c.toNat ∧ c.toNat < 194) ∨ (194 ≤ c.toNat ∧ c.toNat < 224) ∨ (224 ≤ c.toNat ∧ c.toNat < 240) ∨ (240 ≤ c.toNat ∧ c.toNat < 245) ∨ 245 ≤ c.toNat := by omega
  rcases h6 with h | h | h | h | h | h
  · skip
    have f0 : (((c.toNat : Int) < 128) = True) := eq_true (by omega)
    have f1 : ((128 ≤ (c.toNat : Int)) = False) := eq_false (by omega)
    have f2 : ((c < 128) = True) := eq_true ((u8c c 128 (by omega)).1.2 (by omega))
    have f3 : ((128 ≤ c) = False) := eq_false fun hh => by have := (u8c c 128 (by omega)).2.1 hh; omega
    have f4 : (((c.toNat : Int) < 194) = True) := eq_true (by omega)
    have f5 : ((194 ≤ (c.toNat : Int)) = False) := eq_false (by omega)
    have f6 : ((c < 194) = True) := eq_true ((u8c c 194 (by omega)).1.2 (by omega))
    have f7 : ((194 ≤ c) = False) := eq_false fun hh => by have := (u8c c 194 (by omega)).2.1 hh; omega
    have f8 : (((c.toNat : Int) < 224) = True) := eq_true (by omega)
    have f9 : ((224 ≤ (c.toNat : Int)) = False) := eq_false (by omega)
    have f10 : ((c < 224) = True) := eq_true ((u8c c 224 (by omega)).1.2 (by omega))
    have f11 : ((224 ≤ c) = False) := eq_false fun hh => by have := (u8c c 224 (by omega)).2.1 hh; omega
    have f12 : (((c.toNat : Int) < 240) = True) := eq_true (by omega)
    have f13 : ((240 ≤ (c.toNat : Int)) = False) := eq_false (by omega)
    have f14 : ((c < 240) = True) := eq_true ((u8c c 240 (by omega)).1.2 (by omega))
    have f15 : ((240 ≤ c) = False) := eq_false fun hh => by have := (u8c c 240 (by omega)).2.1 hh; omega
    have f16 : (((c.toNat : Int) < 245) = True) := eq_true (by omega)
    have f17 : ((245 ≤ (c.toNat : Int)) = False) := eq_false (by omega)
    have f18 : ((c < 245) = True) := eq_true ((u8c c 245 (by omega)).1.2 (by omega))
    have f19 : ((245 ≤ c) = False) := eq_false fun hh => by have := (u8c c 245 (by omega)).2.1 hh; omega
    simp (maxSteps := 400000) only [↓preZ, postZ, coreZ, ↓preU, postU, D_all, F_all, unR, outL, onePV, binS, ↓binS, q03, ↓q03, q01, ↓q01, boxR, q0b, newObj, q05, q00, q06, q09, q0a, St.freeze, q02, q07, q04, BEq.rfl, reduceIte, reduceCtorEq, Nat.reduceLT, Nat.reduceAdd, Nat.reduceSub, Nat.reduceMul, Nat.reduceBEq, Nat.reduceLeDiff, Int.reduceToNat, Int.reduceLE, q0f, hg, ↓q17, n1, n2, n3, z0, z1, z2, z3, i1, i2, i3, f0, f1, f2, f3, f4, f5, f6, f7, f8, f9, f10, f11, f12, f13, f14, f15, f16, f17, f18, f19]
    exact hQ _ 1 rfl (by simp only [true_or, or_true, or_self, or_false, false_or, and_self, true_and, and_true, false_and, and_false, if_true, if_false, Bool.false_eq_true, c0, c1, c2, runeN, f0, f1, f2, f3, f4, f5, f6, f7, f8, f9, f10, f11, f12, f13, f14, f15, f16, f17, f18, f19])
  · skip
    have f0 : (((c.toNat : Int) < 128) = False) := eq_false (by omega)
    have f1 : ((128 ≤ (c.toNat : Int)) = True) := eq_true (by omega)
    have f2 : ((c < 128) = False) := eq_false fun hh => by have := (u8c c 128 (by omega)).1.1 hh; omega
    have f3 : ((128 ≤ c) = True) := eq_true ((u8c c 128 (by omega)).2.2 (by omega))
    have f4 : (((c.toNat : Int) < 194) = True) := eq_true (by omega)
    have f5 : ((194 ≤ (c.toNat : Int)) = False) := eq_false (by omega)
    have f6 : ((c < 194) = True) := eq_true ((u8c c 194 (by omega)).1.2 (by omega))
    have f7 : ((194 ≤ c) = False) := eq_false fun hh => by have := (u8c c 194 (by omega)).2.1 hh; omega
    have f8 : (((c.toNat : Int) < 224) = True) := eq_true (by omega)
    have f9 : ((224 ≤ (c.toNat : Int)) = False) := eq_false (by omega)
    have f10 : ((c < 224) = True) := eq_true ((u8c c 224 (by omega)).1.2 (by omega))
    have f11 : ((224 ≤ c) = False) := eq_false fun hh => by have := (u8c c 224 (by omega)).2.1 hh; omega
    have f12 : (((c.toNat : Int) < 240) = True) := eq_true (by omega)
    have f13 : ((240 ≤ (c.toNat : Int)) = False) := eq_false (by omega)
    have f14 : ((c < 240) = True) := eq_true ((u8c c 240 (by omega)).1.2 (by omega))
    have f15 : ((240 ≤ c) = False) := eq_false fun hh => by have := (u8c c 240 (by omega)).2.1 hh; omega
    have f16 : (((c.toNat : Int) < 245) = True) := eq_true (by omega)
    have f17 : ((245 ≤ (c.toNat : Int)) = False) := eq_false (by omega)
    have f18 : ((c < 245) = True) := eq_true ((u8c c 245 (by omega)).1.2 (by omega))
    have f19 : ((245 ≤ c) = False) := eq_false fun hh => by have := (u8c c 245 (by omega)).2.1 hh; omega
    simp (maxSteps := 400000) only [↓preZ, postZ, coreZ, ↓preU, postU, D_all, F_all, unR, outL, onePV, binS, ↓binS, q03, ↓q03, q01, ↓q01, boxR, q0b, newObj, q05, q00, q06, q09, q0a, St.freeze, q02, q07, q04, BEq.rfl, reduceIte, reduceCtorEq, Nat.reduceLT, Nat.reduceAdd, Nat.reduceSub, Nat.reduceMul, Nat.reduceBEq, Nat.reduceLeDiff, Int.reduceToNat, Int.reduceLE, q0f, hg, ↓q17, n1, n2, n3, z0, z1, z2, z3, i1, i2, i3, f0, f1, f2, f3, f4, f5, f6, f7, f8, f9, f10, f11, f12, f13, f14, f15, f16, f17, f18, f19]
    exact hQ _ 0 rfl (by simp only [true_or, or_true, or_self, or_false, false_or, and_self, true_and, and_true, false_and, and_false, if_true, if_false, Bool.false_eq_true, c0, c1, c2, runeN, f0, f1, f2, f3, f4, f5, f6, f7, f8, f9, f10, f11, f12, f13, f14, f15, f16, f17, f18, f19])
  · skip
    have f0 : (((c.toNat : Int) < 128) = False) := eq_false (by omega)
    have f1 : ((128 ≤ (c.toNat : Int)) = True) := eq_true (by omega)
    have f2 : ((c < 128) = False) := eq_false fun hh => by have := (u8c c 128 (by omega)).1.1 hh; omega
    have f3 : ((128 ≤ c) = True) := eq_true ((u8c c 128 (by omega)).2.2 (by omega))
    have f4 : (((c.toNat : Int) < 194) = False) := eq_false (by omega)
    have f5 : ((194 ≤ (c.toNat : Int)) = True) := eq_true (by omega)
    have f6 : ((c < 194) = False) := eq_false fun hh => by have := (u8c c 194 (by omega)).1.1 hh; omega
    have f7 : ((194 ≤ c) = True) := eq_true ((u8c c 194 (by omega)).2.2 (by omega))
    have f8 : (((c.toNat : Int) < 224) = True) := eq_true (by omega)
    have f9 : ((224 ≤ (c.toNat : Int)) = False) := eq_false (by omega)
    have f10 : ((c < 224) = True) := eq_true ((u8c c 224 (by omega)).1.2 (by omega))
    have f11 : ((224 ≤ c) = False) := eq_false fun hh => by have := (u8c c 224 (by omega)).2.1 hh; omega
    have f12 : (((c.toNat : Int) < 240) = True) := eq_true (by omega)
    have f13 : ((240 ≤ (c.toNat : Int)) = False) := eq_false (by omega)
    have f14 : ((c < 240) = True) := eq_true ((u8c c 240 (by omega)).1.2 (by omega))
    have f15 : ((240 ≤ c) = False) := eq_false fun hh => by have := (u8c c 240 (by omega)).2.1 hh; omega
    have f16 : (((c.toNat : Int) < 245) = True) := eq_true (by omega)
    have f17 : ((245 ≤ (c.toNat : Int)) = False) := eq_false (by omega)
    have f18 : ((c < 245) = True) := eq_true ((u8c c 245 (by omega)).1.2 (by omega))
    have f19 : ((245 ≤ c) = False) := eq_false fun hh => by have := (u8c c 245 (by omega)).2.1 hh; omega
    cases k1 : contB s (i + 1)
    · skip
      simp (maxSteps := 400000) only [↓preZ, postZ, coreZ, ↓preU, postU, D_all, F_all, unR, outL, onePV, binS, ↓binS, q03, ↓q03, q01, ↓q01, boxR, q0b, newObj, q05, q00, q06, q09, q0a, St.freeze, q02, q07, q04, BEq.rfl, reduceIte, reduceCtorEq, Nat.reduceLT, Nat.reduceAdd, Nat.reduceSub, Nat.reduceMul, Nat.reduceBEq, Nat.reduceLeDiff, Int.reduceToNat, Int.reduceLE, q0f, hg, ↓q17, n1, n2, n3, z0, z1, z2, z3, i1, i2, i3, f0, f1, f2, f3, f4, f5, f6, f7, f8, f9, f10, f11, f12, f13, f14, f15, f16, f17, f18, f19, k1]
      exact hQ _ 0 rfl (by simp only [true_or, or_true, or_self, or_false, false_or, and_self, true_and, and_true, false_and, and_false, if_true, if_false, Bool.false_eq_true, c0, c1, c2, runeN, f0, f1, f2, f3, f4, f5, f6, f7, f8, f9, f10, f11, f12, f13, f14, f15, f16, f17, f18, f19, k1])
    · skip
      simp (maxSteps := 400000) only [↓preZ, postZ, coreZ, ↓preU, postU, D_all, F_all, unR, outL, onePV, binS, ↓binS, q03, ↓q03, q01, ↓q01, boxR, q0b, newObj, q05, q00, q06, q09, q0a, St.freeze, q02, q07, q04, BEq.rfl, reduceIte, reduceCtorEq, Nat.reduceLT, Nat.reduceAdd, Nat.reduceSub, Nat.reduceMul, Nat.reduceBEq, Nat.reduceLeDiff, Int.reduceToNat, Int.reduceLE, q0f, hg, ↓q17, n1, n2, n3, z0, z1, z2, z3, i1, i2, i3, f0, f1, f2, f3, f4, f5, f6, f7, f8, f9, f10, f11, f12, f13, f14, f15, f16, f17, f18, f19, k1]
      exact hQ _ 2 rfl (by simp only [true_or, or_true, or_self, or_false, false_or, and_self, true_and, and_true, false_and, and_false, if_true, if_false, Bool.false_eq_true, c0, c1, c2, runeN, f0, f1, f2, f3, f4, f5, f6, f7, f8, f9, f10, f11, f12, f13, f14, f15, f16, f17, f18, f19, k1])
  · skip
    have f0 : (((c.toNat : Int) < 128) = False) := eq_false (by omega)
    have f1 : ((128 ≤ (c.toNat : Int)) = True) := eq_true (by omega)
    have f2 : ((c < 128) = False) := eq_false fun hh => by have := (u8c c 128 (by omega)).1.1 hh; omega
    have f3 : ((128 ≤ c) = True) := eq_true ((u8c c 128 (by omega)).2.2 (by omega))
    have f4 : (((c.toNat : Int) < 194) = False) := eq_false (by omega)
    have f5 : ((194 ≤ (c.toNat : Int)) = True) := eq_true (by omega)
    have f6 : ((c < 194) = False) := eq_false fun hh => by have := (u8c c 194 (by omega)).1.1 hh; omega
    have f7 : ((194 ≤ c) = True) := eq_true ((u8c c 194 (by omega)).2.2 (by omega))
    have f8 : (((c.toNat : Int) < 224) = False) := eq_false (by omega)
    have f9 : ((224 ≤ (c.toNat : Int)) = True) := eq_true (by omega)
    have f10 : ((c < 224) = False) := eq_false fun hh => by have := (u8c c 224 (by omega)).1.1 hh; omega
    have f11 : ((224 ≤ c) = True) := eq_true ((u8c c 224 (by omega)).2.2 (by omega))
    have f12 : (((c.toNat : Int) < 240) = True) := eq_true (by omega)
    have f13 : ((240 ≤ (c.toNat : Int)) = False) := eq_false (by omega)
    have f14 : ((c < 240) = True) := eq_true ((u8c c 240 (by omega)).1.2 (by omega))
    have f15 : ((240 ≤ c) = False) := eq_false fun hh => by have := (u8c c 240 (by omega)).2.1 hh; omega
    have f16 : (((c.toNat : Int) < 245) = True) := eq_true (by omega)
    have f17 : ((245 ≤ (c.toNat : Int)) = False) := eq_false (by omega)
    have f18 : ((c < 245) = True) := eq_true ((u8c c 245 (by omega)).1.2 (by omega))
    have f19 : ((245 ≤ c) = False) := eq_false fun hh => by have := (u8c c 245 (by omega)).2.1 hh; omega
    cases k1 : contB s (i + 1)
    · skip
      simp (maxSteps := 400000) only [↓preZ, postZ, coreZ, ↓preU, postU, D_all, F_all, unR, outL, onePV, binS, ↓binS, q03, ↓q03, q01, ↓q01, boxR, q0b, newObj, q05, q00, q06, q09, q0a, St.freeze, q02, q07, q04, BEq.rfl, reduceIte, reduceCtorEq, Nat.reduceLT, Nat.reduceAdd, Nat.reduceSub, Nat.reduceMul, Nat.reduceBEq, Nat.reduceLeDiff, Int.reduceToNat, Int.reduceLE, q0f, hg, ↓q17, n1, n2, n3, z0, z1, z2, z3, i1, i2, i3, f0, f1, f2, f3, f4, f5, f6, f7, f8, f9, f10, f11, f12, f13, f14, f15, f16, f17, f18, f19, k1]
      exact hQ _ 0 rfl (by simp only [true_or, or_true, or_self, or_false, false_or, and_self, true_and, and_true, false_and, and_false, if_true, if_false, Bool.false_eq_true, c0, c1, c2, runeN, f0, f1, f2, f3, f4, f5, f6, f7, f8, f9, f10, f11, f12, f13, f14, f15, f16, f17, f18, f19, k1])
    cases k2 : contB s (i + 2)
    · skip
      simp (maxSteps := 400000) only [↓preZ, postZ, coreZ, ↓preU, postU, D_all, F_all, unR, outL, onePV, binS, ↓binS, q03, ↓q03, q01, ↓q01, boxR, q0b, newObj, q05, q00, q06, q09, q0a, St.freeze, q02, q07, q04, BEq.rfl, reduceIte, reduceCtorEq, Nat.reduceLT, Nat.reduceAdd, Nat.reduceSub, Nat.reduceMul, Nat.reduceBEq, Nat.reduceLeDiff, Int.reduceToNat, Int.reduceLE, q0f, hg, ↓q17, n1, n2, n3, z0, z1, z2, z3, i1, i2, i3, f0, f1, f2, f3, f4, f5, f6, f7, f8, f9, f10, f11, f12, f13, f14, f15, f16, f17, f18, f19, k1, k2]
      exact hQ _ 0 rfl (by simp only [true_or, or_true, or_self, or_false, false_or, and_self, true_and, and_true, false_and, and_false, if_true, if_false, Bool.false_eq_true, c0, c1, c2, runeN, f0, f1, f2, f3, f4, f5, f6, f7, f8, f9, f10, f11, f12, f13, f14, f15, f16, f17, f18, f19, k1, k2])
    obtain ⟨d, hd1⟩ := qal k1
    have hhd : (List.drop (i + 1) s).headD 0 = d := by rw [List.headD_eq_head?_getD, List.head?_drop, hd1]; rfl
    by_cases hc224 : c.toNat = 224
    · have hc237 : c.toNat ≠ 237 := by omega
      have e0 : (((c.toNat : Int) = 224) = True) := eq_true (by omega)
      have e1 : ((c = 224) = True) := eq_true (UInt8.toNat_inj.1 (by simpa using hc224))
      have e2 : (((c.toNat : Int) = 237) = False) := eq_false (by omega)
      have e3 : ((c = 237) = False) := eq_false fun hh => hc237 (by rw [hh]; rfl)
      by_cases hdl : d.toNat < 160
      · skip
        have g0 : (((d.toNat : Int) < 160) = True) := eq_true (by omega)
        have g1 : ((160 ≤ (d.toNat : Int)) = False) := eq_false (by omega)
        have g2 : ((d < 160) = True) := eq_true ((u8c d 160 (by omega)).1.2 (by omega))
        have g3 : ((160 ≤ d) = False) := eq_false fun hh => by have := (u8c d 160 (by omega)).2.1 hh; omega
        simp (maxSteps := 400000) only [↓preZ, postZ, coreZ, ↓preU, postU, D_all, F_all, unR, outL, onePV, binS, ↓binS, q03, ↓q03, q01, ↓q01, boxR, q0b, newObj, q05, q00, q06, q09, q0a, St.freeze, q02, q07, q04, BEq.rfl, reduceIte, reduceCtorEq, Nat.reduceLT, Nat.reduceAdd, Nat.reduceSub, Nat.reduceMul, Nat.reduceBEq, Nat.reduceLeDiff, Int.reduceToNat, Int.reduceLE, q0f, hg, ↓q17, n1, n2, n3, z0, z1, z2, z3, i1, i2, i3, f0, f1, f2, f3, f4, f5, f6, f7, f8, f9, f10, f11, f12, f13, f14, f15, f16, f17, f18, f19, k1, k2, hd1, hhd, e0, e1, e2, e3, g0, g1, g2, g3]
        exact hQ _ 0 rfl (by simp only [true_or, or_true, or_self, or_false, false_or, and_self, true_and, and_true, false_and, and_false, if_true, if_false, Bool.false_eq_true, c0, c1, c2, runeN, f0, f1, f2, f3, f4, f5, f6, f7, f8, f9, f10, f11, f12, f13, f14, f15, f16, f17, f18, f19, k1, k2, hd1, hhd, e0, e1, e2, e3, g0, g1, g2, g3])
      · skip
        have g0 : (((d.toNat : Int) < 160) = False) := eq_false (by omega)
        have g1 : ((160 ≤ (d.toNat : Int)) = True) := eq_true (by omega)
        have g2 : ((d < 160) = False) := eq_false fun hh => by have := (u8c d 160 (by omega)).1.1 hh; omega
        have g3 : ((160 ≤ d) = True) := eq_true ((u8c d 160 (by omega)).2.2 (by omega))
        simp (maxSteps := 400000) only [↓preZ, postZ, coreZ, ↓preU, postU, D_all, F_all, unR, outL, onePV, binS, ↓binS, q03, ↓q03, q01, ↓q01, boxR, q0b, newObj, q05, q00, q06, q09, q0a, St.freeze, q02, q07, q04, BEq.rfl, reduceIte, reduceCtorEq, Nat.reduceLT, Nat.reduceAdd, Nat.reduceSub, Nat.reduceMul, Nat.reduceBEq, Nat.reduceLeDiff, Int.reduceToNat, Int.reduceLE, q0f, hg, ↓q17, n1, n2, n3, z0, z1, z2, z3, i1, i2, i3, f0, f1, f2, f3, f4, f5, f6, f7, f8, f9, f10, f11, f12, f13, f14, f15, f16, f17, f18, f19, k1, k2, hd1, hhd, e0, e1, e2, e3, g0, g1, g2, g3]
        exact hQ _ 3 rfl (by simp only [true_or, or_true, or_self, or_false, false_or, and_self, true_and, and_true, false_and, and_false, if_true, if_false, Bool.false_eq_true, c0, c1, c2, runeN, f0, f1, f2, f3, f4, f5, f6, f7, f8, f9, f10, f11, f12, f13, f14, f15, f16, f17, f18, f19, k1, k2, hd1, hhd, e0, e1, e2, e3, g0, g1, g2, g3])
    · by_cases hc237 : c.toNat = 237
      · skip
        have e0 : (((c.toNat : Int) = 224) = False) := eq_false (by omega)
        have e1 : ((c = 224) = False) := eq_false fun hh => hc224 (by rw [hh]; rfl)
        have e2 : (((c.toNat : Int) = 237) = True) := eq_true (by omega)
        have e3 : ((c = 237) = True) := eq_true (UInt8.toNat_inj.1 (by simpa using hc237))
        by_cases hdl : d.toNat < 160
        · skip
          have g0 : (((d.toNat : Int) < 160) = True) := eq_true (by omega)
          have g1 : ((160 ≤ (d.toNat : Int)) = False) := eq_false (by omega)
          have g2 : ((d < 160) = True) := eq_true ((u8c d 160 (by omega)).1.2 (by omega))
          have g3 : ((160 ≤ d) = False) := eq_false fun hh => by have := (u8c d 160 (by omega)).2.1 hh; omega
          simp (maxSteps := 400000) only [↓preZ, postZ, coreZ, ↓preU, postU, D_all, F_all, unR, outL, onePV, binS, ↓binS, q03, ↓q03, q01, ↓q01, boxR, q0b, newObj, q05, q00, q06, q09, q0a, St.freeze, q02, q07, q04, BEq.rfl, reduceIte, reduceCtorEq, Nat.reduceLT, Nat.reduceAdd, Nat.reduceSub, Nat.reduceMul, Nat.reduceBEq, Nat.reduceLeDiff, Int.reduceToNat, Int.reduceLE, q0f, hg, ↓q17, n1, n2, n3, z0, z1, z2, z3, i1, i2, i3, f0, f1, f2, f3, f4, f5, f6, f7, f8, f9, f10, f11, f12, f13, f14, f15, f16, f17, f18, f19, k1, k2, hd1, hhd, e0, e1, e2, e3, g0, g1, g2, g3]
          exact hQ _ 3 rfl (by simp only [true_or, or_true, or_self, or_false, false_or, and_self, true_and, and_true, false_and, and_false, if_true, if_false, Bool.false_eq_true, c0, c1, c2, runeN, f0, f1, f2, f3, f4, f5, f6, f7, f8, f9, f10, f11, f12, f13, f14, f15, f16, f17, f18, f19, k1, k2, hd1, hhd, e0, e1, e2, e3, g0, g1, g2, g3])
        · skip
          have g0 : (((d.toNat : Int) < 160) = False) := eq_false (by omega)
          have g1 : ((160 ≤ (d.toNat : Int)) = True) := eq_true (by omega)
          have g2 : ((d < 160) = False) := eq_false fun hh => by have := (u8c d 160 (by omega)).1.1 hh; omega
          have g3 : ((160 ≤ d) = True) := eq_true ((u8c d 160 (by omega)).2.2 (by omega))
          simp (maxSteps := 400000) only [↓preZ, postZ, coreZ, ↓preU, postU, D_all, F_all, unR, outL, onePV, binS, ↓binS, q03, ↓q03, q01, ↓q01, boxR, q0b, newObj, q05, q00, q06, q09, q0a, St.freeze, q02, q07, q04, BEq.rfl, reduceIte, reduceCtorEq, Nat.reduceLT, Nat.reduceAdd, Nat.reduceSub, Nat.reduceMul, Nat.reduceBEq, Nat.reduceLeDiff, Int.reduceToNat, Int.reduceLE, q0f, hg, ↓q17, n1, n2, n3, z0, z1, z2, z3, i1, i2, i3, f0, f1, f2, f3, f4, f5, f6, f7, f8, f9, f10, f11, f12, f13, f14, f15, f16, f17, f18, f19, k1, k2, hd1, hhd, e0, e1, e2, e3, g0, g1, g2, g3]
          exact hQ _ 0 rfl (by simp only [true_or, or_true, or_self, or_false, false_or, and_self, true_and, and_true, false_and, and_false, if_true, if_false, Bool.false_eq_true, c0, c1, c2, runeN, f0, f1, f2, f3, f4, f5, f6, f7, f8, f9, f10, f11, f12, f13, f14, f15, f16, f17, f18, f19, k1, k2, hd1, hhd, e0, e1, e2, e3, g0, g1, g2, g3])
      · skip
        have e0 : (((c.toNat : Int) = 224) = False) := eq_false (by omega)
        have e1 : ((c = 224) = False) := eq_false fun hh => hc224 (by rw [hh]; rfl)
        have e2 : (((c.toNat : Int) = 237) = False) := eq_false (by omega)
        have e3 : ((c = 237) = False) := eq_false fun hh => hc237 (by rw [hh]; rfl)
        simp (maxSteps := 400000) only [↓preZ, postZ, coreZ, ↓preU, postU, D_all, F_all, unR, outL, onePV, binS, ↓binS, q03, ↓q03, q01, ↓q01, boxR, q0b, newObj, q05, q00, q06, q09, q0a, St.freeze, q02, q07, q04, BEq.rfl, reduceIte, reduceCtorEq, Nat.reduceLT, Nat.reduceAdd, Nat.reduceSub, Nat.reduceMul, Nat.reduceBEq, Nat.reduceLeDiff, Int.reduceToNat, Int.reduceLE, q0f, hg, ↓q17, n1, n2, n3, z0, z1, z2, z3, i1, i2, i3, f0, f1, f2, f3, f4, f5, f6, f7, f8, f9, f10, f11, f12, f13, f14, f15, f16, f17, f18, f19, k1, k2, hd1, hhd, e0, e1, e2, e3]
        exact hQ _ 3 rfl (by simp only [true_or, or_true, or_self, or_false, false_or, and_self, true_and, and_true, false_and, and_false, if_true, if_false, Bool.false_eq_true, c0, c1, c2, runeN, f0, f1, f2, f3, f4, f5, f6, f7, f8, f9, f10, f11, f12, f13, f14, f15, f16, f17, f18, f19, k1, k2, hd1, hhd, e0, e1, e2, e3])
  · skip
    have f0 : (((c.toNat : Int) < 128) = False) := eq_false (by omega)
    have f1 : ((128 ≤ (c.toNat : Int)) = True) := eq_true (by omega)
    have f2 : ((c < 128) = False) := eq_false fun hh => by have := (u8c c 128 (by omega)).1.1 hh; omega
    have f3 : ((128 ≤ c) = True) := eq_true ((u8c c 128 (by omega)).2.2 (by omega))
    have f4 : (((c.toNat : Int) < 194) = False) := eq_false (by omega)
    have f5 : ((194 ≤ (c.toNat : Int)) = True) := eq_true (by omega)
    have f6 : ((c < 194) = False) := eq_false fun hh => by have := (u8c c 194 (by omega)).1.1 hh; omega
    have f7 : ((194 ≤ c) = True) := eq_true ((u8c c 194 (by omega)).2.2 (by omega))
    have f8 : (((c.toNat : Int) < 224) = False) := eq_false (by omega)
    have f9 : ((224 ≤ (c.toNat : Int)) = True) := eq_true (by omega)
    have f10 : ((c < 224) = False) := eq_false fun hh => by have := (u8c c 224 (by omega)).1.1 hh; omega
    have f11 : ((224 ≤ c) = True) := eq_true ((u8c c 224 (by omega)).2.2 (by omega))
    have f12 : (((c.toNat : Int) < 240) = False) := eq_false (by omega)
    have f13 : ((240 ≤ (c.toNat : Int)) = True) := eq_true (by omega)
    have f14 : ((c < 240) = False) := eq_false fun hh => by have := (u8c c 240 (by omega)).1.1 hh; omega
    have f15 : ((240 ≤ c) = True) := eq_true ((u8c c 240 (by omega)).2.2 (by omega))
    have f16 : (((c.toNat : Int) < 245) = True) := eq_true (by omega)
    have f17 : ((245 ≤ (c.toNat : Int)) = False) := eq_false (by omega)
    have f18 : ((c < 245) = True) := eq_true ((u8c c 245 (by omega)).1.2 (by omega))
    have f19 : ((245 ≤ c) = False) := eq_false fun hh => by have := (u8c c 245 (by omega)).2.1 hh; omega
    cases k1 : contB s (i + 1)
    · skip
      simp (maxSteps := 400000) only [↓preZ, postZ, coreZ, ↓preU, postU, D_all, F_all, unR, outL, onePV, binS, ↓binS, q03, ↓q03, q01, ↓q01, boxR, q0b, newObj, q05, q00, q06, q09, q0a, St.freeze, q02, q07, q04, BEq.rfl, reduceIte, reduceCtorEq, Nat.reduceLT, Nat.reduceAdd, Nat.reduceSub, Nat.reduceMul, Nat.reduceBEq, Nat.reduceLeDiff, Int.reduceToNat, Int.reduceLE, q0f, hg, ↓q17, n1, n2, n3, z0, z1, z2, z3, i1, i2, i3, f0, f1, f2, f3, f4, f5, f6, f7, f8, f9, f10, f11, f12, f13, f14, f15, f16, f17, f18, f19, k1]
      exact hQ _ 0 rfl (by simp only [true_or, or_true, or_self, or_false, false_or, and_self, true_and, and_true, false_and, and_false, if_true, if_false, Bool.false_eq_true, c0, c1, c2, runeN, f0, f1, f2, f3, f4, f5, f6, f7, f8, f9, f10, f11, f12, f13, f14, f15, f16, f17, f18, f19, k1])
    cases k2 : contB s (i + 2)
    · skip
      simp (maxSteps := 400000) only [↓preZ, postZ, coreZ, ↓preU, postU, D_all, F_all, unR, outL, onePV, binS, ↓binS, q03, ↓q03, q01, ↓q01, boxR, q0b, newObj, q05, q00, q06, q09, q0a, St.freeze, q02, q07, q04, BEq.rfl, reduceIte, reduceCtorEq, Nat.reduceLT, Nat.reduceAdd, Nat.reduceSub, Nat.reduceMul, Nat.reduceBEq, Nat.reduceLeDiff, Int.reduceToNat, Int.reduceLE, q0f, hg, ↓q17, n1, n2, n3, z0, z1, z2, z3, i1, i2, i3, f0, f1, f2, f3, f4, f5, f6, f7, f8, f9, f10, f11, f12, f13, f14, f15, f16, f17, f18, f19, k1, k2]
      exact hQ _ 0 rfl (by simp only [true_or, or_true, or_self, or_false, false_or, and_self, true_and, and_true, false_and, and_false, if_true, if_false, Bool.false_eq_true, c0, c1, c2, runeN, f0, f1, f2, f3, f4, f5, f6, f7, f8, f9, f10, f11, f12, f13, f14, f15, f16, f17, f18, f19, k1, k2])
    cases k3 : contB s (i + 3)
    · skip
      simp (maxSteps := 400000) only [↓preZ, postZ, coreZ, ↓preU, postU, D_all, F_all, unR, outL, onePV, binS, ↓binS, q03, ↓q03, q01, ↓q01, boxR, q0b, newObj, q05, q00, q06, q09, q0a, St.freeze, q02, q07, q04, BEq.rfl, reduceIte, reduceCtorEq, Nat.reduceLT, Nat.reduceAdd, Nat.reduceSub, Nat.reduceMul, Nat.reduceBEq, Nat.reduceLeDiff, Int.reduceToNat, Int.reduceLE, q0f, hg, ↓q17, n1, n2, n3, z0, z1, z2, z3, i1, i2, i3, f0, f1, f2, f3, f4, f5, f6, f7, f8, f9, f10, f11, f12, f13, f14, f15, f16, f17, f18, f19, k1, k2, k3]
      exact hQ _ 0 rfl (by simp only [true_or, or_true, or_self, or_false, false_or, and_self, true_and, and_true, false_and, and_false, if_true, if_false, Bool.false_eq_true, c0, c1, c2, runeN, f0, f1, f2, f3, f4, f5, f6, f7, f8, f9, f10, f11, f12, f13, f14, f15, f16, f17, f18, f19, k1, k2, k3])
    obtain ⟨d, hd1⟩ := qal k1
    have hhd : (List.drop (i + 1) s).headD 0 = d := by rw [List.headD_eq_head?_getD, List.head?_drop, hd1]; rfl
    by_cases hc240 : c.toNat = 240
    · have hc244 : c.toNat ≠ 244 := by omega
      have e0 : (((c.toNat : Int) = 240) = True) := eq_true (by omega)
      have e1 : ((c = 240) = True) := eq_true (UInt8.toNat_inj.1 (by simpa using hc240))
      have e2 : (((c.toNat : Int) = 244) = False) := eq_false (by omega)
      have e3 : ((c = 244) = False) := eq_false fun hh => hc244 (by rw [hh]; rfl)
      by_cases hdl : d.toNat < 144
      · skip
        have g0 : (((d.toNat : Int) < 144) = True) := eq_true (by omega)
        have g1 : ((144 ≤ (d.toNat : Int)) = False) := eq_false (by omega)
        have g2 : ((d < 144) = True) := eq_true ((u8c d 144 (by omega)).1.2 (by omega))
        have g3 : ((144 ≤ d) = False) := eq_false fun hh => by have := (u8c d 144 (by omega)).2.1 hh; omega
        simp (maxSteps := 400000) only [↓preZ, postZ, coreZ, ↓preU, postU, D_all, F_all, unR, outL, onePV, binS, ↓binS, q03, ↓q03, q01, ↓q01, boxR, q0b, newObj, q05, q00, q06, q09, q0a, St.freeze, q02, q07, q04, BEq.rfl, reduceIte, reduceCtorEq, Nat.reduceLT, Nat.reduceAdd, Nat.reduceSub, Nat.reduceMul, Nat.reduceBEq, Nat.reduceLeDiff, Int.reduceToNat, Int.reduceLE, q0f, hg, ↓q17, n1, n2, n3, z0, z1, z2, z3, i1, i2, i3, f0, f1, f2, f3, f4, f5, f6, f7, f8, f9, f10, f11, f12, f13, f14, f15, f16, f17, f18, f19, k1, k2, k3, hd1, hhd, e0, e1, e2, e3, g0, g1, g2, g3]
        exact hQ _ 0 rfl (by simp only [true_or, or_true, or_self, or_false, false_or, and_self, true_and, and_true, false_and, and_false, if_true, if_false, Bool.false_eq_true, c0, c1, c2, runeN, f0, f1, f2, f3, f4, f5, f6, f7, f8, f9, f10, f11, f12, f13, f14, f15, f16, f17, f18, f19, k1, k2, k3, hd1, hhd, e0, e1, e2, e3, g0, g1, g2, g3])
      · skip
        have g0 : (((d.toNat : Int) < 144) = False) := eq_false (by omega)
        have g1 : ((144 ≤ (d.toNat : Int)) = True) := eq_true (by omega)
        have g2 : ((d < 144) = False) := eq_false fun hh => by have := (u8c d 144 (by omega)).1.1 hh; omega
        have g3 : ((144 ≤ d) = True) := eq_true ((u8c d 144 (by omega)).2.2 (by omega))
        simp (maxSteps := 400000) only [↓preZ, postZ, coreZ, ↓preU, postU, D_all, F_all, unR, outL, onePV, binS, ↓binS, q03, ↓q03, q01, ↓q01, boxR, q0b, newObj, q05, q00, q06, q09, q0a, St.freeze, q02, q07, q04, BEq.rfl, reduceIte, reduceCtorEq, Nat.reduceLT, Nat.reduceAdd, Nat.reduceSub, Nat.reduceMul, Nat.reduceBEq, Nat.reduceLeDiff, Int.reduceToNat, Int.reduceLE, q0f, hg, ↓q17, n1, n2, n3, z0, z1, z2, z3, i1, i2, i3, f0, f1, f2, f3, f4, f5, f6, f7, f8, f9, f10, f11, f12, f13, f14, f15, f16, f17, f18, f19, k1, k2, k3, hd1, hhd, e0, e1, e2, e3, g0, g1, g2, g3]
        exact hQ _ 4 rfl (by simp only [true_or, or_true, or_self, or_false, false_or, and_self, true_and, and_true, false_and, and_false, if_true, if_false, Bool.false_eq_true, c0, c1, c2, runeN, f0, f1, f2, f3, f4, f5, f6, f7, f8, f9, f10, f11, f12, f13, f14, f15, f16, f17, f18, f19, k1, k2, k3, hd1, hhd, e0, e1, e2, e3, g0, g1, g2, g3])
    · by_cases hc244 : c.toNat = 244
      · skip
        have e0 : (((c.toNat : Int) = 240) = False) := eq_false (by omega)
        have e1 : ((c = 240) = False) := eq_false fun hh => hc240 (by rw [hh]; rfl)
        have e2 : (((c.toNat : Int) = 244) = True) := eq_true (by omega)
        have e3 : ((c = 244) = True) := eq_true (UInt8.toNat_inj.1 (by simpa using hc244))
        by_cases hdl : d.toNat < 144
        · skip
          have g0 : (((d.toNat : Int) < 144) = True) := eq_true (by omega)
          have g1 : ((144 ≤ (d.toNat : Int)) = False) := eq_false (by omega)
          have g2 : ((d < 144) = True) := eq_true ((u8c d 144 (by omega)).1.2 (by omega))
          have g3 : ((144 ≤ d) = False) := eq_false fun hh => by have := (u8c d 144 (by omega)).2.1 hh; omega
          simp (maxSteps := 400000) only [↓preZ, postZ, coreZ, ↓preU, postU, D_all, F_all, unR, outL, onePV, binS, ↓binS, q03, ↓q03, q01, ↓q01, boxR, q0b, newObj, q05, q00, q06, q09, q0a, St.freeze, q02, q07, q04, BEq.rfl, reduceIte, reduceCtorEq, Nat.reduceLT, Nat.reduceAdd, Nat.reduceSub, Nat.reduceMul, Nat.reduceBEq, Nat.reduceLeDiff, Int.reduceToNat, Int.reduceLE, q0f, hg, ↓q17, n1, n2, n3, z0, z1, z2, z3, i1, i2, i3, f0, f1, f2, f3, f4, f5, f6, f7, f8, f9, f10, f11, f12, f13, f14, f15, f16, f17, f18, f19, k1, k2, k3, hd1, hhd, e0, e1, e2, e3, g0, g1, g2, g3]
          exact hQ _ 4 rfl (by simp only [true_or, or_true, or_self, or_false, false_or, and_self, true_and, and_true, false_and, and_false, if_true, if_false, Bool.false_eq_true, c0, c1, c2, runeN, f0, f1, f2, f3, f4, f5, f6, f7, f8, f9, f10, f11, f12, f13, f14, f15, f16, f17, f18, f19, k1, k2, k3, hd1, hhd, e0, e1, e2, e3, g0, g1, g2, g3])
        · skip
          have g0 : (((d.toNat : Int) < 144) = False) := eq_false (by omega)
          have g1 : ((144 ≤ (d.toNat : Int)) = True) := eq_true (by omega)
          have g2 : ((d < 144) = False) := eq_false fun hh => by have := (u8c d 144 (by omega)).1.1 hh; omega
          have g3 : ((144 ≤ d) = True) := eq_true ((u8c d 144 (by omega)).2.2 (by omega))
          simp (maxSteps := 400000) only [↓preZ, postZ, coreZ, ↓preU, postU, D_all, F_all, unR, outL, onePV, binS, ↓binS, q03, ↓q03, q01, ↓q01, boxR, q0b, newObj, q05, q00, q06, q09, q0a, St.freeze, q02, q07, q04, BEq.rfl, reduceIte, reduceCtorEq, Nat.reduceLT, Nat.reduceAdd, Nat.reduceSub, Nat.reduceMul, Nat.reduceBEq, Nat.reduceLeDiff, Int.reduceToNat, Int.reduceLE, q0f, hg, ↓q17, n1, n2, n3, z0, z1, z2, z3, i1, i2, i3, f0, f1, f2, f3, f4, f5, f6, f7, f8, f9, f10, f11, f12, f13, f14, f15, f16, f17, f18, f19, k1, k2, k3, hd1, hhd, e0, e1, e2, e3, g0, g1, g2, g3]
          exact hQ _ 0 rfl (by simp only [true_or, or_true, or_self, or_false, false_or, and_self, true_and, and_true, false_and, and_false, if_true, if_false, Bool.false_eq_true, c0, c1, c2, runeN, f0, f1, f2, f3, f4, f5, f6, f7, f8, f9, f10, f11, f12, f13, f14, f15, f16, f17, f18, f19, k1, k2, k3, hd1, hhd, e0, e1, e2, e3, g0, g1, g2, g3])
      · skip
        have e0 : (((c.toNat : Int) = 240) = False) := eq_false (by omega)
        have e1 : ((c = 240) = False) := eq_false fun hh => hc240 (by rw [hh]; rfl)
        have e2 : (((c.toNat : Int) = 244) = False) := eq_false (by omega)
        have e3 : ((c = 244) = False) := eq_false fun hh => hc244 (by rw [hh]; rfl)
        simp (maxSteps := 400000) only [↓preZ, postZ, coreZ, ↓preU, postU, D_all, F_all, unR, outL, onePV, binS, ↓binS, q03, ↓q03, q01, ↓q01, boxR, q0b, newObj, q05, q00, q06, q09, q0a, St.freeze, q02, q07, q04, BEq.rfl, reduceIte, reduceCtorEq, Nat.reduceLT, Nat.reduceAdd, Nat.reduceSub, Nat.reduceMul, Nat.reduceBEq, Nat.reduceLeDiff, Int.reduceToNat, Int.reduceLE, q0f, hg, ↓q17, n1, n2, n3, z0, z1, z2, z3, i1, i2, i3, f0, f1, f2, f3, f4, f5, f6, f7, f8, f9, f10, f11, f12, f13, f14, f15, f16, f17, f18, f19, k1, k2, k3, hd1, hhd, e0, e1, e2, e3]
        exact hQ _ 4 rfl (by simp only [true_or, or_true, or_self, or_false, false_or, and_self, true_and, and_true, false_and, and_false, if_true, if_false, Bool.false_eq_true, c0, c1, c2, runeN, f0, f1, f2, f3, f4, f5, f6, f7, f8, f9, f10, f11, f12, f13, f14, f15, f16, f17, f18, f19, k1, k2, k3, hd1, hhd, e0, e1, e2, e3])
  · skip
    have f0 : (((c.toNat : Int) < 128) = False) := eq_false (by omega)
    have f1 : ((128 ≤ (c.toNat : Int)) = True) := eq_true (by omega)
    have f2 : ((c < 128) = False) := eq_false fun hh => by have := (u8c c 128 (by omega)).1.1 hh; omega
    have f3 : ((128 ≤ c) = True) := eq_true ((u8c c 128 (by omega)).2.2 (by omega))
    have f4 : (((c.toNat : Int) < 194) = False) := eq_false (by omega)
    have f5 : ((194 ≤ (c.toNat : Int)) = True) := eq_true (by omega)
    have f6 : ((c < 194) = False) := eq_false fun hh => by have := (u8c c 194 (by omega)).1.1 hh; omega
    have f7 : ((194 ≤ c) = True) := eq_true ((u8c c 194 (by omega)).2.2 (by omega))
    have f8 : (((c.toNat : Int) < 224) = False) := eq_false (by omega)
    have f9 : ((224 ≤ (c.toNat : Int)) = True) := eq_true (by omega)
    have f10 : ((c < 224) = False) := eq_false fun hh => by have := (u8c c 224 (by omega)).1.1 hh; omega
    have f11 : ((224 ≤ c) = True) := eq_true ((u8c c 224 (by omega)).2.2 (by omega))
    have f12 : (((c.toNat : Int) < 240) = False) := eq_false (by omega)
    have f13 : ((240 ≤ (c.toNat : Int)) = True) := eq_true (by omega)
    have f14 : ((c < 240) = False) := eq_false fun hh => by have := (u8c c 240 (by omega)).1.1 hh; omega
    have f15 : ((240 ≤ c) = True) := eq_true ((u8c c 240 (by omega)).2.2 (by omega))
    have f16 : (((c.toNat : Int) < 245) = False) := eq_false (by omega)
    have f17 : ((245 ≤ (c.toNat : Int)) = True) := eq_true (by omega)
    have f18 : ((c < 245) = False) := eq_false fun hh => by have := (u8c c 245 (by omega)).1.1 hh; omega
    have f19 : ((245 ≤ c) = True) := eq_true ((u8c c 245 (by omega)).2.2 (by omega))
    simp (maxSteps := 400000) only [↓preZ, postZ, coreZ, ↓preU, postU, D_all, F_all, unR, outL, onePV, binS, ↓binS, q03, ↓q03, q01, ↓q01, boxR, q0b, newObj, q05, q00, q06, q09, q0a, St.freeze, q02, q07, q04, BEq.rfl, reduceIte, reduceCtorEq, Nat.reduceLT, Nat.reduceAdd, Nat.reduceSub, Nat.reduceMul, Nat.reduceBEq, Nat.reduceLeDiff, Int.reduceToNat, Int.reduceLE, q0f, hg, ↓q17, n1, n2, n3, z0, z1, z2, z3, i1, i2, i3, f0, f1, f2, f3, f4, f5, f6, f7, f8, f9, f10, f11, f12, f13, f14, f15, f16, f17, f18, f19]
    exact hQ _ 0 rfl (by simp only [true_or, or_true, or_self, or_false, false_or, and_self, true_and, and_true, false_and, and_false, if_true, if_false, Bool.false_eq_true, c0, c1, c2, runeN, f0, f1, f2, f3, f4, f5, f6, f7, f8, f9, f10, f11, f12, f13, f14, f15, f16, f17, f18, f19])
theorem qis (s : List UInt8) (i : Int) (h0 : 0 ≤ i) (hi : i.toNat < s.length) (hl : s.length ≤ 4611686018427387904) : FnSpec Tryz.prog f_louperef02_Rune [.str s, .int .i64 i] [] (.int .i64 (runeN (s.drop i.toNat) : Nat)) [] := by
  have e : i = (i.toNat : Int) := by omega
  rw [e]
  exact qm1 s i.toNat hi hl
def qd0 : Ctr := fun args objs K => match args with
  | [.str s, .int .i64 i] => (0 ≤ i) ∧ (i.toNat < s.length) ∧ (s.length ≤ 4611686018427387904) ∧ K (.int .i64 (runeN (s.drop i.toNat) : Nat)) objs 0
  | _ => False
theorem qit : CtrOk Tryz.prog f_louperef02_Rune (qd0) := by
  intro args objs K h
  unfold qd0 at h
  split at h
  · rename_i s i
    obtain ⟨h1, h2, h3, hk⟩ := h
    exact ⟨_, _, _, .pure _ rfl (qis s i h1 h2 h3), hk⟩
  · exact h.elim
end Lp

/-! LpW15 -/

namespace Lp
open Go Go.Proofs
set_option maxHeartbeats 4000000
set_option maxRecDepth 20000
set_option linter.unusedSimpArgs false
theorem qnn (s : List UInt8) : runeN s ≤ s.length := by
  cases s with
  | nil => simp [runeN]
  | cons c t =>
    have h0 : ∀ i, contB t i = true → i < t.length := by
      intro i h
      obtain ⟨d, hd⟩ := qal h
      exact (List.getElem?_eq_some_iff.1 hd).1
    simp only [runeN, List.length_cons]
    split
    · omega
    · split
      · rename_i h; have := h0 0 h.2.2; omega
      · split
        · rename_i h; have := h0 1 h.2.2.2; split <;> omega
        · split
          · rename_i h; have := h0 2 h.2.2.2.2; split <;> omega
          · omega
theorem qno (s : List UInt8) (hl : s.length ≤ 4611686018427387904) : FnSpec Tryz.prog f_louperef02_Utf [.str s] [] (.bool (utf s)) [] := by
  refine k_louperef02_Utf.pureG (T := tabL Tryz.prog [(f_louperef02_Rune, qd0)]) 0 hD (q0e (q0c qit q0d)) hmix (by decide) fun Q hQ => ?_
  try simp only [F_all]
  simp (maxSteps := 400000) only [↓preZ, postZ, coreZ, ↓preU, postU, D_all, F_all, unR, outL, onePV, binS, ↓binS, q03, ↓q03, q01, ↓q01, boxR, q0b, newObj, q05, q00, q06, q09, q0a, St.freeze, q02, q07, q04, BEq.rfl, reduceIte, reduceCtorEq, Nat.reduceLT, Nat.reduceAdd, Nat.reduceSub, Nat.reduceMul, Nat.reduceBEq, Nat.reduceLeDiff, Int.reduceToNat, Int.reduceLE, hQ, q52]
  refine q0q (fun m S => ∃ i : Nat, i + m = s.length ∧ utfF m (s.drop i) = utf s ∧ S = ⟨tmA 17 [(0, .str s), (3, .int .i64 i)], []⟩) s.length ⟨0, by omega, rfl, ?_⟩ ?_
  · simp only [normR, keepR, Nat.reduceAdd, lkR, Nat.reduceBEq, F_all, List.map_nil]
    rfl
  rintro m S ⟨i, him, hu, rfl⟩
  simp (maxSteps := 400000) only [↓preZ, postZ, coreZ, ↓preU, postU, D_all, F_all, unR, outL, onePV, binS, ↓binS, q03, ↓q03, q01, ↓q01, boxR, q0b, newObj, q05, q00, q06, q09, q0a, St.freeze, q02, q07, q04, BEq.rfl, reduceIte, reduceCtorEq, Nat.reduceLT, Nat.reduceAdd, Nat.reduceSub, Nat.reduceMul, Nat.reduceBEq, Nat.reduceLeDiff, Int.reduceToNat, Int.reduceLE, hQ, ↓qd0]
  have hle := qnn (s.drop i)
  simp only [List.length_drop] at hle
  refine ⟨fun h => ⟨by omega, by omega, hl, fun h0 => ?_, fun h0 => ⟨⟨by omega, by omega⟩, m - runeN (s.drop i), by omega, i + runeN (s.drop i), by omega, ?_, by simp⟩⟩, fun h => ?_⟩
  · obtain ⟨m, rfl⟩ : ∃ k, m = k + 1 := ⟨m - 1, by omega⟩
    have hne : (s.drop i).isEmpty = false := by
      rw [List.isEmpty_eq_false_iff]
      intro he
      have := congrArg List.length he
      simp at this; omega
    rw [← hu, utfF, hne]
    have : runeN (s.drop i) = 0 := by omega
    simp [this]
  · obtain ⟨m, rfl⟩ : ∃ k, m = k + 1 := ⟨m - 1, by omega⟩
    have hne : (s.drop i).isEmpty = false := by
      rw [List.isEmpty_eq_false_iff]
      intro he
      have := congrArg List.length he
      simp at this; omega
    rw [← hu]
    conv => rhs; rw [utfF, hne]
    have h1 : (runeN (s.drop i) != 0) = true := by simp; omega
    rw [h1, Bool.false_or, Bool.true_and, List.drop_drop]
    refine q9j _ _ _ ?_ ?_
    · simp; omega
    · simp; omega
  · rw [← hu]
    have hn : s.drop i = [] := List.drop_eq_nil_of_le (by omega)
    rw [hn]
    cases m <;> rfl
def q2j : Ctr := fun args objs K => match args with
  | [.str s] => (s.length ≤ 4611686018427387904) ∧ K (.bool (utf s)) objs 0
  | _ => False
theorem qep : CtrOk Tryz.prog f_louperef02_Utf (q2j) := by
  intro args objs K h
  unfold q2j at h
  split at h
  · rename_i s
    obtain ⟨h1, hk⟩ := h
    exact ⟨_, _, _, .pure _ rfl (qno s h1), hk⟩
  · exact h.elim
theorem qeq (s : List UInt8) (hl : s.length ≤ 4611686018427387904) : FnSpec Tryz.prog f_louperef01_figures [.str s] [] (.bool (figs s)) [] := by
  refine k_louperef01_figures.pureG (T := tabL Tryz.prog []) 0 hD (q0e q0d) hmix (by decide) fun Q hQ => ?_
  try simp only [F_all]
  simp (maxSteps := 400000) only [↓preZ, postZ, coreZ, ↓preU, postU, D_all, F_all, unR, outL, onePV, binS, ↓binS, q03, ↓q03, q01, ↓q01, boxR, q0b, newObj, q05, q00, q06, q09, q0a, St.freeze, q02, q07, q04, BEq.rfl, reduceIte, reduceCtorEq, Nat.reduceLT, Nat.reduceAdd, Nat.reduceSub, Nat.reduceMul, Nat.reduceBEq, Nat.reduceLeDiff, Int.reduceToNat, Int.reduceLE, hQ, q2y]
  refine q0q (fun m S => ∃ i : Nat, i + m = s.length ∧ figs (s.drop i) = figs s ∧ S = ⟨tmA 20 [(0, .str s), (3, .int .i64 i)], []⟩) s.length ⟨0, by omega, rfl, ?_⟩ ?_
  · simp only [normR, keepR, Nat.reduceAdd, lkR, Nat.reduceBEq, F_all, List.map_nil]
    rfl
  rintro m S ⟨i, him, hu, rfl⟩
  rcases Nat.lt_or_ge i s.length with h | h
  · have hg := List.getElem?_eq_getElem h
    have hd := List.drop_eq_getElem_cons h
    generalize s[i] = c at hg hd
    simp (maxSteps := 400000) only [↓preZ, postZ, coreZ, ↓preU, postU, D_all, F_all, unR, outL, onePV, binS, ↓binS, q03, ↓q03, q01, ↓q01, boxR, q0b, newObj, q05, q00, q06, q09, q0a, St.freeze, q02, q07, q04, BEq.rfl, reduceIte, reduceCtorEq, Nat.reduceLT, Nat.reduceAdd, Nat.reduceSub, Nat.reduceMul, Nat.reduceBEq, Nat.reduceLeDiff, Int.reduceToNat, Int.reduceLE, hQ, hg]
    have hf : figs (c :: s.drop (i + 1)) = (decide (48 ≤ c) && decide (c ≤ 57) && figs (s.drop (i + 1))) := by simp [figs]
    rw [hd, hf] at hu
    refine ⟨fun _ => ⟨by omega, fun h1 => ?_, fun h1 => ⟨by omega, fun h2 => ?_, fun h2 => ⟨⟨by omega, by omega⟩, m - 1, by omega, i + 1, by omega, ?_, by simp⟩⟩⟩, fun h1 => absurd (by omega) h1⟩
    · have : ¬ (48 ≤ c) := fun h => by have := (u8c c 48 (by omega)).2.1 h; omega
      rw [← hu]; simp [this]
    · have : ¬ (c ≤ 57) := fun h => by have : c.toNat ≤ (57 : UInt8).toNat := UInt8.le_iff_toNat_le.1 h; have h57 : (57 : UInt8).toNat = 57 := rfl; omega
      rw [← hu]; simp [this]
    · have h3 : 48 ≤ c := (u8c c 48 (by omega)).2.2 (by omega)
      have h4 : c ≤ 57 := UInt8.le_iff_toNat_le.2 (by have h57 : (57 : UInt8).toNat = 57 := rfl; omega)
      rw [← hu]; simp [h3, h4]
  · simp (maxSteps := 400000) only [↓preZ, postZ, coreZ, ↓preU, postU, D_all, F_all, unR, outL, onePV, binS, ↓binS, q03, ↓q03, q01, ↓q01, boxR, q0b, newObj, q05, q00, q06, q09, q0a, St.freeze, q02, q07, q04, BEq.rfl, reduceIte, reduceCtorEq, Nat.reduceLT, Nat.reduceAdd, Nat.reduceSub, Nat.reduceMul, Nat.reduceBEq, Nat.reduceLeDiff, Int.reduceToNat, Int.reduceLE, hQ]
    refine ⟨fun h1 => absurd h1 (by omega), fun _ => ?_⟩
    rw [← hu, List.drop_eq_nil_of_le h]; rfl
def q82 : Ctr := fun args objs K => match args with
  | [.str s] => (s.length ≤ 4611686018427387904) ∧ K (.bool (figs s)) objs 0
  | _ => False
theorem qiu : CtrOk Tryz.prog f_louperef01_figures (q82) := by
  intro args objs K h
  unfold q82 at h
  split at h
  · rename_i s
    obtain ⟨h1, hk⟩ := h
    exact ⟨_, _, _, .pure _ rfl (qeq s h1), hk⟩
  · exact h.elim
theorem q43 (n : Nd) : numB n = true ↔ n.many = 0 ∧ figs n.s = true ∧ n.s.length ≤ 100 ∧ -1000 ≤ n.e ∧ n.e ≤ 1000 ∧ n.s.length + n.e ≤ 1000 ∧
    (if n.s = [] then n.neg = false ∧ n.e = 0 else n.s.head? ≠ some 48 ∧ n.s.getLast? ≠ some 48) := by
  simp only [numB, Bool.and_eq_true, decide_eq_true_eq, beq_iff_eq, and_assoc]
  split <;> simp
theorem q2a {b : Bool} (h : b = true → False) : b = false := by cases b <;> simp_all
theorem qd1 (n : Nd) (hl : n.s.length ≤ 4611686018427387904) (hk : n.kind = 3) (hn : n.name = []) : FnSpec Tryz.prog f_louperef01_Right [encN n] [] (.bool (numB n)) [] := by
  refine k_louperef01_Right.pureG (T := tabL Tryz.prog [(f_louperef01_figures, q82)]) 0 hD (q0e (q0c qiu q0d)) hmix (by decide) fun Q hQ => ?_
  try simp only [F_all]
  simp (maxSteps := 400000) only [↓preZ, postZ, coreZ, ↓preU, postU, D_all, F_all, unR, outL, onePV, binS, ↓binS, q03, ↓q03, q01, ↓q01, boxR, q0b, newObj, q05, q00, q06, q09, q0a, St.freeze, q02, q07, q04, BEq.rfl, reduceIte, reduceCtorEq, Nat.reduceLT, Nat.reduceAdd, Nat.reduceSub, Nat.reduceMul, Nat.reduceBEq, Nat.reduceLeDiff, Int.reduceToNat, Int.reduceLE, hQ, q3y]
  refine q0m _ (Weak.freeze 1 0 (Nat.le_refl _) _) ?_
  cases hf : figs n.s
  · simp (maxSteps := 400000) only [↓preZ, postZ, coreZ, ↓preU, postU, D_all, F_all, unR, outL, onePV, binS, ↓binS, q03, ↓q03, q01, ↓q01, boxR, q0b, newObj, q05, q00, q06, q09, q0a, St.freeze, q02, q07, q04, BEq.rfl, reduceIte, reduceCtorEq, Nat.reduceLT, Nat.reduceAdd, Nat.reduceSub, Nat.reduceMul, Nat.reduceBEq, Nat.reduceLeDiff, Int.reduceToNat, Int.reduceLE, hQ, frzC0, ↓q82, hk, hn, hf]
    have : numB n = false := q2a fun h => by have := ((q43 n).1 h).2.1; rw [hf] at this; cases this
    exact ⟨fun _ => ⟨hl, this⟩, fun _ => this⟩
  by_cases hs : n.s = []
  · simp (maxSteps := 400000) only [↓preZ, postZ, coreZ, ↓preU, postU, D_all, F_all, unR, outL, onePV, binS, ↓binS, q03, ↓q03, q01, ↓q01, boxR, q0b, newObj, q05, q00, q06, q09, q0a, St.freeze, q02, q07, q04, BEq.rfl, reduceIte, reduceCtorEq, Nat.reduceLT, Nat.reduceAdd, Nat.reduceSub, Nat.reduceMul, Nat.reduceBEq, Nat.reduceLeDiff, Int.reduceToNat, Int.reduceLE, hQ, frzC0, ↓q82, hk, hn, hs]
    have hf0 : figs [] = true := rfl
    have key := q43 n
    rw [if_pos hs, hs] at key
    have hlz : (([] : List UInt8).length : Int) = 0 := rfl
    simp only [hf0, ifR, hlz, Int.zero_add, List.length_nil]
    refine ⟨fun h0 => ⟨fun h => absurd h (by omega), fun _ => ⟨fun h => q2a fun hb => ?_, fun h1 => ⟨fun h => q2a fun hb => ?_, fun h2 => ⟨⟨by omega, by omega⟩, fun h => q2a fun hb => ?_, fun h3 => ?_⟩⟩⟩⟩, fun h0 => q2a fun hb => ?_⟩
    · have := key.1 hb; omega
    · have := key.1 hb; omega
    · have := key.1 hb; omega
    · refine ⟨fun hng => q2a fun hb => ?_, fun hng => ?_⟩
      · have := (key.1 hb).2.2.2.2.2.2.1; rw [hng] at this; cases this
      · by_cases hz : n.e = 0
        · rw [decide_eq_true hz, key]
          exact ⟨h0, hf0, by simp, by omega, by omega, by simp; omega, hng, hz⟩
        · rw [decide_eq_false hz]
          exact q2a fun hb => hz (key.1 hb).2.2.2.2.2.2.2
    · have := key.1 hb; omega
  · obtain ⟨c, t, hct⟩ : ∃ c t, n.s = c :: t := by
      cases h : n.s with
      | nil => exact absurd h hs
      | cons c t => exact ⟨c, t, rfl⟩
    have hlen : 0 < n.s.length := by rw [hct]; simp
    have g0 : n.s[0]? = some c := by rw [hct]; rfl
    have g1 : n.s[n.s.length - 1]? = some (n.s[n.s.length - 1]'(by omega)) := List.getElem?_eq_getElem (by omega)
    have t1 : ((n.s.length : Int) - 1).toNat = n.s.length - 1 := by omega
    have hl1 : n.s.getLast? = some (n.s[n.s.length - 1]'(by omega)) := by rw [List.getLast?_eq_getElem?, g1]
    have hh1 : n.s.head? = some c := by rw [hct]; rfl
    generalize n.s[n.s.length - 1]'(by omega) = d at g1 hl1
    have i1 : (-9223372036854775808 ≤ (n.s.length : Int) - 1 ∧ (n.s.length : Int) - 1 ≤ 9223372036854775807) = True := eq_true ⟨by omega, by omega⟩
    have z1 : (0 ≤ (n.s.length : Int) - 1) = True := eq_true (by omega)
    simp (maxSteps := 400000) only [↓preZ, postZ, coreZ, ↓preU, postU, D_all, F_all, unR, outL, onePV, binS, ↓binS, q03, ↓q03, q01, ↓q01, boxR, q0b, newObj, q05, q00, q06, q09, q0a, St.freeze, q02, q07, q04, BEq.rfl, reduceIte, reduceCtorEq, Nat.reduceLT, Nat.reduceAdd, Nat.reduceSub, Nat.reduceMul, Nat.reduceBEq, Nat.reduceLeDiff, Int.reduceToNat, Int.reduceLE, hQ, frzC0, ↓q82, hk, hn, hs, hf, g0, t1, g1, i1, z1]
    have key := q43 n
    rw [if_neg hs, hh1, hl1] at key
    have e48 : ∀ x : UInt8, x = 48 ↔ x.toNat = 48 := fun x => ⟨fun h => by rw [h]; rfl, fun h => UInt8.toNat_inj.1 (by simpa using h)⟩
    refine ⟨fun h0 => ⟨hl, fun h => q2a fun hb => ?_, fun h1 => ⟨fun h => q2a fun hb => ?_, fun h2 => ⟨fun h => q2a fun hb => ?_, fun h3 => ⟨⟨by omega, by omega⟩, fun h => q2a fun hb => ?_, fun h4 => ⟨fun h => q2a fun hb => ?_, fun h5 => ?_⟩⟩⟩⟩⟩, fun h0 => q2a fun hb => ?_⟩
    · have := key.1 hb; omega
    · have := key.1 hb; omega
    · have := key.1 hb; omega
    · have := key.1 hb; omega
    · refine (key.1 hb).2.2.2.2.2.2.1 ?_
      rw [(e48 c).2 (by omega)]
    · by_cases hz : d.toNat = 48
      · have hz' : (d.toNat : Int) = 48 := by omega
        rw [decide_eq_true hz']
        refine q2a fun hb => (key.1 hb).2.2.2.2.2.2.2 ?_
        rw [(e48 d).2 hz]
      · have hz' : ¬ (d.toNat : Int) = 48 := by omega
        rw [decide_eq_false hz', Bool.not_false, key]
        refine ⟨h0, hf, by omega, by omega, by omega, by omega, fun h => ?_, fun h => ?_⟩
        · have := (e48 c).1 (by simpa using h); omega
        · exact hz ((e48 d).1 (by simpa using h))
    · exact h0 (key.1 hb).1
def q18 : Ctr := fun args objs K => match args with
  | [a0] => ofE encN a0 (HK.mk : HK fun n => (n.s.length ≤ 4611686018427387904) ∧ (n.kind = 3) ∧ (n.name = []) ∧ K (.bool (numB n)) objs 0)
  | _ => False
theorem qbb : CtrOk Tryz.prog f_louperef01_Right (q18) := by
  intro args objs K h
  unfold q18 at h
  split at h
  · rename_i a0
    obtain ⟨n, rfl, h1, h2, h3, hk⟩ := h
    exact ⟨_, _, _, .pure _ rfl (qd1 n h1 h2 h3), hk⟩
  · exact h.elim
end Lp

/-! LpW16 -/

namespace Lp
open Go Go.Proofs
set_option maxHeartbeats 4000000
set_option maxRecDepth 20000
set_option linter.unusedSimpArgs false
def nextI (v : Vl) (i : Nat) : Int := match nxt v.length (v.drop i) 1 with
  | some c => (i + c : Nat)
  | none => -1
theorem q83 {v : Vl} {i : Nat} (h : (nxt v.length (v.drop i) 1).map (fun c => i + c) = none) : nextI v i = -1 := by
  unfold nextI
  cases hx : nxt v.length (v.drop i) 1 with
  | none => rfl
  | some c => rw [hx] at h; simp at h
theorem qc1 {v : Vl} {i j : Nat} (h : (nxt v.length (v.drop i) 1).map (fun c => i + c) = some j) : nextI v i = j := by
  unfold nextI
  cases hx : nxt v.length (v.drop i) 1 with
  | none => rw [hx] at h; simp at h
  | some c => rw [hx] at h; simp only [Option.map_some, Option.some.injEq] at h; rw [← h]
theorem q9c (L : Nat) (v : Vl) : nxt L v 0 = some 0 := by cases v <;> rfl
theorem qm2 (v : Vl) (i : Nat) (hi : i ≤ v.length) (hl : v.length ≤ 1000000) : FnSpec Tryz.prog f_louperef02_Next [encV v, .int .i64 i] [] (.int .i64 (nextI v i)) [] := by
  refine k_louperef02_Next.pureG (T := tabL Tryz.prog []) 0 hD (q0e q0d) hmix (by decide) fun Q hQ => ?_
  try simp only [F_all]
  simp (maxSteps := 400000) only [↓preZ, postZ, coreZ, ↓preU, postU, D_all, F_all, unR, outL, onePV, binS, ↓binS, q03, ↓q03, q01, ↓q01, boxR, q0b, newObj, q05, q00, q06, q09, q0a, St.freeze, q02, q07, q04, BEq.rfl, reduceIte, reduceCtorEq, Nat.reduceLT, Nat.reduceAdd, Nat.reduceSub, Nat.reduceMul, Nat.reduceBEq, Nat.reduceLeDiff, Int.reduceToNat, Int.reduceLE, hQ, q4h]
  refine q0q (fun m S => ∃ j k : Nat, j + m = v.length ∧ k ≤ 1 + j * 1000000 ∧ (nxt v.length (v.drop i) 1).map (fun c => i + c) = (nxt v.length (v.drop j) k).map (fun c => j + c) ∧
    S = ⟨tmA 41 [(0, encV v), (1, .int .i64 j), (5, .int .i64 k)], []⟩) (v.length - i) ⟨i, 1, by omega, by omega, rfl, ?_⟩ ?_
  · simp only [normR, keepR, Nat.reduceAdd, lkR, Nat.reduceBEq, F_all, List.map_nil]
    rfl
  rintro m S ⟨j, k, hjm, hk, hn, rfl⟩
  rcases Nat.lt_or_ge j v.length with h | h
  · have hg := List.getElem?_eq_getElem h
    have hd := List.drop_eq_getElem_cons h
    generalize v[j] = n at hg hd
    simp (maxSteps := 400000) only [↓preZ, postZ, coreZ, ↓preU, postU, D_all, F_all, unR, outL, onePV, binS, ↓binS, q03, ↓q03, q01, ↓q01, boxR, q0b, newObj, q05, q00, q06, q09, q0a, St.freeze, q02, q07, q04, BEq.rfl, reduceIte, reduceCtorEq, Nat.reduceLT, Nat.reduceAdd, Nat.reduceSub, Nat.reduceMul, Nat.reduceBEq, Nat.reduceLeDiff, Int.reduceToNat, Int.reduceLE, hQ, hg]
    refine ⟨fun hk0 => ⟨fun h' => absurd h' (by omega), fun _ => ⟨by omega, fun hm => ?_, fun hm => ⟨by omega, fun hm2 => ?_, fun hm2 => ?_⟩⟩⟩, fun hk0 => ?_⟩
    · obtain ⟨k, rfl⟩ : ∃ q, k = q + 1 := ⟨k - 1, by omega⟩
      rw [hd, nxt, if_pos (.inl hm)] at hn
      rw [q83 hn]
    · obtain ⟨k, rfl⟩ : ∃ q, k = q + 1 := ⟨k - 1, by omega⟩
      rw [hd, nxt, if_pos (.inr hm2)] at hn
      rw [q83 hn]
    · obtain ⟨k, rfl⟩ : ∃ q, k = q + 1 := ⟨k - 1, by omega⟩
      rw [hd, nxt, if_neg (by omega)] at hn
      have hk2 : (((k + 1 : Nat) : Int) - 1 + n.many) = ((k + n.many.toNat : Nat) : Int) := by omega
      refine ⟨⟨by omega, by omega⟩, by omega, ⟨by omega, by omega⟩, ⟨by omega, by omega⟩, m - 1, by omega, j + 1, k + n.many.toNat, by omega, by omega, ?_, ?_⟩
      · rw [hn]
        cases nxt v.length (v.drop (j + 1)) (k + n.many.toNat) with
        | none => rfl
        | some c => simp; omega
      · rw [hk2]; rfl
    · have hk1 : k = 0 := by omega
      subst hk1
      rw [q9c] at hn
      rw [qc1 (j := j) (by simpa using hn)]
  · simp (maxSteps := 400000) only [↓preZ, postZ, coreZ, ↓preU, postU, D_all, F_all, unR, outL, onePV, binS, ↓binS, q03, ↓q03, q01, ↓q01, boxR, q0b, newObj, q05, q00, q06, q09, q0a, St.freeze, q02, q07, q04, BEq.rfl, reduceIte, reduceCtorEq, Nat.reduceLT, Nat.reduceAdd, Nat.reduceSub, Nat.reduceMul, Nat.reduceBEq, Nat.reduceLeDiff, Int.reduceToNat, Int.reduceLE, hQ]
    refine ⟨fun hk0 => ⟨fun _ => ?_, fun h' => absurd (by omega) h'⟩, fun hk0 => ?_⟩
    · obtain ⟨k, rfl⟩ : ∃ q, k = q + 1 := ⟨k - 1, by omega⟩
      rw [List.drop_eq_nil_of_le h] at hn
      simp only [nxt, Option.map_none] at hn
      rw [q83 hn]
    · have hk1 : k = 0 := by omega
      subst hk1
      rw [q9c] at hn
      rw [qc1 (j := j) (by simpa using hn)]
theorem qiv (v : Vl) (i : Int) (h0 : 0 ≤ i) (hi : i.toNat ≤ v.length) (hl : v.length ≤ 1000000) : FnSpec Tryz.prog f_louperef02_Next [encV v, .int .i64 i] [] (.int .i64 (nextI v i.toNat)) [] := by
  have e : i = (i.toNat : Int) := by omega
  rw [e]
  exact qm2 v i.toNat hi hl
def q1z : Ctr := fun args objs K => match args with
  | [a0, .int .i64 i] => ofE encV a0 (HK.mk : HK fun v => (0 ≤ i) ∧ (i.toNat ≤ v.length) ∧ (v.length ≤ 1000000) ∧ K (.int .i64 (nextI v i.toNat)) objs 0)
  | _ => False
theorem q5y : CtrOk Tryz.prog f_louperef02_Next (q1z) := by
  intro args objs K h
  unfold q1z at h
  split at h
  · rename_i a0 i
    obtain ⟨v, rfl, h1, h2, h3, hk⟩ := h
    exact ⟨_, _, _, .pure _ rfl (qiv v i h1 h2 h3), hk⟩
  · exact h.elim
end Lp

/-! LpW17 -/

namespace Lp
open Go Go.Proofs
set_option maxHeartbeats 4000000
set_option maxRecDepth 20000
set_option linter.unusedSimpArgs false
theorem qiw (n : Nd) (hl : n.s.length ≤ 4611686018427387904) : FnSpec Tryz.prog f_louperef02_plain [encN n] [] (.bool (q0n n)) [] := by
  refine k_louperef02_plain.pureG (T := tabL Tryz.prog [(f_louperef02_Utf, q2j), (f_louperef01_Right, q18)]) 0 hD (q0e (q0c qep (q0c qbb q0d))) hmix (by decide) fun Q hQ => ?_
  try simp only [F_all]
  have h8 : n.kind = 0 ∨ n.kind = 1 ∨ n.kind = 2 ∨ n.kind = 3 ∨ n.kind = 4 ∨ n.kind = 5 ∨ n.kind = 6 ∨ (n.kind ≠ 0 ∧ n.kind ≠ 1 ∧ n.kind ≠ 2 ∧ n.kind ≠ 3 ∧ n.kind ≠ 4 ∧ n.kind ≠ 5 ∧ n.kind ≠ 6) := by omega
  rcases h8 with hk | hk | hk | hk | hk | hk | hk | ⟨k0, k1, k2, k3, k4, k5, k6⟩
  · simp (maxSteps := 400000) only [↓preZ, postZ, coreZ, ↓preU, postU, D_all, F_all, unR, outL, onePV, binS, ↓binS, q03, ↓q03, q01, ↓q01, boxR, q0b, newObj, q05, q00, q06, q09, q0a, St.freeze, q02, q07, q04, BEq.rfl, reduceIte, reduceCtorEq, Nat.reduceLT, Nat.reduceAdd, Nat.reduceSub, Nat.reduceMul, Nat.reduceBEq, Nat.reduceLeDiff, Int.reduceToNat, Int.reduceLE, hQ, q0o, ↓q2j, ↓q18, hk, Int.reduceEq]
    rw [Bool.eq_iff_iff]
    simp [q0n, hk, and_assoc]
  · simp (maxSteps := 400000) only [↓preZ, postZ, coreZ, ↓preU, postU, D_all, F_all, unR, outL, onePV, binS, ↓binS, q03, ↓q03, q01, ↓q01, boxR, q0b, newObj, q05, q00, q06, q09, q0a, St.freeze, q02, q07, q04, BEq.rfl, reduceIte, reduceCtorEq, Nat.reduceLT, Nat.reduceAdd, Nat.reduceSub, Nat.reduceMul, Nat.reduceBEq, Nat.reduceLeDiff, Int.reduceToNat, Int.reduceLE, hQ, q0o, ↓q2j, ↓q18, hk, Int.reduceEq]
    rw [Bool.eq_iff_iff]
    simp [q0n, hk, and_assoc]
  · simp (maxSteps := 400000) only [↓preZ, postZ, coreZ, ↓preU, postU, D_all, F_all, unR, outL, onePV, binS, ↓binS, q03, ↓q03, q01, ↓q01, boxR, q0b, newObj, q05, q00, q06, q09, q0a, St.freeze, q02, q07, q04, BEq.rfl, reduceIte, reduceCtorEq, Nat.reduceLT, Nat.reduceAdd, Nat.reduceSub, Nat.reduceMul, Nat.reduceBEq, Nat.reduceLeDiff, Int.reduceToNat, Int.reduceLE, hQ, q0o, ↓q2j, ↓q18, hk, Int.reduceEq]
    rw [Bool.eq_iff_iff]
    simp [q0n, hk, and_assoc]
  · simp (maxSteps := 400000) only [↓preZ, postZ, coreZ, ↓preU, postU, D_all, F_all, unR, outL, onePV, binS, ↓binS, q03, ↓q03, q01, ↓q01, boxR, q0b, newObj, q05, q00, q06, q09, q0a, St.freeze, q02, q07, q04, BEq.rfl, reduceIte, reduceCtorEq, Nat.reduceLT, Nat.reduceAdd, Nat.reduceSub, Nat.reduceMul, Nat.reduceBEq, Nat.reduceLeDiff, Int.reduceToNat, Int.reduceLE, hQ, q0o, ↓q2j, ↓q18, hk, Int.reduceEq]
    refine ⟨hl, ?_⟩
    simp [q0n, hk, numB]
  · simp (maxSteps := 400000) only [↓preZ, postZ, coreZ, ↓preU, postU, D_all, F_all, unR, outL, onePV, binS, ↓binS, q03, ↓q03, q01, ↓q01, boxR, q0b, newObj, q05, q00, q06, q09, q0a, St.freeze, q02, q07, q04, BEq.rfl, reduceIte, reduceCtorEq, Nat.reduceLT, Nat.reduceAdd, Nat.reduceSub, Nat.reduceMul, Nat.reduceBEq, Nat.reduceLeDiff, Int.reduceToNat, Int.reduceLE, hQ, q0o, ↓q2j, ↓q18, hk, Int.reduceEq]
    refine ⟨hl, ?_⟩
    cases hu : utf n.s
    · simp [ifP, q0n, hk, hu]
    · simp only [ifR]
      rw [Bool.eq_iff_iff]
      simp [q0n, hk, hu, and_assoc]
  · simp (maxSteps := 400000) only [↓preZ, postZ, coreZ, ↓preU, postU, D_all, F_all, unR, outL, onePV, binS, ↓binS, q03, ↓q03, q01, ↓q01, boxR, q0b, newObj, q05, q00, q06, q09, q0a, St.freeze, q02, q07, q04, BEq.rfl, reduceIte, reduceCtorEq, Nat.reduceLT, Nat.reduceAdd, Nat.reduceSub, Nat.reduceMul, Nat.reduceBEq, Nat.reduceLeDiff, Int.reduceToNat, Int.reduceLE, hQ, q0o, ↓q2j, ↓q18, hk, Int.reduceEq]
    refine ⟨fun hm => ?_, fun hm => ?_⟩
    · rw [Bool.eq_iff_iff]
      simp [q0n, hk, hm, and_assoc]
    · simp [q0n, hk, hm]
  · simp (maxSteps := 400000) only [↓preZ, postZ, coreZ, ↓preU, postU, D_all, F_all, unR, outL, onePV, binS, ↓binS, q03, ↓q03, q01, ↓q01, boxR, q0b, newObj, q05, q00, q06, q09, q0a, St.freeze, q02, q07, q04, BEq.rfl, reduceIte, reduceCtorEq, Nat.reduceLT, Nat.reduceAdd, Nat.reduceSub, Nat.reduceMul, Nat.reduceBEq, Nat.reduceLeDiff, Int.reduceToNat, Int.reduceLE, hQ, q0o, ↓q2j, ↓q18, hk, Int.reduceEq]
    refine ⟨fun hm => ?_, fun hm => ?_⟩
    · rw [Bool.eq_iff_iff]
      simp [q0n, hk, hm, and_assoc]
    · simp [q0n, hk, hm]
  · simp (maxSteps := 400000) only [↓preZ, postZ, coreZ, ↓preU, postU, D_all, F_all, unR, outL, onePV, binS, ↓binS, q03, ↓q03, q01, ↓q01, boxR, q0b, newObj, q05, q00, q06, q09, q0a, St.freeze, q02, q07, q04, BEq.rfl, reduceIte, reduceCtorEq, Nat.reduceLT, Nat.reduceAdd, Nat.reduceSub, Nat.reduceMul, Nat.reduceBEq, Nat.reduceLeDiff, Int.reduceToNat, Int.reduceLE, hQ, q0o, ↓q2j, ↓q18, k0, k1, k2, k3, k4, k5, k6]
    simp [q0n, k0, k1, k2, k3, k4, k5, k6]
def q5z : Ctr := fun args objs K => match args with
  | [a0] => ofE encN a0 (HK.mk : HK fun n => (n.s.length ≤ 4611686018427387904) ∧ K (.bool (q0n n)) objs 0)
  | _ => False
theorem qgd : CtrOk Tryz.prog f_louperef02_plain (q5z) := by
  intro args objs K h
  unfold q5z at h
  split at h
  · rename_i a0
    obtain ⟨n, rfl, h1, hk⟩ := h
    exact ⟨_, _, _, .pure _ rfl (qiw n h1), hk⟩
  · exact h.elim
end Lp

/-! LpW18 -/

namespace Lp
open Go Go.Proofs
set_option maxHeartbeats 4000000
set_option maxRecDepth 20000
set_option linter.unusedSimpArgs false
def qam (kind : Int) (name : List UInt8) : List Vl → Bool
  | [] => true
  | q :: _ => kind != 6 || Op.bytesLess name (nameOf q)
structure Small (v : Vl) : Prop where
  len : v.length ≤ 1000000
  txt : ∀ n ∈ v, n.s.length ≤ 4611686018427387904 ∧ n.name.length ≤ 4611686018427387904
theorem qan (L : Nat) : ∀ (v : Vl) (j k c : Nat), nxt L v (j + k) = some c → ∃ c1 c2, nxt L v j = some c1 ∧ nxt L (v.drop c1) k = some c2 ∧ c = c1 + c2
  | v, 0, k, c, h => ⟨0, c, q9c L v, by simpa using h, by simp⟩
  | [], j + 1, k, c, h => by
    rw [show j + 1 + k = (j + k) + 1 by omega] at h
    simp [nxt] at h
  | n :: v, j + 1, k, c, h => by
    rw [show j + 1 + k = (j + k) + 1 by omega, nxt] at h
    split at h
    · cases h
    · rename_i hn
      cases hs : nxt L v (j + k + n.many.toNat) with
      | none => rw [hs] at h; simp at h
      | some c' =>
        rw [hs] at h
        simp only [Option.map_some, Option.some.injEq] at h
        rw [show j + k + n.many.toNat = (j + n.many.toNat) + k by omega] at hs
        obtain ⟨c1, c2, h1, h2, rfl⟩ := qan L v _ k c' hs
        refine ⟨c1 + 1, c2, ?_, by simpa using h2, by omega⟩
        rw [nxt, if_neg hn, h1]; rfl
theorem q9d {v : Vl} {i c : Nat} (h : nxt v.length (v.drop i) 1 = some c) : nextI v i = (i + c : Nat) := by
  simp only [nextI, h]
theorem qge (v : Vl) (at' : Nat) (n : Nd) (c : Nat) (hs : Small v) (hat : v[at']? = some n) (hm : 0 ≤ n.many) (hc : nxt v.length (v.drop (at' + 1)) n.many.toNat = some c) (ps : List Vl) (hps : parts n.many.toNat (v.drop (at' + 1)) = some ps) :
    FnSpec Tryz.prog f_louperef02_rising [encV v, .int .i64 at'] [] (.bool (risB n.kind ps)) [] := by
  obtain ⟨hl, htx⟩ := hs
  have hatl := (List.getElem?_eq_some_iff.1 hat).1
  have hpl := q1t _ _ _ hps
  have hple := q2n _ _ _ hps
  simp only [List.length_drop] at hple
  refine k_louperef02_rising.pureG (T := tabL Tryz.prog [(f_louperef02_Utf, q2j), (f_louperef02_Next, q1z)]) 0 hD (q0e (q0c qep (q0c q5y q0d))) hmix (by decide) fun Q hQ => ?_
  try simp only [F_all]
  simp (maxSteps := 400000) only [↓preZ, postZ, coreZ, ↓preU, postU, D_all, F_all, unR, outL, onePV, binS, ↓binS, q03, ↓q03, q01, ↓q01, boxR, q0b, newObj, q05, q00, q06, q09, q0a, St.freeze, q02, q07, q04, BEq.rfl, reduceIte, reduceCtorEq, Nat.reduceLT, Nat.reduceAdd, Nat.reduceSub, Nat.reduceMul, Nat.reduceBEq, Nat.reduceLeDiff, Int.reduceToNat, Int.reduceLE, hQ, q3f]
  refine ⟨⟨by omega, by omega⟩, ?_⟩
  refine q0q (fun m S => ∃ (i c' : Nat) (rest : List Vl), m = rest.length ∧ rest.length ≤ ps.length ∧ parts rest.length (v.drop i) = some rest ∧ nxt v.length (v.drop i) rest.length = some c' ∧ risB n.kind rest = risB n.kind ps ∧
    S = ⟨tmA 75 [(0, encV v), (1, .int .i64 at'), (5, .int .i64 i), (6, .int .i64 ((ps.length : Int) - rest.length))], []⟩) ps.length ⟨at' + 1, c, ps, rfl, Nat.le_refl _, by rw [hpl]; exact hps, by rw [hpl]; exact hc, rfl, ?_⟩ ?_
  · simp only [normR, keepR, Nat.reduceAdd, lkR, Nat.reduceBEq, F_all, List.map_nil]
    simp
  rintro m S ⟨i, c', rest, rfl, hrl, hrp, hrn, hrb, rfl⟩
  have hmn : n.many = (ps.length : Int) := by omega
  have z0 : (0 ≤ (at' : Int)) = True := eq_true (by omega)
  have zi : (0 ≤ (i : Int)) = True := eq_true (by omega)
  cases rest with
  | nil =>
    simp (maxSteps := 400000) only [↓preZ, postZ, coreZ, ↓preU, postU, D_all, F_all, unR, outL, onePV, binS, ↓binS, q03, ↓q03, q01, ↓q01, boxR, q0b, newObj, q05, q00, q06, q09, q0a, St.freeze, q02, q07, q04, BEq.rfl, reduceIte, reduceCtorEq, Nat.reduceLT, Nat.reduceAdd, Nat.reduceSub, Nat.reduceMul, Nat.reduceBEq, Nat.reduceLeDiff, Int.reduceToNat, Int.reduceLE, hQ, hat, hmn, z0]
    refine ⟨fun h => absurd h (by simp), fun _ => ?_⟩
    rw [← hrb]; rfl
  | cons p qs =>
    obtain ⟨pc, qs', h1, h2, h3⟩ := q2k (k := qs.length) hrp
    simp only [List.cons.injEq] at h2
    obtain ⟨rfl, rfl⟩ := h2
    have hpc := q2x _ _ _ h1
    simp only [List.length_drop] at hpc
    have hil : i < v.length := by omega
    have hgi := List.getElem?_eq_getElem hil
    have hdi := List.drop_eq_getElem_cons hil
    have htx1 := htx _ (List.getElem_mem hil)
    generalize v[i] = pn at hgi hdi htx1
    have hname : nameOf (List.take pc (v.drop i)) = pn.name := by
      obtain ⟨q, hq⟩ : ∃ q, pc = q + 1 := ⟨pc - 1, by omega⟩
      rw [hdi, hq]; rfl
    obtain ⟨c1, c2, e1, e2, e3⟩ := qan v.length (v.drop i) 1 qs.length c' (by rw [Nat.add_comm]; exact hrn)
    have hcc : c1 = pc := by
      have := q94 _ _ _ _ e1
      rw [h1] at this
      exact (Option.some.inj this).symm
    subst hcc
    have hnx := q9d e1
    simp only [List.length_cons] at hrl
    have ht1 : ((i + c1 : Nat) : Int).toNat = i + c1 := by omega
    have h3' : parts qs.length (v.drop (i + c1)) = some qs := by rw [← List.drop_drop]; exact h3
    have e2' : nxt v.length (v.drop (i + c1)) qs.length = some c2 := by rw [← List.drop_drop]; exact e2
    have hun : ∀ x : Bool, qam n.kind pn.name qs = x → risB n.kind (List.take c1 (v.drop i) :: qs) = ((n.kind != 5 || pn.name == []) && utf pn.name && x && risB n.kind qs) := by
      intro x hx
      rw [← hx]
      cases qs <;> simp only [risB, qam, hname]
    have hltT : ((ps.length : Int) - ((qs.length + 1 : Nat) : Int) < (ps.length : Int)) = True := eq_true (by omega)
    cases hu : utf pn.name
    · have hfin : risB n.kind ps = false := by rw [← hrb, hun _ rfl, hu]; simp
      simp (maxSteps := 400000) only [↓preZ, postZ, coreZ, ↓preU, postU, D_all, F_all, unR, outL, onePV, binS, ↓binS, q03, ↓q03, q01, ↓q01, boxR, q0b, newObj, q05, q00, q06, q09, q0a, St.freeze, q02, q07, q04, BEq.rfl, reduceIte, reduceCtorEq, Nat.reduceLT, Nat.reduceAdd, Nat.reduceSub, Nat.reduceMul, Nat.reduceBEq, Nat.reduceLeDiff, Int.reduceToNat, Int.reduceLE, hQ, hat, hmn, z0, zi, hgi, ↓q2j, ↓q1z, hnx, hu, hltT, hfin]
      exact ⟨fun _ _ => htx1.2, fun _ => htx1.2⟩
    by_cases h5 : n.kind = 5 ∧ pn.name ≠ []
    · have hfin : risB n.kind ps = false := by rw [← hrb, hun _ rfl]; simp [h5.1, h5.2]
      simp (maxSteps := 400000) only [↓preZ, postZ, coreZ, ↓preU, postU, D_all, F_all, unR, outL, onePV, binS, ↓binS, q03, ↓q03, q01, ↓q01, boxR, q0b, newObj, q05, q00, q06, q09, q0a, St.freeze, q02, q07, q04, BEq.rfl, reduceIte, reduceCtorEq, Nat.reduceLT, Nat.reduceAdd, Nat.reduceSub, Nat.reduceMul, Nat.reduceBEq, Nat.reduceLeDiff, Int.reduceToNat, Int.reduceLE, hQ, hat, hmn, z0, zi, hgi, ↓q2j, ↓q1z, hnx, hu, hltT, h5.1, h5.2]
      rw [← h5.1]; exact hfin
    have hc5 : (n.kind != 5 || pn.name == []) = true := by
      by_cases hk : n.kind = 5
      · have : pn.name = [] := Decidable.of_not_not fun h => h5 ⟨hk, h⟩
        simp [this]
      · simp [hk]
    rw [hc5, hu] at hun
    have good : n.kind = 5 → pn.name = [] := fun hk => Decidable.of_not_not fun h => h5 ⟨hk, h⟩
    have hlt1 : (-9223372036854775808 ≤ (ps.length : Int) - ((qs.length + 1 : Nat) : Int) + 1 ∧ (ps.length : Int) - ((qs.length + 1 : Nat) : Int) + 1 ≤ 9223372036854775807) = True := eq_true ⟨by omega, by omega⟩
    have hiv : i ≤ v.length := by omega
    have e : (ps.length : Int) - ((qs.length + 1 : Nat) : Int) + 1 = (ps.length : Int) - qs.length := by omega
    have l1 : qs.length < qs.length + 1 := Nat.lt_succ_self _
    have l2 : qs.length ≤ ps.length := by omega
    have zc : (0 ≤ ((i + c1 : Nat) : Int)) = True := eq_true (by omega)
    -- what goes on when the part is good
    have step : qam n.kind pn.name qs = true → ∃ m', m' < qs.length + 1 ∧ ∃ (i_1 c' : Nat) (rest : List Vl), m' = rest.length ∧ rest.length ≤ ps.length ∧ parts rest.length (v.drop i_1) = some rest ∧ nxt v.length (v.drop i_1) rest.length = some c' ∧ risB n.kind rest = risB n.kind ps ∧
        (⟨tmA 75 [(0, encV v), (1, .int .i64 at'), (5, .int .i64 (i + c1 : Nat)), (6, .int .i64 ((ps.length : Int) - ((qs.length + 1 : Nat) : Int) + 1))], []⟩ : St) = ⟨tmA 75 [(0, encV v), (1, .int .i64 at'), (5, .int .i64 i_1), (6, .int .i64 ((ps.length : Int) - rest.length))], []⟩ := by
      intro hx
      refine ⟨qs.length, l1, i + c1, c2, qs, rfl, l2, h3', e2', ?_, ?_⟩
      · rw [← hrb, hun true hx]; simp
      · rw [e]
    have stop : qam n.kind pn.name qs = false → risB n.kind ps = false := fun hx => by rw [← hrb, hun false hx]; simp
    by_cases h6 : n.kind = 6
    · have h5' : ¬ n.kind = 5 := by omega
      rcases Nat.eq_zero_or_pos qs.length with hq0 | hqp
      · have hq : qs = [] := List.length_eq_zero_iff.1 hq0
        have hlast : ((ps.length : Int) - ((qs.length + 1 : Nat) : Int) + 1 < (ps.length : Int)) = False := eq_false (by omega)
        have hst := step (by rw [hq]; rfl)
        simp (maxSteps := 400000) only [↓preZ, postZ, coreZ, ↓preU, postU, D_all, F_all, unR, outL, onePV, binS, ↓binS, q03, ↓q03, q01, ↓q01, boxR, q0b, newObj, q05, q00, q06, q09, q0a, St.freeze, q02, q07, q04, BEq.rfl, reduceIte, reduceCtorEq, Nat.reduceLT, Nat.reduceAdd, Nat.reduceSub, Nat.reduceMul, Nat.reduceBEq, Nat.reduceLeDiff, Int.reduceToNat, Int.reduceLE, hQ, hat, hmn, z0, zi, hgi, ↓q2j, ↓q1z, hnx, hu, hltT, h6, Int.reduceEq, hlt1, hlast]
        simp only [h6] at hst
        exact ⟨htx1.2, hiv, hl, hst⟩
      · obtain ⟨q, r, hqr⟩ : ∃ q r, qs = q :: r := by
          cases qs with
          | nil => simp at hqp
          | cons q r => exact ⟨q, r, rfl⟩
        have hmore : ((ps.length : Int) - ((qs.length + 1 : Nat) : Int) + 1 < (ps.length : Int)) = True := eq_true (by omega)
        have g0 := h3'
        rw [hqr] at g0
        obtain ⟨pc2, qs2, g1, g2, g3⟩ := q2k (k := r.length) g0
        simp only [List.cons.injEq] at g2
        have hpc2 := q2x _ _ _ g1
        simp only [List.length_drop] at hpc2
        have hil2 : i + c1 < v.length := by omega
        have hgi2 := List.getElem?_eq_getElem hil2
        have hdi2 := List.drop_eq_getElem_cons hil2
        generalize v[i + c1] = qn at hgi2 hdi2
        have hname2 : nameOf q = qn.name := by
          obtain ⟨w, hw⟩ : ∃ w, pc2 = w + 1 := ⟨pc2 - 1, by omega⟩
          rw [g2.1, hdi2, hw]; rfl
        have hno : qam n.kind pn.name qs = Op.bytesLess pn.name qn.name := by
          rw [hqr, qam, hname2]; simp [h6]
        clear g0 g1 g2 g3 hqr hname2 hdi2 hdi
        cases hbl : Op.bytesLess pn.name qn.name
        · have hfin := stop (by rw [hno, hbl])
          simp (maxSteps := 400000) only [↓preZ, postZ, coreZ, ↓preU, postU, D_all, F_all, unR, outL, onePV, binS, ↓binS, q03, ↓q03, q01, ↓q01, boxR, q0b, newObj, q05, q00, q06, q09, q0a, St.freeze, q02, q07, q04, BEq.rfl, reduceIte, reduceCtorEq, Nat.reduceLT, Nat.reduceAdd, Nat.reduceSub, Nat.reduceMul, Nat.reduceBEq, Nat.reduceLeDiff, Int.reduceToNat, Int.reduceLE, hQ, hat, hmn, z0, zi, hgi, ↓q2j, ↓q1z, hnx, hu, hltT, h6, Int.reduceEq, hlt1, hmore, zc, ht1, hgi2, hbl]
          rw [h6] at hfin
          exact ⟨htx1.2, hiv, hl, hfin⟩
        · have hst := step (by rw [hno, hbl])
          simp (maxSteps := 400000) only [↓preZ, postZ, coreZ, ↓preU, postU, D_all, F_all, unR, outL, onePV, binS, ↓binS, q03, ↓q03, q01, ↓q01, boxR, q0b, newObj, q05, q00, q06, q09, q0a, St.freeze, q02, q07, q04, BEq.rfl, reduceIte, reduceCtorEq, Nat.reduceLT, Nat.reduceAdd, Nat.reduceSub, Nat.reduceMul, Nat.reduceBEq, Nat.reduceLeDiff, Int.reduceToNat, Int.reduceLE, hQ, hat, hmn, z0, zi, hgi, ↓q2j, ↓q1z, hnx, hu, hltT, h6, Int.reduceEq, hlt1, hmore, zc, ht1, hgi2, hbl]
          simp only [h6] at hst
          exact ⟨htx1.2, hiv, hl, hst⟩
    · have hst := step (by cases qs <;> simp [qam, h6])
      simp (maxSteps := 400000) only [↓preZ, postZ, coreZ, ↓preU, postU, D_all, F_all, unR, outL, onePV, binS, ↓binS, q03, ↓q03, q01, ↓q01, boxR, q0b, newObj, q05, q00, q06, q09, q0a, St.freeze, q02, q07, q04, BEq.rfl, reduceIte, reduceCtorEq, Nat.reduceLT, Nat.reduceAdd, Nat.reduceSub, Nat.reduceMul, Nat.reduceBEq, Nat.reduceLeDiff, Int.reduceToNat, Int.reduceLE, hQ, hat, hmn, z0, zi, hgi, ↓q2j, ↓q1z, hnx, hu, hltT, h6, hlt1]
      exact ⟨fun h5' => ⟨fun _ => ⟨htx1.2, hiv, hl, hst⟩, fun hne => absurd (good h5') hne⟩, fun _ => ⟨htx1.2, hiv, hl, hst⟩⟩
end Lp

/-! LpW19 -/

namespace Lp
open Go Go.Proofs
set_option maxHeartbeats 4000000
set_option maxRecDepth 20000
set_option linter.unusedSimpArgs false
theorem qoi (L : Nat) : ∀ (v : Vl) (k c i : Nat), nxt L v k = some c → i < c → ∃ k' c', nxt L (v.drop i) (k' + 1) = some c'
  | v, 0, c, i, h, hi => by rw [q9c] at h; cases h; omega
  | [], k + 1, c, i, h, hi => by simp [nxt] at h
  | n :: v, k + 1, c, 0, h, hi => ⟨k, c, by simpa using h⟩
  | n :: v, k + 1, c, i + 1, h, hi => by
    rw [nxt] at h
    split at h
    · cases h
    · cases hs : nxt L v (k + n.many.toNat) with
      | none => rw [hs] at h; simp at h
      | some c' =>
        rw [hs] at h
        simp only [Option.map_some, Option.some.injEq] at h
        simpa using qoi L v _ c' i hs (by omega)
def qc2 (v : Vl) (i : Nat) : Bool := match v.drop i with
  | n :: r => (match parts n.many.toNat r with | some ps => risB n.kind ps | none => false)
  | [] => true
theorem qix {v : Vl} {i : Nat} {n : Nd} (hi : v[i]? = some n) : goodB (v.drop i) = (q0n n && qc2 v i && goodB (v.drop (i + 1))) := by
  have hl := (List.getElem?_eq_some_iff.1 hi).1
  have hd := List.drop_eq_getElem_cons hl
  rw [List.getElem?_eq_getElem hl] at hi
  cases hi
  simp only [qc2, hd, goodB]
  rfl
theorem qgf (v : Vl) (i : Int) (h0 : 0 ≤ i) (hi : i.toNat < v.length) (hs : Small v) (hn : nxt v.length v 1 = some v.length) :
    FnSpec Tryz.prog f_louperef02_rising [encV v, .int .i64 i] [] (.bool (qc2 v i.toNat)) [] := by
  obtain ⟨i, rfl⟩ : ∃ k : Nat, i = k := ⟨i.toNat, by omega⟩
  simp only [Int.toNat_natCast] at hi ⊢
  have hg := List.getElem?_eq_getElem hi
  have hd := List.drop_eq_getElem_cons hi
  generalize v[i] = n at hg hd
  obtain ⟨k', c', h'⟩ := qoi v.length v 1 _ i hn hi
  rw [Nat.add_comm] at h'
  obtain ⟨c1, _, h1, _, _⟩ := qan v.length _ 1 k' c' h'
  rw [hd, nxt] at h1
  split at h1
  · cases h1
  · rename_i hm
    cases hx : nxt v.length (v.drop (i + 1)) (0 + n.many.toNat) with
    | none => rw [hx] at h1; simp at h1
    | some c =>
      rw [Nat.zero_add] at hx
      obtain ⟨ps, hp, _, _⟩ := q2z _ _ _ (q94 _ _ _ _ hx)
      have := qge v i n c hs hg (by omega) hx ps hp
      simp only [qc2, hd, hp]
      exact this
def q4l : Ctr := fun args objs K => match args with
  | [a0, .int .i64 i] => ofE encV a0 (HK.mk : HK fun v => (0 ≤ i) ∧ (i.toNat < v.length) ∧ (Small v) ∧ (nxt v.length v 1 = some v.length) ∧ K (.bool (qc2 v i.toNat)) objs 0)
  | _ => False
theorem qer : CtrOk Tryz.prog f_louperef02_rising (q4l) := by
  intro args objs K h
  unfold q4l at h
  split at h
  · rename_i a0 i
    obtain ⟨v, rfl, h1, h2, h3, h4, hk⟩ := h
    exact ⟨_, _, _, .pure _ rfl (qgf v i h1 h2 h3 h4), hk⟩
  · exact h.elim
theorem qiy (v : Vl) (hs : Small v) : FnSpec Tryz.prog f_louperef02_Right [encV v] [] (.bool (q12 v)) [] := by
  have hl := hs.len
  refine k_louperef02_Right.pureG (T := tabL Tryz.prog [(f_louperef02_Next, q1z), (f_louperef02_plain, q5z), (f_louperef02_rising, q4l)]) 0 hD (q0e (q0c q5y (q0c qgd (q0c qer q0d)))) hmix (by decide) fun Q hQ => ?_
  try simp only [F_all]
  rcases Nat.eq_zero_or_pos v.length with hv | hv
  · have hr : q12 v = false := by
      have : v = [] := List.length_eq_zero_iff.1 hv
      rw [this]; rfl
    have hv' : ((v.length : Int) = 0) = True := eq_true (by omega)
    simp (maxSteps := 400000) only [↓preZ, postZ, coreZ, ↓preU, postU, D_all, F_all, unR, outL, onePV, binS, ↓binS, q03, ↓q03, q01, ↓q01, boxR, q0b, newObj, q05, q00, q06, q09, q0a, St.freeze, q02, q07, q04, BEq.rfl, reduceIte, reduceCtorEq, Nat.reduceLT, Nat.reduceAdd, Nat.reduceSub, Nat.reduceMul, Nat.reduceBEq, Nat.reduceLeDiff, Int.reduceToNat, Int.reduceLE, hQ, q1f, hr, hv']
  have hv' : ((v.length : Int) = 0) = False := eq_false (by omega)
  obtain ⟨n0, r0, hvr⟩ : ∃ n r, v = n :: r := by
    cases v with
    | nil => simp at hv
    | cons n r => exact ⟨n, r, rfl⟩
  have hg0 : v[0]? = some n0 := by rw [hvr]; rfl
  have hnm : nameOf v = n0.name := by rw [hvr]; rfl
  have hne : v.isEmpty = false := by rw [hvr]; rfl
  by_cases hname : n0.name = []
  rotate_left 1
  · have hr : q12 v = false := by simp [q12, hnm, hname]
    simp (maxSteps := 400000) only [↓preZ, postZ, coreZ, ↓preU, postU, D_all, F_all, unR, outL, onePV, binS, ↓binS, q03, ↓q03, q01, ↓q01, boxR, q0b, newObj, q05, q00, q06, q09, q0a, St.freeze, q02, q07, q04, BEq.rfl, reduceIte, reduceCtorEq, Nat.reduceLT, Nat.reduceAdd, Nat.reduceSub, Nat.reduceMul, Nat.reduceBEq, Nat.reduceLeDiff, Int.reduceToNat, Int.reduceLE, hQ, q1f, hr, hv', hg0, hname]
  have hz : Int.toNat 0 = 0 := rfl
  by_cases hnx : nextI v 0 = (v.length : Int)
  rotate_left 1
  · have hr : q12 v = false := by
      have : nxt v.length v 1 ≠ some v.length := fun h => hnx (by rw [q9d (i := 0) (by simpa using h)]; simp)
      simp [q12, this]
    simp (maxSteps := 400000) only [↓preZ, postZ, coreZ, ↓preU, postU, D_all, F_all, unR, outL, onePV, binS, ↓binS, q03, ↓q03, q01, ↓q01, boxR, q0b, newObj, q05, q00, q06, q09, q0a, St.freeze, q02, q07, q04, BEq.rfl, reduceIte, reduceCtorEq, Nat.reduceLT, Nat.reduceAdd, Nat.reduceSub, Nat.reduceMul, Nat.reduceBEq, Nat.reduceLeDiff, Int.reduceToNat, Int.reduceLE, hQ, q1f, hr, hv', hg0, hname, ↓q1z, hnx]
    exact ⟨by omega, hl⟩
  have hn : nxt v.length v 1 = some v.length := by
    unfold nextI at hnx
    rw [List.drop_zero] at hnx
    cases hx : nxt v.length v 1 with
    | none => rw [hx] at hnx; simp only at hnx; omega
    | some c => rw [hx] at hnx; simp only at hnx; congr 1; omega
  have hr : q12 v = goodB v := by simp [q12, hnm, hname, hn, hne]
  simp (maxSteps := 400000) only [↓preZ, postZ, coreZ, ↓preU, postU, D_all, F_all, unR, outL, onePV, binS, ↓binS, q03, ↓q03, q01, ↓q01, boxR, q0b, newObj, q05, q00, q06, q09, q0a, St.freeze, q02, q07, q04, BEq.rfl, reduceIte, reduceCtorEq, Nat.reduceLT, Nat.reduceAdd, Nat.reduceSub, Nat.reduceMul, Nat.reduceBEq, Nat.reduceLeDiff, Int.reduceToNat, Int.reduceLE, hQ, q1f, hv', hg0, hname, ↓q1z, hnx]
  refine ⟨by omega, hl, ?_⟩
  refine q0q (fun m S => ∃ i : Nat, i + m = v.length ∧ goodB (v.drop i) = goodB v ∧ S = ⟨tmA 39 [(0, encV v), (3, .int .i64 i)], []⟩) v.length ⟨0, by omega, rfl, ?_⟩ ?_
  · simp only [normR, keepR, Nat.reduceAdd, lkR, Nat.reduceBEq, F_all, List.map_nil]
    rfl
  rintro m S ⟨i, him, hgd, rfl⟩
  rcases Nat.lt_or_ge i v.length with h | h
  · have hg := List.getElem?_eq_getElem h
    have htx := hs.txt _ (List.getElem_mem h)
    generalize v[i] = n at hg htx
    have hd := qix hg
    rw [hgd] at hd
    have zi : (0 ≤ (i : Int)) = True := eq_true (by omega)
    have hlt : ((i : Int) < (v.length : Int)) = True := eq_true (by omega)
    cases hp : q0n n
    · have hr2 : q12 v = false := by rw [hr, hd, hp]; rfl
      simp (maxSteps := 400000) only [↓preZ, postZ, coreZ, ↓preU, postU, D_all, F_all, unR, outL, onePV, binS, ↓binS, q03, ↓q03, q01, ↓q01, boxR, q0b, newObj, q05, q00, q06, q09, q0a, St.freeze, q02, q07, q04, BEq.rfl, reduceIte, reduceCtorEq, Nat.reduceLT, Nat.reduceAdd, Nat.reduceSub, Nat.reduceMul, Nat.reduceBEq, Nat.reduceLeDiff, Int.reduceToNat, Int.reduceLE, hQ, hg, ↓q5z, ↓q4l, hp, zi, hlt, hr2]
      exact htx.1
    cases hq : qc2 v i
    · have hr2 : q12 v = false := by rw [hr, hd, hp, hq]; rfl
      simp (maxSteps := 400000) only [↓preZ, postZ, coreZ, ↓preU, postU, D_all, F_all, unR, outL, onePV, binS, ↓binS, q03, ↓q03, q01, ↓q01, boxR, q0b, newObj, q05, q00, q06, q09, q0a, St.freeze, q02, q07, q04, BEq.rfl, reduceIte, reduceCtorEq, Nat.reduceLT, Nat.reduceAdd, Nat.reduceSub, Nat.reduceMul, Nat.reduceBEq, Nat.reduceLeDiff, Int.reduceToNat, Int.reduceLE, hQ, hg, ↓q5z, ↓q4l, hp, hq, zi, hlt, hr2]
      exact ⟨htx.1, h, hs, hn⟩
    · simp (maxSteps := 400000) only [↓preZ, postZ, coreZ, ↓preU, postU, D_all, F_all, unR, outL, onePV, binS, ↓binS, q03, ↓q03, q01, ↓q01, boxR, q0b, newObj, q05, q00, q06, q09, q0a, St.freeze, q02, q07, q04, BEq.rfl, reduceIte, reduceCtorEq, Nat.reduceLT, Nat.reduceAdd, Nat.reduceSub, Nat.reduceMul, Nat.reduceBEq, Nat.reduceLeDiff, Int.reduceToNat, Int.reduceLE, hQ, hg, ↓q5z, ↓q4l, hp, hq, zi, hlt]
      refine ⟨htx.1, h, hs, hn, ⟨by omega, by omega⟩, m - 1, by omega, i + 1, by omega, ?_, by simp⟩
      rw [hd, hp, hq]; simp
  · have hlt : ((i : Int) < (v.length : Int)) = False := eq_false (by omega)
    simp (maxSteps := 400000) only [↓preZ, postZ, coreZ, ↓preU, postU, D_all, F_all, unR, outL, onePV, binS, ↓binS, q03, ↓q03, q01, ↓q01, boxR, q0b, newObj, q05, q00, q06, q09, q0a, St.freeze, q02, q07, q04, BEq.rfl, reduceIte, reduceCtorEq, Nat.reduceLT, Nat.reduceAdd, Nat.reduceSub, Nat.reduceMul, Nat.reduceBEq, Nat.reduceLeDiff, Int.reduceToNat, Int.reduceLE, hQ, hlt]
    rw [hr, ← hgd, List.drop_eq_nil_of_le h]; rfl
def q7h : Ctr := fun args objs K => match args with
  | [a0] => ofE encV a0 (HK.mk : HK fun v => (Small v) ∧ K (.bool (q12 v)) objs 0)
  | _ => False
theorem qgg : CtrOk Tryz.prog f_louperef02_Right (q7h) := by
  intro args objs K h
  unfold q7h at h
  split at h
  · rename_i a0
    obtain ⟨v, rfl, h1, hk⟩ := h
    exact ⟨_, _, _, .pure _ rfl (qiy v h1), hk⟩
  · exact h.elim
end Lp

/-! LpW20 -/

namespace Lp
open Go Go.Proofs
set_option maxHeartbeats 4000000
set_option maxRecDepth 20000
set_option linter.unusedSimpArgs false
theorem nodeZ : PV.ofV (.agg ⟨[.int .i64 0, .int .i64 0, .string ⟨⟨[]⟩⟩, .string ⟨⟨[]⟩⟩, .bool false, .int .i64 0]⟩) = encN ⟨0, 0, [], [], false, 0⟩ := rfl
theorem nodeW (a : Nd) (k m : Int) (x y : List UInt8) (g : Bool) (e : Int) : (encN a).putCells 0 [.int .i64 k, .int .i64 m, .str x, .str y, .bool g, .int .i64 e] = encN ⟨k, m, x, y, g, e⟩ := rfl
theorem rowA2 (n : Nd) (r : Vl) : (∀ y, y ∈ encN n :: r.map encN → y.cells.length = 6 ∧ y.cells.all PV.storable = true) = True := by
  have := rowA (enc := encN) (sz := 6) (fun _ => rfl) (fun _ => rfl) (n :: r)
  rwa [List.map_cons] at this
theorem qnp (v : Vl) (i j : Nat) (hij : i < j) (hj : j ≤ v.length) (hl : v.length ≤ 1000000) : FnSpec Tryz.prog f_louperef02_own [encV v, .int .i64 i, .int .i64 j] [] (encV (clr ((v.take j).drop i))) [] := by
  obtain ⟨n, r, hnr⟩ : ∃ n r, (v.take j).drop i = n :: r := by
    cases h : (v.take j).drop i with
    | nil => have := congrArg List.length h; simp at this; omega
    | cons n r => exact ⟨n, r, rfl⟩
  have hlen : ((v.take j).drop i).length ≤ 1000000 := by simp; omega
  rw [hnr] at hlen ⊢
  simp only [List.length_cons] at hlen
  have zi : (0 ≤ (i : Int)) = True := eq_true (by omega)
  have c1 : ((i : Int) ≤ (j : Int)) = True := eq_true (by omega)
  have c2 : ((j : Int) ≤ (v.length : Int)) = True := eq_true (by omega)
  refine k_louperef02_own.pureG (T := tabL Tryz.prog []) 1 hD (q0e q0d) hmix (by decide) fun Q hQ => ?_
  try simp only [F_all]
  simp (maxSteps := 400000) only [↓preZ, postZ, coreZ, ↓preU, postU, D_all, F_all, unR, outL, onePV, binS, ↓binS, q03, ↓q03, q01, ↓q01, boxR, q0b, newObj, q05, q00, q06, q09, q0a, St.freeze, q02, q07, q04, BEq.rfl, reduceIte, reduceCtorEq, Nat.reduceLT, Nat.reduceAdd, Nat.reduceSub, Nat.reduceMul, Nat.reduceBEq, Nat.reduceLeDiff, Int.reduceToNat, Int.reduceLE, hQ, q55, zi, c1, c2, hnr, nodeZ, nodeW, rowA2, List.set_cons_zero]
  exact ⟨by omega, by omega, by omega, by omega, ((q3j hV inN).1 _ _ (clr (n :: r)) 2 _).symm⟩
theorem qm3 (v : Vl) (i j : Int) (h : 0 ≤ i ∧ i < j ∧ j ≤ v.length) (hl : v.length ≤ 1000000) : FnSpec Tryz.prog f_louperef02_own [encV v, .int .i64 i, .int .i64 j] [] (encV (clr ((v.take j.toNat).drop i.toNat))) [] := by
  have e1 : i = (i.toNat : Int) := by omega
  have e2 : j = (j.toNat : Int) := by omega
  have := qnp v i.toNat j.toNat (by omega) (by omega) hl
  rw [← e1, ← e2] at this
  exact this
def qht : Ctr := fun args objs K => match args with
  | [a0, .int .i64 i, .int .i64 j] => ofE encV a0 (HK.mk : HK fun v => (0 ≤ i ∧ i < j ∧ j ≤ v.length) ∧ (v.length ≤ 1000000) ∧ K (encV (clr ((v.take j.toNat).drop i.toNat))) objs 0)
  | _ => False
theorem qm4 : CtrOk Tryz.prog f_louperef02_own (qht) := by
  intro args objs K h
  unfold qht at h
  split at h
  · rename_i a0 i j
    obtain ⟨v, rfl, h1, h2, hk⟩ := h
    exact ⟨_, _, _, .pure _ rfl (qm3 v i j h1 h2), hk⟩
  · exact h.elim
theorem qd2 (L : Nat) : ∀ (v : Vl) (k c : Nat), skip v k = some c → c ≤ L → nxt L v k = some c
  | v, 0, c, h, _ => by cases v <;> simpa [nxt, skip] using h
  | [], k + 1, c, h, _ => by simp [skip] at h
  | n :: v, k + 1, c, h, hc => by
    obtain ⟨hm, c', rfl, h'⟩ := q20 h
    have := q2x _ _ _ h'
    rw [nxt, if_neg (by omega), qd2 L v _ c' h' (by omega)]; rfl
def valO (l : List Vl) (ver : Nat) : Obj := ⟨t_api_Val, 1, l.map encV, true, ver⟩
def strO (l : List (List UInt8)) (ver : Nat) : Obj := ⟨t_string, 1, l.map .str, true, ver⟩
theorem qm5 (d n : Nat) (O : List Obj) (t : TypeId) (sz : Nat) (l : List Vl) (ver : Nat) : frzO d n O ⟨t, sz, l.map encV, true, ver⟩ = ⟨t, sz, l.map encV, true, ver⟩ := by
  have : (l.map encV).map (PV.mapCells (frz d n O)) = l.map encV := by
    rw [List.map_map]
    exact List.map_congr_left fun x _ => rfl
  simp only [frzO, this]
theorem qes (d n : Nat) (O : List Obj) (t : TypeId) (sz : Nat) (l : List (List UInt8)) (ver : Nat) : frzO d n O ⟨t, sz, l.map .str, true, ver⟩ = ⟨t, sz, l.map .str, true, ver⟩ := by
  have : (l.map PV.str).map (PV.mapCells (frz d n O)) = l.map PV.str := by
    rw [List.map_map]
    exact List.map_congr_left fun x _ => rfl
  simp only [frzO, this]
theorem qet (l : List Vl) (ver : Nat) : NoRefs [valO l ver] := by
  intro o ho x hx c hc
  simp only [List.mem_singleton] at ho; subst ho
  obtain ⟨y, _, rfl⟩ := List.mem_map.1 hx
  simp only [encV, PV.cells, List.mem_singleton] at hc
  subst hc; rfl
theorem qao (l : List (List UInt8)) (ver : Nat) : NoRefs [strO l ver] := by
  intro o ho x hx c hc
  simp only [List.mem_singleton] at ho; subst ho
  obtain ⟨y, _, rfl⟩ := List.mem_map.1 hx
  simp only [PV.cells, List.mem_singleton] at hc
  subst hc; rfl
theorem qd3 (v : Vl) (ho : One v) (hl : v.length ≤ 1000000) : FnSpec Tryz.prog f_louperef02_Parts [encV v] [] (.osl 0 0) [valO (q1c v) 0] := by
  obtain ⟨n, r, hv⟩ : ∃ n r, v = n :: r := by
    cases v with
    | nil => exact absurd rfl ho.ne
    | cons n r => exact ⟨n, r, rfl⟩
  have ho' := ho
  rw [hv] at ho'
  obtain ⟨hm, ps, hp, hfl, hps⟩ := ho'.parts
  have hpl := q1t _ _ _ hp
  have hg0 : v[0]? = some n := by rw [hv]; rfl
  have hr : q1c v = ps.map clr := by rw [hv, q1c]; exact (q1j hp).1
  have hmn : n.many = (ps.length : Int) := by omega
  have hd1 : v.drop 1 = r := by rw [hv]; rfl
  have hple := q2n _ _ _ hp
  have hrl : r.length + 1 = v.length := by rw [hv]; rfl
  rw [hr]
  refine k_louperef02_Parts.madeG (T := tabL Tryz.prog [(f_louperef02_Next, q1z), (f_louperef02_own, qht)]) 1 hD (q0e (q0c q5y (q0c qm4 q0d))) hmix fun Q hQ => ?_
  try simp only [F_all]
  simp (maxSteps := 400000) only [↓preZ, postZ, coreZ, ↓preU, postU, D_all, F_all, unR, outL, onePV, binS, ↓binS, q03, ↓q03, q01, ↓q01, boxR, q0b, newObj, q05, q00, q06, q09, q0a, St.freeze, q02, q07, q04, BEq.rfl, reduceIte, reduceCtorEq, Nat.reduceLT, Nat.reduceAdd, Nat.reduceSub, Nat.reduceMul, Nat.reduceBEq, Nat.reduceLeDiff, Int.reduceToNat, Int.reduceLE, hQ, q3v]
  refine q0q (fun m S => ∃ (i ver : Nat) (done : List Vl) (rest : List Vl), m = rest.length ∧ done.length + rest.length = ps.length ∧ done ++ rest.map clr = ps.map clr ∧ parts rest.length (v.drop i) = some rest ∧
    S = ⟨tmA 28 [(0, encV v), (3, .osl 0 ver), (4, .int .i64 i), (5, .int .i64 done.length)], [⟨t_api_Val, 1, done.map encV, true, ver⟩]⟩) ps.length ⟨1, 1, [], ps, rfl, by simp, rfl, by rw [hd1, hpl]; exact hp, ?_⟩ ?_
  · simp only [normR, keepR, Nat.reduceAdd, lkR, Nat.reduceBEq, F_all, List.map_nil]
    rfl
  rintro m S ⟨i, ver, done, rest, rfl, hdl, hdr, hrp, rfl⟩
  cases rest with
  | nil =>
    simp only [List.length_nil, Nat.add_zero] at hdl
    have hlt : ((done.length : Int) < (ps.length : Int)) = False := eq_false (by omega)
    simp only [List.map_nil, List.append_nil] at hdr
    simp (maxSteps := 400000) only [↓preZ, postZ, coreZ, ↓preU, postU, D_all, F_all, unR, outL, onePV, binS, ↓binS, q03, ↓q03, q01, ↓q01, boxR, q0b, newObj, q05, q00, q06, q09, q0a, St.freeze, q02, q07, q04, BEq.rfl, reduceIte, reduceCtorEq, Nat.reduceLT, Nat.reduceAdd, Nat.reduceSub, Nat.reduceMul, Nat.reduceBEq, Nat.reduceLeDiff, Int.reduceToNat, Int.reduceLE, hQ, hg0, hmn, hlt]
    rw [hdr]
    exact endM (k := 0) (ver := ver) rfl rfl rfl rfl (congrArg (fun o : Obj => { o with ver := 0 }) (qm5 1 1 _ t_api_Val 1 (ps.map clr) ver)) (qet _ 0)
  | cons p qs =>
    obtain ⟨c, qs', h1, h2, h3⟩ := q2k (k := qs.length) hrp
    simp only [List.cons.injEq] at h2
    obtain ⟨hp1, rfl⟩ := h2
    simp only [List.length_cons] at hdl
    have hlt : ((done.length : Int) < (ps.length : Int)) = True := eq_true (by omega)
    have hc := q2x _ _ _ h1
    simp only [List.length_drop] at hc
    have hnx : nextI v i = (i + c : Nat) := q9d (qd2 _ _ _ _ h1 (by omega))
    have zi : (0 ≤ (i : Int)) = True := eq_true (by omega)
    simp (maxSteps := 400000) only [↓preZ, postZ, coreZ, ↓preU, postU, D_all, F_all, unR, outL, onePV, binS, ↓binS, q03, ↓q03, q01, ↓q01, boxR, q0b, newObj, q05, q00, q06, q09, q0a, St.freeze, q02, q07, q04, BEq.rfl, reduceIte, reduceCtorEq, Nat.reduceLT, Nat.reduceAdd, Nat.reduceSub, Nat.reduceMul, Nat.reduceBEq, Nat.reduceLeDiff, Int.reduceToNat, Int.reduceLE, hQ, hg0, hmn, hlt, ↓q1z, ↓qht, hnx, zi]
    have hpe : List.drop i (List.take (i + c) v) = p := by
      rw [List.drop_take, hp1, show i + c - i = c by omega]
    have happ : List.map encV done ++ [encV (clr p)] = List.map encV (done ++ [clr p]) := by simp
    rw [hpe, happ]
    refine ⟨by omega, hl, ⟨by omega, by omega⟩, hl, by omega, by omega, ⟨by omega, by omega⟩, qs.length, by omega, i + c, ver + 1, done ++ [clr p], qs, rfl, ?_, ?_, ?_, ?_⟩
    · simp only [List.length_append, List.length_cons, List.length_nil]; omega
    · rw [← hdr]; simp
    · rw [← List.drop_drop]; exact h3
    · simp only [List.length_append, List.length_cons, List.length_nil, Nat.zero_add, Int.natCast_add, Int.cast_ofNat_Int, Int.natCast_one]
theorem qd4 (v : Vl) (ho : One v) (hl : v.length ≤ 1000000) : FnSpec Tryz.prog f_louperef02_Parts [encV v] [] (encL (q1c v)) [] :=
  (qd3 v ho hl).froze rfl rfl (qet _ 0)
def q3k : Ctr := fun args objs K => match args with
  | [a0] => ofE encV a0 (HK.mk : HK fun v => (One v) ∧ (v.length ≤ 1000000) ∧ K (encL (q1c v)) objs 0)
  | _ => False
theorem qbc : CtrOk Tryz.prog f_louperef02_Parts (q3k) := by
  intro args objs K h
  unfold q3k at h
  split at h
  · rename_i a0
    obtain ⟨v, rfl, h1, h2, hk⟩ := h
    exact ⟨_, _, _, .pure _ rfl (qd4 v h1 h2), hk⟩
  · exact h.elim
theorem qap (v : Vl) (ho : One v) (hl : v.length ≤ 1000000) : FnSpec Tryz.prog f_louperef02_Names [encV v] [] (.osl 0 0) [strO (q1o v) 0] := by
  obtain ⟨n, r, hv⟩ : ∃ n r, v = n :: r := by
    cases v with
    | nil => exact absurd rfl ho.ne
    | cons n r => exact ⟨n, r, rfl⟩
  have ho' := ho
  rw [hv] at ho'
  obtain ⟨hm, ps, hp, hfl, hps⟩ := ho'.parts
  have hpl := q1t _ _ _ hp
  have hg0 : v[0]? = some n := by rw [hv]; rfl
  have hr : q1o v = if n.kind = 6 then ps.map nameOf else [] := by rw [hv, q1o, (q1j hp).2]
  have hmn : n.many = (ps.length : Int) := by omega
  have hd1 : v.drop 1 = r := by rw [hv]; rfl
  have hple := q2n _ _ _ hp
  have hrl : r.length + 1 = v.length := by rw [hv]; rfl
  refine k_louperef02_Names.madeG (T := tabL Tryz.prog [(f_louperef02_Next, q1z)]) 1 hD (q0e (q0c q5y q0d)) hmix fun Q hQ => ?_
  try simp only [F_all]
  simp (maxSteps := 400000) only [↓preZ, postZ, coreZ, ↓preU, postU, D_all, F_all, unR, outL, onePV, binS, ↓binS, q03, ↓q03, q01, ↓q01, boxR, q0b, newObj, q05, q00, q06, q09, q0a, St.freeze, q02, q07, q04, BEq.rfl, reduceIte, reduceCtorEq, Nat.reduceLT, Nat.reduceAdd, Nat.reduceSub, Nat.reduceMul, Nat.reduceBEq, Nat.reduceLeDiff, Int.reduceToNat, Int.reduceLE, hQ, q3x]
  refine q0q (fun m S => ∃ (i ver : Nat) (done : List (List UInt8)) (rest : List Vl), m = rest.length ∧ (done = [] ∨ n.kind = 6) ∧ done.length + rest.length = ps.length ∧ done ++ rest.map nameOf = ps.map nameOf ∧ parts rest.length (v.drop i) = some rest ∧
    S = ⟨tmA 34 [(0, encV v), (3, .osl 0 ver), (4, .int .i64 i), (5, .int .i64 done.length)], [⟨t_string, 1, done.map .str, true, ver⟩]⟩) ps.length ⟨1, 1, [], ps, rfl, .inl rfl, by simp, rfl, by rw [hd1, hpl]; exact hp, ?_⟩ ?_
  · simp only [normR, keepR, Nat.reduceAdd, lkR, Nat.reduceBEq, F_all, List.map_nil]
    rfl
  rintro m S ⟨i, ver, done, rest, rfl, hdn, hdl, hdr, hrp, rfl⟩
  cases rest with
  | nil =>
    simp only [List.length_nil, Nat.add_zero] at hdl
    have hlt : ((done.length : Int) < (ps.length : Int)) = False := eq_false (by omega)
    simp only [List.map_nil, List.append_nil] at hdr
    simp (maxSteps := 400000) only [↓preZ, postZ, coreZ, ↓preU, postU, D_all, F_all, unR, outL, onePV, binS, ↓binS, q03, ↓q03, q01, ↓q01, boxR, q0b, newObj, q05, q00, q06, q09, q0a, St.freeze, q02, q07, q04, BEq.rfl, reduceIte, reduceCtorEq, Nat.reduceLT, Nat.reduceAdd, Nat.reduceSub, Nat.reduceMul, Nat.reduceBEq, Nat.reduceLeDiff, Int.reduceToNat, Int.reduceLE, hQ, hg0, hmn, hlt]
    have hd : done = q1o v := by
      rw [hr]
      split
      · exact hdr
      · rename_i h6
        exact hdn.resolve_right h6
    rw [hd]
    exact endM (k := 0) (ver := ver) rfl rfl rfl rfl (congrArg (fun o : Obj => { o with ver := 0 }) (qes 1 1 _ t_string 1 (q1o v) ver)) (qao _ 0)
  | cons p qs =>
    obtain ⟨c, qs', h1, h2, h3⟩ := q2k (k := qs.length) hrp
    simp only [List.cons.injEq] at h2
    obtain ⟨hp1, rfl⟩ := h2
    simp only [List.length_cons] at hdl
    have hlt : ((done.length : Int) < (ps.length : Int)) = True := eq_true (by omega)
    have hc := q2x _ _ _ h1
    simp only [List.length_drop] at hc
    have hnx : nextI v i = (i + c : Nat) := q9d (qd2 _ _ _ _ h1 (by omega))
    have zi : (0 ≤ (i : Int)) = True := eq_true (by omega)
    have hil : i < v.length := by omega
    have hgi := List.getElem?_eq_getElem hil
    have hdi := List.drop_eq_getElem_cons hil
    generalize v[i] = pn at hgi hdi
    have hname : nameOf p = pn.name := by
      obtain ⟨w, hw⟩ : ∃ w, c = w + 1 := ⟨c - 1, by omega⟩
      rw [hp1, hdi, hw]; rfl
    by_cases h6 : n.kind = 6
    rotate_left 1
    · simp (maxSteps := 400000) only [↓preZ, postZ, coreZ, ↓preU, postU, D_all, F_all, unR, outL, onePV, binS, ↓binS, q03, ↓q03, q01, ↓q01, boxR, q0b, newObj, q05, q00, q06, q09, q0a, St.freeze, q02, q07, q04, BEq.rfl, reduceIte, reduceCtorEq, Nat.reduceLT, Nat.reduceAdd, Nat.reduceSub, Nat.reduceMul, Nat.reduceBEq, Nat.reduceLeDiff, Int.reduceToNat, Int.reduceLE, hQ, hg0, hmn, hlt, h6]
      have hd : done = q1o v := by rw [hr, if_neg h6, hdn.resolve_right h6]
      rw [hd]
      exact endM (k := 0) (ver := ver) rfl rfl rfl rfl (congrArg (fun o : Obj => { o with ver := 0 }) (qes 1 1 _ t_string 1 (q1o v) ver)) (qao _ 0)
    simp (maxSteps := 400000) only [↓preZ, postZ, coreZ, ↓preU, postU, D_all, F_all, unR, outL, onePV, binS, ↓binS, q03, ↓q03, q01, ↓q01, boxR, q0b, newObj, q05, q00, q06, q09, q0a, St.freeze, q02, q07, q04, BEq.rfl, reduceIte, reduceCtorEq, Nat.reduceLT, Nat.reduceAdd, Nat.reduceSub, Nat.reduceMul, Nat.reduceBEq, Nat.reduceLeDiff, Int.reduceToNat, Int.reduceLE, hQ, hg0, hmn, hlt, h6, ↓q1z, hnx, zi, hgi]
    have happ : List.map PV.str done ++ [PV.str pn.name] = List.map PV.str (done ++ [pn.name]) := by simp
    rw [happ]
    refine ⟨by omega, by omega, by omega, hl, ⟨by omega, by omega⟩, qs.length, by omega, i + c, ver + 1, done ++ [pn.name], qs, rfl, ?_, ?_, ?_, ?_⟩
    · simp only [List.length_append, List.length_cons, List.length_nil]; omega
    · rw [← hdr, List.map_cons, hname]; simp
    · rw [← List.drop_drop]; exact h3
    · simp only [List.length_append, List.length_cons, List.length_nil, Nat.zero_add, Int.natCast_add, Int.cast_ofNat_Int, Int.natCast_one]
theorem qaq (v : Vl) (ho : One v) (hl : v.length ≤ 1000000) : FnSpec Tryz.prog f_louperef02_Names [encV v] [] (encT (q1o v)) [] :=
  (qap v ho hl).froze rfl rfl (qao _ 0)
def q33 : Ctr := fun args objs K => match args with
  | [a0] => ofE encV a0 (HK.mk : HK fun v => (One v) ∧ (v.length ≤ 1000000) ∧ K (encT (q1o v)) objs 0)
  | _ => False
theorem q91 : CtrOk Tryz.prog f_louperef02_Names (q33) := by
  intro args objs K h
  unfold q33 at h
  split at h
  · rename_i a0
    obtain ⟨v, rfl, h1, h2, hk⟩ := h
    exact ⟨_, _, _, .pure _ rfl (qaq v h1 h2), hk⟩
  · exact h.elim
end Lp

/-! LpW13 -/

namespace Lp
open Go Go.Proofs
set_option maxHeartbeats 4000000
set_option maxRecDepth 20000
set_option linter.unusedSimpArgs false
def atN (n : Nd) (p : Int) : Int :=
  let i : Int := n.s.length - 1 - (p - n.e)
  if i < 0 then 0 else match n.s[i.toNat]? with
    | some c => (c.toNat : Int) - 48
    | none => 0
def digs (a b : Nd) : Nat → Int → Int
  | 0, _ => 0
  | k + 1, p => if atN a p < atN b p then -1 else if atN b p < atN a p then 1 else digs a b k (p - 1)
def topN (a b : Nd) : Int := if (b.s.length + b.e : Int) > a.s.length + a.e then (b.s.length + b.e : Int) else a.s.length + a.e
def lowN (a b : Nd) : Int := if b.e < a.e then b.e else a.e
def refN (a b : Nd) : Int :=
  let side : Int := if a.neg then -1 else 1
  if a.neg ≠ b.neg then side else side * digs a b (topN a b - lowN a b + 1).toNat (topN a b)
structure NumOk (n : Nd) : Prop where
  len : n.s.length ≤ 200
  figs : figs n.s = true
  lo : -1000 ≤ n.e
  hi : n.e ≤ 1000
theorem q4v {s : List UInt8} (h : figs s = true) {i : Nat} {c : UInt8} (hc : s[i]? = some c) : 48 ≤ c.toNat ∧ c.toNat ≤ 57 := by
  simp only [figs, List.all_eq_true, Bool.and_eq_true, decide_eq_true_eq] at h
  have := h c (List.mem_of_getElem? hc)
  exact ⟨UInt8.le_iff_toNat_le.1 this.1, UInt8.le_iff_toNat_le.1 this.2⟩
theorem qvn (n : Nd) (p : Int) (hn : NumOk n) (hp : -2000 ≤ p ∧ p ≤ 2000) : FnSpec Tryz.prog f_louperef01_at [encN n, .int .i64 p] [] (.int .i64 (atN n p)) [] := by
  obtain ⟨h1, h2, h3, h4⟩ := hn
  refine k_louperef01_at.pure (T := tabL Tryz.prog []) 0 hD (q0e q0d) hmix (by decide) ?_
  try simp only [F_all]
  simp (maxSteps := 400000) only [↓preZ, postZ, coreZ, ↓preU, postU, D_all, F_all, unR, outL, onePV, binS, ↓binS, q03, ↓q03, q01, ↓q01, boxR, q0b, newObj, q05, q00, q06, q09, q0a, St.freeze, q02, q07, q04, BEq.rfl, reduceIte, reduceCtorEq, Nat.reduceLT, Nat.reduceAdd, Nat.reduceSub, Nat.reduceMul, Nat.reduceBEq, Nat.reduceLeDiff, Int.reduceToNat, Int.reduceLE, q5h]
  refine q0m _ (Weak.freeze 1 0 (Nat.le_refl _) _) ?_
  simp (maxSteps := 400000) only [↓preZ, postZ, coreZ, ↓preU, postU, D_all, F_all, unR, outL, onePV, binS, ↓binS, q03, ↓q03, q01, ↓q01, boxR, q0b, newObj, q05, q00, q06, q09, q0a, St.freeze, q02, q07, q04, BEq.rfl, reduceIte, reduceCtorEq, Nat.reduceLT, Nat.reduceAdd, Nat.reduceSub, Nat.reduceMul, Nat.reduceBEq, Nat.reduceLeDiff, Int.reduceToNat, Int.reduceLE, frzC0]
  refine ⟨⟨by omega, by omega⟩, ⟨by omega, by omega⟩, ⟨by omega, by omega⟩, fun h => ?_, fun h => ⟨fun h' => ?_, fun h' => ⟨by omega, ?_⟩⟩⟩
  · simp only [atN, if_pos h]
  · have : n.s[(↑n.s.length - 1 - (p - n.e)).toNat]? = none := List.getElem?_eq_none (by omega)
    simp only [atN, if_neg h, this]
  · have hi : (↑n.s.length - 1 - (p - n.e)).toNat < n.s.length := by omega
    have hg := List.getElem?_eq_getElem hi
    have hf := q4v h2 hg
    generalize hc : n.s[(↑n.s.length - 1 - (p - n.e)).toNat] = c at *
    simp (maxSteps := 400000) only [↓preZ, postZ, coreZ, ↓preU, postU, D_all, F_all, unR, outL, onePV, binS, ↓binS, q03, ↓q03, q01, ↓q01, boxR, q0b, newObj, q05, q00, q06, q09, q0a, St.freeze, q02, q07, q04, BEq.rfl, reduceIte, reduceCtorEq, Nat.reduceLT, Nat.reduceAdd, Nat.reduceSub, Nat.reduceMul, Nat.reduceBEq, Nat.reduceLeDiff, Int.reduceToNat, Int.reduceLE, hg, convO, convR, IntKind.wrap]
    refine ⟨⟨by omega, by omega⟩, ?_⟩
    simp only [atN, if_neg h, hg]
    have hm : ((c.toNat : Int) - 48) % 2 ^ IntKind.i64.bits = (c.toNat : Int) - 48 := Int.emod_eq_of_lt (by omega) (by have : (2 : Int) ^ IntKind.i64.bits = 18446744073709551616 := rfl; omega)
    rw [hm, if_neg]
    have h2 : (2 : Int) ^ (IntKind.i64.bits - 1) = 9223372036854775808 := rfl
    have h3 : IntKind.i64.signed = true := rfl
    rw [h2, h3]
    simp
    omega
def ctrAt : Ctr := fun args objs K => match args with
  | [a0, .int .i64 p] => ofE encN a0 (HK.mk : HK fun n => (NumOk n) ∧ (-2000 ≤ p ∧ p ≤ 2000) ∧ K (.int .i64 (atN n p)) objs 0)
  | _ => False
theorem qnq : CtrOk Tryz.prog f_louperef01_at (ctrAt) := by
  intro args objs K h
  unfold ctrAt at h
  split at h
  · rename_i a0 p
    obtain ⟨n, rfl, h1, h2, hk⟩ := h
    exact ⟨_, _, _, .pure _ rfl (qvn n p h1 h2), hk⟩
  · exact h.elim
theorem qgh (a b : Nd) (ha : NumOk a) (hb : NumOk b) : FnSpec Tryz.prog f_louperef01_Cmp [encN a, encN b] [] (.int .i64 (refN a b)) [] := by
  refine k_louperef01_Cmp.pure (T := tabL Tryz.prog [(f_louperef01_at, ctrAt)]) 0 hD (q0e (q0c qnq q0d)) hmix (by decide) ?_
  try simp only [F_all]
  simp (maxSteps := 400000) only [↓preZ, postZ, coreZ, ↓preU, postU, D_all, F_all, unR, outL, onePV, binS, ↓binS, q03, ↓q03, q01, ↓q01, boxR, q0b, newObj, q05, q00, q06, q09, q0a, St.freeze, q02, q07, q04, BEq.rfl, reduceIte, reduceCtorEq, Nat.reduceLT, Nat.reduceAdd, Nat.reduceSub, Nat.reduceMul, Nat.reduceBEq, Nat.reduceLeDiff, Int.reduceToNat, Int.reduceLE, q53]
  refine q0m _ (Weak.freeze 1 0 (Nat.le_refl _) _) ?_
  cases hx : a.neg <;> cases hy : b.neg
  all_goals simp (maxSteps := 400000) only [↓preZ, postZ, coreZ, ↓preU, postU, D_all, F_all, unR, outL, onePV, binS, ↓binS, q03, ↓q03, q01, ↓q01, boxR, q0b, newObj, q05, q00, q06, q09, q0a, St.freeze, q02, q07, q04, BEq.rfl, reduceIte, reduceCtorEq, Nat.reduceLT, Nat.reduceAdd, Nat.reduceSub, Nat.reduceMul, Nat.reduceBEq, Nat.reduceLeDiff, Int.reduceToNat, Int.reduceLE, frzB0, frzB1, hx, hy]
  case false.true => simp [refN, hx, hy]
  case true.false => simp [refN, hx, hy]
  all_goals
    have b1 : -2000 ≤ topN a b ∧ topN a b ≤ 2000 := by obtain ⟨a1, a2, a3, a4⟩ := ha; obtain ⟨b1, b2, b3, b4⟩ := hb; unfold topN; split <;> omega
    have b2 : -1000 ≤ lowN a b ∧ lowN a b ≤ 1000 := by obtain ⟨a1, a2, a3, a4⟩ := ha; obtain ⟨b1, b2, b3, b4⟩ := hb; unfold lowN; split <;> omega
    have l1 := ha.len
    have l2 := hb.len
    have e1 := ha.lo
    have e2 := ha.hi
    have e3 := hb.lo
    have e4 := hb.hi
    refine ⟨⟨by omega, by omega⟩, ⟨by omega, by omega⟩, ?_⟩
    refine q0q (fun m S => ∃ p : Int, (m : Int) = (if 0 ≤ p - lowN a b + 1 then p - lowN a b + 1 else 0) ∧ p ≤ topN a b ∧ -2000 ≤ p ∧
      (digs a b (topN a b - lowN a b + 1).toNat (topN a b) = digs a b (p - lowN a b + 1).toNat p) ∧
      S = ⟨tmA 56 [(2, .addr (encN a)), (3, .addr (encN b)), (5, .int .i64 (if a.neg = true then -1 else 1)), (7, .int .i64 p)], []⟩) (topN a b - lowN a b + 1).toNat ⟨topN a b, ?_, Int.le_refl _, by omega, rfl, ?_⟩ ?_
    · split <;> omega
    · simp only [normR, keepR, Nat.reduceAdd, lkR, Nat.reduceBEq, hx, if_true, if_false, topN, Bool.false_eq_true]
    rintro m S ⟨p, hm, hp1, hp2, hd, rfl⟩
    simp (maxSteps := 400000) only [↓preZ, postZ, coreZ, ↓preU, postU, D_all, F_all, unR, outL, onePV, binS, ↓binS, q03, ↓q03, q01, ↓q01, boxR, q0b, newObj, q05, q00, q06, q09, q0a, St.freeze, q02, q07, q04, BEq.rfl, reduceIte, reduceCtorEq, Nat.reduceLT, Nat.reduceAdd, Nat.reduceSub, Nat.reduceMul, Nat.reduceBEq, Nat.reduceLeDiff, Int.reduceToNat, Int.reduceLE, ↓ctrAt]
    refine ⟨fun hlow => ⟨ha, ⟨by omega, by omega⟩, hb, ⟨by omega, by omega⟩, fun hlt => ?_, fun hlt => ⟨fun hgt => ?_, fun hgt => ?_⟩⟩, fun hlow => ?_⟩
    · have hl : lowN a b ≤ p := hlow
      have e : (p - lowN a b + 1).toNat = (p - lowN a b).toNat + 1 := by omega
      rw [e] at hd
      simp only [digs, if_pos hlt] at hd
      simp only [refN, hd, hx, hy]
      simp
    · have hl : lowN a b ≤ p := hlow
      have e : (p - lowN a b + 1).toNat = (p - lowN a b).toNat + 1 := by omega
      rw [e] at hd
      simp only [digs, if_neg hlt, if_pos hgt] at hd
      simp only [refN, hd, hx, hy]
      simp
    · have hl : lowN a b ≤ p := hlow
      have e : (p - lowN a b + 1).toNat = (p - 1 - lowN a b + 1).toNat + 1 := by omega
      rw [e] at hd
      simp only [digs, if_neg hlt, if_neg hgt] at hd
      rw [if_pos (by omega)] at hm
      refine ⟨⟨by omega, by omega⟩, m - 1, by omega, p - 1, ?_, by omega, by omega, hd, rfl⟩
      split <;> omega
    · have hl : ¬ lowN a b ≤ p := hlow
      have e : (p - lowN a b + 1).toNat = 0 := by omega
      rw [e] at hd
      simp only [digs] at hd
      simp only [refN, hd, hx, hy]
      simp
def q7i : Ctr := fun args objs K => match args with
  | [a0, a1] => ofE encN a0 (HK.mk : HK fun a => ofE encN a1 (HK.mk : HK fun b => (NumOk a) ∧ (NumOk b) ∧ K (.int .i64 (refN a b)) objs 0))
  | _ => False
theorem qeu : CtrOk Tryz.prog f_louperef01_Cmp (q7i) := by
  intro args objs K h
  unfold q7i at h
  split at h
  · rename_i a0 a1
    obtain ⟨a, rfl, b, rfl, h1, h2, hk⟩ := h
    exact ⟨_, _, _, .pure _ rfl (qgh a b h1 h2), hk⟩
  · exact h.elim
end Lp

/-! LpW5 -/

namespace Lp
open Go Go.Proofs
set_option maxHeartbeats 2000000
set_option linter.unusedSimpArgs false
theorem qbd (x : Int) : FnSpec Tryz.prog f_cmp_isNaN_int_ [.int .i64 x] [] (.bool false) [] := by
  refine k_cmp_isNaN_int_.pure (T := tabL Tryz.prog []) 0 hD (q0e q0d) hmix (by decide) ?_
  simp only [q54, ↓wpR, knR, ↓lrR, ↓exR, ↓guR, stR, ↓opsR, retR, outL, onePV, frR, Nat.reduceAdd, Nat.reduceSub, tmR, D_all, biR, biI]
  simp
def qgi : Ctr := fun args objs K => ∃ x : Int, args = [.int .i64 x] ∧ K (.bool false) objs 0
theorem qiz : CtrOk Tryz.prog f_cmp_isNaN_int_ qgi := by
  rintro args objs K ⟨x, rfl, hk⟩
  exact ⟨_, _, _, .pure _ rfl (qbd x), hk⟩
theorem q92 (x y : Int) : FnSpec Tryz.prog f_cmp_Compare_int_ [.int .i64 x, .int .i64 y] [] (.int .i64 (cmpI x y)) [] := by
  refine k_cmp_Compare_int_.pure (T := tabL Tryz.prog [(f_cmp_isNaN_int_, qgi)]) 0 hD (q0e (q0c qiz q0d)) hmix (by decide) ?_
  simp only [q3u, ↓wpR, knR, ↓lrR, ↓exR, ↓guR, stR, ↓opsR, retR, outL, onePV, frR, Nat.reduceAdd, Nat.reduceSub, tmR, D_all, F_all, caR, taR, qgi, Nat.reduceBEq, BEq.rfl, cond_true, cond_false, pickR, biR, biI]
  refine ⟨x, rfl, y, rfl, (fun h => by cases h), fun _ => ⟨(fun h => by cases h), fun _ => ⟨fun h => ?_, fun h => ⟨fun h' => ?_, fun h' => ?_⟩⟩⟩⟩
  · rw [cmpI, if_pos (of_decide_eq_true h)]
  · rw [cmpI, if_neg (of_decide_eq_false h), if_pos (of_decide_eq_true h')]
  · rw [cmpI, if_neg (of_decide_eq_false h), if_neg (of_decide_eq_false h')]
theorem qbe (x : List UInt8) : FnSpec Tryz.prog f_cmp_isNaN_string_ [.str x] [] (.bool false) [] := by
  refine k_cmp_isNaN_string_.pure (T := tabL Tryz.prog []) 0 hD (q0e q0d) hmix (by decide) ?_
  simp only [q3g, ↓wpR, knR, ↓lrR, ↓exR, ↓guR, stR, ↓opsR, retR, outL, onePV, frR, Nat.reduceAdd, Nat.reduceSub, tmR, D_all, biR, binS]
  simp
def qgj : Ctr := fun args objs K => ∃ x : List UInt8, args = [.str x] ∧ K (.bool false) objs 0
theorem qj0 : CtrOk Tryz.prog f_cmp_isNaN_string_ qgj := by
  rintro args objs K ⟨x, rfl, hk⟩
  exact ⟨_, _, _, .pure _ rfl (qbe x), hk⟩
theorem q57 (x y : List UInt8) : FnSpec Tryz.prog f_cmp_Compare_string_ [.str x, .str y] [] (.int .i64 (cmpS x y)) [] := by
  refine k_cmp_Compare_string_.pure (T := tabL Tryz.prog [(f_cmp_isNaN_string_, qgj)]) 0 hD (q0e (q0c qj0 q0d)) hmix (by decide) ?_
  simp only [q2u, ↓wpR, knR, ↓lrR, ↓exR, ↓guR, stR, ↓opsR, retR, outL, onePV, frR, Nat.reduceAdd, Nat.reduceSub, tmR, D_all, F_all, caR, taR, qgj, Nat.reduceBEq, BEq.rfl, cond_true, cond_false, pickR, biR, binS]
  refine ⟨x, rfl, y, rfl, (fun h => by cases h), fun _ => ⟨(fun h => by cases h), fun _ => ⟨fun h => ?_, fun h => ⟨fun h' => ?_, fun h' => ?_⟩⟩⟩⟩
  · rw [cmpS, if_pos h]
  · rw [h, Bool.false_or] at h'
    have hne : x ≠ y := by simpa using h'
    rw [cmpS, if_neg (by rw [h]; simp), if_neg hne]
  · rw [h, Bool.false_or] at h'
    have he : x = y := by simpa using h'
    rw [cmpS, if_neg (by rw [h]; simp), if_pos he]
end Lp

/-! LpW6 -/

namespace Lp
open Go Go.Proofs
set_option maxHeartbeats 2000000
set_option linter.unusedSimpArgs false
def qgk : Ctr := fun args objs K => ∃ x y : List UInt8, args = [.str x, .str y] ∧ K (.int .i64 (cmpS x y)) objs 0
theorem qj1 : CtrOk Tryz.prog f_cmp_Compare_string_ qgk := by
  rintro args objs K ⟨x, y, rfl, hk⟩
  exact ⟨_, _, _, .pure _ rfl (q57 x y), hk⟩
theorem q7j (a b : List (List UInt8)) (ha : a.length ≤ 9223372036854775807) (_hb : b.length ≤ 9223372036854775807) :
    FnSpec Tryz.prog f_slices_Compare_L_string_string_ [encT a, encT b] [] (.int .i64 (lexBy cmpS a b)) [] := by
  refine k_slices_Compare_L_string_string_.pure (T := tabL Tryz.prog [(f_cmp_Compare_string_, qgk)]) 0 hD (q0e (q0c qj1 q0d)) hmix (by decide) ?_
  simp only [q1g, ↓wpR, knR, ↓lrR, ↓exR, ↓guR, stR, ↓opsR, retR, outL, onePV, frR, Nat.reduceAdd, Nat.reduceSub, tmR, D_all, q1e, lenR, encT, List.length_map, biR, biI]
  refine q0q (fun m S => ∃ i : Nat, m = a.length - i ∧ i ≤ a.length ∧ i ≤ b.length ∧ lexBy cmpS (a.drop i) (b.drop i) = lexBy cmpS a b ∧
    S = ⟨mkT 36 [(0, encT a), (1, encT b), (9, encT a), (10, .int .i64 a.length), (11, .int .i64 i)], []⟩) a.length ⟨0, rfl, Nat.zero_le _, Nat.zero_le _, rfl, ?_⟩ ?_
  · simp only [fgR, encT, tmR]; rfl
  rintro m S ⟨i, rfl, hi, hib, hlex, rfl⟩
  simp only [↓wpR, knR, ↓lrR, ↓exR, ↓guR, stR, ↓opsR, retR, outL, onePV, frR, Nat.reduceAdd, Nat.reduceSub, tmR, fgR, D_all, F_all, caR, taR, qgk, Nat.reduceBEq, BEq.rfl, cond_true, cond_false, q1e, lenR, encT, biR, biI, inRR, List.length_map, q0h, loadR, ↓exmap, agR, isR, ne_eq, reduceCtorEq, not_false_eq_true, true_and, PV.bool.injEq, Int.toNat_natCast, List.length_cons, List.length_nil]
  refine ⟨fun h => ?_, fun h => ?_⟩
  · have hlt : i < a.length := by have := of_decide_eq_true h; omega
    rw [List.drop_eq_getElem_cons hlt] at hlex
    refine ⟨by omega, a[i], List.getElem?_eq_getElem hlt, fun hge => ?_, fun hgl => ?_⟩
    · have hbe : b.length ≤ i := by have := of_decide_eq_true hge; omega
      rw [List.drop_eq_nil_of_le hbe] at hlex
      rw [← hlex]; rfl
    · have hbl : i < b.length := by have := of_decide_eq_false hgl; omega
      rw [List.drop_eq_getElem_cons hbl] at hlex
      refine ⟨by omega, b[i], List.getElem?_eq_getElem hbl, a[i], b[i], rfl, fun hne => ?_, fun heq => ⟨by omega, a.length - (i + 1), by omega, i + 1, rfl, by omega, by omega, ?_, rfl⟩⟩
      · have hne' : cmpS a[i] b[i] ≠ 0 := by simpa using hne
        rw [← hlex, lexBy, if_neg hne']
      · have heq' : cmpS a[i] b[i] = 0 := by simpa using heq
        rw [← hlex, lexBy, if_pos heq']
  · rw [if_pos trivial]
    have hge : a.length ≤ i := by have := of_decide_eq_false h; omega
    rw [List.drop_eq_nil_of_le hge] at hlex
    refine ⟨fun hl => ?_, fun hl => ?_⟩
    · have hl' : i < b.length := by have := of_decide_eq_true hl; omega
      rw [List.drop_eq_getElem_cons hl'] at hlex
      rw [← hlex]; rfl
    · have hl' : b.length ≤ i := by have := of_decide_eq_false hl; omega
      rw [List.drop_eq_nil_of_le hl'] at hlex
      rw [← hlex]; rfl
end Lp

/-! LpW7 -/

namespace Lp
open Go Go.Proofs
set_option maxHeartbeats 2000000
set_option linter.unusedSimpArgs false
def ctrG (a b : List Vl) (f : Vl → Vl → Int) : Ctr := fun args objs K => ∃ x y : Vl, (x ∈ a ∧ y ∈ b) ∧ args = [encV x, encV y] ∧ K (.int .i64 (f x y)) objs 0
theorem qvo (a b : List Vl) (g : FuncId) (f : Vl → Vl → Int) (hg : ∀ x ∈ a, ∀ y ∈ b, FnSpec Tryz.prog g [encV x, encV y] [] (.int .i64 (f x y)) []) : CtrOk Tryz.prog g (ctrG a b f) := by
  rintro args objs K ⟨x, y, ⟨hx, hy⟩, rfl, hk⟩
  exact ⟨_, _, _, .pure _ rfl (hg x hx y hy), hk⟩
theorem q58 (a b : List Vl) (g : FuncId) (f : Vl → Vl → Int) (ha : a.length ≤ 9223372036854775807) (hg : ∀ x ∈ a, ∀ y ∈ b, FnSpec Tryz.prog g [encV x, encV y] [] (.int .i64 (f x y)) []) :
    FnSpec Tryz.prog f_slices_CompareFunc_L_api_Val_L_api_Val_api_Val_api_Val_ [encL a, encL b, .fn g [] []] [] (.int .i64 (lexBy f a b)) [] := by
  refine k_slices_CompareFunc_L_api_Val_L_api_Val_api_Val_api_Val_.pure (T := tabL Tryz.prog [(g, ctrG a b f)]) 0 hD (q0e (q0c (qvo a b g f hg) q0d)) hmix (by decide) ?_
  simp only [q0l, ↓wpR, knR, ↓lrR, ↓exR, ↓guR, stR, ↓opsR, retR, outL, onePV, frR, Nat.reduceAdd, Nat.reduceSub, tmR, D_all, q1e, lenR, encL, List.length_map, biR, biI]
  refine q0q (fun m S => ∃ i : Nat, m = a.length - i ∧ i ≤ a.length ∧ i ≤ b.length ∧ lexBy f (a.drop i) (b.drop i) = lexBy f a b ∧
    S = ⟨mkT 39 [(0, encL a), (1, encL b), (2, .fn g [] []), (11, encL a), (12, .int .i64 a.length), (13, .int .i64 i)], []⟩) a.length ⟨0, rfl, Nat.zero_le _, Nat.zero_le _, rfl, ?_⟩ ?_
  · simp only [fgR, encL, tmR]; rfl
  rintro m S ⟨i, rfl, hi, hib, hlex, rfl⟩
  simp only [↓wpR, knR, ↓lrR, ↓exR, ↓guR, stR, ↓opsR, retR, outL, onePV, frR, Nat.reduceAdd, Nat.reduceSub, tmR, fgR, D_all, F_all, caR, taR, ctrG, Nat.reduceBEq, BEq.rfl, cond_true, cond_false, q1e, lenR, encL, biR, biI, inRR, List.length_map, q0h, loadR, ↓exmap, agR, isR, ne_eq, reduceCtorEq, not_false_eq_true, true_and, PV.bool.injEq, Int.toNat_natCast, List.length_cons, List.length_nil]
  refine ⟨fun h => ?_, fun h => ?_⟩
  · have hlt : i < a.length := by have := of_decide_eq_true h; omega
    rw [List.drop_eq_getElem_cons hlt] at hlex
    refine ⟨by omega, a[i], List.getElem?_eq_getElem hlt, rfl, rfl, fun hge => ?_, fun hgl => ?_⟩
    · have hbe : b.length ≤ i := by have := of_decide_eq_true hge; omega
      rw [List.drop_eq_nil_of_le hbe] at hlex
      rw [← hlex]; rfl
    · have hbl : i < b.length := by have := of_decide_eq_false hgl; omega
      rw [List.drop_eq_getElem_cons hbl] at hlex
      refine ⟨by omega, b[i], List.getElem?_eq_getElem hbl, rfl, rfl, a[i], b[i], ⟨List.getElem_mem _, List.getElem_mem _⟩, rfl, fun hne => ?_, fun heq => ⟨by omega, a.length - (i + 1), by omega, i + 1, rfl, by omega, by omega, ?_, rfl⟩⟩
      · have hne' : f a[i] b[i] ≠ 0 := by simpa using hne
        rw [← hlex, lexBy, if_neg hne']
      · have heq' : f a[i] b[i] = 0 := by simpa using heq
        rw [← hlex, lexBy, if_pos heq']
  · rw [if_pos trivial]
    have hge : a.length ≤ i := by have := of_decide_eq_false h; omega
    rw [List.drop_eq_nil_of_le hge] at hlex
    refine ⟨fun hl => ?_, fun hl => ?_⟩
    · have hl' : i < b.length := by have := of_decide_eq_true hl; omega
      rw [List.drop_eq_getElem_cons hl'] at hlex
      rw [← hlex]; rfl
    · have hl' : b.length ≤ i := by have := of_decide_eq_false hl; omega
      rw [List.drop_eq_nil_of_le hl'] at hlex
      rw [← hlex]; rfl
end Lp

/-! LpH8 -/

namespace Lp
open Go Go.Proofs
set_option maxHeartbeats 4000000
set_option maxRecDepth 20000
set_option linter.unusedSimpArgs false
def q84 : Ctr := fun args objs K => match args with
  | [.int .i64 x, .int .i64 y] => K (.int .i64 (cmpI x y)) objs 0
  | _ => False
theorem qc3 : CtrOk Tryz.prog f_cmp_Compare_int_ (q84) := by
  intro args objs K h
  unfold q84 at h
  split at h
  · rename_i x y
    have hk := h
    exact ⟨_, _, _, .pure _ rfl (q92 x y), hk⟩
  · exact h.elim
def q85 : Ctr := fun args objs K => match args with
  | [.str x, .str y] => K (.int .i64 (cmpS x y)) objs 0
  | _ => False
theorem qc4 : CtrOk Tryz.prog f_cmp_Compare_string_ (q85) := by
  intro args objs K h
  unfold q85 at h
  split at h
  · rename_i x y
    have hk := h
    exact ⟨_, _, _, .pure _ rfl (q57 x y), hk⟩
  · exact h.elim
theorem qm6 (a b : Nd) (ha : a.s.length ≤ 1000000) (hb : b.s.length ≤ 1000000) (hae : -1000 ≤ a.e ∧ a.e ≤ 1000) (hbe : -1000 ≤ b.e ∧ b.e ≤ 1000) : FnSpec Tryz.prog f_num_size [encN a, encN b] [] (.int .i64 (sizeN a b)) [] := by
  refine k_num_size.pure (T := tabL Tryz.prog [(f_cmp_Compare_int_, q84), (f_cmp_Compare_string_, q85)]) 0 hD (q0e (q0c qc3 (q0c qc4 q0d))) hmix (by decide) ?_
  try simp only [F_all]
  simp (maxSteps := 400000) only [↓preZ, postZ, coreZ, ↓preU, postU, D_all, F_all, unR, outL, onePV, binS, ↓binS, q03, ↓q03, q01, ↓q01, boxR, q0b, newObj, q05, q00, q06, q09, q0a, St.freeze, q02, q07, q04, BEq.rfl, reduceIte, reduceCtorEq, Nat.reduceLT, Nat.reduceAdd, Nat.reduceSub, Nat.reduceMul, Nat.reduceBEq, Nat.reduceLeDiff, Int.reduceToNat, Int.reduceLE, qby]
  refine q0m _ (Weak.freeze 1 0 (Nat.le_refl _) _) ?_
  simp (maxSteps := 400000) only [↓preZ, postZ, coreZ, ↓preU, postU, D_all, F_all, unR, outL, onePV, binS, ↓binS, q03, ↓q03, q01, ↓q01, boxR, q0b, newObj, q05, q00, q06, q09, q0a, St.freeze, q02, q07, q04, BEq.rfl, reduceIte, reduceCtorEq, Nat.reduceLT, Nat.reduceAdd, Nat.reduceSub, Nat.reduceMul, Nat.reduceBEq, Nat.reduceLeDiff, Int.reduceToNat, Int.reduceLE, frzB0, frzB1, ↓q84, ↓q85]
  refine ⟨fun h => ?_, fun h => ⟨fun h' => ?_, fun h' => ⟨⟨by omega, by omega⟩, ⟨by omega, by omega⟩, fun h0 => ?_, fun h0 => ?_⟩⟩⟩
  · rw [sizeN, if_pos (.inl h)]
  · rw [sizeN, if_pos (.inr h')]
  · rw [sizeN, if_neg (by simp [h, h']), if_pos h0]
  · rw [sizeN, if_neg (by simp [h, h']), if_neg h0]
def okN (n : Nd) : Prop := n.s.length ≤ 1000000 ∧ -1000 ≤ n.e ∧ n.e ≤ 1000
def qd5 : Ctr := fun args objs K => match args with
  | [a0, a1] => ofE encN a0 (HK.mk : HK fun a => ofE encN a1 (HK.mk : HK fun b => (okN a) ∧ (okN b) ∧ K (.int .i64 (sizeN a b)) objs 0))
  | _ => False
theorem qj2 : CtrOk Tryz.prog f_num_size (qd5) := by
  intro args objs K h
  unfold qd5 at h
  split at h
  · rename_i a0 a1
    obtain ⟨a, rfl, b, rfl, h1, h2, hk⟩ := h
    exact ⟨_, _, _, .pure _ rfl (qm6 a b h1.1 h2.1 h1.2 h2.2), hk⟩
  · exact h.elim
theorem qgl (a b : Nd) (ha : okN a) (hb : okN b) : FnSpec Tryz.prog f_num_Cmp [encN a, encN b] [] (.int .i64 (numN a b)) [] := by
  refine k_num_Cmp.pure (T := tabL Tryz.prog [(f_num_size, qd5)]) 0 hD (q0e (q0c qj2 q0d)) hmix (by decide) ?_
  try simp only [F_all]
  simp (maxSteps := 400000) only [↓preZ, postZ, coreZ, ↓preU, postU, D_all, F_all, unR, outL, onePV, binS, ↓binS, q03, ↓q03, q01, ↓q01, boxR, q0b, newObj, q05, q00, q06, q09, q0a, St.freeze, q02, q07, q04, BEq.rfl, reduceIte, reduceCtorEq, Nat.reduceLT, Nat.reduceAdd, Nat.reduceSub, Nat.reduceMul, Nat.reduceBEq, Nat.reduceLeDiff, Int.reduceToNat, Int.reduceLE, qem]
  refine q0m _ (Weak.freeze 1 0 (Nat.le_refl _) _) ?_
  simp (maxSteps := 400000) only [↓preZ, postZ, coreZ, ↓preU, postU, D_all, F_all, unR, outL, onePV, binS, ↓binS, q03, ↓q03, q01, ↓q01, boxR, q0b, newObj, q05, q00, q06, q09, q0a, St.freeze, q02, q07, q04, BEq.rfl, reduceIte, reduceCtorEq, Nat.reduceLT, Nat.reduceAdd, Nat.reduceSub, Nat.reduceMul, Nat.reduceBEq, Nat.reduceLeDiff, Int.reduceToNat, Int.reduceLE, frzB0, frzB1, ↓qd5]
  cases hx : a.neg <;> cases hy : b.neg
  all_goals simp only [ifR, numN, hx, hy, Bool.not_true, Bool.not_false, reduceIte, Bool.and_true, Bool.and_false, Bool.and_self, Bool.false_eq_true, ha, hb]
  all_goals exact ⟨trivial, trivial, trivial⟩
def q7k : Ctr := fun args objs K => match args with
  | [a0, a1] => ofE encN a0 (HK.mk : HK fun a => ofE encN a1 (HK.mk : HK fun b => (okN a) ∧ (okN b) ∧ K (.int .i64 (numN a b)) objs 0))
  | _ => False
theorem qev : CtrOk Tryz.prog f_num_Cmp (q7k) := by
  intro args objs K h
  unfold q7k at h
  split at h
  · rename_i a0 a1
    obtain ⟨a, rfl, b, rfl, h1, h2, hk⟩ := h
    exact ⟨_, _, _, .pure _ rfl (qgl a b h1 h2), hk⟩
  · exact h.elim
end Lp

/-! LpW23 -/

namespace Lp
open Go Go.Proofs
set_option maxHeartbeats 4000000
set_option maxRecDepth 20000
set_option linter.unusedSimpArgs false
end Lp

/-! LpW30 -/

namespace Lp
open Go Go.Proofs
set_option maxHeartbeats 4000000
set_option maxRecDepth 20000
set_option linter.unusedSimpArgs false
theorem nmP (n : Nd) (nm : List UInt8) : (encN n).putCells 2 [.str nm] = encN { n with name := nm } := rfl
theorem enc6 (n : Nd) : (encN n).cells.length = 6 := rfl
theorem zNl : (PV.ofV (Value.agg { toList := [Value.int IntKind.i64 0, Value.int IntKind.i64 0, Value.string { data := { toList := [] } }, Value.string { data := { toList := [] } }, Value.bool false, Value.int IntKind.i64 0] })).cells.length = 6 := rfl
theorem zNs : (PV.ofV (Value.agg { toList := [Value.int IntKind.i64 0, Value.int IntKind.i64 0, Value.string { data := { toList := [] } }, Value.string { data := { toList := [] } }, Value.bool false, Value.int IntKind.i64 0] })).cells.all PV.storable = true := rfl
end Lp

/-! LpD1 -/

namespace Lp
open Go Go.Proofs
set_option maxHeartbeats 4000000
set_option maxRecDepth 20000
set_option linter.unusedSimpArgs false
end Lp

/-! LpD2 -/

namespace Lp
open Go Go.Proofs
set_option maxHeartbeats 4000000
set_option maxRecDepth 20000
set_option linter.unusedSimpArgs false
theorem knI (l : List (FuncId × Ctr)) (n : Nat) : (((tabL Tryz.prog l).inner n).fn = tabF l) ∧ (((tabL Tryz.prog l).inner n).noY = (tabL Tryz.prog l).inner n) ∧ (((tabL Tryz.prog l).inner n).nx = n) := ⟨rfl, rfl, rfl⟩
end Lp

/-! LpD3 -/

namespace Lp
open Go Go.Proofs
set_option maxHeartbeats 4000000
set_option maxRecDepth 20000
theorem qgm (v : Vl) (hl : v.length ≤ 1099511627776) (ho : One v) : FnSpec Tryz.prog f_val_Parts [encV v] [] (encL (q1c v)) [] := by
  cases v with
  | nil => exact absurd rfl ho.ne
  | cons n r =>
    obtain ⟨hm, ps, h1, _, _⟩ := ho.parts
    have := qio (n :: r) n r ps rfl hl hm h1
    rw [q1c, encL, (q1j h1).1, List.map_map]
    exact this
theorem qgn (v : Vl) (hl : v.length ≤ 1099511627776) (ho : One v) : FnSpec Tryz.prog f_val_Names [encV v] [] (encT (q1o v)) [] := by
  cases v with
  | nil => exact absurd rfl ho.ne
  | cons n r =>
    obtain ⟨hm, ps, h1, _, _⟩ := ho.parts
    have := qip (n :: r) n r ps rfl hl hm h1
    rw [qfm] at this
    rw [q1o, encT, (q1j h1).2]
    exact this
def q9e : Ctr := fun args objs K => match args with
  | [a0] => ofE encV a0 (HK.mk : HK fun v => (v.length ≤ 1099511627776) ∧ (One v) ∧ K (encL (q1c v)) objs 0)
  | _ => False
theorem qgo : CtrOk Tryz.prog f_val_Parts (q9e) := by
  intro args objs K h
  unfold q9e at h
  split at h
  · rename_i a0
    obtain ⟨v, rfl, h1, h2, hk⟩ := h
    exact ⟨_, _, _, .pure _ rfl (qgm v h1 h2), hk⟩
  · exact h.elim
def q9f : Ctr := fun args objs K => match args with
  | [a0] => ofE encV a0 (HK.mk : HK fun v => (v.length ≤ 1099511627776) ∧ (One v) ∧ K (encT (q1o v)) objs 0)
  | _ => False
theorem qgp : CtrOk Tryz.prog f_val_Names (q9f) := by
  intro args objs K h
  unfold q9f at h
  split at h
  · rename_i a0
    obtain ⟨v, rfl, h1, h2, hk⟩ := h
    exact ⟨_, _, _, .pure _ rfl (qgn v h1 h2), hk⟩
  · exact h.elim
end Lp

/-! LpH9 -/

namespace Lp
open Go Go.Proofs
set_option maxHeartbeats 4000000
set_option maxRecDepth 20000
set_option linter.unusedSimpArgs false
def qhu : Ctr := fun args objs K => match args with
  | [a0, a1] => ofE encT a0 (HK.mk : HK fun a => ofE encT a1 (HK.mk : HK fun b => (a.length ≤ 9223372036854775807) ∧ (b.length ≤ 9223372036854775807) ∧ K (.int .i64 (lexBy cmpS a b)) objs 0))
  | _ => False
theorem qm7 : CtrOk Tryz.prog f_slices_Compare_L_string_string_ (qhu) := by
  intro args objs K h
  unfold qhu at h
  split at h
  · rename_i a0 a1
    obtain ⟨a, rfl, b, rfl, h1, h2, hk⟩ := h
    exact ⟨_, _, _, .pure _ rfl (q7j a b h1 h2), hk⟩
  · exact h.elim
def ctrCF (f : Nat) : Ctr := fun args objs K => match args with
  | [a0, a1, a2] => ofE encL a0 (HK.mk : HK fun x => ofE encL a1 (HK.mk : HK fun y => a2 = (.fn f_order_Cmp [] []) ∧ (x.length ≤ 9223372036854775807) ∧ (∀ p ∈ x, ∀ q ∈ y, FnSpec Tryz.prog f_order_Cmp [encV p, encV q] [] (.int .i64 (cmpV f p q)) []) ∧ K (.int .i64 (lexBy (cmpV f) x y)) objs 0))
  | _ => False
theorem qnr (f : Nat) : CtrOk Tryz.prog f_slices_CompareFunc_L_api_Val_L_api_Val_api_Val_api_Val_ (ctrCF f) := by
  intro args objs K h
  unfold ctrCF at h
  split at h
  · rename_i a0 a1 a2
    obtain ⟨x, rfl, y, rfl, rfl, h1, h2, hk⟩ := h
    exact ⟨_, _, _, .pure _ rfl (q58 x y _ _ h1 h2), hk⟩
  · exact h.elim
structure Ok (v : Vl) : Prop where
  one : One v
  len : v.length ≤ 1099511627776
  all : ∀ n ∈ v, okN n
theorem Ok.parts {v : Vl} (h : Ok v) : (q1c v).length ≤ 1099511627776 ∧ (q1o v).length ≤ 1099511627776 ∧ ∀ p ∈ q1c v, Ok p ∧ p.length + 1 ≤ v.length := by
  cases v with
  | nil => exact absurd rfl h.one.ne
  | cons n r =>
    obtain ⟨hm, ps, h1, h2, h3⟩ := h.one.parts
    have hpl := q2n _ _ _ h1
    have hpn := q1t _ _ _ h1
    have hlen := h.len
    simp only [List.length_cons] at hlen
    refine ⟨?_, ?_, ?_⟩
    · rw [q1c, (q1j h1).1, List.length_map]; omega
    · rw [q1o]; split
      · rw [(q1j h1).2, List.length_map]; omega
      · simp
    · intro p hp
      rw [q1c, (q1j h1).1] at hp
      obtain ⟨q, hq, rfl⟩ := List.mem_map.1 hp
      have hql := q38 hq
      rw [h2] at hql
      refine ⟨⟨(h3 q hq).clr, by rw [q35]; omega, ?_⟩, by rw [q35, List.length_cons]; omega⟩
      have hin : ∀ x ∈ q, okN x := fun x hx => h.all x (List.mem_cons_of_mem _ (by rw [← h2]; exact List.mem_flatten.2 ⟨q, hq, hx⟩))
      intro x hx
      cases q with
      | nil => cases hx
      | cons m s =>
        rcases List.mem_cons.1 hx with rfl | hx
        · exact hin m (List.mem_cons_self ..)
        · exact hin x (List.mem_cons_of_mem _ hx)
theorem q7l : ∀ (f : Nat) (a b : Vl), a.length ≤ f → Ok a → Ok b → FnSpec Tryz.prog f_order_Cmp [encV a, encV b] [] (.int .i64 (cmpV f a b)) []
  | 0, a, b, h, ha, _ => by have := ha.one.ne; cases a <;> simp at h this
  | f + 1, [], b, _, ha, _ => absurd rfl ha.one.ne
  | f + 1, n :: r, [], _, _, hb => absurd rfl hb.one.ne
  | f + 1, n :: r, m :: q, h, ha, hb => by
    have hpa := ha.parts
    have hpb := hb.parts
    have ih : ∀ p ∈ q1c (n :: r), ∀ p' ∈ q1c (m :: q), FnSpec Tryz.prog f_order_Cmp [encV p, encV p'] [] (.int .i64 (cmpV f p p')) [] :=
      fun p hp p' hp' => q7l f p p' (by have := (hpa.2.2 p hp).2; omega) (hpa.2.2 p hp).1 (hpb.2.2 p' hp').1
    refine k_order_Cmp.pure (T := tabL Tryz.prog [(f_cmp_Compare_int_, q84), (f_num_Cmp, q7k), (f_cmp_Compare_string_, q85), (f_slices_Compare_L_string_string_, qhu), (f_val_Names, q9f), (f_val_Parts, q9e), (f_slices_CompareFunc_L_api_Val_L_api_Val_api_Val_api_Val_, (ctrCF f))]) 0 hD (q0e (q0c qc3 (q0c qev (q0c qc4 (q0c qm7 (q0c qgp (q0c qgo (q0c (qnr f) q0d)))))))) hmix (by decide) ?_
    try simp only [F_all]
    simp (maxSteps := 400000) only [↓preZ, postZ, coreZ, ↓preU, postU, D_all, F_all, unR, outL, onePV, binS, ↓binS, q03, ↓q03, q01, ↓q01, boxR, q0b, newObj, q05, q00, q06, q09, q0a, St.freeze, q02, q07, q04, BEq.rfl, reduceIte, reduceCtorEq, Nat.reduceLT, Nat.reduceAdd, Nat.reduceSub, Nat.reduceMul, Nat.reduceBEq, Nat.reduceLeDiff, Int.reduceToNat, Int.reduceLE, qa9, ↓q84, ↓q7k, ↓q85, ↓qhu, ↓q9f, ↓q9e, ↓ctrCF]
    have e1 : okN n := ha.all n (List.mem_cons_self ..)
    have e2 : okN m := hb.all m (List.mem_cons_self ..)
    have l1 : r.length ≤ 1099511627775 := by have := ha.len; simp only [List.length_cons] at this; omega
    have l2 : q.length ≤ 1099511627775 := by have := hb.len; simp only [List.length_cons] at this; omega
    have l3 : (q1c (n :: r)).length ≤ 9223372036854775807 := by have := hpa.1; omega
    have l4 : (q1o (n :: r)).length ≤ 9223372036854775807 := by have := hpa.2.1; omega
    have l5 : (q1o (m :: q)).length ≤ 9223372036854775807 := by have := hpb.2.1; omega
    refine ⟨fun hk => ?_, fun hk => ?_⟩
    · have hk : n.kind = m.kind := (cmpI_ordr.zero _ _ trivial trivial).1 hk
      have k0 : ¬ (n.kind ≠ m.kind) := fun h => h hk
      refine ⟨fun h3 => ⟨e1, e2, ?_⟩, fun h3 => ⟨fun h4 => ?_, fun h4 => ⟨fun h6 => ⟨l1, ha.one, l2, hb.one, l4, l5, fun hl => ⟨l1, ha.one, l2, hb.one, l3, ih, ?_⟩, fun hl => ?_⟩, fun h6 => ⟨fun h5 => ⟨l1, ha.one, l2, hb.one, l3, ih, ?_⟩, fun h5 => ?_⟩⟩⟩⟩
      · simp only [cmpV, cmpW, if_neg k0, if_pos h3]
      · simp only [cmpV, cmpW, if_neg k0, if_neg h3, if_pos h4]
      · have h5 : ¬ n.kind = 5 := by omega
        have h6' : m.kind = 6 := by omega
        simp only [q1o, if_pos h6, if_pos h6'] at hl
        simp only [cmpV, cmpW, if_neg k0, if_neg h3, if_neg h4, if_neg h5, if_pos h6, if_pos hl, q1c]
      · have h5 : ¬ n.kind = 5 := by omega
        have h6' : m.kind = 6 := by omega
        simp only [q1o, if_pos h6, if_pos h6'] at hl ⊢
        simp only [cmpV, cmpW, if_neg k0, if_neg h3, if_neg h4, if_neg h5, if_pos h6, if_neg hl]
      · simp only [cmpV, cmpW, if_neg k0, if_neg h3, if_neg h4, if_pos h5, q1c]
      · simp only [cmpV, cmpW, if_neg k0, if_neg h3, if_neg h4, if_neg h5, if_neg h6]
    · have hk' : n.kind ≠ m.kind := fun h => hk ((cmpI_ordr.zero _ _ trivial trivial).2 h)
      simp only [cmpV, cmpW, if_pos hk']
def q7m (f : Nat) : Ctr := fun args objs K => match args with
  | [a0, a1] => ofE encV a0 (HK.mk : HK fun a => ofE encV a1 (HK.mk : HK fun b => (a.length ≤ f) ∧ (Ok a) ∧ (Ok b) ∧ K (.int .i64 (cmpV f a b)) objs 0))
  | _ => False
theorem qew (f : Nat) : CtrOk Tryz.prog f_order_Cmp (q7m f) := by
  intro args objs K h
  unfold q7m at h
  split at h
  · rename_i a0 a1
    obtain ⟨a, rfl, b, rfl, h1, h2, h3, hk⟩ := h
    exact ⟨_, _, _, .pure _ rfl (q7l f a b h1 h2 h3), hk⟩
  · exact h.elim
end Lp

/-! LpH20 -/

namespace Lp
open Go Go.Proofs
set_option maxHeartbeats 4000000
set_option maxRecDepth 20000
set_option linter.unusedSimpArgs false
def signI (a b : Bool) : Int := if b then 0 else if a then -1 else 1
theorem qm8 (a b : Bool) : FnSpec Tryz.prog f_louperef05_sign [.bool a, .bool b] [] (.int .i64 (signI a b)) [] := by
  refine k_louperef05_sign.pureG (T := tabL Tryz.prog []) 0 hD (q0e q0d) hmix (by decide) fun Q hQ => ?_
  try simp only [F_all]
  cases a <;> cases b
  all_goals simp (maxSteps := 400000) only [↓preZ, postZ, coreZ, ↓preU, postU, D_all, F_all, unR, outL, onePV, binS, ↓binS, q03, ↓q03, q01, ↓q01, boxR, q0b, newObj, q05, q00, q06, q09, q0a, St.freeze, q02, q07, q04, BEq.rfl, reduceIte, reduceCtorEq, Nat.reduceLT, Nat.reduceAdd, Nat.reduceSub, Nat.reduceMul, Nat.reduceBEq, Nat.reduceLeDiff, Int.reduceToNat, Int.reduceLE, hQ, q4f, signI]
def q1p : Ctr := fun args objs K => match args with
  | [.bool a, .bool b] => K (.int .i64 (signI a b)) objs 0
  | _ => False
theorem q86 : CtrOk Tryz.prog f_louperef05_sign (q1p) := by
  intro args objs K h
  unfold q1p at h
  split at h
  · rename_i a b
    have hk := h
    exact ⟨_, _, _, .pure _ rfl (qm8 a b), hk⟩
  · exact h.elim
theorem qex {α : Type} (f : α → α → Int) (a b : List α) (h : a = [] ∨ b = []) : lexBy f a b = signI (decide ((a.length : Int) < b.length)) (decide ((a.length : Int) = b.length)) := by
  rcases h with rfl | rfl
  · cases b with
    | nil => rfl
    | cons y ys =>
      have h1 : decide ((([] : List α).length : Int) < ((y :: ys).length : Int)) = true := by simp <;> omega
      have h2 : decide ((([] : List α).length : Int) = ((y :: ys).length : Int)) = false := by simp <;> omega
      rw [h1, h2]; rfl
  · cases a with
    | nil => rfl
    | cons y ys =>
      have h1 : decide (((y :: ys).length : Int) < (([] : List α).length : Int)) = false := by simp <;> omega
      have h2 : decide (((y :: ys).length : Int) = (([] : List α).length : Int)) = false := by simp <;> omega
      rw [h1, h2]; rfl
theorem qd6 (a b : List (List UInt8)) (ha : a.length ≤ 1000000) (hb : b.length ≤ 1000000) : FnSpec Tryz.prog f_louperef05_names [encT a, encT b] [] (.int .i64 (lexBy cmpS a b)) [] := by
  refine k_louperef05_names.pureG (T := tabL Tryz.prog [(f_louperef05_sign, q1p)]) 0 hD (q0e (q0c q86 q0d)) hmix (by decide) fun Q hQ => ?_
  try simp only [F_all]
  simp (maxSteps := 400000) only [↓preZ, postZ, coreZ, ↓preU, postU, D_all, F_all, unR, outL, onePV, binS, ↓binS, q03, ↓q03, q01, ↓q01, boxR, q0b, newObj, q05, q00, q06, q09, q0a, St.freeze, q02, q07, q04, BEq.rfl, reduceIte, reduceCtorEq, Nat.reduceLT, Nat.reduceAdd, Nat.reduceSub, Nat.reduceMul, Nat.reduceBEq, Nat.reduceLeDiff, Int.reduceToNat, Int.reduceLE, hQ, q3w]
  refine q0q (fun m S => ∃ i : Nat, i + m = a.length ∧ i ≤ b.length ∧ lexBy cmpS (a.drop i) (b.drop i) = lexBy cmpS a b ∧ S = ⟨tmA 48 [(0, encT a), (1, encT b), (5, .int .i64 i)], []⟩) a.length ⟨0, by omega, by omega, rfl, ?_⟩ ?_
  · simp only [normR, keepR, Nat.reduceAdd, lkR, Nat.reduceBEq, F_all, List.map_nil]
    rfl
  rintro m S ⟨i, him, hib, hlx, rfl⟩
  have zi : (0 ≤ (i : Int)) = True := eq_true (by omega)
  have fin : a.length ≤ i ∨ b.length ≤ i → lexBy cmpS a b = signI (decide ((a.length : Int) < b.length)) (decide ((a.length : Int) = b.length)) := by
    intro h
    rw [← hlx, qex]
    · simp only [List.length_drop]
      congr 1
      · exact decide_eq_decide.2 (by omega)
      · exact decide_eq_decide.2 (by omega)
    · rcases h with h | h
      · exact .inl (List.drop_eq_nil_of_le h)
      · exact .inr (List.drop_eq_nil_of_le h)
  rcases Nat.lt_or_ge i a.length with h | h
  rotate_left 1
  · have hlt : ((i : Int) < (a.length : Int)) = False := eq_false (by omega)
    simp (maxSteps := 400000) only [↓preZ, postZ, coreZ, ↓preU, postU, D_all, F_all, unR, outL, onePV, binS, ↓binS, q03, ↓q03, q01, ↓q01, boxR, q0b, newObj, q05, q00, q06, q09, q0a, St.freeze, q02, q07, q04, BEq.rfl, reduceIte, reduceCtorEq, Nat.reduceLT, Nat.reduceAdd, Nat.reduceSub, Nat.reduceMul, Nat.reduceBEq, Nat.reduceLeDiff, Int.reduceToNat, Int.reduceLE, hQ, hlt, ↓q1p]
    rw [fin (.inl h)]
  have hlt : ((i : Int) < (a.length : Int)) = True := eq_true (by omega)
  rcases Nat.lt_or_ge i b.length with h' | h'
  rotate_left 1
  · have hlt2 : ((i : Int) < (b.length : Int)) = False := eq_false (by omega)
    simp (maxSteps := 400000) only [↓preZ, postZ, coreZ, ↓preU, postU, D_all, F_all, unR, outL, onePV, binS, ↓binS, q03, ↓q03, q01, ↓q01, boxR, q0b, newObj, q05, q00, q06, q09, q0a, St.freeze, q02, q07, q04, BEq.rfl, reduceIte, reduceCtorEq, Nat.reduceLT, Nat.reduceAdd, Nat.reduceSub, Nat.reduceMul, Nat.reduceBEq, Nat.reduceLeDiff, Int.reduceToNat, Int.reduceLE, hQ, hlt, hlt2, ↓q1p]
    rw [fin (.inr h')]
  have hlt2 : ((i : Int) < (b.length : Int)) = True := eq_true (by omega)
  have ga := List.getElem?_eq_getElem h
  have gb := List.getElem?_eq_getElem h'
  have da := List.drop_eq_getElem_cons h
  have db := List.drop_eq_getElem_cons h'
  generalize a[i] = x at ga da
  generalize b[i] = y at gb db
  rw [da, db, lexBy] at hlx
  by_cases hxy : x = y
  · subst hxy
    rw [if_pos ((cmpS_ordr.zero _ _ trivial trivial).2 rfl)] at hlx
    simp (maxSteps := 400000) only [↓preZ, postZ, coreZ, ↓preU, postU, D_all, F_all, unR, outL, onePV, binS, ↓binS, q03, ↓q03, q01, ↓q01, boxR, q0b, newObj, q05, q00, q06, q09, q0a, St.freeze, q02, q07, q04, BEq.rfl, reduceIte, reduceCtorEq, Nat.reduceLT, Nat.reduceAdd, Nat.reduceSub, Nat.reduceMul, Nat.reduceBEq, Nat.reduceLeDiff, Int.reduceToNat, Int.reduceLE, hQ, hlt, hlt2, zi, ga, gb, ↓q1p]
    exact ⟨⟨by omega, by omega⟩, m - 1, by omega, i + 1, by omega, by omega, hlx, by simp⟩
  · have hne : cmpS x y ≠ 0 := fun h => hxy ((cmpS_ordr.zero _ _ trivial trivial).1 h)
    rw [if_neg hne] at hlx
    simp (maxSteps := 400000) only [↓preZ, postZ, coreZ, ↓preU, postU, D_all, F_all, unR, outL, onePV, binS, ↓binS, q03, ↓q03, q01, ↓q01, boxR, q0b, newObj, q05, q00, q06, q09, q0a, St.freeze, q02, q07, q04, BEq.rfl, reduceIte, reduceCtorEq, Nat.reduceLT, Nat.reduceAdd, Nat.reduceSub, Nat.reduceMul, Nat.reduceBEq, Nat.reduceLeDiff, Int.reduceToNat, Int.reduceLE, hQ, hlt, hlt2, zi, ga, gb, hxy, ↓q1p]
    rw [← hlx]
    rcases q24 x y with ⟨h1, e1⟩ | ⟨h1, _⟩ | ⟨h1, e1⟩
    · rw [e1, h1]; rfl
    · exact absurd h1 hxy
    · rw [e1, q3o _ _ h1]; rfl
def q4w : Ctr := fun args objs K => match args with
  | [a0, a1] => ofE encT a0 (HK.mk : HK fun a => ofE encT a1 (HK.mk : HK fun b => (a.length ≤ 1000000) ∧ (b.length ≤ 1000000) ∧ K (.int .i64 (lexBy cmpS a b)) objs 0))
  | _ => False
theorem qbf : CtrOk Tryz.prog f_louperef05_names (q4w) := by
  intro args objs K h
  unfold q4w at h
  split at h
  · rename_i a0 a1
    obtain ⟨a, rfl, b, rfl, h1, h2, hk⟩ := h
    exact ⟨_, _, _, .pure _ rfl (qd6 a b h1 h2), hk⟩
  · exact h.elim
def qar (f : Vl → Vl → Int) : Ctr := fun args objs K => match args with
  | [a0, a1] => ofE encV a0 (HK.mk : HK fun p => ofE encV a1 (HK.mk : HK fun q => (FnSpec Tryz.prog f_louperef05_Cmp [encV p, encV q] [] (.int .i64 (f p q)) []) ∧ K (.int .i64 (f p q)) objs 0))
  | _ => False
theorem qj3 (f : Vl → Vl → Int) : CtrOk Tryz.prog f_louperef05_Cmp (qar f) := by
  intro args objs K h
  unfold qar at h
  split at h
  · rename_i a0 a1
    obtain ⟨p, rfl, q, rfl, h1, hk⟩ := h
    exact ⟨_, _, _, .pure _ rfl (h1), hk⟩
  · exact h.elim
theorem qey (f : Vl → Vl → Int) (a b : List Vl) (ha : a.length ≤ 1000000) (hb : b.length ≤ 1000000) (hf : ∀ p ∈ a, ∀ q ∈ b, FnSpec Tryz.prog f_louperef05_Cmp [encV p, encV q] [] (.int .i64 (f p q)) []) : FnSpec Tryz.prog f_louperef05_rows [encL a, encL b] [] (.int .i64 (lexBy f a b)) [] := by
  refine k_louperef05_rows.pureG (T := tabL Tryz.prog [(f_louperef05_Cmp, (qar f)), (f_louperef05_sign, q1p)]) 0 hD (q0e (q0c (qj3 f) (q0c q86 q0d))) hmix (by decide) fun Q hQ => ?_
  try simp only [F_all]
  simp (maxSteps := 400000) only [↓preZ, postZ, coreZ, ↓preU, postU, D_all, F_all, unR, outL, onePV, binS, ↓binS, q03, ↓q03, q01, ↓q01, boxR, q0b, newObj, q05, q00, q06, q09, q0a, St.freeze, q02, q07, q04, BEq.rfl, reduceIte, reduceCtorEq, Nat.reduceLT, Nat.reduceAdd, Nat.reduceSub, Nat.reduceMul, Nat.reduceBEq, Nat.reduceLeDiff, Int.reduceToNat, Int.reduceLE, hQ, q4g]
  refine q0q (fun m S => ∃ i : Nat, i + m = a.length ∧ i ≤ b.length ∧ lexBy f (a.drop i) (b.drop i) = lexBy f a b ∧ S = ⟨tmA 42 [(0, encL a), (1, encL b), (5, .int .i64 i)], []⟩) a.length ⟨0, by omega, by omega, rfl, ?_⟩ ?_
  · simp only [normR, keepR, Nat.reduceAdd, lkR, Nat.reduceBEq, F_all, List.map_nil]
    rfl
  rintro m S ⟨i, him, hib, hlx, rfl⟩
  have zi : (0 ≤ (i : Int)) = True := eq_true (by omega)
  have fin : a.length ≤ i ∨ b.length ≤ i → lexBy f a b = signI (decide ((a.length : Int) < b.length)) (decide ((a.length : Int) = b.length)) := by
    intro h
    rw [← hlx, qex]
    · simp only [List.length_drop]
      congr 1
      · exact decide_eq_decide.2 (by omega)
      · exact decide_eq_decide.2 (by omega)
    · rcases h with h | h
      · exact .inl (List.drop_eq_nil_of_le h)
      · exact .inr (List.drop_eq_nil_of_le h)
  rcases Nat.lt_or_ge i a.length with h | h
  rotate_left 1
  · have hlt : ((i : Int) < (a.length : Int)) = False := eq_false (by omega)
    simp (maxSteps := 400000) only [↓preZ, postZ, coreZ, ↓preU, postU, D_all, F_all, unR, outL, onePV, binS, ↓binS, q03, ↓q03, q01, ↓q01, boxR, q0b, newObj, q05, q00, q06, q09, q0a, St.freeze, q02, q07, q04, BEq.rfl, reduceIte, reduceCtorEq, Nat.reduceLT, Nat.reduceAdd, Nat.reduceSub, Nat.reduceMul, Nat.reduceBEq, Nat.reduceLeDiff, Int.reduceToNat, Int.reduceLE, hQ, hlt, ↓q1p]
    rw [fin (.inl h)]
  have hlt : ((i : Int) < (a.length : Int)) = True := eq_true (by omega)
  rcases Nat.lt_or_ge i b.length with h' | h'
  rotate_left 1
  · have hlt2 : ((i : Int) < (b.length : Int)) = False := eq_false (by omega)
    simp (maxSteps := 400000) only [↓preZ, postZ, coreZ, ↓preU, postU, D_all, F_all, unR, outL, onePV, binS, ↓binS, q03, ↓q03, q01, ↓q01, boxR, q0b, newObj, q05, q00, q06, q09, q0a, St.freeze, q02, q07, q04, BEq.rfl, reduceIte, reduceCtorEq, Nat.reduceLT, Nat.reduceAdd, Nat.reduceSub, Nat.reduceMul, Nat.reduceBEq, Nat.reduceLeDiff, Int.reduceToNat, Int.reduceLE, hQ, hlt, hlt2, ↓q1p]
    rw [fin (.inr h')]
  have hlt2 : ((i : Int) < (b.length : Int)) = True := eq_true (by omega)
  have ga := List.getElem?_eq_getElem h
  have gb := List.getElem?_eq_getElem h'
  have da := List.drop_eq_getElem_cons h
  have db := List.drop_eq_getElem_cons h'
  have hfx := hf _ (List.getElem_mem h) _ (List.getElem_mem h')
  generalize a[i] = x at ga da hfx
  generalize b[i] = y at gb db hfx
  rw [da, db, lexBy] at hlx
  by_cases hxy : f x y = 0
  · rw [if_pos hxy] at hlx
    simp (maxSteps := 400000) only [↓preZ, postZ, coreZ, ↓preU, postU, D_all, F_all, unR, outL, onePV, binS, ↓binS, q03, ↓q03, q01, ↓q01, boxR, q0b, newObj, q05, q00, q06, q09, q0a, St.freeze, q02, q07, q04, BEq.rfl, reduceIte, reduceCtorEq, Nat.reduceLT, Nat.reduceAdd, Nat.reduceSub, Nat.reduceMul, Nat.reduceBEq, Nat.reduceLeDiff, Int.reduceToNat, Int.reduceLE, hQ, hlt, hlt2, zi, ga, gb, hxy, ↓q1p, ↓qar]
    exact ⟨by rw [← hxy]; exact hfx, ⟨by omega, by omega⟩, m - 1, by omega, i + 1, by omega, by omega, hlx, by simp⟩
  · rw [if_neg hxy] at hlx
    simp (maxSteps := 400000) only [↓preZ, postZ, coreZ, ↓preU, postU, D_all, F_all, unR, outL, onePV, binS, ↓binS, q03, ↓q03, q01, ↓q01, boxR, q0b, newObj, q05, q00, q06, q09, q0a, St.freeze, q02, q07, q04, BEq.rfl, reduceIte, reduceCtorEq, Nat.reduceLT, Nat.reduceAdd, Nat.reduceSub, Nat.reduceMul, Nat.reduceBEq, Nat.reduceLeDiff, Int.reduceToNat, Int.reduceLE, hQ, hlt, hlt2, zi, ga, gb, hxy, ↓q1p, ↓qar]
    exact ⟨hfx, by rw [hlx]⟩
end Lp

/-! LpH21 -/

namespace Lp
open Go Go.Proofs
set_option maxHeartbeats 4000000
set_option maxRecDepth 20000
set_option linter.unusedSimpArgs false
structure Ok2 (v : Vl) : Prop where
  one : One v
  len : v.length ≤ 1000000
  all : ∀ n ∈ v, n.kind = 3 → NumOk n
theorem Ok2.parts {v : Vl} (h : Ok2 v) : (q1c v).length ≤ 1000000 ∧ (q1o v).length ≤ 1000000 ∧ ∀ p ∈ q1c v, Ok2 p ∧ p.length + 1 ≤ v.length := by
  cases v with
  | nil => exact absurd rfl h.one.ne
  | cons n r =>
    obtain ⟨hm, ps, h1, h2, h3⟩ := h.one.parts
    have hpl := q2n _ _ _ h1
    have hpn := q1t _ _ _ h1
    have hlen := h.len
    simp only [List.length_cons] at hlen
    refine ⟨?_, ?_, ?_⟩
    · rw [q1c, (q1j h1).1, List.length_map]; omega
    · rw [q1o]; split
      · rw [(q1j h1).2, List.length_map]; omega
      · simp
    · intro p hp
      rw [q1c, (q1j h1).1] at hp
      obtain ⟨q, hq, rfl⟩ := List.mem_map.1 hp
      have hql := q38 hq
      rw [h2] at hql
      refine ⟨⟨(h3 q hq).clr, by rw [q35]; omega, ?_⟩, by rw [q35, List.length_cons]; omega⟩
      have hin : ∀ x ∈ q, x.kind = 3 → NumOk x := fun x hx => h.all x (List.mem_cons_of_mem _ (by rw [← h2]; exact List.mem_flatten.2 ⟨q, hq, hx⟩))
      intro x hx
      cases q with
      | nil => cases hx
      | cons m s =>
        rcases List.mem_cons.1 hx with rfl | hx
        · intro hk
          have := hin m (List.mem_cons_self ..) hk
          exact ⟨this.len, this.figs, this.lo, this.hi⟩
        · exact hin x (List.mem_cons_of_mem _ hx)
def qas (f : Vl → Vl → Int) : Ctr := fun args objs K => match args with
  | [a0, a1] => ofE encL a0 (HK.mk : HK fun x => ofE encL a1 (HK.mk : HK fun y => (x.length ≤ 1000000) ∧ (y.length ≤ 1000000) ∧ (∀ p ∈ x, ∀ q ∈ y, FnSpec Tryz.prog f_louperef05_Cmp [encV p, encV q] [] (.int .i64 (f p q)) []) ∧ K (.int .i64 (lexBy f x y)) objs 0))
  | _ => False
theorem qj4 (f : Vl → Vl → Int) : CtrOk Tryz.prog f_louperef05_rows (qas f) := by
  intro args objs K h
  unfold qas at h
  split at h
  · rename_i a0 a1
    obtain ⟨x, rfl, y, rfl, h1, h2, h3, hk⟩ := h
    exact ⟨_, _, _, .pure _ rfl (qey f x y h1 h2 h3), hk⟩
  · exact h.elim
theorem qc5 {a b a' b' : Nd} (h1 : ∀ p, atN a p = atN a' p) (h2 : ∀ p, atN b p = atN b' p) : ∀ (k : Nat) (p : Int), digs a b k p = digs a' b' k p
  | 0, _ => rfl
  | k + 1, p => by simp only [digs, h1, h2, qc5 h1 h2 k]
theorem qj5 (n m : Nd) (k l : Int) (x y : List UInt8) : refN { n with kind := k, name := x } { m with kind := l, name := y } = refN n m := by
  have hd : ∀ (j : Nat) (p : Int), digs { n with kind := k, name := x } { m with kind := l, name := y } j p = digs n m j p := qc5 (fun _ => rfl) (fun _ => rfl)
  simp only [refN, hd]
  rfl
theorem q8r : ∀ (f : Nat) (a b : Vl), a.length ≤ f → Ok2 a → Ok2 b → FnSpec Tryz.prog f_louperef05_Cmp [encV a, encV b] [] (.int .i64 (cmpW refN f a b)) []
  | 0, a, b, h, ha, _ => by have := ha.one.ne; cases a <;> simp at h this
  | f + 1, [], b, _, ha, _ => absurd rfl ha.one.ne
  | f + 1, n :: r, [], _, _, hb => absurd rfl hb.one.ne
  | f + 1, n :: r, m :: q, h, ha, hb => by
    have hpa := ha.parts
    have hpb := hb.parts
    have ih : ∀ p ∈ q1c (n :: r), ∀ p' ∈ q1c (m :: q), FnSpec Tryz.prog f_louperef05_Cmp [encV p, encV p'] [] (.int .i64 (cmpW refN f p p')) [] :=
      fun p hp p' hp' => q8r f p p' (by have := (hpa.2.2 p hp).2; omega) (hpa.2.2 p hp).1 (hpb.2.2 p' hp').1
    have l1 := ha.len
    have l2 := hb.len
    have o1 := ha.one
    have o2 := hb.one
    generalize hA : n :: r = A at *
    generalize hB : m :: q = B at *
    have ga : A[0]? = some n := by rw [← hA]; rfl
    have gb : B[0]? = some m := by rw [← hB]; rfl
    have na := ha.all n (by rw [← hA]; exact List.mem_cons_self ..)
    have nb := hb.all m (by rw [← hB]; exact List.mem_cons_self ..)
    have pA : q1c A = q2b n r := by rw [← hA]; rfl
    have pB : q1c B = q2b m q := by rw [← hB]; rfl
    have sA : q1o A = if n.kind = 6 then q6t n r else [] := by rw [← hA]; rfl
    have sB : q1o B = if m.kind = 6 then q6t m q else [] := by rw [← hB]; rfl
    have res : cmpW refN (f + 1) A B = cmpW refN (f + 1) (n :: r) (m :: q) := by rw [hA, hB]
    refine k_louperef05_Cmp.pureG (T := tabL Tryz.prog [(f_louperef05_sign, q1p), (f_louperef01_Cmp, q7i), (f_louperef02_Parts, q3k), (f_louperef02_Names, q33), (f_louperef05_names, q4w), (f_louperef05_rows, (qas (cmpW refN f)))]) 0 hD (q0e (q0c q86 (q0c qeu (q0c qbc (q0c q91 (q0c qbf (q0c (qj4 (cmpW refN f)) q0d))))))) hmix (by decide) fun Q hQ => ?_
    try simp only [F_all]
    by_cases hk : n.kind = m.kind
    rotate_left 1
    · simp (maxSteps := 400000) only [↓preZ, postZ, coreZ, ↓preU, postU, D_all, F_all, unR, outL, onePV, binS, ↓binS, q03, ↓q03, q01, ↓q01, boxR, q0b, newObj, q05, q00, q06, q09, q0a, St.freeze, q02, q07, q04, BEq.rfl, reduceIte, reduceCtorEq, Nat.reduceLT, Nat.reduceAdd, Nat.reduceSub, Nat.reduceMul, Nat.reduceBEq, Nat.reduceLeDiff, Int.reduceToNat, Int.reduceLE, hQ, q15, ga, gb, hk, ↓q1p]
      have : cmpW refN (f + 1) A B = signI (decide (n.kind < m.kind)) false := by
        rw [res]
        simp only [cmpW, ne_eq, hk, not_false_eq_true, if_true, cmpI, signI, decide_eq_true_eq, Bool.false_eq_true, if_false]
        split
        · rfl
        · rw [if_pos (by omega)]
      rw [this]
    by_cases h3 : n.kind = 3
    · have h3' : m.kind = 3 := by omega
      have e3 : cmpW refN (f + 1) A B = refN n m := by
        rw [res]; simp [cmpW, hk, h3']
      simp (maxSteps := 400000) only [↓preZ, postZ, coreZ, ↓preU, postU, D_all, F_all, unR, outL, onePV, binS, ↓binS, q03, ↓q03, q01, ↓q01, boxR, q0b, newObj, q05, q00, q06, q09, q0a, St.freeze, q02, q07, q04, BEq.rfl, reduceIte, reduceCtorEq, Nat.reduceLT, Nat.reduceAdd, Nat.reduceSub, Nat.reduceMul, Nat.reduceBEq, Nat.reduceLeDiff, Int.reduceToNat, Int.reduceLE, hQ, q15, ga, gb, h3, h3', ↓q1p, ↓q7i, Int.reduceEq, nodeZ, nodeW]
    
      refine ⟨by decide, ?_, ?_, ?_⟩
      · have := na h3; exact ⟨this.len, this.figs, this.lo, this.hi⟩
      · have := nb h3'; exact ⟨this.len, this.figs, this.lo, this.hi⟩
      · rw [e3]; exact congrArg _ (qj5 n m 3 3 [] []).symm
    by_cases h4 : n.kind = 4
    · have h4' : m.kind = 4 := by omega
      simp (maxSteps := 400000) only [↓preZ, postZ, coreZ, ↓preU, postU, D_all, F_all, unR, outL, onePV, binS, ↓binS, q03, ↓q03, q01, ↓q01, boxR, q0b, newObj, q05, q00, q06, q09, q0a, St.freeze, q02, q07, q04, BEq.rfl, reduceIte, reduceCtorEq, Nat.reduceLT, Nat.reduceAdd, Nat.reduceSub, Nat.reduceMul, Nat.reduceBEq, Nat.reduceLeDiff, Int.reduceToNat, Int.reduceLE, hQ, q15, ga, gb, h4, h4', ↓q1p, Int.reduceEq]
      have e4 : cmpW refN (f + 1) A B = cmpS n.s m.s := by
        rw [res]; simp [cmpW, hk, h4']
      rw [e4]
      rcases q24 n.s m.s with ⟨g1, e1⟩ | ⟨g1, e1⟩ | ⟨g1, e1⟩
      · have : n.s ≠ m.s := fun hh => by rw [hh, q1d] at g1; cases g1
        rw [e1, g1, decide_eq_false this]; rfl
      · rw [e1, decide_eq_true g1]; rfl
      · have : n.s ≠ m.s := fun hh => by rw [hh, q1d] at g1; cases g1
        rw [e1, decide_eq_false this, q3o _ _ g1]; rfl
    by_cases h5 : n.kind = 5
    · have h5' : m.kind = 5 := by omega
      simp (maxSteps := 400000) only [↓preZ, postZ, coreZ, ↓preU, postU, D_all, F_all, unR, outL, onePV, binS, ↓binS, q03, ↓q03, q01, ↓q01, boxR, q0b, newObj, q05, q00, q06, q09, q0a, St.freeze, q02, q07, q04, BEq.rfl, reduceIte, reduceCtorEq, Nat.reduceLT, Nat.reduceAdd, Nat.reduceSub, Nat.reduceMul, Nat.reduceBEq, Nat.reduceLeDiff, Int.reduceToNat, Int.reduceLE, hQ, q15, ga, gb, h5, h5', ↓q1p, Int.reduceEq, ↓q3k, ↓qas]
      have e5 : cmpW refN (f + 1) A B = lexBy (cmpW refN f) (q1c A) (q1c B) := by
        rw [res, pA, pB]; simp [cmpW, hk, h5']
      exact ⟨o1, l1, o2, l2, hpa.1, hpb.1, ih, by rw [e5]⟩
    by_cases h6 : n.kind = 6
    · have h6' : m.kind = 6 := by omega
      simp (maxSteps := 400000) only [↓preZ, postZ, coreZ, ↓preU, postU, D_all, F_all, unR, outL, onePV, binS, ↓binS, q03, ↓q03, q01, ↓q01, boxR, q0b, newObj, q05, q00, q06, q09, q0a, St.freeze, q02, q07, q04, BEq.rfl, reduceIte, reduceCtorEq, Nat.reduceLT, Nat.reduceAdd, Nat.reduceSub, Nat.reduceMul, Nat.reduceBEq, Nat.reduceLeDiff, Int.reduceToNat, Int.reduceLE, hQ, q15, ga, gb, h6, h6', ↓q1p, Int.reduceEq, ↓q3k, ↓qas, ↓q33, ↓q4w]
      have e6 : cmpW refN (f + 1) A B = if lexBy cmpS (q1o A) (q1o B) = 0 then lexBy (cmpW refN f) (q1c A) (q1c B) else lexBy cmpS (q1o A) (q1o B) := by
        rw [res, pA, pB, sA, sB, if_pos h6, if_pos h6']; simp [cmpW, hk, h6']
      refine ⟨o1, l1, o2, l2, hpa.2.1, hpb.2.1, fun hz => ⟨o1, l1, o2, l2, hpa.1, hpb.1, ih, ?_⟩, fun hz => ?_⟩
      · rw [e6, if_pos hz]
      · rw [e6, if_neg hz]
    · have e0 : cmpW refN (f + 1) A B = 0 := by
        rw [res]; simp only [cmpW, hk, ne_eq, not_true_eq_false, if_false, hk ▸ h3, hk ▸ h4, hk ▸ h5, hk ▸ h6]
      simp (maxSteps := 400000) only [↓preZ, postZ, coreZ, ↓preU, postU, D_all, F_all, unR, outL, onePV, binS, ↓binS, q03, ↓q03, q01, ↓q01, boxR, q0b, newObj, q05, q00, q06, q09, q0a, St.freeze, q02, q07, q04, BEq.rfl, reduceIte, reduceCtorEq, Nat.reduceLT, Nat.reduceAdd, Nat.reduceSub, Nat.reduceMul, Nat.reduceBEq, Nat.reduceLeDiff, Int.reduceToNat, Int.reduceLE, hQ, q15, ga, gb, hk ▸ h3, hk ▸ h4, hk ▸ h5, hk ▸ h6, hk, ↓q1p, e0]
def qd7 (f : Nat) : Ctr := fun args objs K => match args with
  | [a0, a1] => ofE encV a0 (HK.mk : HK fun a => ofE encV a1 (HK.mk : HK fun b => (a.length ≤ f) ∧ (Ok2 a) ∧ (Ok2 b) ∧ K (.int .i64 (cmpW refN f a b)) objs 0))
  | _ => False
theorem qj6 (f : Nat) : CtrOk Tryz.prog f_louperef05_Cmp (qd7 f) := by
  intro args objs K h
  unfold qd7 at h
  split at h
  · rename_i a0 a1
    obtain ⟨a, rfl, b, rfl, h1, h2, h3, hk⟩ := h
    exact ⟨_, _, _, .pure _ rfl (q8r f a b h1 h2 h3), hk⟩
  · exact h.elim
end Lp

/-! LpH24 -/

namespace Lp
open Go
theorem qez {v : Vl} (h : q12 v = true) : ∀ n ∈ v, q0n n = true := by
  have hg := (q6w h).good
  intro n hn
  obtain ⟨i, hi, rfl⟩ := List.getElem_of_mem hn
  exact (hg i v[i] (v.drop (i + 1)) (List.drop_eq_getElem_cons hi)).1
theorem q4m {n : Nd} (h : q0n n = true) (hk : n.kind = 3) : numB n = true := by
  rw [q0n, if_neg (by omega), if_pos hk] at h
  exact h
theorem qm9 {n : Nd} (h : numB n = true) : NumOk n := by
  have := (q43 n).1 h
  exact ⟨by omega, this.2.1, by omega, by omega⟩
theorem qma {n : Nd} (h : q0n n = true) (hs : n.s.length ≤ 1000000) : okN n := by
  refine ⟨hs, ?_⟩
  by_cases h3 : n.kind = 3
  · have := qm9 (q4m h h3)
    exact ⟨this.lo, this.hi⟩
  · have he : n.e = 0 := by
      unfold q0n at h
      split at h
      · simp only [Bool.and_eq_true, beq_iff_eq] at h; exact h.2
      · split at h
        · simp only [Bool.and_eq_true, beq_iff_eq] at h; exact h.2
        · split at h
          · simp only [Bool.and_eq_true, beq_iff_eq] at h; exact h.2
          · cases h
    omega
structure FewOk (v : Vl) (k : Nat) : Prop where
  len : v.length ≤ k
  rt : Rt v
  ok : Ok v
  ok2 : Ok2 v
end Lp

/-! LpHN1 -/

namespace Lp
open Go
def padC : List UInt8 → List UInt8 → Int
  | [], [] => 0
  | [], y :: ys => if 48 < y.toNat then -1 else padC [] ys
  | x :: xs, [] => if 48 < x.toNat then 1 else padC xs []
  | x :: xs, y :: ys => if x.toNat < y.toNat then -1 else if y.toNat < x.toNat then 1 else padC xs ys
theorem qhv {s : List UInt8} (h : figs s = true) : ∀ c ∈ s, 48 ≤ c.toNat ∧ c.toNat ≤ 57 := by
  intro c hc
  obtain ⟨i, hi, rfl⟩ := List.getElem_of_mem hc
  exact q4v h (List.getElem?_eq_getElem hi)
theorem qgq (n : Nd) (i : Nat) : atN n ((n.s.length : Int) + n.e - 1 - i) = match n.s[i]? with | some c => (c.toNat : Int) - 48 | none => 0 := by
  have e : (n.s.length : Int) - 1 - ((n.s.length : Int) + n.e - 1 - i - n.e) = i := by omega
  simp only [atN, e]
  rw [if_neg (by omega), Int.toNat_natCast]
  try rfl
theorem qhw (a b : Nd) (ha : figs a.s = true) (hb : figs b.s = true) (ht : (a.s.length : Int) + a.e = b.s.length + b.e) : ∀ (k i : Nat), a.s.length ≤ i + k → b.s.length ≤ i + k → digs a b k ((a.s.length : Int) + a.e - 1 - i) = padC (a.s.drop i) (b.s.drop i)
  | 0, i, h1, h2 => by
    rw [List.drop_eq_nil_of_le (by omega), List.drop_eq_nil_of_le (by omega)]
    simp only [digs, padC]
  | k + 1, i, h1, h2 => by
    have ih := qhw a b ha hb ht k (i + 1) (by omega) (by omega)
    have e : (a.s.length : Int) + a.e - 1 - ((i + 1 : Nat) : Int) = (a.s.length : Int) + a.e - 1 - i - 1 := by omega
    rw [e] at ih
    have fa := qgq a i
    have fb := qgq b i
    rw [← ht] at fb
    simp only [digs, ih]
    rcases Nat.lt_or_ge i a.s.length with la | la <;> rcases Nat.lt_or_ge i b.s.length with lb | lb
    · rw [List.getElem?_eq_getElem la] at fa
      rw [List.getElem?_eq_getElem lb] at fb
      simp only at fa fb
      rw [List.drop_eq_getElem_cons la, List.drop_eq_getElem_cons lb, padC, fa, fb]
      by_cases c1 : a.s[i].toNat < b.s[i].toNat
      · rw [if_pos (by omega), if_pos c1]
      · rw [if_neg (by omega), if_neg c1]
        by_cases c2 : b.s[i].toNat < a.s[i].toNat
        · rw [if_pos (by omega), if_pos c2]
        · rw [if_neg (by omega), if_neg c2]
    · rw [List.getElem?_eq_getElem la] at fa
      rw [List.getElem?_eq_none lb] at fb
      simp only at fa fb
      have := q4v ha (List.getElem?_eq_getElem la)
      rw [List.drop_eq_getElem_cons la, List.drop_eq_nil_of_le lb, List.drop_eq_nil_of_le (by omega : b.s.length ≤ i + 1), padC, fa, fb]
      by_cases c1 : 48 < a.s[i].toNat
      · rw [if_neg (by omega), if_pos (by omega), if_pos c1]
      · rw [if_neg (by omega), if_neg (by omega), if_neg c1]
    · rw [List.getElem?_eq_none la] at fa
      rw [List.getElem?_eq_getElem lb] at fb
      simp only at fa fb
      have := q4v hb (List.getElem?_eq_getElem lb)
      rw [List.drop_eq_getElem_cons lb, List.drop_eq_nil_of_le la, List.drop_eq_nil_of_le (by omega : a.s.length ≤ i + 1), padC, fa, fb]
      by_cases c1 : 48 < b.s[i].toNat
      · rw [if_pos (by omega), if_pos c1]
      · rw [if_neg (by omega), if_neg (by omega), if_neg c1]
    · rw [List.getElem?_eq_none la] at fa
      rw [List.getElem?_eq_none lb] at fb
      simp only at fa fb
      rw [List.drop_eq_nil_of_le la, List.drop_eq_nil_of_le lb, List.drop_eq_nil_of_le (by omega : a.s.length ≤ i + 1), List.drop_eq_nil_of_le (by omega : b.s.length ≤ i + 1), fa, fb]
      simp
theorem qd8 : ∀ ys : List UInt8, (∀ c ∈ ys, 48 ≤ c.toNat) → ys ≠ [] → ys.getLast? ≠ some 48 → padC [] ys = -1
  | [], _, h, _ => absurd rfl h
  | [y], hf, _, hl => by
    have h1 := hf y (List.mem_cons_self ..)
    have h2 : y.toNat ≠ 48 := fun h => hl (by rw [List.getLast?_singleton]; congr 1; exact UInt8.toNat_inj.1 (by simpa using h))
    rw [padC, if_pos (by omega)]
  | y :: z :: ys, hf, _, hl => by
    rw [padC]
    split
    · rfl
    · exact qd8 (z :: ys) (fun c hc => hf c (List.mem_cons_of_mem _ hc)) (by simp) (by rwa [List.getLast?_cons_cons] at hl)
theorem q7n : ∀ xs ys : List UInt8, padC ys xs = - padC xs ys
  | [], [] => by simp [padC]
  | [], y :: ys => by
    simp only [padC]; split
    · rfl
    · exact q7n [] ys
  | x :: xs, [] => by
    simp only [padC]; split
    · rfl
    · exact q7n xs []
  | x :: xs, y :: ys => by
    simp only [padC]
    have := q7n xs ys
    repeat' split
    all_goals omega
theorem qhx : ∀ xs ys : List UInt8, (∀ c ∈ xs, 48 ≤ c.toNat) → (∀ c ∈ ys, 48 ≤ c.toNat) → xs.getLast? ≠ some 48 → ys.getLast? ≠ some 48 → padC xs ys = cmpS xs ys
  | [], [], _, _, _, _ => by simp [padC, cmpS, Op.bytesLess]
  | [], y :: ys, _, hb, _, lb => by rw [qd8 (y :: ys) hb (by simp) lb]; rfl
  | x :: xs, [], ha, _, la, _ => by rw [q7n, qd8 (x :: xs) ha (by simp) la]; rfl
  | x :: xs, y :: ys, ha, hb, la, lb => by
    have hla : xs.getLast? ≠ some 48 := by
      cases xs with
      | nil => simp
      | cons z zs => rwa [List.getLast?_cons_cons] at la
    have hlb : ys.getLast? ≠ some 48 := by
      cases ys with
      | nil => simp
      | cons z zs => rwa [List.getLast?_cons_cons] at lb
    have ih := qhx xs ys (fun c hc => ha c (List.mem_cons_of_mem _ hc)) (fun c hc => hb c (List.mem_cons_of_mem _ hc)) hla hlb
    rw [padC]
    by_cases h1 : x.toNat < y.toNat
    · have : x < y := UInt8.lt_iff_toNat_lt.2 h1
      rw [if_pos h1]
      simp [cmpS, Op.bytesLess, this]
    · rw [if_neg h1]
      have hn : ¬ x < y := fun h => h1 (UInt8.lt_iff_toNat_lt.1 h)
      by_cases h2 : y.toNat < x.toNat
      · have hxy : x ≠ y := fun h => by rw [h] at h2; omega
        rw [if_pos h2]
        simp [cmpS, Op.bytesLess, hn, hxy]
      · have hxy : x = y := UInt8.toNat_inj.1 (by omega)
        subst hxy
        rw [if_neg h2, ih]
        simp [cmpS, Op.bytesLess]
theorem q1q (n : Nd) (p : Int) (h : (n.s.length : Int) + n.e ≤ p) : atN n p = 0 := by
  simp only [atN]
  rw [if_pos (by omega)]
theorem q7o (n : Nd) (hf : figs n.s = true) (hs : n.s ≠ []) (hh : n.s.head? ≠ some 48) : 0 < atN n ((n.s.length : Int) + n.e - 1) := by
  have h := qgq n 0
  cases hns : n.s with
  | nil => exact absurd hns hs
  | cons c t =>
    have h0 : n.s[0]? = some c := by rw [hns]; rfl
    rw [h0] at h
    simp only [Int.natCast_zero, Int.sub_zero] at h
    have hc := q4v hf h0
    have hne : c.toNat ≠ 48 := fun he => hh (by rw [hns, List.head?_cons]; congr 1; exact UInt8.toNat_inj.1 (by simpa using he))
    rw [← hns, h]
    omega
theorem qmb (a b : Nd) (k : Nat) (p : Int) (hk : 2 ≤ k) (h0 : atN a p = atN b p) (h1 : atN a (p - 1) < atN b (p - 1)) : digs a b k p = -1 := by
  obtain ⟨k, rfl⟩ : ∃ q, k = q + 2 := ⟨k - 2, by omega⟩
  rw [digs, if_neg (by omega), if_neg (by omega), digs, if_pos h1]
theorem qmc (a b : Nd) (k : Nat) (p : Int) (hk : 2 ≤ k) (h0 : atN a p = atN b p) (h1 : atN b (p - 1) < atN a (p - 1)) : digs a b k p = 1 := by
  obtain ⟨k, rfl⟩ : ∃ q, k = q + 2 := ⟨k - 2, by omega⟩
  rw [digs, if_neg (by omega), if_neg (by omega), digs, if_neg (by omega), if_pos h1]
theorem qf0 (a b : Nd) (h : ∀ p, atN a p = atN b p) : ∀ (k : Nat) (p : Int), digs a b k p = 0
  | 0, _ => rfl
  | k + 1, p => by
    have := h p
    rw [digs, if_neg (by omega), if_neg (by omega)]
    exact qf0 a b h k (p - 1)
end Lp

/-! LpHN2 -/

namespace Lp
open Go
theorem qat (a b : Nd) (t : Int) (h : ∀ q, t ≤ q → atN a q = atN b q) (k : Nat) : ∀ d : Nat, digs a b (k + d) (t + d) = digs a b k t
  | 0 => by simp
  | d + 1 => by
    have := h (t + ((d + 1 : Nat) : Int)) (by omega)
    rw [show k + (d + 1) = (k + d) + 1 by omega, digs, if_neg (by omega), if_neg (by omega), show t + ((d + 1 : Nat) : Int) - 1 = t + d by omega]
    exact qat a b t h k d
theorem qmd (a b : Nd) (ha : numB a = true) (hb : numB b = true) : digs a b (topN a b - lowN a b + 1).toNat (topN a b) = sizeN a b := by
  have A := (q43 a).1 ha
  have B := (q43 b).1 hb
  have hl : ∀ x : Nd, x.s ≠ [] → 0 < x.s.length := fun x h => List.length_pos_iff.2 h
  have zero : ∀ n : Nd, n.s = [] → ∀ p, atN n p = 0 := by
    intro n hn p
    simp only [atN, hn]
    split
    · rfl
    · simp
  by_cases sa : a.s = []
  · have ea : a.e = 0 := by have := A.2.2.2.2.2.2; rw [if_pos sa] at this; exact this.2
    by_cases sb : b.s = []
    · rw [qf0 a b (fun p => by rw [zero a sa, zero b sb]), sizeN, if_pos (.inl sa), sa, sb]; rfl
    · have hb2 := B.2.2.2.2.2.2
      rw [if_neg sb] at hb2
      have hlb := hl b sb
      have first := q7o b B.2.1 sb hb2.1
      rw [sizeN, if_pos (.inl sa), sa, cmpI, if_pos (by simp; omega)]
      have low : lowN a b ≤ b.e := by unfold lowN; split <;> omega
      have htop : (b.s.length : Int) + b.e ≤ topN a b := by unfold topN; split <;> omega
      have hsk := qat a b ((b.s.length : Int) + b.e) (fun q hq => by rw [zero a sa, q1q b q hq]) ((b.s.length : Int) + b.e - lowN a b + 1).toNat (topN a b - (b.s.length + b.e)).toNat
      rw [show ((b.s.length : Int) + b.e - lowN a b + 1).toNat + (topN a b - (b.s.length + b.e)).toNat = (topN a b - lowN a b + 1).toNat by omega, show ((b.s.length : Int) + b.e) + ((topN a b - (b.s.length + b.e)).toNat : Int) = topN a b by omega] at hsk
      rw [hsk]
      refine qmb a b _ _ (by omega) ?_ ?_
      · rw [zero a sa, q1q b _ (Int.le_refl _)]
      · rw [zero a sa]; exact first
  by_cases sb : b.s = []
  · have eb : b.e = 0 := by have := B.2.2.2.2.2.2; rw [if_pos sb] at this; exact this.2
    have ha2 := A.2.2.2.2.2.2
    rw [if_neg sa] at ha2
    have hla := hl a sa
    have first := q7o a A.2.1 sa ha2.1
    rw [sizeN, if_pos (.inr sb), sb, cmpI, if_neg (by simp), if_pos (by simp; omega)]
    have low : lowN a b ≤ a.e := by unfold lowN; split <;> omega
    have htop : (a.s.length : Int) + a.e ≤ topN a b := by unfold topN; split <;> omega
    have hsk := qat a b ((a.s.length : Int) + a.e) (fun q hq => by rw [zero b sb, q1q a q hq]) ((a.s.length : Int) + a.e - lowN a b + 1).toNat (topN a b - (a.s.length + a.e)).toNat
    rw [show ((a.s.length : Int) + a.e - lowN a b + 1).toNat + (topN a b - (a.s.length + a.e)).toNat = (topN a b - lowN a b + 1).toNat by omega, show ((a.s.length : Int) + a.e) + ((topN a b - (a.s.length + a.e)).toNat : Int) = topN a b by omega] at hsk
    rw [hsk]
    refine qmc a b _ _ (by omega) ?_ ?_
    · rw [zero b sb, q1q a _ (Int.le_refl _)]
    · rw [zero b sb]; exact first
  · have ha2 := A.2.2.2.2.2.2
    have hb2 := B.2.2.2.2.2.2
    rw [if_neg sa] at ha2
    rw [if_neg sb] at hb2
    have hla := hl a sa
    have hlb := hl b sb
    have fa := q7o a A.2.1 sa ha2.1
    have fb := q7o b B.2.1 sb hb2.1
    rw [sizeN, if_neg (by simp [sa, sb])]
    have low : lowN a b ≤ a.e ∧ lowN a b ≤ b.e := by unfold lowN; split <;> omega
    by_cases ht : (a.s.length : Int) + a.e = b.s.length + b.e
    · rw [if_pos ((cmpI_ordr.zero _ _ trivial trivial).2 ht)]
      have htop : topN a b = a.s.length + a.e := by unfold topN; split <;> omega
      rw [htop]
      obtain ⟨k, hk⟩ : ∃ k, ((a.s.length : Int) + a.e - lowN a b + 1).toNat = k + 1 := ⟨((a.s.length : Int) + a.e - lowN a b).toNat, by omega⟩
      rw [hk, digs, q1q a _ (Int.le_refl _), q1q b _ (by omega), if_neg (by omega), if_neg (by omega)]
      have := qhw a b A.2.1 B.2.1 ht k 0 (by omega) (by omega)
      simp only [Int.natCast_zero, Int.sub_zero, List.drop_zero] at this
      rw [this]
      exact qhx _ _ (fun c hc => (qhv A.2.1 c hc).1) (fun c hc => (qhv B.2.1 c hc).1) ha2.2 hb2.2
    · rw [if_neg (fun h => ht ((cmpI_ordr.zero _ _ trivial trivial).1 h))]
      rcases Int.lt_or_gt_of_ne ht with hlt | hgt
      · have htop : topN a b = b.s.length + b.e := by unfold topN; split <;> omega
        rw [htop, cmpI, if_pos hlt]
        refine qmb a b _ _ (by omega) ?_ ?_
        · rw [q1q a _ (by omega), q1q b _ (Int.le_refl _)]
        · rw [q1q a _ (by omega)]; exact fb
      · have htop : topN a b = a.s.length + a.e := by unfold topN; split <;> omega
        rw [htop, cmpI, if_neg (by omega), if_pos hgt]
        refine qmc a b _ _ (by omega) ?_ ?_
        · rw [q1q b _ (by omega), q1q a _ (Int.le_refl _)]
        · rw [q1q b _ (by omega)]; exact fa
theorem qvp (a b : Nd) (ha : numB a = true) (hb : numB b = true) : refN a b = numN a b := by
  have h := qmd a b ha hb
  have h2 := qi3 a b
  simp only [refN, h]
  cases hx : a.neg <;> cases hy : b.neg <;> simp [numN, hx, hy, h2]
end Lp

/-! LpHN3 -/

namespace Lp
open Go
theorem qhy : ∀ (f : Nat) (a b : Vl), Rt a → Rt b → cmpW refN f a b = cmpV f a b
  | 0, a, b, _, _ => by simp [cmpW]
  | f + 1, [], b, ha, _ => absurd rfl ha.one.ne
  | f + 1, n :: r, [], _, hb => absurd rfl hb.one.ne
  | f + 1, n :: r, m :: q, ha, hb => by
    have hp := q9l ha
    have hq := q9l hb
    have pn := ha.parts.1
    have pm := hb.parts.1
    have e : lexBy (cmpW refN f) (q2b n r) (q2b m q) = lexBy (cmpV f) (q2b n r) (q2b m q) :=
      q9k _ _ fun x hx y hy => qhy f x y (hp x hx).2 (hq y hy).2
    by_cases hk : n.kind = m.kind
    · by_cases h3 : n.kind = 3
      · have := qvp n m (q4m pn h3) (q4m pm (hk ▸ h3))
        simp only [cmpV, cmpW, this, e]
      · simp only [cmpV, cmpW, if_neg h3, e]
    · simp only [cmpV, cmpW, ne_eq, hk, not_false_eq_true, if_true]
end Lp
